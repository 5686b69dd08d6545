/- Laws on which the proofs of this seat stand. No condition. -/
import Derived.Test.YtbkdjlahhcofmaaGreatDoorTaMail3
import Derived.Shelf.SlicesE.Delete
import Derived.Shelf.SlIter.Sorted
import Derived.Shelf.SlIter.Nil
namespace Go.Proofs.YtbkdjlahhcofmaaGreatDoor
open Go Go.RowKit Go.Proofs Go.Shelf Go.Ab
def wI (m : List Int) (z : Int) : Int := m.getD z.toNat default
structure MapOk (n : Int) (m : List Int) : Prop where
  len : (m.length : Int) = n
  each : ∀ i, i < m.length → 0 ≤ m.getD i default ∧ m.getD i default ≤ 1000000
  some : ∃ i, i < m.length ∧ 0 < m.getD i default
def mapX (m : List Int) (i : Nat) : Int := if 0 ≤ m.getD i default ∧ m.getD i default ≤ 1000000 then 0 else 2
def posB (m : List Int) : Nat → Bool
  | 0 => false
  | k + 1 => posB m k || decide (0 < m.getD k default)
def mapChk (n : Int) (m : List Int) : Nat × Int := if ¬ (m.length : Int) = n then (0, 10) else if (eachE m.length (mapX m)).2 ≠ 0 then eachE m.length (mapX m) else if posB m m.length = true then (0, 0) else (0, 11)
theorem posB_iff {m : List Int} : ∀ {k : Nat}, posB m k = true ↔ ∃ i, i < k ∧ 0 < m.getD i default
  | 0 => by simp [posB]
  | k + 1 => by
    rw [posB, Bool.or_eq_true, posB_iff, decide_eq_true_eq]
    constructor
    · rintro (⟨i, h1, h2⟩ | h)
      · exact ⟨i, by omega, h2⟩
      · exact ⟨k, by omega, h⟩
    · rintro ⟨i, h1, h2⟩
      by_cases e : i = k
      · subst e; exact .inr h2
      · exact .inl ⟨i, by omega, h2⟩
theorem mapX_iff {m : List Int} {i : Nat} : mapX m i = 0 ↔ 0 ≤ m.getD i default ∧ m.getD i default ≤ 1000000 := by unfold mapX; split <;> simp_all
theorem mapX_2 {m : List Int} {i : Nat} (h : ¬ (0 ≤ m.getD i default ∧ m.getD i default ≤ 1000000)) : mapX m i = 2 := if_neg h
theorem eachE_zero {n : Nat} {f : Nat → Int} (h : (eachE n f).2 = 0) : ∀ i, i < n → f i = 0 := by
  rcases eachE_cases n f with ⟨_, hz⟩ | ⟨q, _, _, hne, e⟩
  · exact hz
  · rw [e] at h; exact absurd h hne
theorem mapOk_of {n : Int} {m : List Int} (h : (mapChk n m).2 = 0) : MapOk n m := by
  unfold mapChk at h
  split at h
  · cases h
  rename_i h1
  split at h
  · rename_i h2; exact absurd h h2
  rename_i h2
  split at h
  · rename_i h3
    exact ⟨by omega, fun i hi => mapX_iff.1 (eachE_zero (by omega) i hi), posB_iff.1 h3⟩
  · cases h
theorem mapChk_ok {n : Int} {m : List Int} (o : MapOk n m) : mapChk n m = (0, 0) := by
  unfold mapChk
  rw [if_neg (by have := o.len; omega), eachE_ok (fun i hi => mapX_iff.2 (o.each i hi)), if_neg (by simp), if_pos (posB_iff.2 o.some)]
def maxG (m : List Int) : Nat → Int
  | 0 => m.getD 0 default
  | k + 1 => max (maxG m k) (m.getD (k + 1) default)
theorem maxG_pos {m : List Int} : ∀ {k : Nat}, (0 < maxG m k ↔ ∃ i, i ≤ k ∧ 0 < m.getD i default)
  | 0 => by
    constructor
    · intro h; exact ⟨0, Nat.le_refl _, h⟩
    · rintro ⟨i, h1, h2⟩
      have : i = 0 := by omega
      subst this; exact h2
  | k + 1 => by
    have ih := maxG_pos (m := m) (k := k)
    rw [maxG]
    constructor
    · intro h
      by_cases c : 0 < maxG m k
      · obtain ⟨i, h1, h2⟩ := ih.1 c; exact ⟨i, by omega, h2⟩
      · exact ⟨k + 1, Nat.le_refl _, by omega⟩
    · rintro ⟨i, h1, h2⟩
      by_cases e : i = k + 1
      · subst e; omega
      · have := ih.2 ⟨i, by omega, h2⟩; omega
theorem maxG_posB {m : List Int} (h : 1 ≤ m.length) : (0 < maxG m (m.length - 1) ↔ posB m m.length = true) := by
  rw [maxG_pos, posB_iff]
  constructor <;> rintro ⟨i, h1, h2⟩ <;> exact ⟨i, by omega, h2⟩
set_option maxRecDepth 100000 in
theorem Max_s (m : List Int) (h1 : 1 ≤ m.length) (hl : m.length ≤ 1000000) : Summ Tryz.prog GG 334 [.sl m.length (intsF m)] (iv (maxG m (m.length - 1))) := by
  have hne : intsF m ≠ [] := intsF_ne (k := 0) (by omega)
  have h0 : (intsF m)[(0 : Int).toNat * 1]? = some (iv (maxG m 0)) := by rw [show (0 : Int).toNat * 1 = 0 * 1 by rfl, intsF_at (show 0 < m.length by omega), maxG, getD_at (show 0 < m.length by omega)]
  refine summW Tryz.func334 rfl rfl 25 rfl (by simp) (fun M0 => ?_)
  repeat (first
    | (apply s_a TY; exact rfl)
    | (apply s_f; exact rfl; (first | assumption | omega))
    | apply w_seq
    | apply w_region
    | apply s_nil
    | apply t_norm
    | apply w_block
    | apply w_skip
    | (apply w_condF; exact rfl; exact rfl)
    | (apply s_z TY; exact rfl; (first | omega | exact ⟨by omega, by (first | with_reducible assumption | ((with_reducible apply intsF_ne); omega) | assumption)⟩))
    | (apply s_l TY; exact rfl; (first | exact rfl | with_reducible assumption | ((with_reducible apply intsF_at); omega) | assumption)))
  apply w_loop (fun k : Nat => ⟨(Ab.upd (Ab.upd (Ab.upd (fun _ => .bot) 0 (.f (.sl m.length (intsF m)))) 3 (.f (iv (maxG m k)))) 4 (.f (iv ((k + 1 : Nat) : Int)))), (fun _ => none), 0⟩) (fun k => k + 1 ≤ m.length) (fun k => m.length - k) 0 ((by omega)) (gh_le ⟨le_upd rfl trivial (le_upd rfl trivial (le_upd rfl trivial (le_nil _))), le_h0 _ _⟩)
  intro k hk
  by_cases hc : k + 1 < m.length
  · have hs : maxG m (k + 1) = max (maxG m k) m[k + 1] := by rw [maxG, getD_at hc]
    repeat (first
    | (apply s_a TY; exact rfl)
    | (apply s_t; exact rfl; (first | assumption | omega))
    | apply w_seq
    | apply w_region
    | apply s_nil
    | apply t_norm
    | apply k_norm
    | apply w_block
    | apply w_skip
    | (apply w_condT; exact rfl; exact rfl)
    | (apply s_c TY; exact rfl; (first | omega | exact ⟨by omega, by (first | with_reducible assumption | ((with_reducible apply intsF_ne); omega) | assumption)⟩))
    | (apply s_l TY; exact rfl; (first | exact rfl | with_reducible assumption | ((with_reducible apply intsF_at); omega) | assumption)))
    exact ⟨k + 1, by omega, by omega, gh_le ⟨le_upd rfl trivial (le_upd (congrArg (fun z => AV.f (iv z)) hs) trivial (le_upd rfl trivial (le_nil _))), le_h0 _ _⟩⟩
  · have hke : k = m.length - 1 := by omega
    subst hke
    repeat (first
    | (apply s_a TY; exact rfl)
    | (apply s_f; exact rfl; (first | assumption | omega))
    | apply w_seq
    | apply w_region
    | apply s_nil
    | apply t_norm
    | apply t_exit
    | apply k_hit
    | apply w_exit
    | apply w_ret
    | (apply w_condF; exact rfl; exact rfl))
    exact lv_ret (ret1 rfl (res_tmp rfl))
theorem mapBad_s (n : Int) : Summ Tryz.prog GG 332 [iv n] (bv (!withinB n 0 1000000)) := by
  by_cases h : 0 ≤ n ∧ n ≤ 1000000
  · rw [show withinB n 0 1000000 = true by simp [withinB, h]]
    refine summW Tryz.func332 rfl rfl 6 rfl (by simp) (fun M0 => ?_)
    repeat (first
    | (apply s_a TY; exact rfl)
    | apply w_seq
    | apply w_region
    | apply s_nil
    | apply t_norm
    | apply w_ret
    | (apply s_k1 (isWeight_T _); exact rfl; (first | assumption | omega | decide)))
    exact lv_ret (ret1 rfl (res_tmp rfl))
  · rw [show withinB n 0 1000000 = false by simp [withinB]; omega]
    refine summW Tryz.func332 rfl rfl 6 rfl (by simp) (fun M0 => ?_)
    repeat (first
    | (apply s_a TY; exact rfl)
    | apply w_seq
    | apply w_region
    | apply s_nil
    | apply t_norm
    | apply w_ret
    | (apply s_k1 (isWeight_F _); exact rfl; (first | assumption | omega | decide)))
    exact lv_ret (ret1 rfl (res_tmp rfl))
def wgtP (m : List Int) (i : Nat) : Bool := !withinB (m.getD i default) 0 1000000
theorem wgt_idx (m : List Int) : (idxP m.length (wgtP m) = -1 ∧ eachE m.length (mapX m) = (0, 0)) ∨ ∃ k : Nat, idxP m.length (wgtP m) = k ∧ eachE m.length (mapX m) = (k, 2) := by
  have hp : ∀ i, wgtP m i = false ↔ mapX m i = 0 := fun i => by rw [mapX_iff]; simp [wgtP, withinB]
  rcases idxP_cases m.length (wgtP m) with ⟨e, hz⟩ | ⟨k, hk, hz, hpk, e⟩
  · exact .inl ⟨e, eachE_ok fun i hi => (hp i).1 (hz i hi)⟩
  · have hne : mapX m k ≠ 0 := fun h => by rw [(hp k).2 h] at hpk; cases hpk
    refine .inr ⟨k, e, ?_⟩
    rw [eachE_at hk (fun i hi => (hp i).1 (hz i hi)) hne, mapX_2 fun h => hne (mapX_iff.2 h)]
set_option maxRecDepth 100000 in
set_option maxHeartbeats 1600000 in
theorem mapErr_s (cs : List Cel) (m : List Int) (hc : 1 ≤ cs.length ∧ cs.length ≤ 1000) (hl : m.length ≤ 1000000) : Summ Tryz.prog GG 264 [xF cs, skF m] (.tup [iv (mapChk cs.length m).1, iv (mapChk cs.length m).2]) := by
  by_cases h1 : (m.length : Int) = cs.length
  case neg =>
    rw [show mapChk cs.length m = (0, 10) by unfold mapChk; rw [if_pos h1]]
    refine summW Tryz.func264 rfl rfl 24 rfl (by simp) (fun M0 => ?_)
    repeat (first
    | (apply s_a TY; exact rfl)
    | (apply s_f; exact rfl; (first | assumption | omega))
    | apply w_seq
    | apply w_region
    | apply s_nil
    | apply t_norm
    | apply t_ret
    | apply w_ret
    | (apply w_condT; exact rfl; exact rfl))
    exact lv_ret (ret2 rfl (res_tmp rfl) (res_tmp rfl))
  have HI := idxI_s m 332 [] (wgtP m) hl (fun i hi => by unfold wgtP; rw [getD_at hi]; exact mapBad_s _)
  rcases wgt_idx m with ⟨e1, e2⟩ | ⟨k, e1, e2⟩
  · rw [e1] at HI
    have HM := Max_s m (by omega) hl
    by_cases hp : 0 < maxG m (m.length - 1)
    · rw [show mapChk cs.length m = (0, 0) by unfold mapChk; rw [if_neg (by simpa using h1), e2, if_neg (by simp), if_pos ((maxG_posB (by omega)).1 hp)]]
      refine summW Tryz.func264 rfl rfl 24 rfl (by simp) (fun M0 => ?_)
      repeat (first
    | (apply s_a TY; exact rfl)
    | (apply s_t; exact rfl; (first | assumption | omega))
    | (apply s_f; exact rfl; (first | assumption | omega))
    | apply w_seq
    | apply w_region
    | apply s_nil
    | apply t_norm
    | apply w_ret
    | apply w_skip
    | (apply w_condF; exact rfl; exact rfl)
    | (apply s_k (HI); exact rfl)
    | (apply s_k (HM); exact rfl)
    | (apply s_k (unless_T _); exact rfl))
      exact lv_ret (ret2 rfl (res_tmp rfl) (res_tmp rfl))
    · rw [show mapChk cs.length m = (0, 11) by unfold mapChk; rw [if_neg (by simpa using h1), e2, if_neg (by simp), if_neg (fun h => hp ((maxG_posB (by omega)).2 h))]]
      refine summW Tryz.func264 rfl rfl 24 rfl (by simp) (fun M0 => ?_)
      repeat (first
    | (apply s_a TY; exact rfl)
    | (apply s_t; exact rfl; (first | assumption | omega))
    | (apply s_f; exact rfl; (first | assumption | omega))
    | apply w_seq
    | apply w_region
    | apply s_nil
    | apply t_norm
    | apply w_ret
    | apply w_skip
    | (apply w_condF; exact rfl; exact rfl)
    | (apply s_k (HI); exact rfl)
    | (apply s_k (HM); exact rfl)
    | (apply s_k (unless_F _); exact rfl))
      exact lv_ret (ret2 rfl (res_tmp rfl) (res_tmp rfl))
  · rw [e1] at HI
    rw [show mapChk cs.length m = (k, 2) by unfold mapChk; rw [if_neg (by simpa using h1), e2, if_pos (by simp)]]
    refine summW Tryz.func264 rfl rfl 24 rfl (by simp) (fun M0 => ?_)
    repeat (first
    | (apply s_a TY; exact rfl)
    | (apply s_t; exact rfl; (first | assumption | omega))
    | apply w_seq
    | apply w_region
    | apply s_nil
    | apply t_norm
    | apply t_ret
    | apply w_ret
    | apply w_skip
    | (apply w_condT; exact rfl; exact rfl)
    | (apply w_condF; exact rfl; exact rfl)
    | (apply s_k (HI); exact rfl))
    exact lv_ret (ret2 rfl (res_tmp rfl) (res_tmp rfl))
theorem mapErr_sky (rs m : List Int) (o : SkyOk rs) (hl : m.length ≤ 1000000) : Summ Tryz.prog GG 264 [xF (skyC rs), skF m] (.tup [iv (mapChk (befK rs rs.length) m).1, iv (mapChk (befK rs rs.length) m).2]) := by
  have hb := skyC_bd o
  have := mapErr_s (skyC rs) m (by omega) hl
  rwa [skyC_len o] at this
theorem openMap_sky (rs m : List Int) (o : SkyOk rs) (hl : m.length ≤ 1000000) : Summ Tryz.prog GG 185 [skF rs, skF m] (.tup [xF (skyC rs), iv (mapChk (befK rs rs.length) m).2]) := by
  refine summW Tryz.func185 rfl rfl 23 rfl (by simp) (fun M0 => ?_)
  repeat (first
    | (apply s_a TY; exact rfl)
    | (apply s_t; exact rfl; (first | assumption | omega))
    | apply w_seq
    | apply w_region
    | apply s_nil
    | apply t_norm
    | apply w_ret
    | (apply w_condT; exact rfl; exact rfl)
    | (apply s_k1 (open_ok _); exact rfl; (first | assumption | omega | decide))
    | (apply s_k2 (mapErr_sky _ _); exact rfl; (first | assumption | omega | decide); (first | assumption | omega | decide)))
  exact lv_ret (ret2 rfl (res_tmp rfl) (res_tmp rfl))
theorem wI_bd {n : Int} {m : List Int} (o : MapOk n m) {z : Int} (h : 0 ≤ z ∧ z < m.length) : 0 ≤ wI m z ∧ wI m z ≤ 1000000 := o.each z.toNat (by omega)
theorem wI_at {m : List Int} {z : Int} (h : 0 ≤ z ∧ z < m.length) : (intsF m)[z.toNat * 1]? = some (iv (wI m z)) := by
  unfold wI
  rw [intsF_at (show z.toNat < m.length by omega), getD_at (show z.toNat < m.length by omega)]
theorem sumI_tk {f : Int → Int} {l : List Int} {k : Nat} (h : k < l.length) : sumI f (l.take (k + 1)) = sumI f (l.take k) + f l[k] := by
  rw [List.take_succ_eq_append_getElem h, sumI_app, sumI, sumI]; omega
theorem sumW_bd {n : Int} {m : List Int} (o : MapOk n m) {l : List Int} (h : ∀ z, z ∈ l → 0 ≤ z ∧ z < m.length) : ∀ {k : Nat}, k ≤ l.length → 0 ≤ sumI (wI m) (l.take k) ∧ sumI (wI m) (l.take k) ≤ 1000000 * (k : Int)
  | 0, _ => by simp [sumI]
  | k + 1, hk => by
    have ih := sumW_bd o h (k := k) (by omega)
    have := wI_bd o (h _ (List.getElem_mem (show k < l.length by omega)))
    rw [sumI_tk (show k < l.length by omega)]
    omega
set_option maxRecDepth 100000 in
theorem weight_s (m l : List Int) {n : Int} (o : MapOk n m) (hl : l.length ≤ 1000) (hm : ∀ z, z ∈ l → 0 ≤ z ∧ z < m.length) : Summ Tryz.prog GG 186 [skF m, .sl l.length (intsF l)] (iv (sumI (wI m) l)) := by
  refine summW Tryz.func186 rfl rfl 23 rfl (by simp) (fun M0 => ?_)
  repeat (first
    | (apply s_a TY; exact rfl)
    | apply w_seq
    | apply w_region
    | apply s_nil
    | apply t_norm
    | apply w_block)
  apply w_loop (fun k : Nat => ⟨(Ab.upd (Ab.upd (Ab.upd (Ab.upd (Ab.upd (fun _ => .bot) 2 (.f (.pt [.sl m.length (intsF m)] 0))) 5 (.f (iv (sumI (wI m) (l.take k))))) 8 (.f (.sl l.length (intsF l)))) 9 (.f (iv l.length))) 10 (.f (iv (k : Nat)))), (fun _ => none), 0⟩) (fun k => k ≤ l.length) (fun k => l.length - k) 0 (Nat.zero_le _) (gh_le ⟨le_upd rfl trivial (le_upd rfl trivial (le_upd rfl trivial (le_upd rfl trivial (le_upd rfl trivial (le_nil _))))), le_h0 _ _⟩)
  intro k hk
  by_cases hc : k < l.length
  · have hbd := sumW_bd o hm (k := k) hk
    have hz := hm _ (List.getElem_mem hc)
    have hw := wI_bd o hz
    have hat := wI_at hz
    have hs := sumI_tk (f := wI m) hc
    have hne : intsF m ≠ [] := intsF_ne (k := l[k].toNat) (by omega)
    repeat (first
    | (apply s_a TY; exact rfl)
    | (apply s_t; exact rfl; (first | assumption | omega))
    | apply w_seq
    | apply w_region
    | apply s_nil
    | apply t_norm
    | apply k_norm
    | apply w_block
    | apply w_skip
    | (apply w_condT; exact rfl; exact rfl)
    | (apply s_c TY; exact rfl; (first | omega | exact ⟨by omega, by (first | with_reducible assumption | ((with_reducible apply intsF_ne); omega) | assumption)⟩))
    | (apply s_z TY; exact rfl; (first | omega | exact ⟨by omega, by (first | with_reducible assumption | ((with_reducible apply intsF_ne); omega) | assumption)⟩))
    | (apply s_l TY; exact rfl; (first | exact rfl | with_reducible assumption | ((with_reducible apply intsF_at); omega) | assumption)))
    exact ⟨k + 1, by omega, by omega, gh_le ⟨le_upd rfl trivial (le_upd rfl trivial (le_upd rfl trivial (le_upd (congrArg (fun z => AV.f (iv z)) hs) trivial (le_upd rfl trivial (le_nil _))))), le_h0 _ _⟩⟩
  · have hke : k = l.length := by omega
    subst hke
    rw [show sumI (wI m) l = sumI (wI m) (l.take l.length) by rw [List.take_length]]
    repeat (first
    | (apply s_a TY; exact rfl)
    | (apply s_f; exact rfl; (first | assumption | omega))
    | apply w_seq
    | apply w_region
    | apply s_nil
    | apply t_norm
    | apply t_exit
    | apply k_hit
    | apply w_exit
    | apply w_ret
    | (apply w_condF; exact rfl; exact rfl))
    exact lv_ret (ret1 rfl (res_tmp rfl))
theorem isNaN_s (a : Int) : Summ Tryz.prog GG 266 [iv a] (.v (.bool false)) := by
  refine summW Tryz.func266 rfl rfl 6 rfl (by simp) (fun M0 => ?_)
  repeat (first
    | (apply s_a TY; exact rfl)
    | (apply s_t; exact rfl; (first | assumption | omega))
    | apply w_seq
    | apply w_region
    | apply s_nil
    | apply t_norm
    | apply w_ret)
  exact lv_ret (ret1 rfl (res_tmp rfl))
def cmpZ (x y : Int) : Int := if x < y then -1 else if y < x then 1 else 0
theorem cmpZ_lt {x y : Int} (h : x < y) : cmpZ x y < 0 := by unfold cmpZ; rw [if_pos h]; decide
theorem cmpZ_ge {x y : Int} (h : ¬ x < y) : ¬ cmpZ x y < 0 := by unfold cmpZ; rw [if_neg h]; split <;> decide
theorem Compare_s (x y : Int) : Summ Tryz.prog GG 189 [iv x, iv y] (iv (cmpZ x y)) := by
  by_cases h : x < y
  · rw [show cmpZ x y = -1 from if_pos h]
    refine summW Tryz.func189 rfl rfl 20 rfl (by simp) (fun M0 => ?_)
    repeat (first
    | (apply s_a TY; exact rfl)
    | (apply s_t; exact rfl; (first | assumption | omega))
    | apply w_seq
    | apply w_region
    | apply s_nil
    | apply t_norm
    | apply t_ret
    | apply w_ret
    | apply w_skip
    | (apply w_condT; exact rfl; exact rfl)
    | (apply w_condF; exact rfl; exact rfl)
    | (apply s_k (isNaN_s _); exact rfl))
    exact lv_ret (ret1 rfl (res_tmp rfl))
  by_cases h2 : y < x
  · rw [show cmpZ x y = 1 by unfold cmpZ; rw [if_neg h, if_pos h2]]
    refine summW Tryz.func189 rfl rfl 20 rfl (by simp) (fun M0 => ?_)
    repeat (first
    | (apply s_a TY; exact rfl)
    | (apply s_t; exact rfl; (first | assumption | omega))
    | (apply s_f; exact rfl; (first | assumption | omega))
    | apply w_seq
    | apply w_region
    | apply s_nil
    | apply t_norm
    | apply t_ret
    | apply w_ret
    | apply w_skip
    | (apply w_condT; exact rfl; exact rfl)
    | (apply w_condF; exact rfl; exact rfl)
    | (apply s_k (isNaN_s _); exact rfl))
    exact lv_ret (ret1 rfl (res_tmp rfl))
  · rw [show cmpZ x y = 0 by unfold cmpZ; rw [if_neg h, if_neg h2]]
    refine summW Tryz.func189 rfl rfl 20 rfl (by simp) (fun M0 => ?_)
    repeat (first
    | (apply s_a TY; exact rfl)
    | (apply s_f; exact rfl; (first | assumption | omega))
    | apply w_seq
    | apply w_region
    | apply s_nil
    | apply t_norm
    | apply w_ret
    | apply w_skip
    | (apply w_condF; exact rfl; exact rfl)
    | (apply s_k (isNaN_s _); exact rfl))
    exact lv_ret (ret1 rfl (res_tmp rfl))
theorem cmpW_s (m : List Int) (a b : Int) (ha : 0 ≤ a ∧ a < m.length) (hb : 0 ≤ b ∧ b < m.length) : Summ Tryz.prog GG 188 [iv a, iv b, .pt [.sl m.length (intsF m)] 0] (iv (cmpZ (wI m b) (wI m a))) := by
  have h1 := wI_at ha
  have h2 := wI_at hb
  have hne : intsF m ≠ [] := intsF_ne (k := a.toNat) (by omega)
  refine summW Tryz.func188 rfl rfl 17 rfl (by simp) (fun M0 => ?_)
  repeat (first
    | (apply s_a TY; exact rfl)
    | apply w_seq
    | apply w_region
    | (apply w_draw (id := 1) 10 rfl (by kernel_rfl))
    | apply s_nil
    | apply t_norm
    | apply w_ret
    | (apply s_k (Compare_s _ _); exact rfl)
    | (apply s_z TY; exact rfl; (first | omega | exact ⟨by omega, by (first | with_reducible assumption | ((with_reducible apply intsF_ne); omega) | assumption)⟩))
    | (apply s_l TY; exact rfl; (first | exact rfl | with_reducible assumption | ((with_reducible apply intsF_at); omega) | assumption)))
  exact lv_ret (ret1 rfl (res_tmp rfl))
end Go.Proofs.YtbkdjlahhcofmaaGreatDoor
namespace Go.Proofs.YtbkdjlahhcofmaaGreatDoor
open Go Go.RowKit Go.Proofs Go.Shelf Go.Ab
def cellsA (L : List Int) : List AV := (intsF L).map AV.f
theorem cellsA_len (L : List Int) : (cellsA L).length = L.length := by simp [cellsA, intsF]
theorem cellsA_at {L : List Int} {o k : Nat} (ho : o = k) {x : Int} (h : L[k]? = some x) : (cellsA L)[o]? = some (.f (iv x)) := by
  subst ho
  unfold cellsA intsF
  rw [List.getElem?_map, List.getElem?_map, h]; rfl
theorem cellsA_set {L : List Int} {o k : Nat} (ho : o = k) (x : Int) : setAt (cellsA L) o [AV.f (iv x)] = cellsA (L.set k x) := by
  subst ho
  show (cellsA L).set o (.f (iv x)) = _
  unfold cellsA intsF
  rw [List.map_set, List.map_set]
section
variable {A P E D seg : List Int} {x : Int} {j k : Nat} {w : Int → Int}
theorem ins_at (hj : j ≤ P.length) : (A ++ (putAt P x j ++ E))[A.length + j]? = some x := by
  rw [List.getElem?_append_right (by omega), Nat.add_sub_cancel_left, List.getElem?_append_left (by rw [putAt_len hj]; omega), putAt_at hj]
theorem ins_before (hj : j < P.length) : (A ++ (putAt P x (j + 1) ++ E))[A.length + j]? = some P[j] := by
  rw [List.getElem?_append_right (by omega), Nat.add_sub_cancel_left, List.getElem?_append_left (by rw [putAt_len (by omega)]; omega), putAt_before hj]
theorem ins_swap (hj : j < P.length) : ((A ++ (putAt P x (j + 1) ++ E)).set (A.length + (j + 1)) P[j]).set (A.length + j) x = A ++ (putAt P x j ++ E) := by
  rw [List.set_comm _ _ (by omega)]
  rw [List.set_append_right _ _ (by omega), Nat.add_sub_cancel_left, List.set_append_right _ _ (by omega), Nat.add_sub_cancel_left]
  rw [List.set_append_left _ _ (by rw [putAt_len (by omega)]; omega), List.set_append_left _ _ (by rw [List.length_set, putAt_len (by omega)]; omega), putAt_swap hj]
theorem ins_done (ha : seg.Pairwise (· < ·)) (hk : k < seg.length) (hj : j ≤ k) (h1 : ∀ i (hi : i < (sortO w (seg.take k)).length), j ≤ i → befW w seg[k] (sortO w (seg.take k))[i]) (h2 : ∀ hj' : 0 < j, ¬ befW w seg[k] ((sortO w (seg.take k))[j - 1]'(by rw [sortO_len, List.length_take]; omega))) : putAt (sortO w (seg.take k)) seg[k] j = sortO w (seg.take (k + 1)) := by
  have hnd : seg.Nodup := ha.imp fun h e => by omega
  have hl : (sortO w (seg.take k)).length = k := by rw [sortO_len, List.length_take]; omega
  have hsplit : seg.take (k + 1) = seg.take k ++ [seg[k]] := List.take_succ_eq_append_getElem hk
  have hn1 : (seg.take (k + 1)).Nodup := hnd.sublist (List.take_sublist _ _)
  have hx : seg[k] ∉ sortO w (seg.take k) := fun h => by
    rw [(sortO_perm _).mem_iff] at h
    rw [hsplit] at hn1
    exact (List.nodup_append.1 hn1).2.2 _ h _ (by simp) rfl
  refine (sortO_of hn1 (putAt_sorted (by omega) (sortO_sorted (hnd.sublist (List.take_sublist _ _))) hx h1 h2) fun z => ?_).symm
  rw [(putAt_perm _ _ _).mem_iff, List.mem_cons, (sortO_perm _).mem_iff, hsplit, List.mem_append, List.mem_singleton]
  exact or_comm
theorem take_lt (ha : seg.Pairwise (· < ·)) (hk : k < seg.length) {y : Int} (hy : y ∈ seg.take k) : y < seg[k] := by
  obtain ⟨i, hi, rfl⟩ := List.getElem_of_mem hy
  rw [List.length_take] at hi
  rw [List.getElem_take]
  exact List.pairwise_iff_getElem.1 ha i k (by omega) hk (by omega)
theorem sort_one (seg : List Int) : sortO w (seg.take 1) ++ seg.drop 1 = seg := by
  cases seg with
  | nil => rfl
  | cons x t => rfl
theorem ins_start (hk : k < seg.length) : A ++ (sortO w (seg.take k) ++ (seg.drop k ++ D)) = A ++ (putAt (sortO w (seg.take k)) seg[k] k ++ (seg.drop (k + 1) ++ D)) := by
  have hl : (sortO w (seg.take k)).length = k := by rw [sortO_len, List.length_take]; omega
  have := putAt_end (sortO w (seg.take k)) seg[k]
  rw [hl] at this
  rw [this, List.drop_eq_getElem_cons hk]
  simp only [List.append_assoc, List.cons_append, List.nil_append]
end
theorem arrEq {n : Nat} {a b : List AV} (h : a = b) : some (Blk.arr 3 1 n a) = some (Blk.arr 3 1 n b) := by rw [h]
theorem cl_arr {h : Nat → Option Blk} {T sz n : Nat} (L : List Int) : closedB h (.arr T sz n (cellsA L)) := fun x hx => by
  unfold cellsA at hx
  obtain ⟨y, _, rfl⟩ := List.mem_map.1 hx
  trivial
set_option maxRecDepth 100000 in
set_option maxHeartbeats 3200000 in
theorem insertion_g (m A seg D : List Int) (n : Nat) (hn : n = A.length + seg.length + D.length) (hn2 : n ≤ 1000) (ha : seg.Pairwise (· < ·)) (hm : ∀ z, z ∈ seg → 0 ≤ z ∧ z < m.length) : SummG Tryz.prog GG 335 [.arr 3 1 n (cellsA (A ++ (seg ++ D)))] [.ow 0, .f (iv (A.length : Nat)), .f (iv ((A.length + seg.length : Nat) : Int)), .f (.fn 188 [.pt [.sl m.length (intsF m)] 0])] (.f (.tup [])) [.arr 3 1 n (cellsA (A ++ (sortO (wI m) seg ++ D)))] := by
  refine summG_of Tryz.func335 rfl rfl 53 rfl (by simp) (by simp) (fun i B B' h1 h2 => by
    match i, h1, h2 with
    | 0, h1, h2 => cases h1; cases h2; rfl
    | _ + 1, h1, _ => simp at h1) (fun M X J => ?_)
  repeat (first
    | (apply s_a TY; exact rfl)
    | apply w_seq
    | apply w_region
    | apply s_nil
    | apply t_norm
    | apply w_block
    | (apply s_c TY; exact rfl; (first | omega | exact ⟨by omega, by (first | with_reducible assumption | ((with_reducible apply intsF_ne); omega) | assumption)⟩)))
  apply w_loop (fun k : Nat => ⟨(Ab.upd (Ab.upd (Ab.upd (Ab.upd (Ab.upd (fun _ => .bot) 0 (.ow 0)) 1 (.f (iv (A.length : Nat)))) 2 (.f (iv ((A.length + seg.length : Nat) : Int)))) 3 (.f (.fn 188 [.pt [.sl m.length (intsF m)] 0]))) 8 (.f (iv ((A.length + k : Nat) : Int)))), (Ab.upd (fun _ => none) 0 (some (.arr 3 1 n (cellsA (A ++ (sortO (wI m) (seg.take k) ++ (seg.drop k ++ D))))))), 1⟩) (fun k => 1 ≤ k ∧ (k ≤ seg.length ∨ k = 1)) (fun k => seg.length + 1 - k) 1 (⟨Nat.le_refl _, .inr rfl⟩) (gh_le ⟨le_upd rfl trivial (le_upd rfl trivial (le_upd rfl trivial (le_upd rfl trivial (le_upd rfl rfl (le_nil _))))), le_hupd (arrEq (by rw [← List.append_assoc (sortO _ _), sort_one])) (cl_arr _) (le_h0 _ _)⟩)
  intro k ⟨hk1, hk⟩
  by_cases hc : k < seg.length
  · have hl : (sortO (wI m) (seg.take k)).length = k := by rw [sortO_len, List.length_take]; omega
    have hst := ins_start (A := A) (D := D) (w := (wI m)) hc
    repeat (first
    | (apply s_a TY; exact rfl)
    | (apply s_t; exact rfl; (first | assumption | omega))
    | apply w_seq
    | apply w_region
    | apply s_nil
    | apply t_norm
    | apply w_block
    | apply w_skip
    | (apply w_condT; exact rfl; exact rfl))
    apply w_loop (fun j : Nat => ⟨(Ab.upd (Ab.upd (Ab.upd (Ab.upd (Ab.upd (Ab.upd (fun _ => .bot) 0 (.ow 0)) 1 (.f (iv (A.length : Nat)))) 2 (.f (iv ((A.length + seg.length : Nat) : Int)))) 3 (.f (.fn 188 [.pt [.sl m.length (intsF m)] 0]))) 8 (.f (iv ((A.length + k : Nat) : Int)))) 9 (.f (iv ((A.length + j : Nat) : Int)))), (Ab.upd (fun _ => none) 0 (some (.arr 3 1 n (cellsA (A ++ (putAt (sortO (wI m) (seg.take k)) seg[k] j ++ (seg.drop (k + 1) ++ D))))))), 1⟩) (fun j => j ≤ k ∧ ∀ i (hi : i < (sortO (wI m) (seg.take k)).length), j ≤ i → befW (wI m) seg[k] (sortO (wI m) (seg.take k))[i]) (fun j => j) k (⟨Nat.le_refl _, fun i hi h => by omega⟩) (gh_le ⟨le_upd rfl trivial (le_upd rfl trivial (le_upd rfl trivial (le_upd rfl trivial (le_upd rfl trivial (le_upd rfl rfl (le_nil _)))))), le_hupd (arrEq (congrArg cellsA hst)) (cl_arr _) (le_h0 _ _)⟩)
    intro j ⟨hj, hb⟩
    by_cases h0 : j = 0
    · subst h0
      have hdone := ins_done (w := (wI m)) ha hc (Nat.zero_le _) hb (fun h => absurd h (Nat.lt_irrefl _))
      repeat (first
    | (apply s_a TY; exact rfl)
    | (apply s_f; exact rfl; (first | assumption | omega))
    | apply w_seq
    | apply w_region
    | (apply w_draw (id := 4) 14 rfl (by kernel_rfl))
    | apply s_nil
    | apply t_norm
    | apply t_exit
    | apply k_hit
    | apply k_norm
    | apply w_exit
    | (apply w_condF; exact rfl; exact rfl)
    | (apply s_s; exact rfl)
    | (apply s_c TY; exact rfl; (first | omega | exact ⟨by omega, by (first | with_reducible assumption | ((with_reducible apply intsF_ne); omega) | assumption)⟩)))
      exact ⟨k + 1, ⟨by omega, by omega⟩, by omega, gh_le ⟨le_upd rfl trivial (le_upd rfl trivial (le_upd rfl trivial (le_upd rfl trivial (le_upd rfl rfl (le_nil _))))), le_hupd (arrEq (by rw [hdone])) (cl_arr _) (le_h0 _ _)⟩⟩
    · obtain ⟨j, rfl⟩ : ∃ j', j = j' + 1 := ⟨j - 1, by omega⟩
      have hjp : j < (sortO (wI m) (seg.take k)).length := by omega
      have hX : (cellsA (A ++ (putAt (sortO (wI m) (seg.take k)) seg[k] (j + 1) ++ (seg.drop (k + 1) ++ D))))[((A.length + (j + 1) : Nat) : Int).toNat * 1]? = some (.f (iv seg[k])) := cellsA_at (by omega) (ins_at (by omega))
      have hY : (cellsA (A ++ (putAt (sortO (wI m) (seg.take k)) seg[k] (j + 1) ++ (seg.drop (k + 1) ++ D))))[(((A.length + (j + 1) : Nat) : Int) - 1).toNat * 1]? = some (.f (iv (sortO (wI m) (seg.take k))[j])) := cellsA_at (by omega) (ins_before hjp)
      have hy := (sortO_perm _).mem_iff.1 (List.getElem_mem hjp)
      have hlt := take_lt ha hc hy
      have HC := cmpW_s m seg[k] (sortO (wI m) (seg.take k))[j] (hm _ (List.getElem_mem hc)) (hm _ (List.mem_of_mem_take hy))
      have hln : (A ++ (putAt (sortO (wI m) (seg.take k)) seg[k] (j + 1) ++ (seg.drop (k + 1) ++ D))).length = n := by
        rw [List.length_append, List.length_append, putAt_len (by omega), hl, List.length_append, List.length_drop]; omega
      by_cases hw : wI m (sortO (wI m) (seg.take k))[j] < wI m seg[k]
      · have hz := cmpZ_lt hw
        have hsw := ins_swap (A := A) (E := seg.drop (k + 1) ++ D) (x := seg[k]) hjp
        have hcs : setAt (setAt (cellsA (A ++ (putAt (sortO (wI m) (seg.take k)) seg[k] (j + 1) ++ (seg.drop (k + 1) ++ D)))) (((A.length + (j + 1) : Nat) : Int).toNat * 1) [.f (iv (sortO (wI m) (seg.take k))[j])]) ((((A.length + (j + 1) : Nat) : Int) - 1).toNat * 1) [.f (iv seg[k])] = cellsA (A ++ (putAt (sortO (wI m) (seg.take k)) seg[k] j ++ (seg.drop (k + 1) ++ D))) := by
          rw [cellsA_set (k := A.length + (j + 1)) (by omega), cellsA_set (k := A.length + j) (by omega), hsw]
        repeat (first
    | (apply w_draw4 (id := 6) 15 16 32739 28 rfl (by kernel_rfl) (by kernel_rfl); exact rfl)
    | (apply s_stW TY; exact rfl; exact rfl; exact rfl; exact rfl; exact rfl; (show _ + 1 ≤ _; rw [cellsA_len]; omega); exact rfl; exact rfl; exact (fun _ => rfl))
    | (refine KW.mk ⟨rfl, rfl, rfl, rfl, rfl, rfl, rfl, rfl, rfl, rfl, rfl, rfl, rfl, rfl, rfl, trivial⟩ ?_)
    | (apply s_storeArr TY; exact rfl; exact rfl; exact rfl; exact rfl; exact rfl; (show _ + 1 ≤ _; rw [setAt_length, cellsA_len]; omega))
    | (apply s_idxArr TY; exact rfl; exact rfl; exact rfl; exact rfl; exact rfl; exact rfl; omega; omega)
    | (apply s_ldArr TY; exact rfl; exact rfl; exact rfl; exact rfl; exact rfl; assumption)
    | (apply s_a TY; exact rfl)
    | (apply s_t; exact rfl; (first | assumption | omega))
    | apply w_seq
    | apply w_region
    | (apply w_draw (id := 4) 14 rfl (by kernel_rfl))
    | apply s_nil
    | apply t_norm
    | apply k_norm
    | apply w_block
    | apply w_skip
    | (apply w_condT; exact rfl; exact rfl)
    | (apply s_k (HC); exact rfl)
    | (apply s_c TY; exact rfl; (first | omega | exact ⟨by omega, by (first | with_reducible assumption | ((with_reducible apply intsF_ne); omega) | assumption)⟩)))
        exact ⟨j, ⟨by omega, fun i hi hji => by
          by_cases e : i = j
          · subst e; exact .inl hw
          · exact hb i hi (by omega)⟩, by omega, gh_le ⟨le_upd (congrArg (fun z : Int => AV.f (iv z)) (show ((A.length + j : Nat) : Int) = ((A.length + (j + 1) : Nat) : Int) - 1 by omega)) trivial (le_upd rfl trivial (le_upd rfl trivial (le_upd rfl trivial (le_upd rfl trivial (le_upd rfl rfl (le_nil _)))))), le_hupd (arrEq hcs) (cl_arr _) (le_h0 _ _)⟩⟩
      · have hz := cmpZ_ge hw
        have hdone := ins_done (w := (wI m)) ha hc hj hb (fun _ => by
          unfold befW
          simp only [Nat.add_sub_cancel]
          omega)
        repeat (first
    | (apply s_idxArr TY; exact rfl; exact rfl; exact rfl; exact rfl; exact rfl; exact rfl; omega; omega)
    | (apply s_ldArr TY; exact rfl; exact rfl; exact rfl; exact rfl; exact rfl; assumption)
    | (apply s_a TY; exact rfl)
    | (apply s_t; exact rfl; (first | assumption | omega))
    | (apply s_f; exact rfl; (first | assumption | omega))
    | apply w_seq
    | apply w_region
    | (apply w_draw (id := 4) 14 rfl (by kernel_rfl))
    | apply s_nil
    | apply t_norm
    | apply t_exit
    | apply k_hit
    | apply k_norm
    | apply w_exit
    | (apply w_condF; exact rfl; exact rfl)
    | (apply s_k (HC); exact rfl)
    | (apply s_c TY; exact rfl; (first | omega | exact ⟨by omega, by (first | with_reducible assumption | ((with_reducible apply intsF_ne); omega) | assumption)⟩)))
        exact ⟨k + 1, ⟨by omega, by omega⟩, by omega, gh_le ⟨le_upd rfl trivial (le_upd rfl trivial (le_upd rfl trivial (le_upd rfl trivial (le_upd rfl rfl (le_nil _))))), le_hupd (arrEq (by rw [hdone])) (cl_arr _) (le_h0 _ _)⟩⟩
  · have h1 : seg.take k = seg := List.take_of_length_le (by omega)
    have h2 : seg.drop k = [] := List.drop_eq_nil_of_le (by omega)
    rw [h1, h2]
    repeat (first
    | (apply s_a TY; exact rfl)
    | (apply s_f; exact rfl; (first | assumption | omega))
    | apply w_seq
    | apply w_region
    | apply s_nil
    | apply t_norm
    | apply t_exit
    | apply k_hit
    | apply w_exit
    | (apply w_condF; exact rfl; exact rfl))
    exact lvG_norm (L' := [.arr 3 1 n (cellsA (A ++ (sortO (wI m) seg ++ D)))]) (s := (fun _ => .bot)) (nx := 1) (gh_le ⟨le_nil _, le_hupd rfl (cl_arr _) (le_h0 _ _)⟩) (rg0 rfl)
end Go.Proofs.YtbkdjlahhcofmaaGreatDoor
namespace Go.Proofs.YtbkdjlahhcofmaaGreatDoor
open Go.Proofs Go.Shelf
def sortI_ren : Go.Shelf.Ren := ⟨fun | 53 => 190 | 64 => 259 | 63 => 267 | 78 => 328 | 79 => 329 | 70 => 337 | 71 => 338 | 72 => 339 | 73 => 340 | 74 => 341 | 75 => 342 | 59 => 343 | 76 => 344 | 77 => 345 | 88 => 401 | 89 => 396 | 90 => 397 | 91 => 402 | 92 => 403 | 68 => 266 | 96 => 446 | n => n, fun | 22 => 29 | 23 => 3 | 3 => 3 | 51 => 384 | 0 => 0 | 67 => 453 | 69 => 455 | 4 => 4 | 61 => 447 | 60 => 446 | 44 => 256 | 5 => 5 | 9 => 9 | 75 => 501 | 79 => 196 | 83 => 535 | 84 => 229 | n => n, fun | n => n⟩
theorem sortI : Go.Proofs.SlLaysN.n53 Tryz.prog sortI_ren := {
  mixed := by kernel_rfl
  f53 := ⟨Tryz.f190.name, by decide, Tryz.func190.trans (congrArg some (by kernel_rfl))⟩
  f59 := ⟨Tryz.f343.name, by decide, Tryz.func343.trans (congrArg some (by kernel_rfl))⟩
  f63 := ⟨Tryz.f267.name, by decide, Tryz.func267.trans (congrArg some (by kernel_rfl))⟩
  f64 := Tryz.func259.trans (congrArg some (by kernel_rfl))
  f68 := ⟨Tryz.f266.name, by decide, Tryz.func266.trans (congrArg some (by kernel_rfl))⟩
  f70 := ⟨Tryz.f337.name, by decide, Tryz.func337.trans (congrArg some (by kernel_rfl))⟩
  f71 := ⟨Tryz.f338.name, by decide, Tryz.func338.trans (congrArg some (by kernel_rfl))⟩
  f72 := ⟨Tryz.f339.name, by decide, Tryz.func339.trans (congrArg some (by kernel_rfl))⟩
  f73 := ⟨Tryz.f340.name, by decide, Tryz.func340.trans (congrArg some (by kernel_rfl))⟩
  f74 := ⟨Tryz.f341.name, by decide, Tryz.func341.trans (congrArg some (by kernel_rfl))⟩
  f75 := ⟨Tryz.f342.name, by decide, Tryz.func342.trans (congrArg some (by kernel_rfl))⟩
  f76 := ⟨Tryz.f344.name, by decide, Tryz.func344.trans (congrArg some (by kernel_rfl))⟩
  f77 := ⟨Tryz.f345.name, by decide, Tryz.func345.trans (congrArg some (by kernel_rfl))⟩
  f78 := Tryz.func328.trans (congrArg some (by kernel_rfl))
  f79 := Tryz.func329.trans (congrArg some (by kernel_rfl))
  f88 := ⟨Tryz.f401.name, by decide, Tryz.func401.trans (congrArg some (by kernel_rfl))⟩
  f89 := Tryz.func396.trans (congrArg some (by kernel_rfl))
  f90 := Tryz.func397.trans (congrArg some (by kernel_rfl))
  f91 := ⟨Tryz.f402.name, by decide, Tryz.func402.trans (congrArg some (by kernel_rfl))⟩
  f92 := ⟨Tryz.f403.name, by decide, Tryz.func403.trans (congrArg some (by kernel_rfl))⟩
  f96 := ⟨Tryz.f446.name, by decide, Tryz.func446.trans (congrArg some (by kernel_rfl))⟩
  t0 := Tryz.underlying0
  a0 := Tryz.isAgg0
  z0 := Tryz.sizeOf0
  v0 := Tryz.zeroValue0
  t3 := Tryz.underlying3
  a3 := Tryz.isAgg3
  z3 := Tryz.sizeOf3
  v3 := Tryz.zeroValue3
  t4 := Tryz.underlying4
  a4 := Tryz.isAgg4
  z4 := Tryz.sizeOf4
  v4 := Tryz.zeroValue4
  t5 := Tryz.underlying5
  a5 := Tryz.isAgg5
  z5 := Tryz.sizeOf5
  v5 := Tryz.zeroValue5
  t9 := Tryz.underlying9
  a9 := Tryz.isAgg9
  z9 := Tryz.sizeOf9
  v9 := Tryz.zeroValue9
  t22 := Tryz.underlying29
  a22 := Tryz.isAgg29
  z22 := Tryz.sizeOf29
  v22 := Tryz.zeroValue29
  t23 := Tryz.underlying3
  a23 := Tryz.isAgg3
  z23 := Tryz.sizeOf3
  v23 := Tryz.zeroValue3
  t44 := Tryz.underlying256
  a44 := Tryz.isAgg256
  z44 := Tryz.sizeOf256
  v44 := Tryz.zeroValue256
  t51 := Tryz.underlying384
  a51 := Tryz.isAgg384
  z51 := Tryz.sizeOf384
  v51 := Tryz.zeroValue384
  t60 := Tryz.underlying446
  a60 := Tryz.isAgg446
  z60 := Tryz.sizeOf446
  v60 := Tryz.zeroValue446
  t61 := Tryz.underlying447
  a61 := Tryz.isAgg447
  z61 := Tryz.sizeOf447
  v61 := Tryz.zeroValue447
  t67 := Tryz.underlying453
  a67 := Tryz.isAgg453
  z67 := Tryz.sizeOf453
  v67 := Tryz.zeroValue453
  t69 := Tryz.underlying455
  a69 := Tryz.isAgg455
  z69 := Tryz.sizeOf455
  v69 := Tryz.zeroValue455
  t75 := Tryz.underlying501
  a75 := Tryz.isAgg501
  z75 := Tryz.sizeOf501
  v75 := Tryz.zeroValue501
  t79 := Tryz.underlying196
  a79 := Tryz.isAgg196
  z79 := Tryz.sizeOf196
  v79 := Tryz.zeroValue196
  t83 := Tryz.underlying535
  a83 := Tryz.isAgg535
  z83 := Tryz.sizeOf535
  v83 := Tryz.zeroValue535
  t84 := Tryz.underlying229
  a84 := Tryz.isAgg229
  z84 := Tryz.sizeOf229
  v84 := Tryz.zeroValue229 }
open Go Go.RowKit Go.Proofs Go.Shelf Go.Ab
theorem arrA_ren (σ : Nat → Nat) (n : Nat) (L : List Int) : (Blk.arr 3 1 n (cellsA L)).ren σ = .arr 3 1 n (cellsA L) := arr_ren0 σ _ _ _ _
def ascL (L : List Int) : List Int := L.mergeSort fun x y => decide (x ≤ y)
theorem intsF_enc (L : List Int) : (L.map fun z => Value.int .i64 z).map FV.v = intsF L := by unfold intsF iv; rw [List.map_map]; rfl
theorem sortI_g (L : List Int) (n : Nat) (hn : n = L.length) (hl : L.length ≤ 1000000) : SummG Tryz.prog GG 190 [.arr 3 1 n (cellsA L)] [.ow 0] (.f (.tup [])) [.arr 3 1 n (cellsA (ascL L))] :=
  sortOrdG (f := 190) (enc := fun z : Int => Value.int .i64 z) ascL (fun d => (List.mergeSort_perm d _).length_eq) (fun _ => rfl) (enters_of Tryz.func190 (by kernel_rfl) rfl) (fun blk off cap d w h1 h2 h3 => AnyG.slices_Sort_int sortI blk off cap d w h1 h2 h3) (fun p cap w => AnyG.slices_Sort_int_none sortI p cap w) L (by omega) 3 hn (intsF_enc L) (intsF_enc _)
set_option maxRecDepth 100000 in
set_option maxHeartbeats 1600000 in
theorem stable_few (m L : List Int) (hn : L.length ≤ 19) (ha : L.Pairwise (· < ·)) (hm : ∀ z, z ∈ L → 0 ≤ z ∧ z < m.length) : SummG Tryz.prog GG 265 [.arr 3 1 L.length (cellsA L)] [.ow 0, .f (iv (L.length : Nat)), .f (.fn 188 [.pt [.sl m.length (intsF m)] 0])] (.f (.tup [])) [.arr 3 1 L.length (cellsA (sortO (wI m) L))] := by
  have HI := insertion_g m [] L [] L.length (by simp) (by omega) ha hm
  simp only [List.length_nil, Nat.zero_add, List.nil_append, List.append_nil] at HI
  refine summG_of Tryz.func265 rfl rfl 63 rfl (by simp) (by simp) (fun i B B' h1 h2 => by
    match i, h1, h2 with
    | 0, h1, h2 => cases h1; cases h2; rfl
    | _ + 1, h1, _ => simp at h1) (fun M X J => ?_)
  repeat (first
    | (apply s_a TY; exact rfl)
    | apply w_seq
    | apply w_region
    | apply s_nil
    | apply t_norm
    | apply w_block)
  apply w_loop (fun k : Nat => ⟨(Ab.upd (Ab.upd (Ab.upd (Ab.upd (Ab.upd (Ab.upd (fun _ => .bot) 0 (.ow 0)) 1 (.f (iv (L.length : Nat)))) 2 (.f (.fn 188 [.pt [.sl m.length (intsF m)] 0]))) 6 (.f (iv 20))) 7 (.f (iv 0))) 8 (.f (iv 20))), (Ab.upd (fun _ => none) 0 (some (.arr 3 1 L.length (cellsA L)))), 1⟩) (fun k => k = 0) (fun k => 0) 0 (rfl) (gh_le ⟨le_upd rfl trivial (le_upd rfl trivial (le_upd rfl trivial (le_upd rfl trivial (le_upd rfl trivial (le_upd rfl rfl (le_nil _)))))), le_hupd rfl (cl_arr _) (le_h0 _ _)⟩)
  intro k hk
  repeat (first
    | (apply s_callG [0] HI; exact rfl; exact rfl; exact rfl; exact ⟨congrArg some (arrA_ren _ _ _).symm, trivial⟩; exact rfl; exact ⟨rfl, rfl⟩)
    | (apply s_a TY; exact rfl)
    | (apply s_f; exact rfl; (first | assumption | omega))
    | apply w_seq
    | apply w_region
    | apply s_nil
    | apply t_norm
    | apply t_exit
    | apply k_hit
    | apply w_block
    | apply w_exit
    | (apply w_condF; exact rfl; exact rfl))
  apply w_loop (fun k : Nat => ⟨(Ab.upd (Ab.upd (Ab.upd (Ab.upd (fun _ => .bot) 0 (.ow 0)) 1 (.f (iv (L.length : Nat)))) 2 (.f (.fn 188 [.pt [.sl m.length (intsF m)] 0]))) 6 (.f (iv 20))), (Ab.upd (fun _ => none) 0 (some (.arr 3 1 L.length (cellsA (sortO (wI m) L))))), 1⟩) (fun k => k = 0) (fun k => 0) 0 (rfl) (gh_le ⟨le_upd rfl trivial (le_upd rfl trivial (le_upd rfl trivial (le_upd rfl rfl (le_nil _)))), le_hupd (congrArg some (arrA_ren _ _ _)) (cl_arr _) (le_h0 _ _)⟩)
  intro k hk
  repeat (first
    | (apply s_a TY; exact rfl)
    | (apply s_f; exact rfl; (first | assumption | omega))
    | apply w_seq
    | apply w_region
    | apply s_nil
    | apply t_norm
    | apply t_exit
    | apply k_hit
    | apply w_exit
    | (apply w_condF; exact rfl; exact rfl))
  exact lvG_norm (L' := [.arr 3 1 L.length (cellsA (sortO (wI m) L))]) (s := (fun _ => .bot)) (nx := 1) (gh_le ⟨le_nil _, le_hupd rfl (cl_arr _) (le_h0 _ _)⟩) (rg0 rfl)
theorem sortStable_of (m L : List Int) (HI : SummG Tryz.prog GG 265 [.arr 3 1 L.length (cellsA L)] [.ow 0, .f (iv (L.length : Nat)), .f (.fn 188 [.pt [.sl m.length (intsF m)] 0])] (.f (.tup [])) [.arr 3 1 L.length (cellsA (sortO (wI m) L))]) : SummG Tryz.prog GG 187 [.arr 3 1 L.length (cellsA L)] [.ow 0, .f (.fn 188 [.pt [.sl m.length (intsF m)] 0])] (.f (.tup [])) [.arr 3 1 L.length (cellsA (sortO (wI m) L))] := by
  refine summG_of Tryz.func187 rfl rfl 9 rfl (by simp) (by simp) (fun i B B' h1 h2 => by
    match i, h1, h2 with
    | 0, h1, h2 => cases h1; cases h2; rfl
    | _ + 1, h1, _ => simp at h1) (fun M X J => ?_)
  repeat (first
    | (apply s_lenArr TY; exact rfl; exact rfl; exact rfl; exact rfl; exact rfl)
    | (apply s_callG [0] HI; exact rfl; exact rfl; exact rfl; exact ⟨congrArg some (arrA_ren _ _ _).symm, trivial⟩; exact rfl; exact ⟨rfl, rfl⟩)
    | (apply s_a TY; exact rfl)
    | apply w_region
    | apply s_nil)
  exact lvG_norm (L' := [.arr 3 1 L.length (cellsA (sortO (wI m) L))]) (s := (fun _ => .bot)) (nx := 1) (gh_le ⟨le_nil _, le_hupd (congrArg some (arrA_ren _ _ _)) (cl_arr _) (le_h0 _ _)⟩) (rg0 rfl)
end Go.Proofs.YtbkdjlahhcofmaaGreatDoor
namespace Go.Proofs.YtbkdjlahhcofmaaGreatDoor
open Go Go.RowKit Go.Proofs Go.Shelf Go.Ab
theorem idxL_succ (k : Nat) : idxL (k + 1) = idxL k ++ [(k : Int)] := by unfold idxL; rw [List.range_succ, List.map_append]; rfl
theorem idxL_len (k : Nat) : (idxL k).length = k := by simp [idxL]
theorem rowI_snoc {a b : List Int} {x : Int} (h : b = a ++ [x]) : some (Blk.row 3 1 (a.length + 1) (intsF a ++ [iv x])) = some (Blk.row 3 1 b.length (intsF b)) := by rw [h, intsF_snoc, List.length_append]; rfl
theorem intsF_take (L : List Int) (k : Nat) : (intsF L).take (k * 1) = intsF (L.take k) := by unfold intsF; rw [Nat.mul_one, List.map_take]
def sortedW (m : List Int) : List Int := sortO (wI m) (idxL m.length)
def wantV (m : List Int) (pct : Int) : Int := pct * sumI (wI m) (idxL m.length)
def regV (m : List Int) (pct : Int) : List Int := ascL ((sortedW m).take (regC (wI m) (sortedW m) (wantV m pct)))
theorem want_ok {n : Int} {m : List Int} (o : MapOk n m) {pct : Int} (hp : 1 ≤ pct ∧ pct ≤ 100) : wantV m pct ≤ 100 * sumI (wI m) (sortedW m) := by
  unfold wantV sortedW
  rw [sumI_perm (sortO_perm _)]
  have := (sumW_bd o (l := idxL m.length) (fun z hz => idxL_mem.1 hz) (Nat.le_refl _)).1
  rw [List.take_length] at this
  exact Int.mul_le_mul_of_nonneg_right hp.2 this
def StabOk (m : List Int) : Prop := SummG Tryz.prog GG 187 [.arr 3 1 (idxL m.length).length (cellsA (idxL m.length))] [.ow 0, .f (.fn 188 [.pt [.sl m.length (intsF m)] 0])] (.f (.tup [])) [.arr 3 1 (idxL m.length).length (cellsA (sortedW m))]
theorem stab_few {m : List Int} (h : m.length ≤ 19) : StabOk m := sortStable_of m (idxL m.length) (stable_few m _ (by rw [idxL_len]; omega) (idxL_asc _) (fun z hz => idxL_mem.1 hz))
set_option maxRecDepth 100000 in
set_option maxHeartbeats 3200000 in
theorem RegionOf_of (rs m : List Int) (pct : Int) (o : SkyOk rs) (om : MapOk (befK rs rs.length) m) (hp : 1 ≤ pct ∧ pct ≤ 100) (HST : StabOk m) : Summ Tryz.prog GG 69 [skF rs, skF m, iv pct] (.tup [.sl (regV m pct).length (intsF (regV m pct)), iv 0]) := by
  unfold StabOk at HST
  have hm0 := mapChk_ok om
  have hcl := skyC_len o
  have hcb := skyC_bd o
  have hml : m.length = (skyC rs).length := by have := om.len; omega
  have HO := openMap_sky rs m o (by omega)
  rw [hm0] at HO
  have hmem : ∀ z, z ∈ idxL m.length → 0 ≤ z ∧ z < m.length := fun z hz => idxL_mem.1 hz
  have HW := weight_s m (idxL m.length) om (by rw [idxL_len]; omega) hmem
  have hsb := sumW_bd om hmem (Nat.le_refl _)
  rw [List.take_length, idxL_len] at hsb
  have hpm := mul_nn (a := pct) (A := 100) (b := sumI (wI m) (idxL m.length)) (B := 96000000) (by omega) (by omega)
  refine summW Tryz.func69 rfl rfl 64 rfl (by simp) (fun M0 => ?_)
  repeat (first
    | (apply s_a TY; exact rfl)
    | (apply s_t; exact rfl; (first | assumption | omega))
    | apply w_seq
    | apply w_region
    | apply s_nil
    | apply t_norm
    | apply w_block
    | apply w_skip
    | (apply w_condF; exact rfl; exact rfl)
    | (apply s_k (HO); exact rfl)
    | (apply s_k1 (first2_1 _ _); exact rfl; (first | assumption | omega | decide))
    | (apply s_k (unless_T _); exact rfl)
    | (apply s_k1 (within_T _ _ _); exact rfl; (first | assumption | omega | decide)))
  apply w_gh (gh_own 10 3 1 rfl rfl)
  apply w_loop (fun k : Nat => ⟨(Ab.upd (Ab.upd (Ab.upd (Ab.upd (Ab.upd (Ab.upd (Ab.upd (fun _ => .bot) 2 (.f (iv pct))) 4 (.f (.pt [.sl m.length (intsF m)] 0))) 8 (.f (xF (skyC rs)))) 10 (.ow 0)) 30 (.f (xF (skyC rs)))) 31 (.f (iv (skyC rs).length))) 32 (.f (iv (k : Nat)))), (Ab.upd (fun _ => none) 0 (some (.row 3 1 (idxL k).length (intsF (idxL k))))), 1⟩) (fun k => k ≤ (skyC rs).length) (fun k => (skyC rs).length - k) 0 (Nat.zero_le _) (gh_le ⟨le_upd rfl trivial (le_upd rfl trivial (le_upd rfl trivial (le_upd rfl rfl (le_upd rfl trivial (le_upd rfl trivial (le_upd rfl trivial (le_nil _))))))), le_hupd rfl trivial (le_h0 _ _)⟩)
  intro k hk
  by_cases hc : k < (skyC rs).length
  · have hil := idxL_len k
    repeat (first
    | (apply s_a TY; exact rfl)
    | (apply s_t; exact rfl; (first | assumption | omega))
    | apply w_seq
    | apply w_region
    | apply s_nil
    | apply t_norm
    | apply k_norm
    | apply w_block
    | apply w_skip
    | (apply w_condT; exact rfl; exact rfl)
    | (apply s_c TY; exact rfl; omega)
    | (apply s_append TY; exact rfl; exact rfl; exact rfl; exact rfl; exact rfl; exact rfl; exact rfl; exact rfl; exact rfl; (unfold maxLen; omega); omega))
    exact ⟨k + 1, by omega, by omega, gh_le ⟨le_upd rfl trivial (le_upd rfl trivial (le_upd rfl trivial (le_upd rfl rfl (le_upd rfl trivial (le_upd rfl trivial (le_upd rfl trivial (le_nil _))))))), le_hupd (rowI_snoc (idxL_succ k)) trivial (le_h0 _ _)⟩⟩
  · have hke : k = m.length := by omega
    subst hke
    repeat (first
    | (apply s_callS HW (fun _ => rfl); exact rfl; exact rfl; exact rfl; exact ⟨sees_f _, sees_row rfl, trivial⟩)
    | (apply s_a TY; exact rfl)
    | (apply s_makefn; exact rfl; exact rfl)
    | (apply s_f; exact rfl; (first | assumption | omega))
    | apply w_seq
    | apply w_region
    | apply s_nil
    | apply t_norm
    | apply t_exit
    | apply k_hit
    | apply w_exit
    | (apply w_condF; exact rfl; exact rfl)
    | (apply s_c TY; exact rfl; omega))
    refine s_ghost rfl (gh_arr 0 (cs := intsF (idxL m.length)) rfl rfl) ?_
    repeat (first
    | (apply s_callG [0] HST; exact rfl; exact rfl; exact rfl; exact ⟨congrArg some (arrA_ren _ _ _).symm, trivial⟩; exact rfl; exact ⟨rfl, rfl⟩)
    | (apply s_a TY; exact rfl)
    | apply w_seq
    | apply w_region
    | apply s_nil
    | apply t_norm
    | apply w_block)
    refine w_gh (gh_unarr 0 (e := 3) (sz := 1) (n := (idxL m.length).length) (cs := intsF (sortedW m)) (congrArg some (arr_ren0 _ _ _ _ _))) ?_
    have hwo := want_ok om hp
    obtain ⟨g1, g2, g3⟩ := regC_spec hwo
    have hreg : regV m pct = ascL ((sortedW m).take (regC (wI m) (sortedW m) (wantV m pct))) := rfl
    have hswl : (sortedW m).length = m.length := by unfold sortedW; rw [sortO_len, idxL_len]
    have hswm : ∀ z, z ∈ (sortedW m) → 0 ≤ z ∧ z < m.length := fun z hz => hmem z ((sortO_perm _).mem_iff.1 hz)
    have hwv : 0 ≤ (wantV m pct) ∧ (wantV m pct) ≤ 9600000000 := hpm
    generalize hC : regC (wI m) (sortedW m) (wantV m pct) = c at *
    rw [hreg]
    apply w_loop (fun k : Nat => ⟨(Ab.upd (Ab.upd (Ab.upd (Ab.upd (fun _ => .bot) 4 (.f (.pt [.sl m.length (intsF m)] 0))) 10 (.ow 0)) 12 (.f (iv (wantV m pct)))) 13 (.f (iv (k : Nat)))), (Ab.upd (fun _ => none) 0 (some (.row 3 1 (sortedW m).length (intsF (sortedW m))))), 1⟩) (fun k => k ≤ c) (fun k => c - k) 0 (Nat.zero_le _) (gh_le ⟨le_upd rfl trivial (le_upd rfl trivial (le_upd rfl rfl (le_upd rfl trivial (le_nil _)))), le_hupd (show some (Blk.row _ 1 (idxL m.length).length (intsF (sortedW m))) = _ by rw [hswl, idxL_len]) trivial (le_h0 _ _)⟩)
    intro k hk
    have hbd := sumW_bd om hswm (k := k) (by omega)
    have HWk : Summ Tryz.prog GG 186 [skF m, .sl ((k : Nat) : Int).toNat (((intsF (sortedW m)).drop 0).take (((k : Nat) : Int).toNat * 1))] (iv (sumI (wI m) ((sortedW m).take k))) := by
      have := weight_s m ((sortedW m).take k) om (by rw [List.length_take]; omega) (fun z hz => hswm z (List.mem_of_mem_take hz))
      rw [List.drop_zero, Int.toNat_natCast, intsF_take]
      rwa [List.length_take, Nat.min_eq_left (by omega)] at this
    have hle : 0 + ((k : Nat) : Int).toNat * 1 ≤ (intsF (sortedW m)).length := by rw [intsF_len]; omega
    by_cases hkc : k < c
    · have hlt := g3 k hkc
      repeat (first
    | (apply s_slice_pre TY; exact rfl; exact rfl; exact rfl; exact rfl; exact rfl; exact rfl; omega; omega)
    | (apply s_callS HWk (fun _ => rfl); exact rfl; exact rfl; exact rfl; exact ⟨sees_f _, sees_sv rfl hle (by decide), trivial⟩)
    | (apply s_a TY; exact rfl)
    | (apply s_t; exact rfl; (first | assumption | omega))
    | apply w_seq
    | apply w_region
    | (apply w_draw (id := 14) 7 rfl (by kernel_rfl))
    | apply s_nil
    | apply t_norm
    | apply k_norm
    | apply w_block
    | apply w_skip
    | (apply w_condT; exact rfl; exact rfl)
    | (apply s_c TY; exact rfl; omega))
      exact ⟨k + 1, by omega, by omega, gh_le ⟨le_upd rfl trivial (le_upd rfl trivial (le_upd rfl rfl (le_upd rfl trivial (le_nil _)))), le_hupd rfl trivial (le_h0 _ _)⟩⟩
    · have hkce : k = c := by omega
      subst hkce
      have hge : ¬ 100 * sumI (wI m) ((sortedW m).take k) < (wantV m pct) := by omega
      have HS := sortI_g ((sortedW m).take k) k (by rw [List.length_take]; omega) (by rw [List.length_take]; omega)
      have hlk : (ascL ((sortedW m).take k)).length = k := by rw [show (ascL ((sortedW m).take k)).length = ((sortedW m).take k).length from (List.mergeSort_perm _ _).length_eq, List.length_take]; omega
      have hrw : some (Blk.row 3 1 ((k : Nat) : Int).toNat ((intsF (sortedW m)).take (((k : Nat) : Int).toNat * 1))) = some (Blk.row 3 1 k (intsF ((sortedW m).take k))) := by rw [Int.toNat_natCast, intsF_take]
      rw [hlk]
      repeat (first
    | (apply s_callS HWk (fun _ => rfl); exact rfl; exact rfl; exact rfl; exact ⟨sees_f _, sees_sv rfl hle (by decide), trivial⟩)
    | (apply s_slice_head TY; exact rfl; exact rfl; exact rfl; exact rfl; exact rfl; omega; omega; omega; exact rfl)
    | (apply s_slice_pre TY; exact rfl; exact rfl; exact rfl; exact rfl; exact rfl; exact rfl; omega; omega)
    | (apply s_a TY; exact rfl)
    | (apply s_f; exact rfl; (first | assumption | omega))
    | apply w_seq
    | apply w_region
    | (apply w_draw (id := 14) 7 rfl (by kernel_rfl))
    | apply s_nil
    | apply t_norm
    | apply t_exit
    | apply k_hit
    | apply w_exit
    | (apply w_condF; exact rfl; exact rfl)
    | (apply s_c TY; exact rfl; omega))
      refine s_ghost rfl (gh_arr 0 hrw rfl) ?_
      repeat (first
    | (apply s_callG [0] HS; exact rfl; exact rfl; exact rfl; exact ⟨congrArg some (arrA_ren _ _ _).symm, trivial⟩; exact rfl; exact ⟨rfl, rfl⟩)
    | (apply s_a TY; exact rfl)
    | apply w_seq
    | apply w_region
    | apply s_nil
    | apply t_norm
    | apply w_ret)
      exact lv_ret (ret_gh (gh_trans (gh_trans (b := _) (c := ⟨(Ab.upd (Ab.upd (fun _ => .bot) 6 (.ow 0)) 7 (.f (iv 0))), (Ab.upd (fun _ => none) 0 (some (.row 3 1 k (intsF (ascL ((sortedW m).take k)))))), 1⟩) (gh_unarr 0 (e := 3) (sz := 1) (n := k) (cs := intsF (ascL ((sortedW m).take k))) (congrArg some (arr_ren0 _ _ _ _ _))) (gh_le ⟨le_upd rfl trivial (le_upd rfl rfl (le_nil _)), le_hupd rfl trivial (le_h0 _ _)⟩)) (gh_row 0 rfl)) (ret2 rfl (res_tmp rfl) (res_tmp rfl)))
end Go.Proofs.YtbkdjlahhcofmaaGreatDoor
namespace Go.Proofs.YtbkdjlahhcofmaaGreatDoor
open Go Go.RowKit Go.Proofs Go.Shelf Go.Ab
theorem strSz (s : Nm) : (⟨s.toArray⟩ : ByteArray).size = s.length := by simp [ByteArray.size]
theorem eqs_run (x y : Operand) (a b : Nm) (w : World) : (do eqGuard .eql 9 x y (.string ⟨a.toArray⟩) (.string ⟨b.toArray⟩); binOp .eql 9 (.string ⟨a.toArray⟩) (.string ⟨b.toArray⟩) : Sem Value).run Tryz.prog w = .ok (.bool (decide (a = b))) w := by
  simp [eqGuard, binOp, Op.stringOp]
  exact Bool.eq_iff_iff.2 (by rw [beq_iff_eq, decide_eq_true_eq])
theorem nes_run (x y : Operand) (a b : Nm) (w : World) : (do eqGuard .neq 9 x y (.string ⟨a.toArray⟩) (.string ⟨b.toArray⟩); binOp .neq 9 (.string ⟨a.toArray⟩) (.string ⟨b.toArray⟩) : Sem Value).run Tryz.prog w = .ok (.bool (!decide (a = b))) w := by
  simp [eqGuard, binOp, Op.stringOp]
  exact Bool.eq_iff_iff.2 (by rw [beq_iff_eq, decide_eq_true_eq])
theorem eqs_t {x y : Operand} {a b : Nm} (h : a = b) (w : World) : (do eqGuard .eql 9 x y (.string ⟨a.toArray⟩) (.string ⟨b.toArray⟩); binOp .eql 9 (.string ⟨a.toArray⟩) (.string ⟨b.toArray⟩) : Sem Value).run Tryz.prog w = .ok (.bool true) w := by
  rw [eqs_run, decide_eq_true h]
theorem eqs_f {x y : Operand} {a b : Nm} (h : ¬ a = b) (w : World) : (do eqGuard .eql 9 x y (.string ⟨a.toArray⟩) (.string ⟨b.toArray⟩); binOp .eql 9 (.string ⟨a.toArray⟩) (.string ⟨b.toArray⟩) : Sem Value).run Tryz.prog w = .ok (.bool false) w := by
  rw [eqs_run, decide_eq_false h]
theorem nes_t {x y : Operand} {a b : Nm} (h : ¬ a = b) (w : World) : (do eqGuard .neq 9 x y (.string ⟨a.toArray⟩) (.string ⟨b.toArray⟩); binOp .neq 9 (.string ⟨a.toArray⟩) (.string ⟨b.toArray⟩) : Sem Value).run Tryz.prog w = .ok (.bool true) w := by
  rw [nes_run, decide_eq_false h]; rfl
theorem nes_f {x y : Operand} {a b : Nm} (h : a = b) (w : World) : (do eqGuard .neq 9 x y (.string ⟨a.toArray⟩) (.string ⟨b.toArray⟩); binOp .neq 9 (.string ⟨a.toArray⟩) (.string ⟨b.toArray⟩) : Sem Value).run Tryz.prog w = .ok (.bool false) w := by
  rw [nes_run, decide_eq_true h]; rfl
def hasS (l : List Nm) (n : Nm) (i : Nat) : Bool := decide (l.getD i default = n)
theorem anyS_has (l : List Nm) (n : Nm) : anyP l.length (hasS l n) = l.contains n := by
  rw [Bool.eq_iff_iff, anyP_iff]
  unfold hasS
  simp only [decide_eq_true_eq, List.contains_eq_mem]
  constructor
  · rintro ⟨i, hi, rfl⟩; rw [getD_at hi]; exact List.getElem_mem hi
  · intro h
    obtain ⟨i, hi, rfl⟩ := List.getElem_of_mem h
    exact ⟨i, hi, getD_at hi⟩
set_option maxRecDepth 100000 in
theorem IndexS_s (l : List Nm) (n : Nm) (hl : l.length ≤ 1000000) : Summ Tryz.prog GG 302 [.sl l.length (strsF l), sv n] (iv (idxP l.length (hasS l n))) := by
  rcases idxP_cases l.length (hasS l n) with ⟨he, hz⟩ | ⟨q, hq, hz, hp, he⟩
  · rw [he]
    refine summW Tryz.func302 rfl rfl 19 rfl (by simp) (fun M0 => ?_)
    repeat (first
    | (apply s_a TY; exact rfl)
    | apply w_seq
    | apply w_region
    | apply s_nil
    | apply t_norm
    | apply w_block)
    apply w_loop (fun k : Nat => ⟨(Ab.upd (Ab.upd (Ab.upd (Ab.upd (fun _ => .bot) 0 (.f (.sl l.length (strsF l)))) 1 (.f (sv n))) 7 (.f (iv l.length))) 8 (.f (iv ((k : Nat) : Int)))), (fun _ => none), 0⟩) (fun k => k ≤ l.length) (fun k => l.length - k) 0 (Nat.zero_le _) (gh_le ⟨le_upd rfl trivial (le_upd rfl trivial (le_upd rfl trivial (le_upd rfl trivial (le_nil _)))), le_h0 _ _⟩)
    intro k hk
    by_cases hc : k < l.length
    · have hne : ¬ l[k] = n := by have := hz k hc; unfold hasS at this; rw [getD_at hc] at this; simpa using this
      repeat (first
    | (apply s_bind; exact rfl; exact rfl; exact rfl; exact rfl; exact rfl; exact rfl; exact eqs_f (by first | assumption | exact fun e => absurd e.symm (by assumption)))
    | (apply s_a TY; exact rfl)
    | (apply s_t; exact rfl; (first | assumption | omega))
    | apply w_seq
    | apply w_region
    | apply s_nil
    | apply t_norm
    | apply k_norm
    | apply w_block
    | apply w_skip
    | (apply w_condT; exact rfl; exact rfl)
    | (apply w_condF; exact rfl; exact rfl)
    | (apply s_c TY; exact rfl; (first | omega | exact ⟨by omega, by (first | with_reducible assumption | ((with_reducible apply strsF_ne); omega) | assumption)⟩))
    | (apply s_l TY; exact rfl; (first | exact rfl | with_reducible assumption | ((with_reducible apply strsF_at); omega) | assumption)))
      exact ⟨k + 1, by omega, by omega, gh_le ⟨le_upd rfl trivial (le_upd rfl trivial (le_upd rfl trivial (le_upd rfl trivial (le_nil _)))), le_h0 _ _⟩⟩
    · repeat (first
    | (apply s_a TY; exact rfl)
    | (apply s_f; exact rfl; (first | assumption | omega))
    | apply w_seq
    | apply w_region
    | apply s_nil
    | apply t_norm
    | apply t_exit
    | apply k_hit
    | apply w_exit
    | apply w_ret
    | (apply w_condF; exact rfl; exact rfl))
      exact lv_ret (ret1 rfl (res_tmp rfl))
  · rw [he]
    refine summW Tryz.func302 rfl rfl 19 rfl (by simp) (fun M0 => ?_)
    repeat (first
    | (apply s_a TY; exact rfl)
    | apply w_seq
    | apply w_region
    | apply s_nil
    | apply t_norm
    | apply w_block)
    apply w_loop (fun k : Nat => ⟨(Ab.upd (Ab.upd (Ab.upd (Ab.upd (fun _ => .bot) 0 (.f (.sl l.length (strsF l)))) 1 (.f (sv n))) 7 (.f (iv l.length))) 8 (.f (iv ((k : Nat) : Int)))), (fun _ => none), 0⟩) (fun k => k ≤ q) (fun k => q - k) 0 (Nat.zero_le _) (gh_le ⟨le_upd rfl trivial (le_upd rfl trivial (le_upd rfl trivial (le_upd rfl trivial (le_nil _)))), le_h0 _ _⟩)
    intro k hk
    have hc : k < l.length := by omega
    by_cases hkq : k = q
    · have he2 : l[k] = n := by have := hp; unfold hasS at this; rw [← hkq, getD_at hc] at this; simpa using this
      subst hkq
      repeat (first
    | (apply s_bind; exact rfl; exact rfl; exact rfl; exact rfl; exact rfl; exact rfl; exact eqs_t (by first | assumption | exact Eq.symm (by assumption)))
    | (apply s_a TY; exact rfl)
    | (apply s_t; exact rfl; (first | assumption | omega))
    | apply w_seq
    | apply w_region
    | apply s_nil
    | apply t_norm
    | apply t_ret
    | apply k_ret
    | apply w_block
    | apply w_ret
    | apply w_skip
    | (apply w_condT; exact rfl; exact rfl)
    | (apply s_c TY; exact rfl; (first | omega | exact ⟨by omega, by (first | with_reducible assumption | ((with_reducible apply strsF_ne); omega) | assumption)⟩))
    | (apply s_l TY; exact rfl; (first | exact rfl | with_reducible assumption | ((with_reducible apply strsF_at); omega) | assumption)))
      exact lv_ret (ret1 rfl (res_tmp rfl))
    · have hne : ¬ l[k] = n := by have := hz k (by omega); unfold hasS at this; rw [getD_at hc] at this; simpa using this
      repeat (first
    | (apply s_bind; exact rfl; exact rfl; exact rfl; exact rfl; exact rfl; exact rfl; exact eqs_f (by first | assumption | exact fun e => absurd e.symm (by assumption)))
    | (apply s_a TY; exact rfl)
    | (apply s_t; exact rfl; (first | assumption | omega))
    | apply w_seq
    | apply w_region
    | apply s_nil
    | apply t_norm
    | apply k_norm
    | apply w_block
    | apply w_skip
    | (apply w_condT; exact rfl; exact rfl)
    | (apply w_condF; exact rfl; exact rfl)
    | (apply s_c TY; exact rfl; (first | omega | exact ⟨by omega, by (first | with_reducible assumption | ((with_reducible apply strsF_ne); omega) | assumption)⟩))
    | (apply s_l TY; exact rfl; (first | exact rfl | with_reducible assumption | ((with_reducible apply strsF_at); omega) | assumption)))
      exact ⟨k + 1, by omega, by omega, gh_le ⟨le_upd rfl trivial (le_upd rfl trivial (le_upd rfl trivial (le_upd rfl trivial (le_nil _)))), le_h0 _ _⟩⟩
set_option maxRecDepth 100000 in
theorem HasText_s (l : List Nm) (n : Nm) (hl : l.length ≤ 1000000) : Summ Tryz.prog GG 299 [.sl l.length (strsF l), sv n] (bv (l.contains n)) := by
  rw [← anyS_has]
  rcases idxP_cases l.length (hasS l n) with ⟨he, hz⟩ | ⟨q, hq, hz, hp, he⟩
  · rw [show anyP l.length (hasS l n) = false from Bool.eq_false_iff.2 fun h => by have := (idxP_pos _ _).2 h; rw [he] at this; omega]
    refine summW Tryz.func299 rfl rfl 18 rfl (by simp) (fun M0 => ?_)
    repeat (first
    | (apply s_a TY; exact rfl)
    | apply w_seq
    | apply w_region
    | apply s_nil
    | apply t_norm
    | apply w_block)
    apply w_loop (fun k : Nat => ⟨(Ab.upd (Ab.upd (Ab.upd (fun _ => .bot) 0 (.f (.sl l.length (strsF l)))) 1 (.f (sv n))) 5 (.f (iv ((k : Nat) : Int)))), (fun _ => none), 0⟩) (fun k => k ≤ l.length) (fun k => l.length - k) 0 (Nat.zero_le _) (gh_le ⟨le_upd rfl trivial (le_upd rfl trivial (le_upd rfl trivial (le_nil _))), le_h0 _ _⟩)
    intro k hk
    by_cases hc : k < l.length
    · have hne : ¬ l[k] = n := by have := hz k hc; unfold hasS at this; rw [getD_at hc] at this; simpa using this
      repeat (first
    | (apply s_bind; exact rfl; exact rfl; exact rfl; exact rfl; exact rfl; exact rfl; exact eqs_f (by first | assumption | exact fun e => absurd e.symm (by assumption)))
    | (apply s_a TY; exact rfl)
    | (apply s_t; exact rfl; (first | assumption | omega))
    | apply w_seq
    | apply w_region
    | apply s_nil
    | apply t_norm
    | apply k_norm
    | apply w_block
    | apply w_skip
    | (apply w_condT; exact rfl; exact rfl)
    | (apply w_condF; exact rfl; exact rfl)
    | (apply s_c TY; exact rfl; (first | omega | exact ⟨by omega, by (first | with_reducible assumption | ((with_reducible apply strsF_ne); omega) | assumption)⟩))
    | (apply s_l TY; exact rfl; (first | exact rfl | with_reducible assumption | ((with_reducible apply strsF_at); omega) | assumption)))
      exact ⟨k + 1, by omega, by omega, gh_le ⟨le_upd rfl trivial (le_upd rfl trivial (le_upd rfl trivial (le_nil _))), le_h0 _ _⟩⟩
    · repeat (first
    | (apply s_a TY; exact rfl)
    | (apply s_f; exact rfl; (first | assumption | omega))
    | apply w_seq
    | apply w_region
    | apply s_nil
    | apply t_norm
    | apply t_exit
    | apply k_hit
    | apply w_exit
    | apply w_ret
    | (apply w_condF; exact rfl; exact rfl))
      exact lv_ret (ret1 rfl (res_tmp rfl))
  · rw [show anyP l.length (hasS l n) = true from (idxP_pos _ _).1 (by rw [he]; omega)]
    refine summW Tryz.func299 rfl rfl 18 rfl (by simp) (fun M0 => ?_)
    repeat (first
    | (apply s_a TY; exact rfl)
    | apply w_seq
    | apply w_region
    | apply s_nil
    | apply t_norm
    | apply w_block)
    apply w_loop (fun k : Nat => ⟨(Ab.upd (Ab.upd (Ab.upd (fun _ => .bot) 0 (.f (.sl l.length (strsF l)))) 1 (.f (sv n))) 5 (.f (iv ((k : Nat) : Int)))), (fun _ => none), 0⟩) (fun k => k ≤ q) (fun k => q - k) 0 (Nat.zero_le _) (gh_le ⟨le_upd rfl trivial (le_upd rfl trivial (le_upd rfl trivial (le_nil _))), le_h0 _ _⟩)
    intro k hk
    have hc : k < l.length := by omega
    by_cases hkq : k = q
    · have he2 : l[k] = n := by have := hp; unfold hasS at this; rw [← hkq, getD_at hc] at this; simpa using this
      subst hkq
      repeat (first
    | (apply s_bind; exact rfl; exact rfl; exact rfl; exact rfl; exact rfl; exact rfl; exact eqs_t (by first | assumption | exact Eq.symm (by assumption)))
    | (apply s_a TY; exact rfl)
    | (apply s_t; exact rfl; (first | assumption | omega))
    | apply w_seq
    | apply w_region
    | apply s_nil
    | apply t_norm
    | apply t_ret
    | apply k_ret
    | apply w_block
    | apply w_ret
    | apply w_skip
    | (apply w_condT; exact rfl; exact rfl)
    | (apply s_c TY; exact rfl; (first | omega | exact ⟨by omega, by (first | with_reducible assumption | ((with_reducible apply strsF_ne); omega) | assumption)⟩))
    | (apply s_l TY; exact rfl; (first | exact rfl | with_reducible assumption | ((with_reducible apply strsF_at); omega) | assumption)))
      exact lv_ret (ret1 rfl (res_tmp rfl))
    · have hne : ¬ l[k] = n := by have := hz k (by omega); unfold hasS at this; rw [getD_at hc] at this; simpa using this
      repeat (first
    | (apply s_bind; exact rfl; exact rfl; exact rfl; exact rfl; exact rfl; exact rfl; exact eqs_f (by first | assumption | exact fun e => absurd e.symm (by assumption)))
    | (apply s_a TY; exact rfl)
    | (apply s_t; exact rfl; (first | assumption | omega))
    | apply w_seq
    | apply w_region
    | apply s_nil
    | apply t_norm
    | apply k_norm
    | apply w_block
    | apply w_skip
    | (apply w_condT; exact rfl; exact rfl)
    | (apply w_condF; exact rfl; exact rfl)
    | (apply s_c TY; exact rfl; (first | omega | exact ⟨by omega, by (first | with_reducible assumption | ((with_reducible apply strsF_ne); omega) | assumption)⟩))
    | (apply s_l TY; exact rfl; (first | exact rfl | with_reducible assumption | ((with_reducible apply strsF_at); omega) | assumption)))
      exact ⟨k + 1, by omega, by omega, gh_le ⟨le_upd rfl trivial (le_upd rfl trivial (le_upd rfl trivial (le_nil _))), le_h0 _ _⟩⟩
set_option maxRecDepth 100000 in
set_option maxHeartbeats 1600000 in
theorem Texts_s (a b : List Nm) (ha : a.length ≤ 1000000) (_hb : b.length ≤ 1000000) : Summ Tryz.prog GG 47 [.sl a.length (strsF a), .sl b.length (strsF b)] (bv (decide (a = b))) := by
  by_cases hl : a.length = b.length
  · refine summW Tryz.func47 rfl rfl 26 rfl (by simp) (fun M0 => ?_)
    repeat (first
    | (apply s_a TY; exact rfl)
    | (apply s_t; exact rfl; (first | assumption | omega))
    | apply w_seq
    | apply w_region
    | apply s_nil
    | apply t_norm
    | apply w_block
    | apply w_skip
    | (apply w_condF; exact rfl; exact rfl))
    apply w_loop (fun k : Nat => ⟨(Ab.upd (Ab.upd (Ab.upd (fun _ => .bot) 0 (.f (.sl a.length (strsF a)))) 1 (.f (.sl b.length (strsF b)))) 5 (.f (iv (k : Nat)))), (fun _ => none), 0⟩) (fun k => k ≤ a.length ∧ a.take k = b.take k) (fun k => a.length - k) 0 (⟨Nat.zero_le _, by simp⟩) (gh_le ⟨le_upd rfl trivial (le_upd rfl trivial (le_upd rfl trivial (le_nil _))), le_h0 _ _⟩)
    intro k ⟨hk, ht⟩
    by_cases hc : k < a.length
    · have hcb : k < b.length := by omega
      by_cases he : a[k] = b[k]
      · have hd : decide (a[k] = b[k]) = !false := by simp [he]
        repeat (first
    | (apply s_bind; exact rfl; exact rfl; exact rfl; exact rfl; exact rfl; exact rfl; exact nes_f he)
    | (apply s_a TY; exact rfl)
    | (apply s_t; exact rfl; (first | assumption | omega))
    | apply w_seq
    | apply w_region
    | (apply w_draw (id := 6) 8 rfl (by kernel_rfl))
    | apply s_nil
    | apply t_norm
    | apply k_norm
    | apply w_block
    | apply w_skip
    | (apply w_condT; exact rfl; exact rfl)
    | (apply w_condF; exact rfl; exact rfl)
    | (apply s_c TY; exact rfl; (first | omega | exact ⟨by omega, by (first | with_reducible assumption | ((with_reducible apply strsF_ne); omega) | assumption)⟩))
    | (apply s_l TY; exact rfl; (first | exact rfl | with_reducible assumption | ((with_reducible apply strsF_at); omega) | assumption)))
        exact ⟨k + 1, ⟨by omega, take_eq_succ hc hcb ht he⟩, by omega, gh_le ⟨le_upd rfl trivial (le_upd rfl trivial (le_upd rfl trivial (le_nil _))), le_h0 _ _⟩⟩
      · have hd : decide (a[k] = b[k]) = !true := by simp [he]
        have hne : ¬ a = b := fun e => he (by simp [e])
        rw [decide_eq_false hne]
        repeat (first
    | (apply s_bind; exact rfl; exact rfl; exact rfl; exact rfl; exact rfl; exact rfl; exact nes_t he)
    | (apply s_a TY; exact rfl)
    | (apply s_t; exact rfl; (first | assumption | omega))
    | apply w_seq
    | apply w_region
    | (apply w_draw (id := 6) 8 rfl (by kernel_rfl))
    | apply s_nil
    | apply t_norm
    | apply t_ret
    | apply k_ret
    | apply w_block
    | apply w_ret
    | apply w_skip
    | (apply w_condT; exact rfl; exact rfl)
    | (apply s_c TY; exact rfl; (first | omega | exact ⟨by omega, by (first | with_reducible assumption | ((with_reducible apply strsF_ne); omega) | assumption)⟩))
    | (apply s_l TY; exact rfl; (first | exact rfl | with_reducible assumption | ((with_reducible apply strsF_at); omega) | assumption)))
        exact lv_ret (ret1 rfl (res_tmp rfl))
    · rw [decide_eq_true (take_all_eq hl (by omega) ht)]
      repeat (first
    | (apply s_a TY; exact rfl)
    | (apply s_f; exact rfl; (first | assumption | omega))
    | apply w_seq
    | apply w_region
    | apply s_nil
    | apply t_norm
    | apply t_exit
    | apply k_hit
    | apply w_exit
    | apply w_ret
    | (apply w_condF; exact rfl; exact rfl))
      exact lv_ret (ret1 rfl (res_tmp rfl))
  · have hne : ¬ a = b := fun e => hl (by rw [e])
    rw [decide_eq_false hne]
    refine summW Tryz.func47 rfl rfl 26 rfl (by simp) (fun M0 => ?_)
    repeat (first
    | (apply s_a TY; exact rfl)
    | (apply s_f; exact rfl; (first | assumption | omega))
    | apply w_seq
    | apply w_region
    | apply s_nil
    | apply t_norm
    | apply t_ret
    | apply w_ret
    | (apply w_condT; exact rfl; exact rfl))
    exact lv_ret (ret1 rfl (res_tmp rfl))
def hasCB (k : Int) : Bool := decide (k = 2) || decide (k = 3)
theorem hasCells_s (k : Int) : Summ Tryz.prog GG 301 [iv k] (bv (hasCB k)) := by
  by_cases h2 : k = 2
  · rw [show hasCB k = true by simp [hasCB, h2]]
    refine summW Tryz.func301 rfl rfl 9 rfl (by simp) (fun M0 => ?_)
    repeat (first
    | (apply s_a TY; exact rfl)
    | (apply s_t; exact rfl; (first | assumption | omega))
    | apply w_seq
    | apply w_region
    | apply s_nil
    | apply t_norm
    | apply w_ret
    | (apply s_s; exact rfl))
    exact lv_ret (ret1 rfl (res_tmp rfl))
  by_cases h3 : k = 3
  · rw [show hasCB k = true by simp [hasCB, h3]]
    refine summW Tryz.func301 rfl rfl 9 rfl (by simp) (fun M0 => ?_)
    repeat (first
    | (apply s_a TY; exact rfl)
    | (apply s_t; exact rfl; (first | assumption | omega))
    | (apply s_f; exact rfl; (first | assumption | omega))
    | apply w_seq
    | apply w_region
    | apply s_nil
    | apply t_norm
    | apply w_ret)
    exact lv_ret (ret1 rfl (res_tmp rfl))
  · rw [show hasCB k = false by simp [hasCB, h2, h3]]
    refine summW Tryz.func301 rfl rfl 9 rfl (by simp) (fun M0 => ?_)
    repeat (first
    | (apply s_a TY; exact rfl)
    | (apply s_f; exact rfl; (first | assumption | omega))
    | apply w_seq
    | apply w_region
    | apply s_nil
    | apply t_norm
    | apply w_ret)
    exact lv_ret (ret1 rfl (res_tmp rfl))
def orN (n : Nat) : Nat := n ||| 32
theorem orN_iff : ∀ n, n < 256 → ((97 ≤ orN n ∧ orN n ≤ 122) ↔ ((97 ≤ n ∧ n ≤ 122) ∨ (65 ≤ n ∧ n ≤ 90))) ∧ orN n < 256 := by decide +kernel
theorem or_run {x y : Operand} {T : TypeId} {n : Nat} (h : n < 256) (w : World) : (do eqGuard .or T x y (.int .u8 (n : Int)) (.int .u8 32); binOp .or T (.int .u8 (n : Int)) (.int .u8 32) : Sem Value).run Tryz.prog w = .ok (.int .u8 (orN n : Nat)) w := by
  have e : (BitVec.ofInt 8 (n : Int) ||| BitVec.ofInt 8 (32 : Int)).toNat = orN n := by
    rw [BitVec.ofInt_natCast, BitVec.toNat_or, BitVec.toNat_ofNat, Nat.mod_eq_of_lt (by omega)]
    rfl
  have hw : ∀ m : Nat, m < 256 → IntKind.u8.wrap ((m : Nat) : Int) = m := by decide +kernel
  simp only [eqGuard, binOp, Op.intBits]
  simp
  show IntKind.u8.wrap ((BitVec.ofInt 8 (n : Int) ||| BitVec.ofInt 8 (32 : Int)).toNat : Int) = _
  rw [e]; exact hw _ (orN_iff n h).2
theorem conv_run {n : Nat} (h : n < 256) (w : World) : (convert 5 3 (.int .u8 (n : Int))).run Tryz.prog w = .ok (.int .i64 (n : Nat)) w := by
  have e : IntKind.i64.wrap ((n : Nat) : Int) = n := wrapN (by omega)
  simp [convert, run_underlying Tryz.underlying5, run_underlying Tryz.underlying3, Conv.intToInt, e]
def badC (n i : Nat) : Bool := !(decide (97 ≤ n ∧ n ≤ 122) || decide (65 ≤ n ∧ n ≤ 90)) && (decide (i = 0) || !(decide (n = 45) || decide (48 ≤ n ∧ n ≤ 57)))
theorem badC_t {n i : Nat} : badC n i = true ↔ ¬ ((97 ≤ n ∧ n ≤ 122) ∨ (65 ≤ n ∧ n ≤ 90)) ∧ (i = 0 ∨ ¬ (n = 45 ∨ (48 ≤ n ∧ n ≤ 57))) := by
  unfold badC
  simp only [Bool.and_eq_true, Bool.or_eq_true, Bool.not_eq_true', Bool.or_eq_false_iff, decide_eq_true_eq, decide_eq_false_iff_not]
  omega
theorem badC_f {n i : Nat} : badC n i = false ↔ ((97 ≤ n ∧ n ≤ 122) ∨ (65 ≤ n ∧ n ≤ 90)) ∨ (i ≠ 0 ∧ (n = 45 ∨ (48 ≤ n ∧ n ≤ 57))) := by
  rw [Bool.eq_false_iff, ne_eq, badC_t]
  omega
def badS (s : Nm) (i : Nat) : Bool := badC (s.getD i default).toNat i
def nameB (s : Nm) : Bool := decide (1 ≤ s.length ∧ s.length ≤ 12) && !anyP s.length (badS s)
theorem nameB_ok {s : Nm} (h : ∀ i, i < s.length → badS s i = false) : nameB s = withinB s.length 1 12 := by
  have : anyP s.length (badS s) = false := Bool.eq_false_iff.2 fun hh => by
    obtain ⟨i, h1, h2⟩ := anyP_iff.1 hh
    rw [h i h1] at h2; cases h2
  unfold nameB withinB
  rw [this, Bool.not_false, Bool.and_true, Bool.eq_iff_iff]
  simp only [decide_eq_true_eq, Bool.and_eq_true]
  omega
theorem nameB_bad {s : Nm} {i : Nat} (hi : i < s.length) (h : badS s i = true) : nameB s = false := by
  unfold nameB
  rw [anyP_iff.2 ⟨i, hi, h⟩]; simp
theorem nameB_len {s : Nm} (h : ¬ (1 ≤ s.length ∧ s.length ≤ 12)) : nameB s = false := by
  unfold nameB; rw [decide_eq_false h]; rfl
theorem badS_of {s : Nm} {i n : Nat} (hi : i < s.length) (hn : s[i].toNat = n) {b : Bool} (h : badC n i = b) : badS s i = b := by
  unfold badS; rw [getD_at hi, hn]; exact h
set_option maxRecDepth 100000 in
set_option maxHeartbeats 3200000 in
theorem isName_s (s : Nm) (hl : s.length ≤ 1000000) : Summ Tryz.prog GG 148 [sv s] (bv (nameB s)) := by
  have hsz := strSz s
  refine summW Tryz.func148 rfl rfl 38 rfl (by simp) (fun M0 => ?_)
  repeat (first
    | (apply s_bytes Tryz.underlying9 Tryz.underlying362 Tryz.underlying5; exact rfl; exact rfl; exact rfl)
    | (apply s_a TY; exact rfl)
    | apply w_seq
    | apply w_region
    | apply s_nil
    | apply t_norm
    | apply w_block)
  apply w_loop (fun k : Nat => ⟨(Ab.upd (Ab.upd (Ab.upd (Ab.upd (fun _ => .bot) 0 (.f (sv s))) 7 (.f (.sl s.length (bytesF s)))) 8 (.f (iv s.length))) 9 (.f (iv (k : Nat)))), (fun _ => none), 0⟩) (fun k => k ≤ s.length ∧ ∀ i, i < k → badS s i = false) (fun k => s.length - k) 0 (⟨Nat.zero_le _, fun i h => absurd h (Nat.not_lt_zero i)⟩) (gh_le ⟨le_upd rfl trivial (le_upd rfl trivial (le_upd rfl trivial (le_upd rfl trivial (le_nil _)))), le_h0 _ _⟩)
  intro k ⟨hk, hz⟩
  by_cases hc : k < s.length
  · have hby := bytesF_at hc
    have hbn := bytesF_ne hc
    have hlt : s[k].toNat < 256 := s[k].toNat_lt
    generalize hn : s[k].toNat = n at hby hlt
    have hon := orN_iff n hlt
    have hor := hon.2
    have hoi := hon.1
    by_cases hL : (97 ≤ n ∧ n ≤ 122) ∨ (65 ≤ n ∧ n ≤ 90)
    · have hbad : badS s k = false := badS_of hc hn (badC_f.2 (by omega))
      repeat (first
    | (apply s_bind; exact rfl; exact rfl; exact rfl; exact rfl; exact rfl; exact rfl; exact or_run hlt)
    | (apply s_convW; exact rfl; exact rfl; exact rfl; first | exact conv_run hor | exact conv_run hlt)
    | (apply s_l TY; exact rfl; exact hby)
    | (apply s_c TY; exact rfl; exact ⟨by omega, hbn⟩)
    | (apply s_a TY; exact rfl)
    | (apply s_t; exact rfl; (first | assumption | omega))
    | apply w_seq
    | apply w_region
    | apply s_nil
    | apply t_norm
    | apply k_norm
    | apply w_block
    | apply w_skip
    | (apply w_condT; exact rfl; exact rfl)
    | (apply w_condF; exact rfl; exact rfl)
    | (apply s_k1 (within_T _ _ _); exact rfl; (first | assumption | omega | decide))
    | (apply s_s; exact rfl)
    | (apply s_c TY; exact rfl; (first | omega | exact ⟨by omega, by (first | with_reducible assumption | ((with_reducible apply bytesF_ne); omega) | assumption)⟩)))
      exact ⟨k + 1, ⟨by omega, fun i hi => by
        by_cases e : i = k
        · subst e; exact hbad
        · exact hz i (by omega)⟩, by omega, gh_le ⟨le_upd rfl trivial (le_upd rfl trivial (le_upd rfl trivial (le_upd rfl trivial (le_nil _)))), le_h0 _ _⟩⟩
    · by_cases h0 : k = 0
      · have hbad : badS s k = true := badS_of hc hn (badC_t.2 (by omega))
        rw [nameB_bad hc hbad]
        repeat (first
    | (apply s_bind; exact rfl; exact rfl; exact rfl; exact rfl; exact rfl; exact rfl; exact or_run hlt)
    | (apply s_convW; exact rfl; exact rfl; exact rfl; first | exact conv_run hor | exact conv_run hlt)
    | (apply s_l TY; exact rfl; exact hby)
    | (apply s_c TY; exact rfl; exact ⟨by omega, hbn⟩)
    | (apply s_a TY; exact rfl)
    | (apply s_t; exact rfl; (first | assumption | omega))
    | apply w_seq
    | apply w_region
    | apply s_nil
    | apply t_norm
    | apply t_ret
    | apply k_ret
    | apply w_block
    | apply w_ret
    | apply w_skip
    | (apply w_condT; exact rfl; exact rfl)
    | (apply s_k1 (within_F _ _ _); exact rfl; (first | assumption | omega | decide))
    | (apply s_s; exact rfl))
        exact lv_ret (ret1 rfl (res_tmp rfl))
      · by_cases h45 : n = 45
        · have hbad : badS s k = false := badS_of hc hn (badC_f.2 (by omega))
          repeat (first
    | (apply s_bind; exact rfl; exact rfl; exact rfl; exact rfl; exact rfl; exact rfl; exact or_run hlt)
    | (apply s_convW; exact rfl; exact rfl; exact rfl; first | exact conv_run hor | exact conv_run hlt)
    | (apply s_l TY; exact rfl; exact hby)
    | (apply s_c TY; exact rfl; exact ⟨by omega, hbn⟩)
    | (apply s_a TY; exact rfl)
    | (apply s_t; exact rfl; (first | assumption | omega))
    | (apply s_f; exact rfl; (first | assumption | omega))
    | apply w_seq
    | apply w_region
    | apply s_nil
    | apply t_norm
    | apply k_norm
    | apply w_block
    | apply w_skip
    | (apply w_condT; exact rfl; exact rfl)
    | (apply w_condF; exact rfl; exact rfl)
    | (apply s_k1 (within_F _ _ _); exact rfl; (first | assumption | omega | decide))
    | (apply s_s; exact rfl)
    | (apply s_c TY; exact rfl; (first | omega | exact ⟨by omega, by (first | with_reducible assumption | ((with_reducible apply bytesF_ne); omega) | assumption)⟩)))
          exact ⟨k + 1, ⟨by omega, fun i hi => by
            by_cases e : i = k
            · subst e; exact hbad
            · exact hz i (by omega)⟩, by omega, gh_le ⟨le_upd rfl trivial (le_upd rfl trivial (le_upd rfl trivial (le_upd rfl trivial (le_nil _)))), le_h0 _ _⟩⟩
        · by_cases hd : 48 ≤ n ∧ n ≤ 57
          · have hbad : badS s k = false := badS_of hc hn (badC_f.2 (by omega))
            repeat (first
    | (apply s_bind; exact rfl; exact rfl; exact rfl; exact rfl; exact rfl; exact rfl; exact or_run hlt)
    | (apply s_convW; exact rfl; exact rfl; exact rfl; first | exact conv_run hor | exact conv_run hlt)
    | (apply s_l TY; exact rfl; exact hby)
    | (apply s_c TY; exact rfl; exact ⟨by omega, hbn⟩)
    | (apply s_a TY; exact rfl)
    | (apply s_t; exact rfl; (first | assumption | omega))
    | (apply s_f; exact rfl; (first | assumption | omega))
    | apply w_seq
    | apply w_region
    | apply s_nil
    | apply t_norm
    | apply k_norm
    | apply w_block
    | apply w_skip
    | (apply w_condT; exact rfl; exact rfl)
    | (apply w_condF; exact rfl; exact rfl)
    | (apply s_k1 (within_T _ _ _); exact rfl; (first | assumption | omega | decide))
    | (apply s_k1 (within_F _ _ _); exact rfl; (first | assumption | omega | decide))
    | (apply s_c TY; exact rfl; (first | omega | exact ⟨by omega, by (first | with_reducible assumption | ((with_reducible apply bytesF_ne); omega) | assumption)⟩)))
            exact ⟨k + 1, ⟨by omega, fun i hi => by
              by_cases e : i = k
              · subst e; exact hbad
              · exact hz i (by omega)⟩, by omega, gh_le ⟨le_upd rfl trivial (le_upd rfl trivial (le_upd rfl trivial (le_upd rfl trivial (le_nil _)))), le_h0 _ _⟩⟩
          · have hbad : badS s k = true := badS_of hc hn (badC_t.2 (by omega))
            rw [nameB_bad hc hbad]
            repeat (first
    | (apply s_bind; exact rfl; exact rfl; exact rfl; exact rfl; exact rfl; exact rfl; exact or_run hlt)
    | (apply s_convW; exact rfl; exact rfl; exact rfl; first | exact conv_run hor | exact conv_run hlt)
    | (apply s_l TY; exact rfl; exact hby)
    | (apply s_c TY; exact rfl; exact ⟨by omega, hbn⟩)
    | (apply s_a TY; exact rfl)
    | (apply s_t; exact rfl; (first | assumption | omega))
    | (apply s_f; exact rfl; (first | assumption | omega))
    | apply w_seq
    | apply w_region
    | apply s_nil
    | apply t_norm
    | apply t_ret
    | apply k_ret
    | apply w_block
    | apply w_ret
    | apply w_skip
    | (apply w_condT; exact rfl; exact rfl)
    | (apply s_k1 (within_F _ _ _); exact rfl; (first | assumption | omega | decide)))
            exact lv_ret (ret1 rfl (res_tmp rfl))
  · rw [nameB_ok fun i hi => hz i (by omega)]
    by_cases h12 : 1 ≤ (s.length : Int) ∧ (s.length : Int) ≤ 12
    · rw [show withinB (s.length : Int) 1 12 = true by simp [withinB]; omega]
      repeat (first
    | (apply s_a TY; exact rfl)
    | (apply s_f; exact rfl; (first | assumption | omega))
    | apply w_seq
    | apply w_region
    | apply s_nil
    | apply t_norm
    | apply t_exit
    | apply k_hit
    | apply w_exit
    | apply w_ret
    | (apply w_condF; exact rfl; exact rfl)
    | (apply s_k1 (within_T _ _ _); exact rfl; (first | assumption | omega | decide)))
      exact lv_ret (ret1 rfl (res_tmp rfl))
    · rw [show withinB (s.length : Int) 1 12 = false by simp [withinB]; omega]
      repeat (first
    | (apply s_a TY; exact rfl)
    | (apply s_f; exact rfl; (first | assumption | omega))
    | apply w_seq
    | apply w_region
    | apply s_nil
    | apply t_norm
    | apply t_exit
    | apply k_hit
    | apply w_exit
    | apply w_ret
    | (apply w_condF; exact rfl; exact rfl)
    | (apply s_k1 (within_F _ _ _); exact rfl; (first | assumption | omega | decide)))
      exact lv_ret (ret1 rfl (res_tmp rfl))
set_option maxRecDepth 100000 in
set_option maxHeartbeats 3200000 in
theorem IsName_s (s : Nm) : Summ Tryz.prog GG 209 [sv s] (bv (nameB s)) := by
  have hsz := strSz s
  by_cases h1 : 1 ≤ s.length
  case neg =>
    rw [nameB_len (fun h => h1 h.1)]
    refine summW Tryz.func209 rfl rfl 55 rfl (by simp) (fun M0 => ?_)
    repeat (first
    | (apply s_a TY; exact rfl)
    | (apply s_t; exact rfl; (first | assumption | omega))
    | apply w_seq
    | apply w_region
    | apply s_nil
    | apply t_norm
    | apply t_ret
    | apply w_ret
    | (apply w_condT; exact rfl; exact rfl)
    | (apply s_s; exact rfl))
    exact lv_ret (ret1 rfl (res_tmp rfl))
  by_cases h2 : s.length ≤ 12
  case neg =>
    rw [nameB_len (fun h => h2 h.2)]
    refine summW Tryz.func209 rfl rfl 55 rfl (by simp) (fun M0 => ?_)
    repeat (first
    | (apply s_a TY; exact rfl)
    | (apply s_t; exact rfl; (first | assumption | omega))
    | (apply s_f; exact rfl; (first | assumption | omega))
    | apply w_seq
    | apply w_region
    | apply s_nil
    | apply t_norm
    | apply t_ret
    | apply w_ret
    | (apply w_condT; exact rfl; exact rfl))
    exact lv_ret (ret1 rfl (res_tmp rfl))
  refine summW Tryz.func209 rfl rfl 55 rfl (by simp) (fun M0 => ?_)
  repeat (first
    | (apply s_a TY; exact rfl)
    | (apply s_f; exact rfl; (first | assumption | omega))
    | apply w_seq
    | apply w_region
    | apply s_nil
    | apply t_norm
    | apply w_block
    | apply w_skip
    | (apply w_condF; exact rfl; exact rfl))
  apply w_loop (fun k : Nat => ⟨(Ab.upd (Ab.upd (fun _ => .bot) 0 (.f (sv s))) 3 (.f (iv (k : Nat)))), (fun _ => none), 0⟩) (fun k => k ≤ s.length ∧ ∀ i, i < k → badS s i = false) (fun k => s.length - k) 0 (⟨Nat.zero_le _, fun i h => absurd h (Nat.not_lt_zero i)⟩) (gh_le ⟨le_upd rfl trivial (le_upd rfl trivial (le_nil _)), le_h0 _ _⟩)
  intro k ⟨hk, hz⟩
  by_cases hc : k < s.length
  · have hby : (⟨s.toArray⟩ : ByteArray)[((k : Nat) : Int).toNat]? = some s[k] := by
      rw [Int.toNat_natCast, getElem?_pos (⟨s.toArray⟩ : ByteArray) k (by rw [hsz]; exact hc)]
      show some (s.toArray[k]) = _
      simp
    have hlt : s[k].toNat < 256 := s[k].toNat_lt
    generalize hn : s[k].toNat = n at hlt
    by_cases hx : 97 ≤ n
    · by_cases hy : n ≤ 122
      · have hbad : badS s k = false := badS_of hc hn (badC_f.2 (by omega))
        repeat (first
    | (apply s_index_str TY; exact rfl; exact rfl; exact rfl; exact rfl; omega; exact hby)
    | (apply s_a TY; exact rfl)
    | (apply s_t; exact rfl; (first | assumption | omega))
    | apply w_seq
    | apply w_region
    | apply s_nil
    | apply t_norm
    | apply k_norm
    | apply w_block
    | apply w_skip
    | (apply w_condT; exact rfl; exact rfl)
    | (apply w_condF; exact rfl; exact rfl)
    | (apply s_s; exact rfl)
    | (apply s_c TY; exact rfl; omega))
        exact ⟨k + 1, ⟨by omega, fun i hi => by
          by_cases e : i = k
          · subst e; exact hbad
          · exact hz i (by omega)⟩, by omega, gh_le ⟨le_upd rfl trivial (le_upd rfl trivial (le_nil _)), le_h0 _ _⟩⟩
      · by_cases h0 : k = 0
        · have hbad : badS s k = true := badS_of hc hn (badC_t.2 (by omega))
          rw [nameB_bad hc hbad]
          repeat (first
    | (apply s_index_str TY; exact rfl; exact rfl; exact rfl; exact rfl; omega; exact hby)
    | (apply s_a TY; exact rfl)
    | (apply s_t; exact rfl; (first | assumption | omega))
    | (apply s_f; exact rfl; (first | assumption | omega))
    | apply w_seq
    | apply w_region
    | apply s_nil
    | apply t_norm
    | apply t_ret
    | apply k_ret
    | apply w_block
    | apply w_ret
    | apply w_skip
    | (apply w_condT; exact rfl; exact rfl)
    | (apply s_s; exact rfl))
          exact lv_ret (ret1 rfl (res_tmp rfl))
        · have hbad : badS s k = true := badS_of hc hn (badC_t.2 (by omega))
          rw [nameB_bad hc hbad]
          repeat (first
    | (apply s_index_str TY; exact rfl; exact rfl; exact rfl; exact rfl; omega; exact hby)
    | (apply s_a TY; exact rfl)
    | (apply s_t; exact rfl; (first | assumption | omega))
    | (apply s_f; exact rfl; (first | assumption | omega))
    | apply w_seq
    | apply w_region
    | apply s_nil
    | apply t_norm
    | apply t_ret
    | apply k_ret
    | apply w_block
    | apply w_ret
    | apply w_skip
    | (apply w_condT; exact rfl; exact rfl))
          exact lv_ret (ret1 rfl (res_tmp rfl))
    · by_cases hu : 65 ≤ n
      · by_cases hv : n ≤ 90
        · have hbad : badS s k = false := badS_of hc hn (badC_f.2 (by omega))
          repeat (first
    | (apply s_index_str TY; exact rfl; exact rfl; exact rfl; exact rfl; omega; exact hby)
    | (apply s_a TY; exact rfl)
    | (apply s_t; exact rfl; (first | assumption | omega))
    | (apply s_f; exact rfl; (first | assumption | omega))
    | apply w_seq
    | apply w_region
    | apply s_nil
    | apply t_norm
    | apply k_norm
    | apply w_block
    | apply w_skip
    | (apply w_condT; exact rfl; exact rfl)
    | (apply w_condF; exact rfl; exact rfl)
    | (apply s_s; exact rfl)
    | (apply s_c TY; exact rfl; omega))
          exact ⟨k + 1, ⟨by omega, fun i hi => by
            by_cases e : i = k
            · subst e; exact hbad
            · exact hz i (by omega)⟩, by omega, gh_le ⟨le_upd rfl trivial (le_upd rfl trivial (le_nil _)), le_h0 _ _⟩⟩
        · by_cases h0 : k = 0
          · have hbad : badS s k = true := badS_of hc hn (badC_t.2 (by omega))
            rw [nameB_bad hc hbad]
            repeat (first
    | (apply s_index_str TY; exact rfl; exact rfl; exact rfl; exact rfl; omega; exact hby)
    | (apply s_a TY; exact rfl)
    | (apply s_t; exact rfl; (first | assumption | omega))
    | (apply s_f; exact rfl; (first | assumption | omega))
    | apply w_seq
    | apply w_region
    | apply s_nil
    | apply t_norm
    | apply t_ret
    | apply k_ret
    | apply w_block
    | apply w_ret
    | apply w_skip
    | (apply w_condT; exact rfl; exact rfl)
    | (apply s_s; exact rfl))
            exact lv_ret (ret1 rfl (res_tmp rfl))
          · have hbad : badS s k = true := badS_of hc hn (badC_t.2 (by omega))
            rw [nameB_bad hc hbad]
            repeat (first
    | (apply s_index_str TY; exact rfl; exact rfl; exact rfl; exact rfl; omega; exact hby)
    | (apply s_a TY; exact rfl)
    | (apply s_t; exact rfl; (first | assumption | omega))
    | (apply s_f; exact rfl; (first | assumption | omega))
    | apply w_seq
    | apply w_region
    | apply s_nil
    | apply t_norm
    | apply t_ret
    | apply k_ret
    | apply w_block
    | apply w_ret
    | apply w_skip
    | (apply w_condT; exact rfl; exact rfl)
    | (apply s_s; exact rfl))
            exact lv_ret (ret1 rfl (res_tmp rfl))
      · by_cases h0 : k = 0
        · have hbad : badS s k = true := badS_of hc hn (badC_t.2 (by omega))
          rw [nameB_bad hc hbad]
          repeat (first
    | (apply s_index_str TY; exact rfl; exact rfl; exact rfl; exact rfl; omega; exact hby)
    | (apply s_a TY; exact rfl)
    | (apply s_t; exact rfl; (first | assumption | omega))
    | (apply s_f; exact rfl; (first | assumption | omega))
    | apply w_seq
    | apply w_region
    | apply s_nil
    | apply t_norm
    | apply t_ret
    | apply k_ret
    | apply w_block
    | apply w_ret
    | apply w_skip
    | (apply w_condT; exact rfl; exact rfl)
    | (apply s_s; exact rfl))
          exact lv_ret (ret1 rfl (res_tmp rfl))
        · by_cases h45 : n = 45
          · have hbad : badS s k = false := badS_of hc hn (badC_f.2 (by omega))
            repeat (first
    | (apply s_index_str TY; exact rfl; exact rfl; exact rfl; exact rfl; omega; exact hby)
    | (apply s_a TY; exact rfl)
    | (apply s_t; exact rfl; (first | assumption | omega))
    | (apply s_f; exact rfl; (first | assumption | omega))
    | apply w_seq
    | apply w_region
    | apply s_nil
    | apply t_norm
    | apply k_norm
    | apply w_block
    | apply w_skip
    | (apply w_condT; exact rfl; exact rfl)
    | (apply w_condF; exact rfl; exact rfl)
    | (apply s_s; exact rfl)
    | (apply s_c TY; exact rfl; omega))
            exact ⟨k + 1, ⟨by omega, fun i hi => by
              by_cases e : i = k
              · subst e; exact hbad
              · exact hz i (by omega)⟩, by omega, gh_le ⟨le_upd rfl trivial (le_upd rfl trivial (le_nil _)), le_h0 _ _⟩⟩
          · by_cases hp : n < 48
            · have hbad : badS s k = true := badS_of hc hn (badC_t.2 (by omega))
              rw [nameB_bad hc hbad]
              repeat (first
    | (apply s_index_str TY; exact rfl; exact rfl; exact rfl; exact rfl; omega; exact hby)
    | (apply s_a TY; exact rfl)
    | (apply s_t; exact rfl; (first | assumption | omega))
    | (apply s_f; exact rfl; (first | assumption | omega))
    | apply w_seq
    | apply w_region
    | apply s_nil
    | apply t_norm
    | apply t_ret
    | apply k_ret
    | apply w_block
    | apply w_ret
    | apply w_skip
    | (apply w_condT; exact rfl; exact rfl)
    | (apply s_s; exact rfl))
              exact lv_ret (ret1 rfl (res_tmp rfl))
            · by_cases hq : n ≤ 57
              · have hbad : badS s k = false := badS_of hc hn (badC_f.2 (by omega))
                repeat (first
    | (apply s_index_str TY; exact rfl; exact rfl; exact rfl; exact rfl; omega; exact hby)
    | (apply s_a TY; exact rfl)
    | (apply s_t; exact rfl; (first | assumption | omega))
    | (apply s_f; exact rfl; (first | assumption | omega))
    | apply w_seq
    | apply w_region
    | apply s_nil
    | apply t_norm
    | apply k_norm
    | apply w_block
    | apply w_skip
    | (apply w_condT; exact rfl; exact rfl)
    | (apply w_condF; exact rfl; exact rfl)
    | (apply s_s; exact rfl)
    | (apply s_c TY; exact rfl; omega))
                exact ⟨k + 1, ⟨by omega, fun i hi => by
                  by_cases e : i = k
                  · subst e; exact hbad
                  · exact hz i (by omega)⟩, by omega, gh_le ⟨le_upd rfl trivial (le_upd rfl trivial (le_nil _)), le_h0 _ _⟩⟩
              · have hbad : badS s k = true := badS_of hc hn (badC_t.2 (by omega))
                rw [nameB_bad hc hbad]
                repeat (first
    | (apply s_index_str TY; exact rfl; exact rfl; exact rfl; exact rfl; omega; exact hby)
    | (apply s_a TY; exact rfl)
    | (apply s_t; exact rfl; (first | assumption | omega))
    | (apply s_f; exact rfl; (first | assumption | omega))
    | apply w_seq
    | apply w_region
    | apply s_nil
    | apply t_norm
    | apply t_ret
    | apply k_ret
    | apply w_block
    | apply w_ret
    | apply w_skip
    | (apply w_condT; exact rfl; exact rfl)
    | (apply s_s; exact rfl))
                exact lv_ret (ret1 rfl (res_tmp rfl))
  · rw [nameB_ok fun i hi => hz i (by omega), show withinB (s.length : Int) 1 12 = true by simp [withinB]; omega]
    repeat (first
    | (apply s_a TY; exact rfl)
    | (apply s_f; exact rfl; (first | assumption | omega))
    | apply w_seq
    | apply w_region
    | apply s_nil
    | apply t_norm
    | apply t_exit
    | apply k_hit
    | apply w_exit
    | apply w_ret
    | (apply w_condF; exact rfl; exact rfl))
    exact lv_ret (ret1 rfl (res_tmp rfl))
end Go.Proofs.YtbkdjlahhcofmaaGreatDoor
namespace Go.Ab
open Go Go.RowKit Go.Shelf Go.Proofs
end Go.Ab
namespace Go.Ab
open Go Go.RowKit Go.Shelf Go.Proofs
def pin0 (J : Nat → Value) (i : Nat) : Option Value := bif Nat.beq i 0 then some (J 0) else none
def cxH (P : Program) (G : Nat → Option FV) (M X : Nat → Prop) (J : Nat → Value) : Ctx := ⟨P, G, M, X, none, pin0 J⟩
theorem pin0_some {J : Nat → Value} {i : Nat} {p : Value} (e : pin0 J i = some p) : i = 0 ∧ p = J 0 := by
  unfold pin0 at e
  cases hi : Nat.beq i 0 with
  | false => rw [hi] at e; cases e
  | true => rw [hi] at e; cases e; exact ⟨Nat.eq_of_beq_eq_true hi, rfl⟩
structure SummH (P : Program) (G : Nat → Option FV) (g : Nat) (h : Nat → Option Blk) (args : List AV) (ret : AV) (h' : Nat → Option Blk) : Prop where
  enters : Enters P g
  one : ∃ B B', h 0 = some B ∧ B.stays = true ∧ h' 0 = some B' ∧ B'.stays = true
  cl : ∀ i B, h i = some B → closedB h B
  call : ∀ (w : World) (M X : Nat → Prop) (us : List Value) (J : Nat → Value), (∀ b, X b ↔ ownM h J b) → (∀ b, M b → b < w.heap.size ∧ ¬ X b) → (∀ k, G k = none) →
    RepAs (cxH P G M X J) w h J us args → (∀ i B, h i = some B → RepB (cxH P G M X J) w w.heap.size h J (J i) B) → (∀ i j b, (h i).isSome = true → (h j).isSome = true → bk (J i) = some b → bk (J j) = some b → i = j) →
    Calls P g us.toArray w fun en w' => ∃ v J', en = .returned v ∧ RepA (cxH P G M X J) w' h' J' v ret ∧ (∀ i B, h' i = some B → RepB (cxH P G M X J) w' w.heap.size h' J' (J' i) B) ∧ (∀ i j b, (h' i).isSome = true → (h' j).isSome = true → bk (J' i) = some b → bk (J' j) = some b → i = j) ∧ Grew X w w' ∧ J' 0 = J 0
def RetH (C : Ctx) (N : Nat) (fn : Func) (ret : AV) (h' : Nat → Option Blk) (st : St) : Prop := ∃ s nx, Gh C N st ⟨s, h', nx⟩ ∧ ResG C N fn ret ⟨s, h', nx⟩
def LeavesH (C : Ctx) (N : Nat) (fn : Func) (ret : AV) (h' : Nat → Option Blk) : Exit → St → Prop
  | .normal, st => RetH C N fn ret h' st
  | .ret, st => RetH C N fn ret h' st
  | _, _ => False
def stH (h : Nat → Option Blk) (nx : Nat) (args : List AV) : St := ⟨fun t => match args[t]? with | some x => x | none => .bot, h, nx⟩
theorem summH_of {P : Program} {G : Nat → Option FV} {f : Nat} {fn : Func} {c : Code} {h h' : Nat → Option Blk} {args : List AV} {ret : AV} (nx : Nat) (hf : P.funcs[f]? = some fn) (hb : fn.body = some c) (hname : (fn.name == "runtime.NumGoroutine") = false) (N : Nat) (hn : fn.ntmps = N) (hl : args.length ≤ N)
    (h1 : ∃ B B', h 0 = some B ∧ B.stays = true ∧ h' 0 = some B' ∧ B'.stays = true) (hcl : ∀ i B, h i = some B → closedB h B)
    (hw : ∀ (M X : Nat → Prop) (J : Nat → Value), W (cxH P G M X J) N c (LeavesH (cxH P G M X J) N fn ret h') (stH h nx args)) : SummH P G f h args ret h' := by
  refine ⟨enters_of hf hname hb, h1, hcl, fun w M X us J hX hM hG R hB hA => ?_⟩
  refine calls_of_wp_marks hf hb (wpIn_wide.1 ((hw M X J).out w _ w _ ⟨J, Grew.refl _ _, ?_, ⟨trivial, fun _ => rfl⟩, fun t => ?_, hB, hA, hM, fun g cs hg => (by have h0 : G g = none := hG g; have h1 : G g = some cs := hg; rw [h0] at h1; cases h1), fun i p B hp _ _ => (by obtain ⟨rfl, rfl⟩ := pin0_some hp; rfl)⟩ ?_))
  · have := R.1; simp [hn]; omega
  · show RepA _ w _ _ ((us.toArray ++ Array.replicate (fn.ntmps - us.toArray.size) undef).getD t undef) (match args[t]? with | some x => x | none => .bot)
    cases ha : args[t]? with
    | none => trivial
    | some x =>
      have ht : t < us.length := by rw [R.1]; exact (List.getElem?_eq_some_iff.1 ha).1
      have : (us.toArray ++ Array.replicate (fn.ntmps - us.toArray.size) undef).getD t undef = us[t] := by
        rw [Array.getD_eq_getD_getElem?, Array.getElem?_append_left (by simpa using ht)]
        simp [ht]
      rw [this]
      exact R.2 t _ x (List.getElem?_eq_getElem ht) ha
  · intro en st' a' w' q S'
    obtain ⟨B1, B1', -, -, hB1', hs1'⟩ := h1
    have fin : RetH (cxH P G M X J) N fn ret h' st' → ∀ W', KeepsP Obj.stays w.heap.size w' W' → ∃ v, (results fn a'.tmps).run P W' = .ok v W' ∧ ∃ v' J', Ending.returned v = .returned v' ∧ RepA (cxH P G M X J) W' h' J' v' ret ∧ (∀ i B, h' i = some B → RepB (cxH P G M X J) W' w.heap.size h' J' (J' i) B) ∧ (∀ i j b, (h' i).isSome = true → (h' j).isSome = true → bk (J' i) = some b → bk (J' j) = some b → i = j) ∧ Grew X w W' ∧ J' 0 = J 0 := fun ⟨s, nx, g, q⟩ W' hkp => by
      obtain ⟨J1, S1⟩ := S'
      have S2 := S1.keeps0 hkp (Nat.le_refl _) (ds := []) ⟨trivial, fun _ => rfl⟩
      obtain ⟨J2, S3⟩ := g w { a' with defers := [] } W' ⟨J1, S2⟩
      obtain ⟨v, h1, h2⟩ := q w { a' with defers := [] } W' J2 S3
      exact ⟨v, h1, v, J2, rfl, h2, S3.blk, S3.apart, S3.ext, S3.fix 0 (J 0) B1' rfl hB1' hs1'⟩
    have hm : Marks w.heap.size w' a'.defers := let ⟨_, S2⟩ := S'; S2.defs.1
    cases en with
    | normal => exact bodyPostM_marksP (s := Obj.stays) (fun _ => rfl) _ hm (fin q)
    | ret => exact bodyPostM_marksP (s := Obj.stays) (fun _ => rfl) _ hm (fin q)
    | _ => exact q.elim
def keepC (h : Nat → Option Blk) : Cap → Option Cap
  | .f x => some (.f x)
  | .bx i off => bif Nat.beq i 0 || (h i).isNone then some (.bx i off) else none
  | .ow i => bif Nat.beq i 0 || (h i).isNone then some (.ow i) else none
  | .sv i off n => bif Nat.beq i 0 || (h i).isNone then some (.sv i off n) else none
def keepA (h : Nat → Option Blk) : AV → AV := AV.tr (keepC h)
def joinH (h h' h0 : Nat → Option Blk) (i : Nat) : Option Blk := match h' i with
  | some B => some B
  | none => match h i with
    | some _ => none
    | none => (h0 i).map (Blk.mapA (keepA h))
theorem RepB.convC {C C' : Ctx} {w : World} {base base' : Nat} {h h' : Nat → Option Blk} {J : Nat → Value} {v : Value} {B : Blk} (r : RepB C w base h J v B) (hc : closedB h' B) (hb : ∀ b, bk v = some b → (base' ≤ b ∨ C'.X b)) (conv : ∀ v x, RepA C w h J v x → closedA h' x → RepA C' w h' J v x) (hF : ∀ v x, RepF w (Mb C h J) v x → RepF w (Mb C' h' J) v x) : RepB C' w base' h' J v B := by
  cases B with
  | box cells =>
    obtain ⟨b, T, us, q1, q2, q3, q4, q5, q6⟩ := r
    exact ⟨b, T, us, q1, hb b (by rw [q1]; rfl), q3, q4, q5, fun k u x h1 h2 => conv _ _ (q6 k u x h1 h2) (hc x (List.mem_of_getElem? h2))⟩
  | row E sz m cells =>
    obtain ⟨xs, q1, q0, q2, q3⟩ := r
    exact ⟨xs, q1, fun b h => hb b h, q2, q3.1, fun k u x h1 h2 => hF _ _ (q3.2 k u x h1 h2)⟩
  | rowA E sz m cells =>
    obtain ⟨xs, q1, q0, q2, q3, q4⟩ := r
    exact ⟨xs, q1, fun b h => hb b h, q2, q3, fun k u x h1 h2 => conv _ _ (q4 k u x h1 h2) (hc x (List.mem_of_getElem? h2))⟩
  | arr E sz m cells =>
    obtain ⟨xs, q1, q0, q2, q3, q4⟩ := r
    exact ⟨xs, q1, fun b h => hb b h, q2, q3, fun k u x h1 h2 => conv _ _ (q4 k u x h1 h2) (hc x (List.mem_of_getElem? h2))⟩
  | map G =>
    obtain ⟨b, o, e, q1, q2, q3, q4⟩ := r
    exact ⟨b, o, e, hb b (by rw [e]; rfl), q2, q3, q4⟩
def closedL (h : Nat → Option Blk) : List AV → Prop
  | [] => True
  | x :: l => closedA h x ∧ closedL h l
theorem closedL_mem {h : Nat → Option Blk} : ∀ {l : List AV}, closedL h l → ∀ x ∈ l, closedA h x
  | [], _, x, hx => by simp at hx
  | y :: l, hl, x, hx => by
    rcases List.mem_cons.1 hx with rfl | hx
    · exact hl.1
    · exact closedL_mem hl.2 x hx
section
variable {C : Ctx} {N : Nat} {st : St}
theorem e_callH {o : Oper} {f : Operand} {args : Array Operand} {ts : Array TypeId} {g : Nat} {h h' : Nat → Option Blk} {ags caps : List AV} {ret : AV} (Kh : SummH C.P C.G g h ags ret h') (hG : ∀ k, C.G k = none) (ho : o.op = .call { callee := .value f, args := args, argTypes := ts }) (hd : dstB N o.dst = true) (hf : fnCaps (st.ev C f) = some (g, caps))
    (has : args.toList.map (st.ev C) ++ caps = ags) (hac : closedL h ags) (hh : ∀ i B, h i = some B → st.h i = some B) (hnew : ∀ i, h i = none → (h' i).isSome = true → st.h i = none) (hp : ∀ i p, C.J0 i = some p → i = 0) : EffOp C N o st (St.put ⟨fun t => keepA h (st.s t), joinH h h' st.h, st.nx⟩ o.dst ret) := by
  intro w0 a w ⟨J, S⟩ K1 Q hK
  obtain ⟨us, hv, hcap⟩ := fnCaps_rep (S.eval f) hf
  have hrun := callEnter (w := w) Kh.enters ho hv
  refine op_enter hrun ?_
  have hargs := RepAs.append (evs_rep S args.toList) hcap
  rw [has] at hargs
  obtain ⟨B0, B0', h0, s0, h0', s0'⟩ := Kh.one
  have live : ∀ i, (h i).isSome = true → (st.h i).isSome = true := fun i hi => by
    obtain ⟨B, hB⟩ := Option.isSome_iff_exists.1 hi
    rw [hh i B hB]; rfl
  let M : Nat → Prop := fun b => C.M0 b ∨ ∃ i, h i = none ∧ (st.h i).isSome = true ∧ bk (J i) = some b
  let X : Nat → Prop := ownM h J
  have hM : ∀ b, M b → b < w.heap.size ∧ ¬ X b := fun b hb => by
    rcases hb with hb | ⟨i, h1, h2, h3⟩
    · exact ⟨Nat.lt_of_lt_of_le (S.old b hb).1 S.ext.le, fun ⟨i, hi, hbi⟩ => m0_not S (live i hi) hbi hb⟩
    · refine ⟨(S.own_at h2 h3).2, fun ⟨j, hj, hbj⟩ => ?_⟩
      have := S.apart i j b h2 (live j hj) h3 hbj
      subst this; rw [h1] at hj; cases hj
  have mb1 : ∀ b, Mb (cxH C.P C.G M X J) h J b ↔ Mb C st.h J b := fun b => by
    constructor
    · rintro ((h1 | ⟨i, _, h2, h3⟩) | ⟨i, h1, h2⟩)
      · exact .inl h1
      · exact .inr ⟨i, h2, h3⟩
      · exact .inr ⟨i, live i h1, h2⟩
    · rintro (h1 | ⟨i, h1, h2⟩)
      · exact .inl (.inl h1)
      · cases hi : h i with
        | none => exact .inl (.inr ⟨i, hi, h1, h2⟩)
        | some B => exact .inr ⟨i, by rw [hi]; rfl, h2⟩
  have inF : ∀ u x, RepF w (Mb C st.h J) u x → RepF w (Mb (cxH C.P C.G M X J) h J) u x := fun u x q => RepF.ext q (Ext.refl _) (fun b _ hb => (mb1 b).1 hb)
  have inA : ∀ u x, RepA C w st.h J u x → closedA h x → RepA (cxH C.P C.G M X J) w h J u x := fun u x q hc => by
    refine q.sameP fun u c hm q => ?_
    have hcc := closed_parts hc c hm
    cases c with
    | f x => exact inF _ _ q
    | bx i off => exact ⟨hcc, q.2⟩
    | ow i => exact ⟨hcc, q.2⟩
    | sv i off n => exact ⟨hcc, q.2⟩
  refine Calls.mono (Kh.call w M X _ J (fun b => Iff.rfl) hM hG ⟨hargs.1, fun k u x h1 h2 => inA _ _ (hargs.2 k u x h1 h2) (closedL_mem hac x (List.mem_of_getElem? h2))⟩ (fun i B hB => (S.blk i B (hh i B hB)).convC (Kh.cl i B hB) (fun b hb => .inr ⟨i, by rw [hB]; rfl, hb⟩) inA inF) (fun i j b hi hj => S.apart i j b (live i hi) (live j hj))) ?_
  rintro en w' ⟨v, J', rfl, hret, hblk, hap, hg, hpin⟩
  let J2 : Nat → Value := fun i => match h' i with | some _ => J' i | none => J i
  have J2l : ∀ i, (h' i).isSome = true → J2 i = J' i := fun i hi => by
    obtain ⟨B, hB⟩ := Option.isSome_iff_exists.1 hi
    show (match h' i with | some _ => J' i | none => J i) = _; rw [hB]
  have J2f : ∀ i, h' i = none → J2 i = J i := fun i hi => by
    show (match h' i with | some _ => J' i | none => J i) = _; rw [hi]
  have jl : ∀ i, (h' i).isSome = true → joinH h h' st.h i = h' i := fun i hi => by
    obtain ⟨B, hB⟩ := Option.isSome_iff_exists.1 hi
    unfold joinH; rw [hB]
  have jf : ∀ i, h' i = none → h i = none → joinH h h' st.h i = (st.h i).map (Blk.mapA (keepA h)) := fun i h1 h2 => by unfold joinH; rw [h1, h2]
  have jd : ∀ i, h' i = none → (h i).isSome = true → joinH h h' st.h i = none := fun i h1 h2 => by
    obtain ⟨B, hB⟩ := Option.isSome_iff_exists.1 h2
    unfold joinH; rw [h1, hB]
  have jcase : ∀ i, (joinH h h' st.h i).isSome = true → ((h' i).isSome = true ∧ J2 i = J' i) ∨ (h' i = none ∧ h i = none ∧ (st.h i).isSome = true ∧ J2 i = J i) := fun i hi => by
    cases h1 : h' i with
    | some B => exact .inl ⟨rfl, J2l i (by rw [h1]; rfl)⟩
    | none =>
      cases h2 : h i with
      | some B => rw [jd i h1 (by rw [h2]; rfl)] at hi; cases hi
      | none =>
        rw [jf i h1 h2] at hi
        exact .inr ⟨rfl, rfl, by simpa using hi, J2f i h1⟩
  have mb2 : ∀ b, Mb C (joinH h h' st.h) J2 b → Mb (cxH C.P C.G M X J) h' J' b := fun b hb => by
    rcases hb with hb | ⟨i, hi, hbi⟩
    · exact .inl (.inl hb)
    · rcases jcase i hi with ⟨h1, h2⟩ | ⟨h1, h2, h3, h4⟩
      · rw [h2] at hbi; exact .inr ⟨i, h1, hbi⟩
      · rw [h4] at hbi; exact .inl (.inr ⟨i, h2, h3, hbi⟩)
  have hx : ∀ b, w.heap.size ≤ b ∨ X b → w0.heap.size ≤ b ∨ C.X b := fun b hb => by
    rcases hb with hb | ⟨i, hi, hbi⟩
    · exact .inl (Nat.le_trans S.ext.le hb)
    · exact (S.own_at (live i hi) hbi).1
  have mb3 : ∀ b, b < w.heap.size → Mb C (joinH h h' st.h) J2 b → Mb C st.h J b := fun b hb hm => by
    rcases hm with h0 | ⟨i, hi, hbi⟩
    · exact .inl h0
    · rcases jcase i hi with ⟨h1, h2⟩ | ⟨h1, h2, h3, h4⟩
      · rw [h2] at hbi
        obtain ⟨B, hB⟩ := Option.isSome_iff_exists.1 h1
        rcases ((hblk i B hB).ge hbi).1 with h5 | h5
        · omega
        · obtain ⟨j, hj, hbj⟩ := h5
          exact .inr ⟨j, live j hj, hbj⟩
      · rw [h4] at hbi; exact .inr ⟨i, h3, hbi⟩
  have same : ∀ b, b < w.heap.size → ¬ X b → w'.heap[b]? = w.heap[b]? := fun b hb hm => hg.block b hb hm
  have outF : ∀ u x, RepF w (Mb C st.h J) u x → RepF w' (Mb C (joinH h h' st.h) J2) u x := fun u x q => RepF.mono q (fun b hb hm => same b hb fun ⟨i, hi, hbi⟩ => hm (.inr ⟨i, live i hi, hbi⟩)) hg.le mb3
  have J20 : J2 0 = J 0 := by rw [J2l 0 (by rw [h0']; rfl)]; exact hpin
  have at_ : ∀ i, (Nat.beq i 0 || (h i).isNone) = true → (st.h i).isSome = true → (joinH h h' st.h i).isSome = true ∧ J2 i = J i := fun i hk hl => by
    by_cases e : i = 0
    · subst e; exact ⟨by rw [jl 0 (by rw [h0']; rfl), h0']; rfl, J20⟩
    · have hb0 : Nat.beq i 0 = false := by cases hb : Nat.beq i 0; rfl; exact absurd (Nat.eq_of_beq_eq_true hb) e
      rw [hb0, Bool.false_or] at hk
      have hn : h i = none := by simpa using hk
      cases h1 : h' i with
      | some B => rw [hnew i hn (by rw [h1]; rfl)] at hl; cases hl
      | none => exact ⟨by rw [jf i h1 hn]; simpa using hl, J2f i h1⟩
  have conv : ∀ (u : Value) (x : AV), RepA C w st.h J u x → RepA C w' (joinH h h' st.h) J2 u (keepA h x) := fun u x q => by
    refine q.tr fun u c c' e q => ?_
    cases c with
    | f x => simp only [keepC, Option.some.injEq] at e; subst e; exact outF _ _ q
    | bx i off =>
      cases hi : (Nat.beq i 0 || (h i).isNone) with
      | false => simp only [keepC, hi, cond_false] at e; cases e
      | true =>
        simp only [keepC, hi, cond_true, Option.some.injEq] at e; subst e
        obtain ⟨h1, h2⟩ := at_ i hi q.1
        exact ⟨h1, by rw [h2]; exact q.2⟩
    | ow i =>
      cases hi : (Nat.beq i 0 || (h i).isNone) with
      | false => simp only [keepC, hi, cond_false] at e; cases e
      | true =>
        simp only [keepC, hi, cond_true, Option.some.injEq] at e; subst e
        obtain ⟨h1, h2⟩ := at_ i hi q.1
        exact ⟨h1, by rw [h2]; exact q.2⟩
    | sv i off n =>
      cases hi : (Nat.beq i 0 || (h i).isNone) with
      | false => simp only [keepC, hi, cond_false] at e; cases e
      | true =>
        simp only [keepC, hi, cond_true, Option.some.injEq] at e; subst e
        obtain ⟨h1, h2⟩ := at_ i hi q.1
        exact ⟨h1, by rw [h2]; exact q.2⟩
  have backF : ∀ u x, RepF w' (Mb (cxH C.P C.G M X J) h' J') u x → RepF w' (Mb C (joinH h h' st.h) J2) u x := fun u x q => RepF.ext q (Ext.refl _) (fun b _ hb => mb2 b hb)
  have backA : ∀ u x, RepA (cxH C.P C.G M X J) w' h' J' u x → RepA C w' (joinH h h' st.h) J2 u x := fun u x q => q.same fun _ _ q => q.conv (fun i hi => ⟨by rw [jl i hi]; exact hi, J2l i hi⟩) backF
  refine hK v w' ⟨J2, Sim.put (st := ⟨fun t => keepA h (st.s t), joinH h h' st.h, st.nx⟩) ⟨⟨hg.os.trans S.ext.os, hg.tape.trans S.ext.tape, hg.output.trans S.ext.output, Nat.le_trans S.ext.le hg.le, fun k hk hX => ?_⟩, S.size, ⟨?_, S.defs.2⟩, fun t => conv _ _ (S.slot t), fun i B hB => ?_, fun i j b hi hj hbi hbj => ?_, S.old, fun gl cs hgl => (by rw [hG gl] at hgl; cases hgl), fun i p B hpi hB hs => ?_⟩ hd (backA _ _ hret)⟩
  · refine (hg.block k (Nat.lt_of_lt_of_le hk S.ext.le) (fun ho => ?_)).trans (S.ext.block k hk hX)
    rcases hx k (.inr ho) with h1 | h1
    · omega
    · exact hX h1
  · exact S.defs.1.keeps fun D hm hD => (hg.block D (Marks.lt S.defs.1 D hm) (fun ⟨i, hi, hbi⟩ => by
      obtain ⟨o, h2, h3⟩ := S.ownCells ⟨i, live i hi, hbi⟩
      rw [hD] at h2; cases h2; cases h3)).trans hD
  · have hs : (joinH h h' st.h i).isSome = true := by rw [show joinH h h' st.h i = some B from hB]; rfl
    rcases jcase i hs with ⟨h1, h2⟩ | ⟨h1, h2, h3, h4⟩
    · have hB' : h' i = some B := by rw [← jl i h1]; exact hB
      rw [h2]
      exact (hblk i B hB').conv0 (fun _ _ => rfl) (fun b _ h => hx b h) backA backF
    · have hB' : (st.h i).map (Blk.mapA (keepA h)) = some B := by rw [← jf i h1 h2]; exact hB
      obtain ⟨B1, hB1, rfl⟩ := Option.map_eq_some_iff.1 hB'
      rw [h4]
      refine (S.blk i B1 hB1).conv (keepA h) (fun b hb => same b (S.own_at h3 hb).2 (fun ⟨j, hj, hbj⟩ => ?_)) (fun _ _ h => h) conv outF
      have := S.apart i j b h3 (live j hj) hb hbj
      subst this; rw [h2] at hj; cases hj
  · rcases jcase i hi with ⟨h1, h2⟩ | ⟨h1, h2, h3, h4⟩ <;> rcases jcase j hj with ⟨k1, k2⟩ | ⟨k1, k2, k3, k4⟩
    · rw [h2] at hbi; rw [k2] at hbj; exact hap i j b h1 k1 hbi hbj
    · rw [h2] at hbi; rw [k4] at hbj
      obtain ⟨B, hB⟩ := Option.isSome_iff_exists.1 h1
      rcases ((hblk i B hB).ge hbi).1 with h5 | ⟨l, hl, hbl⟩
      · have := (S.own_at k3 hbj).2; omega
      · have := S.apart l j b (live l hl) k3 hbl hbj
        subst this; rw [k2] at hl; cases hl
    · rw [h4] at hbi; rw [k2] at hbj
      obtain ⟨B, hB⟩ := Option.isSome_iff_exists.1 k1
      rcases ((hblk j B hB).ge hbj).1 with h5 | ⟨l, hl, hbl⟩
      · have := (S.own_at h3 hbi).2; omega
      · have := S.apart l i b (live l hl) h3 hbl hbi
        subst this; rw [h2] at hl; cases hl
    · rw [h4] at hbi; rw [k4] at hbj; exact S.apart i j b h3 k3 hbi hbj
  · have e0 := hp i p hpi
    subst e0
    rw [J20]
    exact S.fix 0 p B0 hpi (hh 0 B0 h0) s0
variable {ops : Array Oper} {K : St → Prop} {rest : List Oper} {d : Option Tmp} {T0 : TypeId} {pos : String} {af : Array Edge}
theorem s_callH {f : Operand} {args : Array Operand} {ts : Array TypeId} {g : Nat} {h h' : Nat → Option Blk} {ags caps : List AV} {ret : AV} (Kh : SummH C.P C.G g h ags ret h') (hG : ∀ k, C.G k = none) (hp : ∀ i p, C.J0 i = some p → i = 0) (hd : dstB N d = true) (hf : fnCaps (st.ev C f) = some (g, caps))
    (has : args.toList.map (st.ev C) ++ caps = ags) (hac : closedL h ags) (hh : ∀ i B, h i = some B → st.h i = some B) (hnew : ∀ i, h i = none → (h' i).isSome = true → st.h i = none) (k : R C N ops false K rest (St.put ⟨fun t => keepA h (st.s t), joinH h h' st.h, st.nx⟩ d ret)) : R C N ops false K (⟨d, .call { callee := .value f, args := args, argTypes := ts }, T0, pos, af, none⟩ :: rest) st :=
  ⟨r_eff rfl (e_callH Kh hG rfl hd hf has hac hh hnew hp) k.out⟩
theorem lvH_ret {fn : Func} {ret : AV} {h' : Nat → Option Blk} {s : Nat → AV} {nx : Nat} (g : Gh C N st ⟨s, h', nx⟩) (h : ResG C N fn ret ⟨s, h', nx⟩) : LeavesH C N fn ret h' .ret st := ⟨s, nx, g, h⟩
theorem gh_eq {s : Nat → AV} {h h' : Nat → Option Blk} {n : Nat} (e : h = h') : Gh C N ⟨s, h, n⟩ ⟨s, h', n⟩ := by subst e; exact gh_refl _
theorem sees_arr {i e sz n : Nat} {cells : List AV} {ys : List FV} (hi : st.h i = some (.arr e sz n cells)) (hc : SeesL C N st cells ys) : Sees C N st (.ow i) (.sl n ys) := fun st' H w0 a w J S v r => by
  obtain ⟨hl, rfl⟩ := r
  obtain ⟨xs, q1, _, q2, q3, q4⟩ := H.blk S hi hl
  exact sees_own S hl q1 q2 ⟨by rw [q3, hc.len], fun k u x h1 h2 => by
    have hk : k < cells.length := by rw [hc.len]; exact (List.getElem?_eq_some_iff.1 h2).1
    exact hc.at_ k _ x (List.getElem?_eq_getElem hk) h2 st' H w0 a w J S u (q4 k u _ h1 (List.getElem?_eq_getElem hk))⟩
theorem gh_mvU (i j : Nat) {B : Blk} (hij : i ≠ j) (hi : st.h i = some B) (hj : st.h j = none) (hJi : C.J0 i = none) (hJj : C.J0 j = none) : Gh C N st (st.mv i j B) := fun w0 a w ⟨J, S⟩ => by
  refine ⟨upd J j (J i), ?_⟩
  have hji : Nat.beq j i = false := killA_ne (Ne.symm hij)
  have hat : (st.mv i j B).h j = some (B.mapA (mvA i j)) := by simp [St.mv, hji]
  have hgone : (st.mv i j B).h i = none := by simp [St.mv]
  have hoth : ∀ k, k ≠ i → k ≠ j → (st.mv i j B).h k = (st.h k).map (Blk.mapA (mvA i j)) := fun k h1 h2 => by simp [St.mv, killA_ne h1, killA_ne h2]
  have nj : ∀ k, (st.h k).isSome = true → k ≠ j := fun k h e => by subst e; rw [hj] at h; cases h
  have back : ∀ k b, ((st.mv i j B).h k).isSome = true → bk (upd J j (J i) k) = some b → ∃ k', (st.h k').isSome = true ∧ bk (J k') = some b ∧ (k' = i ↔ k = j) ∧ (k' ≠ i → k' = k) := fun k b h1 h2 => by
    by_cases e : k = j
    · subst e; rw [upd_same] at h2; exact ⟨i, by rw [hi]; rfl, h2, by simp, fun h => absurd rfl h⟩
    · rw [upd_other _ _ e] at h2
      have e2 : k ≠ i := fun e2 => by subst e2; rw [hgone] at h1; cases h1
      rw [hoth k e2 e] at h1
      exact ⟨k, by simpa using h1, h2, by simp [e, e2], fun _ => rfl⟩
  have hM : ∀ b, b < w.heap.size → Mb C (st.mv i j B).h (upd J j (J i)) b → Mb C st.h J b := by
    rintro b _ (h0 | ⟨k, hk, hb⟩)
    · exact .inl h0
    · obtain ⟨k', h1, h2, _⟩ := back k b hk hb
      exact .inr ⟨k', h1, h2⟩
  have conv : ∀ (v : Value) (x : AV), RepA C w st.h J v x → RepA C w (st.mv i j B).h (upd J j (J i)) v (mvA i j x) := fun v x q => by
    refine q.tr fun v c c' e q => ?_
    have h1 : ∀ k, (st.h k).isSome = true → k ≠ i → ((st.mv i j B).h k).isSome = true ∧ upd J j (J i) k = J k := fun k hk e => ⟨by rw [hoth k e (nj k hk)]; simpa using hk, by rw [upd_other _ _ (nj k hk)]⟩
    have h2 : ((st.mv i j B).h j).isSome = true ∧ upd J j (J i) j = J i := ⟨by rw [hat]; rfl, by rw [upd_same]⟩
    cases c with
    | f x => simp only [mvC, Option.some.injEq] at e; subst e; exact RepF.ext q (Ext.refl _) hM
    | bx k off =>
      by_cases ek : k = i
      · subst ek; simp only [mvC, Nat.beq_refl, cond_true, Option.some.injEq] at e; subst e; exact ⟨h2.1, by rw [h2.2]; exact q.2⟩
      · simp only [mvC, killA_ne ek, cond_false, Option.some.injEq] at e; subst e; exact ⟨(h1 k q.1 ek).1, by rw [(h1 k q.1 ek).2]; exact q.2⟩
    | ow k =>
      by_cases ek : k = i
      · subst ek; simp only [mvC, Nat.beq_refl, cond_true, Option.some.injEq] at e; subst e; exact ⟨h2.1, by rw [h2.2]; exact q.2⟩
      · simp only [mvC, killA_ne ek, cond_false, Option.some.injEq] at e; subst e; exact ⟨(h1 k q.1 ek).1, by rw [(h1 k q.1 ek).2]; exact q.2⟩
    | sv k off n =>
      by_cases ek : k = i
      · subst ek; simp only [mvC, Nat.beq_refl, cond_true, Option.some.injEq] at e; subst e; exact ⟨h2.1, by rw [h2.2]; exact q.2⟩
      · simp only [mvC, killA_ne ek, cond_false, Option.some.injEq] at e; subst e; exact ⟨(h1 k q.1 ek).1, by rw [(h1 k q.1 ek).2]; exact q.2⟩
  have cB : ∀ {v : Value} {D : Blk}, RepB C w w0.heap.size st.h J v D → RepB C w w0.heap.size (st.mv i j B).h (upd J j (J i)) v (D.mapA (mvA i j)) := fun q => q.conv (mvA i j) (fun _ _ => rfl) (fun _ _ h => h) conv (fun _ _ q => RepF.ext q (Ext.refl _) hM)
  refine ⟨S.ext, S.size, S.defs, fun t => conv _ _ (S.slot t), fun k D hD => ?_, fun k l b hk hl hkb hlb => ?_, S.old, fun g cs hg => RepF.ext (S.glob g cs hg) (Ext.refl _) hM, fun k p cells hp hc hs => ?_⟩
  · by_cases e : k = j
    · subst e; rw [hat] at hD; cases hD; rw [upd_same]; exact cB (S.blk i B hi)
    · have e2 : k ≠ i := fun e2 => by subst e2; rw [hgone] at hD; cases hD
      rw [hoth k e2 e, Option.map_eq_some_iff] at hD
      obtain ⟨B0, hB0, rfl⟩ := hD
      rw [upd_other _ _ e]; exact cB (S.blk k B0 hB0)
  · obtain ⟨k', p1, p2, p3, p4⟩ := back k b hk hkb
    obtain ⟨l', r1, r2, r3, r4⟩ := back l b hl hlb
    have e := S.apart k' l' b p1 r1 p2 r2
    by_cases ek : k' = i
    · rw [p3.1 ek, r3.1 (e ▸ ek)]
    · rw [← p4 ek, ← r4 (e ▸ ek), e]
  · by_cases e : k = j
    · subst e; rw [hJj] at hp; cases hp
    · have e2 : k ≠ i := fun e2 => by subst e2; rw [hgone] at hc; cases hc
      rw [hoth k e2 e, Option.map_eq_some_iff] at hc
      obtain ⟨B0, hB0, rfl⟩ := hc
      rw [upd_other _ _ e]
      exact S.fix k p B0 hp hB0 (by cases B0 <;> exact hs)
theorem seesL_f (ys : List FV) : SeesL C N st (ys.map .f) ys := by
  induction ys with
  | nil => trivial
  | cons y ys ih => exact ⟨sees_f y, ih⟩
end
end Go.Ab
namespace Go.Ab
open Go Go.RowKit Go.Shelf Go.Proofs
theorem row_frozen {w : World} {M : Nat → Prop} {base e sz n : Nat} {v : Value} {xs : List Value} {cs : List FV} (q1 : w.ownsRow base e sz v n xs) (q2 : ∀ u ∈ xs, u.oneCell' = true) (q3 : RepL w M xs cs) (hM : ∀ b, bk v = some b → ¬ M b) : RepF w M v (.sl n cs) := by
  have lies : ∀ b, bk v = some b → Lies w M b 0 xs := fun b hb =>
    ⟨by
      have hb' := hb
      rw [row_bk q1] at hb'
      exact (q1.lt b hb').2, hM b hb, fun k hk => by
      rw [Nat.zero_add]
      rw [row_bk q1] at hb
      obtain ⟨ad, c, e1⟩ := q1.isSlice
      have := q1.cells hb k xs[k] (List.getElem?_eq_getElem hk)
      rw [addr_add, Nat.zero_add] at this
      rw [this, List.getElem?_eq_getElem hk]⟩
  rcases q1.2 with ⟨e1, e2⟩ | ⟨g, cap, cur, e1, h1, h2, h3, h4, h5, h6⟩
  · rw [e1]
    have hx : xs = [] := List.eq_nil_of_length_eq_zero (by rw [q1.1, e2]; simp)
    subst hx
    subst e2
    exact RepF.sl none 0 0 cs [] (Nat.le_refl _) q3.1 q2 (fun h => absurd rfl h) (fun k u x h => by simp at h)
  · have hL := lies g (by rw [e1]; rfl)
    rw [e1]
    exact RepF.sl _ n cap cs xs h3 q3.1 q2 (fun _ => ⟨g, 0, rfl, hL⟩) (fun k u x a b => q3.2 k u x a b)
section
variable {C : Ctx} {N : Nat} {st : St}
theorem v_callNwF {o : Oper} {f : Operand} {args : Array Operand} {ts : Array TypeId} {g e sz n : Nat} {caps : List AV} {ys cs : List FV} (K : SummG C.P C.G g [] (ys.map .f) (.ow 0) [.row e sz n cs]) (hG : ∀ k, C.G k = none) (ho : o.op = .call { callee := .value f, args := args, argTypes := ts }) (hd : dstB N o.dst = true) (hf : fnCaps (st.ev C f) = some (g, caps))
    (hys : SeesL C N st (args.toList.map (st.ev C) ++ caps) ys) (hv : ∃ vs : List Value, cs = vs.map .v) : ValOp C N o st (.f (.sl n cs)) := by
  intro w0 a w st' hA ⟨J, S⟩ K1 Q hK
  have hfe : st'.ev C f = st.ev C f := hA.ev f (by simp [ho, Op.operands, Call.operands])
  have hae : args.toList.map (st'.ev C) = args.toList.map (st.ev C) := List.map_congr_left fun x hx => hA.ev x (by simp [ho, Op.operands, Call.operands]; exact .inr (by simpa using hx))
  obtain ⟨us, hfv, hcap⟩ := fnCaps_rep (S.eval f) (by rw [hfe]; exact hf)
  have hrun := callEnter (w := w) K.enters ho hfv
  refine op_enter hrun ?_
  have hargs := RepAs.append (evs_rep S args.toList) hcap
  rw [hae] at hargs
  have hm : ∀ b, C.M0 b → b < w.heap.size ∧ ¬ (fun _ : Nat => False) b := fun b hb => ⟨Nat.lt_of_lt_of_le (S.old b hb).1 S.ext.le, id⟩
  have hX : ∀ b, (fun _ : Nat => False) b ↔ lentX ([] : List Blk).length J b := fun b => ⟨False.elim, fun ⟨i, hi, _⟩ => absurd hi (Nat.not_lt_zero i)⟩
  have hR : RepAs (cxG C.P C.G C.M0 (fun _ => False) [] J) w (blkL []) J (args.toList.map a.eval ++ us) (ys.map .f) := ⟨by rw [hargs.1, hys.len]; simp, fun k u y h1 h2 => by
    rw [List.getElem?_map] at h2
    cases hk : ys[k]? with
    | none => rw [hk] at h2; cases h2
    | some z =>
      rw [hk] at h2; cases h2
      have hk2 : k < (args.toList.map (st.ev C) ++ caps).length := by rw [hys.len]; exact (List.getElem?_eq_some_iff.1 hk).1
      have := hys.at_ k _ z (List.getElem?_eq_getElem hk2) hk st' hA.hp w0 a w J S u (hargs.2 k u _ h1 (List.getElem?_eq_getElem hk2))
      exact RepF.ext this (Ext.refl _) (fun b _ hb => by
        rcases hb with h | ⟨i, hi, _⟩
        · exact h
        · rw [blkL_eq] at hi; simp at hi)⟩
  refine Calls.mono (K.call w C.M0 (fun _ => False) _ J hX hm (fun gl cs hg => by rw [hG gl] at hg; cases hg) hR ⟨fun i B h => by simp at h, fun i j b hi => absurd hi (Nat.not_lt_zero i)⟩) ?_
  rintro en w' ⟨v, J', rfl, hret, hL, hg, -⟩
  have he : Ext w w' := hg.toExt
  obtain ⟨-, rfl⟩ := hret
  obtain ⟨xs, q1, q0, q2, q3⟩ := hL.blk 0 _ rfl
  have hfresh : ∀ c, bk (J' 0) = some c → w.heap.size ≤ c := fun c hc => (q0 c hc).resolve_right id
  obtain ⟨vs, rfl⟩ := hv
  refine hK _ _ ⟨J, (S.toExt he).put hd (row_frozen q1 q2 ⟨by simpa using q3.1, fun k u x h1 h2 => ?_⟩ fun b hb hmb => ?_)⟩
  · rw [List.getElem?_map] at h2
    cases hk : vs[k]? with
    | none => rw [hk] at h2; cases h2
    | some z =>
      rw [hk] at h2; cases h2
      have := q3.2 k u (.v z) h1 (by rw [List.getElem?_map, hk]; rfl)
      rw [repV this]; exact RepF.v z
  · have h1 := hfresh b hb
    rcases hmb with h2 | ⟨i, hi, hbi⟩
    · have := (hm b h2).1; omega
    · have := (S.own_at hi hbi).2; omega
theorem v_callWF {o : Oper} {f : Operand} {args : Array Operand} {ts : Array TypeId} {g e sz n : Nat} {caps ags : List AV} {vs : List Value} (hent : Enters C.P g) (ho : o.op = .call { callee := .value f, args := args, argTypes := ts }) (hd : dstB N o.dst = true) (hf : fnCaps (st.ev C f) = some (g, caps))
    (hag : args.toList.map (st.ev C) ++ caps = ags) (hone : ∀ v ∈ vs, v.oneCell' = true) (hc : ∀ st', Hp st st' → ∀ w0 a w J, Sim C w0 N st' a w J → ∀ us, RepAs C w st'.h J us ags → Calls C.P g us.toArray w fun en w' => ∃ v, en = .returned v ∧ w'.ownsRow w.heap.size e sz v n vs ∧ Ext w w') : ValOp C N o st (.f (.sl n (vs.map .v))) := by
  intro w0 a w st' hA ⟨J, S⟩ K1 Q hK
  have hfe : st'.ev C f = st.ev C f := hA.ev f (by simp [ho, Op.operands, Call.operands])
  have hae : args.toList.map (st'.ev C) = args.toList.map (st.ev C) := List.map_congr_left fun x hx => hA.ev x (by simp [ho, Op.operands, Call.operands]; exact .inr (by simpa using hx))
  obtain ⟨us, hfv, hcap⟩ := fnCaps_rep (S.eval f) (by rw [hfe]; exact hf)
  have hrun := callEnter (w := w) hent ho hfv
  refine op_enter hrun ?_
  have hargs := RepAs.append (evs_rep S args.toList) hcap
  rw [hae, hag] at hargs
  refine Calls.mono (hc st' hA.hp w0 a w J S _ hargs) ?_
  rintro en w' ⟨v, rfl, q1, he⟩
  refine hK _ _ ⟨J, (S.toExt he).put hd (row_frozen q1 hone ⟨by simp, fun k u x h1 h2 => ?_⟩ fun b hb hmb => ?_)⟩
  · rw [List.getElem?_map, h1] at h2
    cases h2; exact RepF.v _
  · have hb' := hb
    rw [row_bk q1] at hb'
    have h1 := (q1.lt b hb').1
    rcases hmb with h2 | ⟨i, hi, hbi⟩
    · have := (S.old b h2).1; have := S.ext.le; omega
    · have := (S.own_at hi hbi).2; omega
variable {ops : Array Oper} {pr : Bool} {K : St → Prop} {rest : List Oper} {d : Option Tmp} {T0 : TypeId} {pos : String} {af : Array Edge} {gd : Option (Nat × Bool)}
theorem s_callNwF {f : Operand} {args : Array Operand} {ts : Array TypeId} {g e sz n : Nat} {caps : List AV} {ys cs : List FV} (Kg : SummG C.P C.G g [] (ys.map .f) (.ow 0) [.row e sz n cs]) (hG : ∀ k, C.G k = none) (hv : ∃ vs : List Value, cs = vs.map .v) (hw : wantB st ops ⟨d, .call { callee := .value f, args := args, argTypes := ts }, T0, pos, af, gd⟩ = some true) (hd : dstB N d = true) (hf : fnCaps (st.ev C f) = some (g, caps))
    (hys : SeesL C N st (args.toList.map (st.ev C) ++ caps) ys) (k : R C N ops pr K rest (st.put d (.f (.sl n cs)))) : R C N ops pr K (⟨d, .call { callee := .value f, args := args, argTypes := ts }, T0, pos, af, gd⟩ :: rest) st :=
  ⟨r_val hw (v_callNwF Kg hG rfl hd hf hys hv) k.out⟩
theorem s_callWF {f : Operand} {args : Array Operand} {ts : Array TypeId} {g e sz n : Nat} {caps ags : List AV} {vs : List Value} (hent : Enters C.P g) (hone : ∀ v ∈ vs, v.oneCell' = true) (hw : wantB st ops ⟨d, .call { callee := .value f, args := args, argTypes := ts }, T0, pos, af, gd⟩ = some true) (hd : dstB N d = true) (hf : fnCaps (st.ev C f) = some (g, caps))
    (hag : args.toList.map (st.ev C) ++ caps = ags) (hc : ∀ st', Hp st st' → ∀ w0 a w J, Sim C w0 N st' a w J → ∀ us, RepAs C w st'.h J us ags → Calls C.P g us.toArray w fun en w' => ∃ v, en = .returned v ∧ w'.ownsRow w.heap.size e sz v n vs ∧ Ext w w') (k : R C N ops pr K rest (st.put d (.f (.sl n (vs.map .v))))) : R C N ops pr K (⟨d, .call { callee := .value f, args := args, argTypes := ts }, T0, pos, af, gd⟩ :: rest) st :=
  ⟨r_val hw (v_callWF hent rfl hd hf hag hone hc) k.out⟩
end
theorem gh_boxW {C : Ctx} {N : Nat} {st : St} (i : Nat) {cs cs' : List AV} (hi : st.h i = some (.box cs)) (hl : cs'.length = cs.length) (hc : ∀ (k : Nat) (x x' : AV), cs[k]? = some x → cs'[k]? = some x' → ∀ (w : World) (J : Nat → Value) (v : Value), RepA C w st.h J v x → RepA C w st.h J v x') : Gh C N st { st with h := upd st.h i (some (.box cs')) } := fun w0 a w ⟨J, S⟩ => ⟨J, S.swap (fun j => by
    by_cases e : j = i
    · subst e; rw [upd_same, hi]; rfl
    · rw [upd_other _ _ e]) (fun j B hB => by
    by_cases e : j = i
    · subst e
      rw [upd_same] at hB; cases hB
      obtain ⟨b, T, us, q1, q2, q3, q4, q5, q6⟩ := S.blk j _ hi
      refine ⟨b, T, us, q1, q2, q3, by rw [q4, hl], q5, fun k u x h1 h2 => ?_⟩
      have hk : k < cs.length := by rw [← hl]; exact (List.getElem?_eq_some_iff.1 h2).1
      exact hc k _ x (List.getElem?_eq_getElem hk) h2 w J u (q6 k u _ h1 (List.getElem?_eq_getElem hk))
    · rw [upd_other _ _ e] at hB; exact S.blk j B hB) (fun j B hc hs => by
    by_cases e : j = i
    · subst e; exact ⟨_, hi, rfl⟩
    · rw [upd_other _ _ e] at hc; exact ⟨B, hc, hs⟩)⟩
theorem afterG_h1 {st : St} {σ : List Nat} {L L' : List Blk} {d : Option Tmp} {ret : AV} {i e : Nat} {B : Blk} (h0 : moved σ L = [e]) (h1 : i ∉ σ) (h2 : i < st.nx) (h : st.h i = some B) (hk : killsB [e] B = B) : (st.afterG σ L L' d ret).h i = some B := by
  show laidB (killH (moved σ L) st.h) _ _ L' i = _
  rw [laidB_other (fun hm => by
    rcases List.mem_append.1 hm with h | h
    · exact h1 h
    · obtain ⟨r, _, e⟩ := List.mem_map.1 h; omega), h0]
  show (st.h i).map (killsB [e]) = _
  rw [h, Option.map_some, hk]
theorem afterG_h {st : St} {σ : List Nat} {L L' : List Blk} {d : Option Tmp} {ret : AV} {i : Nat} (h0 : moved σ L = []) (h1 : i ∉ σ) (h2 : i < st.nx) : (st.afterG σ L L' d ret).h i = st.h i := by
  show laidB (killH (moved σ L) st.h) _ _ L' i = _
  rw [laidB_other (fun hm => by
    rcases List.mem_append.1 hm with h | h
    · exact h1 h
    · obtain ⟨r, _, e⟩ := List.mem_map.1 h; omega), h0]
  rfl
theorem le_base {h h' : Nat → Option Blk} (hcl : ∀ i B, h' i = some B → closedB h' B) (heq : ∀ i B, h' i = some B → h i = some B) : ∀ i, h' i = none ∨ ∃ B, h' i = some B ∧ h i = some B ∧ closedB h' B := fun i => by
  cases hi : h' i with
  | none => exact .inl rfl
  | some B => exact .inr ⟨B, rfl, heq i B hi, hcl i B hi⟩
end Go.Ab
namespace Go.Ab
open Go Go.RowKit Go.Shelf Go.Proofs
section
variable {C : Ctx} {N : Nat} {st : St}
theorem res_sees {t : Nat} {x : AV} {y : FV} (h : st.s t = x) (H : Sees C N st x y) : ResOk C N st (.tmp t) y := fun w0 a w ⟨J, S⟩ => by
  have h1 := S.slot t
  rw [h] at h1
  exact ⟨_, rfl, H st (fun i B hi => .inr ⟨B, hi, .inl rfl⟩) w0 a w J S _ h1⟩
theorem ret4 {fn : Func} {r1 r2 r3 r4 : ResultVar} {x y z t : FV} (h : fn.results = #[r1, r2, r3, r4]) (h1 : ResOk C N st r1 x) (h2 : ResOk C N st r2 y) (h3 : ResOk C N st r3 z) (h4 : ResOk C N st r4 t) : RetOk C N fn (.tup [x, y, z, t]) st := fun w0 a w S => by
  obtain ⟨v, q1, q2⟩ := h1 w0 a w S
  obtain ⟨u, p1, p2⟩ := h2 w0 a w S
  obtain ⟨s, o1, o2⟩ := h3 w0 a w S
  obtain ⟨r, n1, n2⟩ := h4 w0 a w S
  refine ⟨.tuple #[v, u, s, r], by rw [results_eq, h]; simp [q1, p1, o1, n1], RepF.tup _ [v, u, s, r] rfl (fun k u' x' a b => ?_)⟩
  match k, a, b with
  | 0, a, b => cases a; cases b; exact q2
  | 1, a, b => cases a; cases b; exact p2
  | 2, a, b => cases a; cases b; exact o2
  | 3, a, b => cases a; cases b; exact n2
  | _ + 4, a, _ => simp at a
end
theorem closedC_mono {h h' : Nat → Option Blk} (hl : ∀ i, (h i).isSome = true → (h' i).isSome = true) {c : Cap} (hc : closedC h c = true) : closedC h' c = true := by
  cases c with
  | f x => rfl
  | bx i off => exact hl i hc
  | ow i => exact hl i hc
  | sv i off n => exact hl i hc
theorem closedA_mono {h h' : Nat → Option Blk} (hl : ∀ i, (h i).isSome = true → (h' i).isSome = true) {x : AV} (hc : closedA h x) : closedA h' x := by
  have key : ∀ l : List Cap, l.all (closedC h) = true → l.all (closedC h') = true := fun l hc => List.all_eq_true.2 fun c hm => closedC_mono hl (List.all_eq_true.1 hc c hm)
  cases x with
  | f x => trivial
  | bot => trivial
  | bx i off => exact hl i hc
  | ow i => exact hl i hc
  | sv i off n => exact hl i hc
  | ag l => exact key l hc
  | tp l => exact key l hc
  | fb f l => exact key l hc
theorem closedB_mono {h h' : Nat → Option Blk} (hl : ∀ i, (h i).isSome = true → (h' i).isSome = true) {B : Blk} (hc : closedB h B) : closedB h' B := by
  cases B with
  | box cs => exact fun x hx => closedA_mono hl (hc x hx)
  | row e sz n cs => trivial
  | rowA e sz n cs => exact fun x hx => closedA_mono hl (hc x hx)
  | arr e sz n cs => exact fun x hx => closedA_mono hl (hc x hx)
  | map G => trivial
theorem le_baseO {h h' : Nat → Option Blk} {k : Nat} {B0 : Blk} (hn : h' k = none) (hk : h k = some B0) (hc0 : closedB (upd h' k (some B0)) B0) (H : ∀ i, h' i = none ∨ ∃ B, h' i = some B ∧ h i = some B ∧ closedB h' B) : ∀ i, upd h' k (some B0) i = none ∨ ∃ B, upd h' k (some B0) i = some B ∧ h i = some B ∧ closedB (upd h' k (some B0)) B := fun i => by
  by_cases e : i = k
  · subst e; exact .inr ⟨B0, upd_same _ _ _, hk, hc0⟩
  · rw [upd_other _ _ e]
    rcases H i with h1 | ⟨B, h1, h2, h3⟩
    · exact .inl h1
    · refine .inr ⟨B, h1, h2, closedB_mono (fun j hj => ?_) h3⟩
      by_cases e2 : j = k
      · subst e2; rw [hn] at hj; cases hj
      · rw [upd_other _ _ e2]; exact hj
end Go.Ab
namespace Go.Ab
open Go Go.RowKit Go.Shelf Go.Proofs Go.Sort
theorem deleteG {α : Type} [Inhabited α] {P : Program} {G : Nat → Option FV} {f : Nat} {enc : α → Value} (h1 : ∀ x, (enc x).oneCell' = true) (zr : α) (hent : Enters P f)
    (hD : ∀ (blk off cap i j : Nat) (d : Array α) (w : World), Holds enc w blk off d → d.size ≤ cap → cap ≤ 9223372036854775807 → i ≤ j → j ≤ d.size → Calls P f #[.slice (some ⟨blk, off, none⟩) d.size cap, .int .i64 i, .int .i64 j] w fun e w' => e = .returned (.slice (some ⟨blk, off, none⟩) (d.size - (j - i)) cap) ∧ ∃ q, w' = putRow enc (Sort.ahead w q) blk off (d.toList.take i ++ d.toList.drop j ++ List.replicate (j - i) zr).toArray)
    (d : List α) (hne : 0 < d.length) (T : TypeId) {n m i j : Nat} (hn : n = d.length) (hij : i ≤ j) (hj : j ≤ d.length) (hm : m = d.length - (j - i)) {cs cs' : List FV} (hcs : (d.map enc).map FV.v = cs) (hcs' : ((d.take i ++ d.drop j).map enc).map FV.v = cs') :
    SummG P G f [.row T 1 n cs] [.ow 0, .f (.v (.int .i64 i)), .f (.v (.int .i64 j))] (.ow 0) [.row T 1 m cs'] := by
  subst hn; subst hcs; subst hcs'; subst hm
  refine ⟨hent, Nat.le_refl _, fun i B B' h1 h2 => by
    rcases i with _ | i
    · cases h1; cases h2; rfl
    · simp at h1, fun w M X us J hX hM hG hA hL => ?_⟩
  obtain ⟨v0, v1, v2, rfl⟩ : ∃ v0 v1 v2, us = [v0, v1, v2] := by
    obtain ⟨e, _⟩ := hA
    match us, e with
    | [a, b, c], _ => exact ⟨a, b, c, rfl⟩
  obtain ⟨-, hv0⟩ : _ ∧ v0 = J 0 := hA.2 0 v0 (.ow 0) rfl rfl
  have hv1 : v1 = .int .i64 i := repV (hA.2 1 v1 _ rfl rfl)
  have hv2 : v2 = .int .i64 j := repV (hA.2 2 v2 _ rfl rfl)
  subst hv0; subst hv1; subst hv2
  obtain ⟨xs, hrow, hbk, hone, hrep⟩ := hL.blk 0 _ rfl
  have exs := repL_v0 hrep
  subst exs
  obtain ⟨-, ⟨ev, en⟩ | ⟨b, cap, cur, ev, -, hb, hcap, hmax, hsz, htk⟩⟩ := hrow
  · omega
  · have hXb : X b := (hX b).2 ⟨0, by simp, by rw [ev]; rfl⟩
    have hbw : b < w.heap.size := (Array.getElem?_eq_some_iff.1 hb).1
    rw [Nat.mul_one] at hsz htk
    have hH : Holds enc w b 0 d.toArray := by
      intro j hj
      have hj' : j < d.length := by simpa using hj
      have hc : cur[j]? = some (enc d[j]) := by
        have h2 : (cur.toList.take d.length)[j]? = (d.map enc)[j]? := by rw [htk]
        rw [List.getElem?_take, if_pos hj'] at h2
        rw [← Array.getElem?_toList, h2, List.getElem?_map, List.getElem?_eq_getElem hj']; rfl
      rw [getElem!_pos _ j hj]
      refine ⟨?_, ?_⟩
      · unfold World.cell?
        simp only [hb]
        simpa using hc
      · unfold World.frozen?
        simp only [hb]
        simp
    rw [ev]
    have hcall := hD b 0 cap i j d.toArray w hH (by simpa using hcap) (by unfold maxLen at hmax; omega) hij (by simpa using hj)
    simp only [List.size_toArray] at hcall
    refine hcall.mono ?_
    rintro e w' ⟨rfl, q, rfl⟩
    obtain ⟨F, hF⟩ : ∃ F, F = (d.take i ++ d.drop j ++ List.replicate (j - i) zr).toArray := ⟨_, rfl⟩
    have hFs : F.size = d.length := by rw [hF]; simp; omega
    rw [← hF]
    have hsize : (putRow enc (Sort.ahead w q) b 0 F).heap.size = w.heap.size := by simp [putRow, mapBlock, Sort.ahead]
    have hat : ∀ i, i < w.heap.size → (putRow enc (Sort.ahead w q) b 0 F).heap[i]? = if b = i then (w.heap[i]?).map (onCells (putCells enc 0 F)) else w.heap[i]? := fun i hi => by
      simp only [putRow, mapBlock, Sort.ahead, Array.getElem?_modify]
    have hnew : (putRow enc (Sort.ahead w q) b 0 F).heap[b]? = some (.cells (putCells enc 0 F cur) T (0, 0)) := by
      rw [hat b hbw, if_pos rfl, hb]; rfl
    have hml : (d.take i ++ d.drop j).length = d.length - (j - i) := by simp; omega
    have hpc : (putCells enc 0 F cur).toList.take ((d.length - (j - i)) * 1) = (d.take i ++ d.drop j).map enc := by
      rw [Nat.mul_one]
      apply List.ext_getElem?
      intro k
      rw [List.getElem?_take]
      by_cases hk : k < d.length - (j - i)
      · rw [if_pos hk, Array.getElem?_toList, putCells, Array.getElem?_mapIdx, List.getElem?_map]
        have hcu : k < cur.size := by rw [hsz]; omega
        have hk2 : k < F.size := by rw [hFs]; omega
        rw [Array.getElem?_eq_getElem hcu]
        have hFk : F[k]? = (d.take i ++ d.drop j)[k]? := by
          rw [hF, List.getElem?_toArray, List.getElem?_append_left (by rw [hml]; exact hk)]
        rw [← hFk, Array.getElem?_eq_getElem hk2]
        simp [hk2]
      · rw [if_neg hk, List.getElem?_eq_none (by rw [List.length_map, hml]; omega)]
    refine ⟨_, fun _ => .slice (some ⟨b, 0, none⟩) (d.length - (j - i)) cap, rfl, ⟨rfl, rfl⟩, ⟨fun k B hB => ?_, fun k l _ hk hl _ _ => by simp at hk hl; omega⟩, ⟨rfl, rfl, rfl, ?_, fun k hk hx => ?_⟩, fun k B hB hs => by
      rcases k with _ | k
      · cases hB; cases hs
      · cases hB⟩
    · rcases k with _ | k
      · cases hB
        refine ⟨(d.take i ++ d.drop j).map enc, ⟨by rw [List.length_map, hml, Nat.mul_one], .inr ⟨b, cap, putCells enc 0 F cur, rfl, Nat.zero_le _, hnew, by omega, hmax, by simp [putCells, hsz], hpc⟩⟩, fun c hc => ?_, fun u hu => ?_, ?_⟩
        · have : b = c := by simpa [bk] using hc
          subst this
          exact .inr hXb
        · obtain ⟨x, _, rfl⟩ := List.mem_map.1 hu
          exact h1 x
        · exact repL_of0 _
      · cases hB
    · rw [hsize]; exact Nat.le_refl _
    · rw [hat k hk, if_neg (fun (e : b = k) => hx (e ▸ hXb))]
end Go.Ab
namespace Go.Ab
open Go Go.RowKit Go.Shelf Go.Proofs
section
variable {C : Ctx} {N : Nat} {st : St}
theorem gh_one (i r : Nat) {e sz n : Nat} {cs : List FV} (hs : st.s r = .ow i) (hi : st.h i = some (.row e sz n cs)) : Gh C N st ⟨upd (fun _ => .bot) r (.ow 0), blkL [.row e sz n cs], 1⟩ := fun w0 a w ⟨J, S⟩ => ⟨fun _ => J i, by
  have live : ∀ j, (blkL [Blk.row e sz n cs] j).isSome = true → j = 0 := fun j hj => by
    have := blkL_live.1 hj; simp at this; exact this
  have hM : ∀ b, b < w.heap.size → Mb C (blkL [Blk.row e sz n cs]) (fun _ => J i) b → Mb C st.h J b := fun b _ q => q.imp id fun ⟨j, _, hb⟩ => ⟨i, by rw [hi]; rfl, hb⟩
  refine ⟨S.ext, S.size, S.defs, fun t => ?_, fun j D hD => ?_, fun j k b hj hk _ _ => by rw [live j hj, live k hk], S.old, fun g cs hg => RepF.ext (S.glob g cs hg) (Ext.refl _) hM, fun j p B hp hc hst => ?_⟩
  · by_cases e : t = r
    · subst e
      show RepA C w _ _ _ (upd (fun _ => AV.bot) t (.ow 0) t)
      rw [upd_same]
      have := S.slot t
      rw [hs] at this
      exact ⟨rfl, this.2⟩
    · show RepA C w _ _ _ (upd (fun _ => AV.bot) r (.ow 0) t)
      rw [upd_other _ _ e]; trivial
  · have hj := live j (by show (blkL _ j).isSome = true; rw [show blkL [Blk.row e sz n cs] j = some D from hD]; rfl)
    subst hj
    have : D = .row e sz n cs := by have h : blkL [Blk.row e sz n cs] 0 = some D := hD; rw [blkL_eq] at h; simp at h; exact h.symm
    subst this
    obtain ⟨xs, q1, q0, q2, q3⟩ := S.blk i _ hi
    exact ⟨xs, q1, q0, q2, q3.1, fun k u x h1 h2 => RepF.ext (q3.2 k u x h1 h2) (Ext.refl _) hM⟩
  · have hj := live j (by show (blkL _ j).isSome = true; rw [show blkL [Blk.row e sz n cs] j = some B from hc]; rfl)
    subst hj
    have h : blkL [Blk.row e sz n cs] 0 = some B := hc
    rw [blkL_eq] at h; simp at h; subst h; cases hst⟩
end
end Go.Ab
namespace Go.Proofs.YtbkdjlahhcofmaaGreatDoor
open Go.Proofs Go.Shelf
def sortS_ren : Go.Shelf.Ren := ⟨fun | 54 => 236 | 64 => 259 | 65 => 306 | 78 => 328 | 79 => 329 | 80 => 378 | 81 => 379 | 82 => 380 | 83 => 381 | 84 => 382 | 85 => 383 | 61 => 384 | 86 => 385 | 87 => 386 | 93 => 429 | 89 => 396 | 90 => 397 | 94 => 430 | 95 => 431 | 69 => 432 | 97 => 457 | n => n, fun | 25 => 86 | 26 => 9 | 3 => 3 | 51 => 384 | 0 => 0 | 67 => 453 | 69 => 455 | 4 => 4 | 61 => 447 | 60 => 446 | 44 => 256 | 5 => 5 | 9 => 9 | 75 => 501 | 79 => 196 | 83 => 535 | 84 => 229 | n => n, fun | n => n⟩
theorem sortS : Go.Proofs.SlLaysN.n54 Tryz.prog sortS_ren := {
  mixed := by kernel_rfl
  f54 := ⟨Tryz.f236.name, by decide, Tryz.func236.trans (congrArg some (by kernel_rfl))⟩
  f61 := ⟨Tryz.f384.name, by decide, Tryz.func384.trans (congrArg some (by kernel_rfl))⟩
  f64 := Tryz.func259.trans (congrArg some (by kernel_rfl))
  f65 := ⟨Tryz.f306.name, by decide, Tryz.func306.trans (congrArg some (by kernel_rfl))⟩
  f69 := ⟨Tryz.f432.name, by decide, Tryz.func432.trans (congrArg some (by kernel_rfl))⟩
  f78 := Tryz.func328.trans (congrArg some (by kernel_rfl))
  f79 := Tryz.func329.trans (congrArg some (by kernel_rfl))
  f80 := ⟨Tryz.f378.name, by decide, Tryz.func378.trans (congrArg some (by kernel_rfl))⟩
  f81 := ⟨Tryz.f379.name, by decide, Tryz.func379.trans (congrArg some (by kernel_rfl))⟩
  f82 := ⟨Tryz.f380.name, by decide, Tryz.func380.trans (congrArg some (by kernel_rfl))⟩
  f83 := ⟨Tryz.f381.name, by decide, Tryz.func381.trans (congrArg some (by kernel_rfl))⟩
  f84 := ⟨Tryz.f382.name, by decide, Tryz.func382.trans (congrArg some (by kernel_rfl))⟩
  f85 := ⟨Tryz.f383.name, by decide, Tryz.func383.trans (congrArg some (by kernel_rfl))⟩
  f86 := ⟨Tryz.f385.name, by decide, Tryz.func385.trans (congrArg some (by kernel_rfl))⟩
  f87 := ⟨Tryz.f386.name, by decide, Tryz.func386.trans (congrArg some (by kernel_rfl))⟩
  f89 := Tryz.func396.trans (congrArg some (by kernel_rfl))
  f90 := Tryz.func397.trans (congrArg some (by kernel_rfl))
  f93 := ⟨Tryz.f429.name, by decide, Tryz.func429.trans (congrArg some (by kernel_rfl))⟩
  f94 := ⟨Tryz.f430.name, by decide, Tryz.func430.trans (congrArg some (by kernel_rfl))⟩
  f95 := ⟨Tryz.f431.name, by decide, Tryz.func431.trans (congrArg some (by kernel_rfl))⟩
  f97 := ⟨Tryz.f457.name, by decide, Tryz.func457.trans (congrArg some (by kernel_rfl))⟩
  t0 := Tryz.underlying0
  a0 := Tryz.isAgg0
  z0 := Tryz.sizeOf0
  v0 := Tryz.zeroValue0
  t3 := Tryz.underlying3
  a3 := Tryz.isAgg3
  z3 := Tryz.sizeOf3
  v3 := Tryz.zeroValue3
  t4 := Tryz.underlying4
  a4 := Tryz.isAgg4
  z4 := Tryz.sizeOf4
  v4 := Tryz.zeroValue4
  t5 := Tryz.underlying5
  a5 := Tryz.isAgg5
  z5 := Tryz.sizeOf5
  v5 := Tryz.zeroValue5
  t9 := Tryz.underlying9
  a9 := Tryz.isAgg9
  z9 := Tryz.sizeOf9
  v9 := Tryz.zeroValue9
  t25 := Tryz.underlying86
  a25 := Tryz.isAgg86
  z25 := Tryz.sizeOf86
  v25 := Tryz.zeroValue86
  t26 := Tryz.underlying9
  a26 := Tryz.isAgg9
  z26 := Tryz.sizeOf9
  v26 := Tryz.zeroValue9
  t44 := Tryz.underlying256
  a44 := Tryz.isAgg256
  z44 := Tryz.sizeOf256
  v44 := Tryz.zeroValue256
  t51 := Tryz.underlying384
  a51 := Tryz.isAgg384
  z51 := Tryz.sizeOf384
  v51 := Tryz.zeroValue384
  t60 := Tryz.underlying446
  a60 := Tryz.isAgg446
  z60 := Tryz.sizeOf446
  v60 := Tryz.zeroValue446
  t61 := Tryz.underlying447
  a61 := Tryz.isAgg447
  z61 := Tryz.sizeOf447
  v61 := Tryz.zeroValue447
  t67 := Tryz.underlying453
  a67 := Tryz.isAgg453
  z67 := Tryz.sizeOf453
  v67 := Tryz.zeroValue453
  t69 := Tryz.underlying455
  a69 := Tryz.isAgg455
  z69 := Tryz.sizeOf455
  v69 := Tryz.zeroValue455
  t75 := Tryz.underlying501
  a75 := Tryz.isAgg501
  z75 := Tryz.sizeOf501
  v75 := Tryz.zeroValue501
  t79 := Tryz.underlying196
  a79 := Tryz.isAgg196
  z79 := Tryz.sizeOf196
  v79 := Tryz.zeroValue196
  t83 := Tryz.underlying535
  a83 := Tryz.isAgg535
  z83 := Tryz.sizeOf535
  v83 := Tryz.zeroValue535
  t84 := Tryz.underlying229
  a84 := Tryz.isAgg229
  z84 := Tryz.sizeOf229
  v84 := Tryz.zeroValue229 }
open Go Go.RowKit Go.Proofs Go.Shelf Go.Ab
attribute [local go_sem] Oper.semAt_some
def encNm (s : Nm) : Array Value := #[.string ⟨s.toArray⟩]
structure ValRd (Bx ox : Nat) (la : Option Addr) (lc : Nat) (L : List Nm) (w : World) : Prop where
  c0 : w.cell? ⟨Bx, ox, none⟩ = some (.slice la L.length lc)
  at_ : ∀ (j : Nat) (hj : j < L.length), ∃ b o, la = some ⟨b, o, none⟩ ∧ w.cell? ⟨b, o + j, none⟩ = some (.string ⟨L[j].toArray⟩)
set_option maxRecDepth 100000 in
set_option maxHeartbeats 2000000 in
theorem values_seqN (Bx ox : Nat) (la : Option Addr) (lc : Nat) (L : List Nm) (h60 : L.length < 1000000) : SeqL Tryz.prog 428 #[.pointer (some ⟨Bx, ox, none⟩)] encNm L (ValRd Bx ox la lc L) := by
  intro l J Jx W hJ hJx hRd hY h0
  have HJ := Lib.hid hJ
  have HY := Lib.hid hY
  have HRD := Lib.hid hRd
  have H0 := Lib.hid h0
  have c0 := (hRd 0 W h0).c0
  clear hJ hJx hY hRd h0
  refine callsIn_of_wp Tryz.func428 rfl trivial ?_ rfl
  simp only [Tryz.ntmps428, List.size_toArray, List.length_cons, List.length_nil, Nat.reduceAdd, Nat.reduceSub, Array.replicate_succ, Array.replicate_zero, List.push_toArray, List.append_toArray, List.nil_append, List.cons_append]
  gi_wp2
  clear c0
  gi_loopw [7] (fun i wr => ∃ k : Nat, k ≤ L.length ∧ i = .int .i64 k ∧ Hid (J k wr)) (fun i _ => L.length - (intOf i).toNat)
  case atStart => exact ⟨0, Nat.zero_le _, rfl, H0⟩
  case round =>
    obtain ⟨k, hk, rfl, Hj⟩ := hrel
    by_cases hlt : k < L.length
    · obtain ⟨b, o, rfl, e0⟩ := (HRD.out _ wr Hj.out).at_ k hlt
      have HYk := HY.out _ hlt _ Hj.out
      rw [encNm] at HYk
      obtain ⟨fn, tmps, assign, body, hy, hR⟩ := HYk
      replace hR := Lib.hid hR
      gi_wp2
      refine hR.out.mono ?_
      rintro e W' (⟨rfl, hJ'⟩ | ⟨rfl, hJx'⟩)
      · have Hj3 := Lib.hid hJ'
        clear hJ' hy
        gi_wp2
        go_roundw
        case rel => exact ⟨k + 1, by omega, by go_num, Hj3⟩
        case measure => simp [intOf]; omega
      · have Hx3 := Lib.hid hJx'
        clear hJx' hy
        gi_wp2
        refine bodyPost_ret (results_none rfl _ _ _) rfl ?_
        exact ⟨⟨_, rfl⟩, .inr ⟨_, hlt, Hx3.out⟩⟩
    · have HE : Hid (J L.length wr) := Lib.hid (by have := Hj.out; rwa [show k = L.length by omega] at this)
      gi_wp2
      refine bodyPost_end (results_none rfl _ _ _) rfl ?_
      exact ⟨⟨_, rfl⟩, .inl HE.out⟩
theorem lies_cell {w : World} {M : Nat → Prop} {b off k : Nat} {us : List Value} {v : Value} (h : Lies w M b off us) (hv : us[k]? = some v) : w.cell? ⟨b, off + k, none⟩ = some v := (h.at_ k (List.getElem?_eq_some_iff.1 hv).1).trans hv
theorem strsF_enc (L : List Nm) : (L.map encStr).map FV.v = strsF L := by unfold strsF sv; rw [List.map_map]; rfl
theorem values_SN (L : List Nm) (h60 : L.length < 1000000) : SeqS Tryz.prog GG 428 [.pt [.sl L.length (strsF L)] 0] encNm L := by
  refine ⟨enters_of Tryz.func428 (by kernel_rfl) rfl, fun w M us hM hG R => ?_⟩
  obtain ⟨u2, us2, rfl, r2, R2⟩ := R.head
  have := R2.end; subst this
  cases r2 with
  | pt Bx ox _ _ gv g1 g2 g3 g4 =>
  obtain ⟨v0, rfl⟩ : ∃ v0, gv = [v0] := by
    match gv, g1 with
    | [a], _ => exact ⟨a, rfl⟩
  have r0 := g4 0 v0 (.sl L.length (strsF L)) rfl rfl
  cases r0 with
  | sl a n c cs us q1 q2 q3 q4 q5 =>
  have eu : us = L.map encStr := repL_v0 (w := w) (M := M) (by rw [strsF_enc]; exact ⟨q2, q5⟩)
  intro l J Jx W hJ hJx hRd hY h0
  refine values_seqN Bx ox a c L h60 l J Jx W hJ hJx (fun k A hA => ?_) hY h0
  obtain ⟨hs, hk⟩ := hRd k A hA
  have lg := g3.mono (M' := M) hk hs (fun _ _ h => h)
  refine ⟨lies_cell (k := 0) lg rfl, fun j hj => ?_⟩
  obtain ⟨b, o, ea, li⟩ := q4 (by intro e; rw [eu] at e; have := congrArg List.length e; simp at this; subst this; simp at hj)
  have lb := li.mono (M' := M) hk hs (fun _ _ h => h)
  exact ⟨b, o, ea, lies_cell lb (by rw [eu, List.getElem?_map, List.getElem?_eq_getElem hj]; rfl)⟩
theorem nm_en (p : Nm) (w : World) (M : Nat → Prop) : RepL w M (encNm p).toList [sv p] := RepL.cons (RepF.v _) (RepL.nil _ _)
theorem row_tkNm {L : List Nm} {k : Nat} (h : k < L.length) : some (Blk.row 9 1 ((L.take k).length + 1) (strsF (L.take k) ++ [sv L[k]])) = some (Blk.row 9 1 (L.take (k + 1)).length (strsF (L.take (k + 1)))) := by
  rw [List.take_succ_eq_append_getElem h, strsF_snoc, List.length_append]; rfl
set_option maxRecDepth 100000 in
set_option maxHeartbeats 1600000 in
theorem appendSeq_g (L : List Nm) (h60 : L.length < 1000000) : SummG Tryz.prog GG 305 [] [.f (.v (.slice none 0 0)), .f (.fn 428 [.pt [.sl L.length (strsF L)] 0])] (.ow 0) [.row 9 1 L.length (strsF L)] := by
  refine summG_of Tryz.func305 rfl rfl 13 rfl (by simp) (by simp) (fun i B B' h1 h2 => by simp at h1) (fun M X J => ?_)
  repeat (first
    | (apply s_boxw; exact rfl; exact rfl; exact rfl; exact rfl)
    | (apply s_a TY; exact rfl)
    | apply w_seq
    | apply w_region
    | apply s_nil
    | apply t_norm
    | apply w_block)
  apply w_gh (gh_ownB 0 0 9 1 rfl rfl rfl)
  refine w_range (s := (Ab.upd (Ab.upd (fun _ => .bot) 2 (.bx 0 0)) 6 (.f (.fn 428 [.pt [.sl L.length (strsF L)] 0])))) ((values_SN L h60)) (fun k => (Ab.upd (Ab.upd (fun _ => none) 0 (some (.box [.ow 1]))) 1 (some (.row 9 1 (L.take k).length (strsF (L.take k)))))) (fun (k : Nat) (p : Nm) => (Ab.upd (Ab.upd (fun _ => none) 0 (some (.box [.ow 1]))) 1 (some (.row 9 1 (L.take k).length (strsF (L.take k)))))) (fun (k : Nat) (p : Nm) => (Ab.upd (Ab.upd (Ab.upd (fun _ => .bot) 2 (.bx 0 0)) 6 (.f (.fn 428 [.pt [.sl L.length (strsF L)] 0]))) 5 (.f (sv p)))) 2 2 (fun i => i = 0) (fun p => [sv p]) (fun _ => True) (trivial) rfl (fun _ => rfl) (gh_le ⟨le_upd rfl trivial (le_upd rfl rfl (le_nil _)), le_hupd rfl trivial (le_hupd rfl (fun y hy => by simp at hy; subst hy; first | trivial | rfl) (le_h0 _ _))⟩) rfl (fun _ => rfl) (fun _ => rfl) (fun q hq => by simp at hq; subst hq; rfl) nm_en (kept_f (kept_x rfl (by simp) (kept_nil _ _))) (by rintro k i (rfl) <;> exact ⟨_, rfl, rfl⟩) (fun k p => ⟨le_nil _, le_hupd rfl trivial (le_hupd rfl (fun y hy => by simp at hy; subst hy; first | trivial | rfl) (le_h0 _ _))⟩) (fun k p => ⟨mo_upd rfl (mo_upd rfl (mo_nil)), mo_upd rfl (mo_upd rfl (mo_nil))⟩) ?_ ?_ ?_
  · intro k hkL X l p
    repeat (first
    | (apply s_a TY; exact rfl)
    | apply w_region
    | apply s_nil
    | apply t_norm)
    exact gh_le ⟨le_upd rfl trivial (le_upd rfl trivial (le_upd rfl rfl (le_nil _))), le_hupd rfl trivial (le_hupd rfl (fun y hy => by simp at hy; subst hy; first | trivial | rfl) (le_h0 _ _))⟩
  · intro k hkL _ X l p
    have hlt : (L.take k).length = k := by rw [List.length_take]; omega
    repeat (first
    | (apply s_a TY; exact rfl)
    | apply w_region
    | apply s_nil
    | apply k_norm
    | apply w_block
    | (apply s_store TY; exact rfl; exact rfl; exact rfl; exact rfl; exact rfl; exact rfl)
    | (apply s_append TY; exact rfl; exact rfl; exact rfl; exact rfl; exact rfl; exact rfl; exact rfl; exact rfl; exact rfl; (unfold maxLen; omega); omega))
    exact ⟨trivial, gh_le ⟨le_nil _, le_hupd (row_tkNm hkL) trivial (le_hupd rfl (fun y hy => by simp at hy; subst hy; first | trivial | rfl) (le_h0 _ _))⟩⟩
  intro _
  rw [List.take_length]
  repeat (first
    | (apply s_a TY; exact rfl)
    | apply w_seq
    | apply w_region
    | apply s_nil
    | apply t_norm
    | apply k_norm
    | apply w_ret)
  exact lvG_ret (gh_one 1 4 rfl rfl) (rg1 rfl (rv_tmp rfl))
set_option maxRecDepth 100000 in
theorem collect_g (L : List Nm) (h60 : L.length < 1000000) : SummG Tryz.prog GG 235 [] [.f (.fn 428 [.pt [.sl L.length (strsF L)] 0])] (.ow 0) [.row 9 1 L.length (strsF L)] := by
  refine summG_of Tryz.func235 rfl rfl 5 rfl (by simp) (by simp) (fun i B B' h1 h2 => by simp at h1) (fun M X J => ?_)
  repeat (first
    | (apply s_a TY; exact rfl)
    | apply w_seq
    | apply w_region
    | apply s_nil
    | apply t_norm
    | apply w_ret
    | (apply s_callG [] (appendSeq_g L h60); exact rfl; exact rfl; exact rfl; exact trivial; exact rfl; (first | exact ⟨rfl, rfl⟩ | exact ⟨⟨rfl, rfl⟩, ⟨rfl, rfl⟩⟩ | exact ⟨⟨rfl, rfl⟩, ⟨rfl, rfl⟩, ⟨rfl, rfl⟩⟩)))
  exact lvG_ret (gh_one 0 2 rfl rfl) (rg1 rfl (rv_tmp rfl))
def ascN (L : List Nm) : List Nm := L.mergeSort fun x y => decide (x ≤ y)
theorem ascN_len (L : List Nm) : (ascN L).length = L.length := (List.mergeSort_perm L _).length_eq
theorem sortS_g (L : List Nm) (n : Nat) (hn : n = L.length) (hl : L.length ≤ 1000000) : SummG Tryz.prog GG 236 [.arr 9 1 n ((strsF L).map .f)] [.ow 0] (.f (.tup [])) [.arr 9 1 n ((strsF (ascN L)).map .f)] :=
  sortOrdG (f := 236) (enc := encStr) ascN ascN_len (fun _ => rfl) (enters_of Tryz.func236 (by kernel_rfl) rfl) (fun blk off cap d w h1 h2 h3 => AnyG.slices_Sort_string sortS blk off cap d w h1 h2 h3) (fun p cap w => AnyG.slices_Sort_string_none sortS p cap w) L (by omega) 9 hn (strsF_enc L) (strsF_enc _)
set_option maxRecDepth 100000 in
set_option maxHeartbeats 1600000 in
theorem sortedV_g (L : List Nm) (h60 : L.length < 1000000) : SummG Tryz.prog GG 142 [] [.f (.fn 428 [.pt [.sl L.length (strsF L)] 0])] (.ow 0) [.row 9 1 L.length (strsF (ascN L))] := by
  refine summG_of Tryz.func142 rfl rfl 9 rfl (by simp) (by simp) (fun i B B' h1 h2 => by simp at h1) (fun M X J => ?_)
  repeat (first
    | (refine s_ghost rfl (gh_arr 0 (cs := strsF L) rfl rfl) ?_)
    | (apply s_callG [0] (sortS_g L _ rfl (by omega)); exact rfl; exact rfl; exact rfl; exact ⟨congrArg some (arr_ren0 _ _ _ _ _).symm, trivial⟩; exact rfl; exact ⟨rfl, rfl⟩)
    | (apply s_a TY; exact rfl)
    | apply w_seq
    | apply w_region
    | apply s_nil
    | apply t_norm
    | apply w_ret
    | (apply s_callG [] (collect_g L h60); exact rfl; exact rfl; exact rfl; exact trivial; exact rfl; (first | exact ⟨rfl, rfl⟩ | exact ⟨⟨rfl, rfl⟩, ⟨rfl, rfl⟩⟩ | exact ⟨⟨rfl, rfl⟩, ⟨rfl, rfl⟩, ⟨rfl, rfl⟩⟩)))
  refine lvG_ret (gh_trans (gh_unarr 0 (e := 9) (sz := 1) (n := L.length) (cs := strsF (ascN L)) (congrArg some (arr_ren0 _ _ _ _ _))) (gh_one 0 2 rfl rfl)) (rg1 rfl (rv_tmp rfl))
end Go.Proofs.YtbkdjlahhcofmaaGreatDoor
namespace Go.Proofs.YtbkdjlahhcofmaaGreatDoor
open Go.Proofs Go.Shelf
def sortedS_ren : Go.Shelf.Ren := ⟨fun | 6 => 142 | 8 => 235 | 9 => 236 | 11 => 305 | 13 => 259 | 12 => 306 | 23 => 328 | 24 => 329 | 14 => 378 | 15 => 379 | 16 => 380 | 17 => 381 | 18 => 382 | 19 => 383 | 20 => 384 | 21 => 385 | 22 => 386 | 25 => 429 | 26 => 396 | 27 => 397 | 28 => 430 | 29 => 431 | 30 => 432 | 31 => 457 | n => n, fun | 26 => 9 | 28 => 247 | 24 => 86 | 0 => 0 | 3 => 3 | 37 => 384 | 48 => 453 | 50 => 455 | 4 => 4 | 40 => 447 | 39 => 446 | 45 => 256 | 5 => 5 | 9 => 9 | 51 => 501 | 55 => 196 | 57 => 535 | 58 => 229 | 33 => 253 | n => n, fun | n => n⟩
theorem sortedS : Go.Proofs.SlLaysZ.n6 Tryz.prog sortedS_ren := {
  mixed := by kernel_rfl
  f6 := ⟨Tryz.f142.name, by decide, Tryz.func142.trans (congrArg some (by kernel_rfl))⟩
  f8 := ⟨Tryz.f235.name, by decide, Tryz.func235.trans (congrArg some (by kernel_rfl))⟩
  f11 := ⟨Tryz.f305.name, by decide, Tryz.func305.trans (congrArg some (by kernel_rfl))⟩
  t0 := Tryz.underlying0
  a0 := Tryz.isAgg0
  z0 := Tryz.sizeOf0
  v0 := Tryz.zeroValue0
  t24 := Tryz.underlying86
  a24 := Tryz.isAgg86
  z24 := Tryz.sizeOf86
  v24 := Tryz.zeroValue86
  t26 := Tryz.underlying9
  a26 := Tryz.isAgg9
  z26 := Tryz.sizeOf9
  v26 := Tryz.zeroValue9
  t28 := Tryz.underlying247
  a28 := Tryz.isAgg247
  z28 := Tryz.sizeOf247
  v28 := Tryz.zeroValue247
  i26 := by kernel_rfl }
def keysS_ren : Go.Shelf.Ren := ⟨fun | 7 => 143 | 10 => 237 | n => n, fun | 23 => 242 | 26 => 9 | 3 => 3 | 28 => 247 | 0 => 0 | 27 => 246 | 33 => 253 | 4 => 4 | n => n, fun | n => n⟩
theorem keysS : Go.Proofs.SlLaysZ.n7 Tryz.prog keysS_ren := {
  mixed := by kernel_rfl
  f7 := ⟨Tryz.f143.name, by decide, Tryz.func143.trans (congrArg some (by kernel_rfl))⟩
  f10 := ⟨Tryz.f237.name, by decide, Tryz.func237.trans (congrArg some (by kernel_rfl))⟩
  t0 := Tryz.underlying0
  a0 := Tryz.isAgg0
  z0 := Tryz.sizeOf0
  v0 := Tryz.zeroValue0
  t4 := Tryz.underlying4
  a4 := Tryz.isAgg4
  z4 := Tryz.sizeOf4
  v4 := Tryz.zeroValue4
  t23 := Tryz.underlying242
  a23 := Tryz.isAgg242
  z23 := Tryz.sizeOf242
  v23 := Tryz.zeroValue242
  t26 := Tryz.underlying9
  a26 := Tryz.isAgg9
  z26 := Tryz.sizeOf9
  v26 := Tryz.zeroValue9
  t27 := Tryz.underlying246
  a27 := Tryz.isAgg246
  z27 := Tryz.sizeOf246
  v27 := Tryz.zeroValue246
  t28 := Tryz.underlying247
  a28 := Tryz.isAgg247
  z28 := Tryz.sizeOf247
  v28 := Tryz.zeroValue247
  t33 := Tryz.underlying253
  a33 := Tryz.isAgg253
  z33 := Tryz.sizeOf253
  v33 := Tryz.zeroValue253 }
open Go Go.RowKit Go.Proofs Go.Shelf Go.Ab
open Go.Maps Go.Sort Go.ChangeMaps Go.MapKept
def encS (s : Nm) : Value := .string ⟨s.toArray⟩
def encV (z : Int) : Value := .int .i64 z
theorem beqS (a b : Nm) : ((⟨a.toArray⟩ : ByteArray) == (⟨b.toArray⟩ : ByteArray)) = decide (a = b) := by
  show (a.toArray == b.toArray) = decide (a = b)
  rw [Bool.eq_iff_iff, beq_iff_eq, decide_eq_true_eq]
  constructor
  · intro h; have := congrArg Array.toList h; simpa using this
  · rintro rfl; rfl
theorem keyS : KeyOk Tryz.prog 9 encS := by
  refine ⟨fun {β} val D c W => ?_, fun em c W => ?_, fun c => ?_⟩
  · have now : ∀ (D : List (Nm × β × Nat)) (i : Nat), Instr.findNow .string (encS c) (D.map (entG encS val)) i = some (lookG val c D i) := by
      intro D
      induction D with
      | nil => intro i; rfl
      | cons d D ih =>
        intro i
        rw [List.map_cons, Instr.findNow, lookG]
        have e : Instr.sameNow .string (encS c) (entG encS val d).key = some (decide (c = d.1)) := by
          show some ((⟨c.toArray⟩ : ByteArray) == (⟨d.1.toArray⟩ : ByteArray)) = _
          rw [beqS]
        rw [e]
        by_cases h : c = d.1
        · rw [decide_eq_true h, if_pos h]; rfl
        · rw [decide_eq_false h, if_neg h]; exact ih (i + 1)
    unfold Instr.findKey
    simp only [Sem.run_bind, run_underlying Tryz.underlying9, Result.andThen_ok, now]
    rfl
  · have h : ∀ d, (Instr.checkKey em (d + 1) 9 (encS c)).run Tryz.prog W = .ok () W := fun d => by
      unfold encS
      simp [Instr.checkKey, run_underlying Tryz.underlying9]
    exact h 9999
  · show ((⟨c.toArray⟩ : ByteArray) == (⟨c.toArray⟩ : ByteArray)) = true
    rw [beqS, decide_eq_true rfl]
theorem zeroI (W : World) : (zeroValue 3).run Tryz.prog W = .ok (.int .i64 0) W := by kernel_rfl
def mpG (f : Nm → Option Int) : Obj → Prop := mapFn encS encV f
def updM (f : Nm → Option Int) (c : Nm) (z : Int) : Nm → Option Int := fun k => if k = c then some z else f k
theorem mp_upd {f : Nm → Option Int} {c : Nm} {z : Int} (ob : Obj) (r : Nat) (w : World) (hg : mpG f ob) (hr : w.heap[r]? = some ob) : ∃ ob', (Instr.mapUpdate 242 (.map (some r)) (encS c) (.int .i64 z)).run Tryz.prog w = .ok () (w.putObj r ob') ∧ mpG (updM f c z) ob' ∧ ob'.isMap = true := by
  obtain ⟨o', h1, h2⟩ := mapFn_update keyS Tryz.underlying242 hg hr c z
  exact ⟨o', h1, h2, h2.isM⟩
theorem mp_look {f : Nm → Option Int} {c : Nm} (ob : Obj) (r : Nat) (w : World) (hg : mpG f ob) (hr : w.heap[r]? = some ob) : (Instr.lookup 242 (.map (some r)) (encS c) true).run Tryz.prog w = .ok (.tuple #[.int .i64 ((f c).getD 0), .bool (f c).isSome]) w := by
  rw [mapFn_lookup keyS Tryz.underlying242 zeroI hg hr c true]
  cases f c <;> rfl
structure KeysAre (f : Nm → Option Int) (ks : List Nm) : Prop where
  nd : ks.Nodup
  mem : ∀ c, c ∈ ks ↔ (f c).isSome = true
def readT : Value → Option (DataW Unit × List MemPlace) := fun _ => some (.lit (.bool true), [])
theorem owns_of {f : Nm → Option Int} {ks : List Nm} (hk : KeysAre f ks) (hl : ks.length ≤ 1000) (hb : ∀ c, c ∈ ks → c.length ≤ 1000) {o : Obj} {r : Nat} {w : World} (hg : mpG f o) (hr : w.heap[r]? = some o) : ∃ D : DataW Unit, w.ownsMap Tryz.prog 9 readT r 1000 D ∧ (strKeys D).Perm ks ∧ Maps.size D = ks.length := by
  obtain ⟨E, clock, rfl, h1, h2, h3, h4⟩ := hg
  have hperm : (E.map (·.1)).Perm ks := (List.perm_ext_iff_of_nodup h2 hk.nd).2 fun c => by
    rw [hk.mem, ← h4 c]
    constructor
    · intro hc
      cases hv : valG E c with
      | some v => rfl
      | none => exact absurd hc (valG_none.1 hv)
    · intro hc
      refine Classical.byContradiction fun hn => ?_
      rw [valG_none.2 hn] at hc; cases hc
  have hlen : E.length = ks.length := by rw [← hperm.length_eq]; simp
  have hsz : ∀ d ∈ E, d.1.length ≤ 1000 := fun d hd => hb _ (hperm.mem_iff.1 (List.mem_map_of_mem hd))
  have hrd : ∀ d ∈ E, Go.WideElems.rd Tryz.prog 9 readT (entG encS encV d) = some (.string d.1, .lit (.bool true)) := fun d hd => by
    have hkey : keyOf Tryz.prog 9 (encS d.1) = some (.string d.1) := by
      have h0 : (⟨d.1.toArray⟩ : ByteArray).size ≤ maxLen := by rw [strSz]; have := hsz d hd; unfold maxLen; omega
      simp [keyOf, mapKey, Tryz.underlying9, encS, h0]
    exact Go.WideElems.rd_mk (kl := .string d.1) (yv := (.lit (.bool true), [])) hkey rfl
  refine ⟨_, ⟨(E.map (entG encS encV)).toArray, clock, hr, ⟨?_, ?_, ?_⟩, ?_, rfl⟩, ?_, ?_⟩
  · simp; unfold maxLen; omega
  · refine ⟨fun x hx => ?_, ?_, ?_⟩
    · obtain ⟨d, hd, rfl⟩ := List.mem_map.1 hx
      exact h1 d hd
    · rw [show ((E.map (entG encS encV)).toArray.toList.map (·.born)) = E.map (·.2.2) by simp [List.map_map, Function.comp_def, entG]]
      exact h3
    · rw [show ((E.map (entG encS encV)).toArray.toList.map (·.key)) = (E.map (·.1)).map encS by simp [List.map_map, Function.comp_def, entG]]
      exact List.pairwise_map.2 (h2.imp fun hne e => hne (by unfold encS at e; simpa using e))
  · intro x hx
    obtain ⟨d, hd, rfl⟩ := List.mem_map.1 hx
    exact ⟨_, hrd d hd⟩
  · simp; omega
  · refine List.Perm.trans ?_ hperm
    show (((_ : List _).foldr DataW.insert []).map fun q => strOf q.1).Perm _
    refine ((Go.WideShapes.sorted_perm _).map _).trans ?_
    rw [List.map_map, show (E.map (entG encS encV)).toArray.toList = E.map (entG encS encV) by simp, List.map_map]
    refine List.Perm.of_eq (List.map_congr_left fun d hd => ?_)
    simp only [Function.comp_apply]
    rw [Go.WideElems.rg_of (hrd d hd)]
    simp only [strOf]
  · rw [Maps.size_eq, length_sorted, List.length_map]
    simp [hlen]
theorem sortsW (m : Nat) : AnyZ.SortsIn Tryz.prog sortedS_ren Fence.wide m :=
  ⟨fun blk off cap ss W hH hblk hsz => callsIn_wide.2 (AnyG.slices_Sort_string sortS blk off cap ss W hH hblk hsz),
   fun pp cap W => callsIn_wide.2 (AnyG.slices_Sort_string_none sortS pp cap W)⟩
set_option maxHeartbeats 1000000 in
theorem sortedK_w {f : Nm → Option Int} {ks : List Nm} (hk : KeysAre f ks) (hl : ks.length ≤ 1000) (hb : ∀ c, c ∈ ks → c.length ≤ 1000) {o : Obj} {r B : Nat} {w : World} (hg : mpG f o) (hr : w.heap[r]? = some o) (hB : w.cell? ⟨B, 0, none⟩ = some (.map (some r))) :
    Calls Tryz.prog 142 #[.func (.func 237) #[] #[.pointer (some ⟨B, 0, none⟩)]] w fun e w' => ∃ v, e = .returned v ∧ w'.ownsRow w.heap.size 9 1 v ks.length ((ascN ks).map encStr) ∧ Ext w w' := by
  obtain ⟨D, hown, hperm, hsz⟩ := owns_of hk hl hb hg hr
  refine (callsIn_wide (n := 6)).1 ?_
  have hBl : B < w.heap.size := by
    refine Classical.byContradiction fun h => ?_
    unfold World.cell? at hB
    rw [Array.getElem?_eq_none (by simpa using h)] at hB
    simp at hB
  have hseq : SeqGives Fence.wide 3 Tryz.prog 237 #[.pointer (some ⟨B, 0, none⟩)] encStr (fun ss => ss.Perm (strKeys D)) (Maps.size D) w :=
    AnyZ.keys_gives (ρ := keysS_ren) { keysS with } Fence.wide _ trivial rfl (by omega) B r 1000 D w hBl hB hown
  have cS := AnyZ.sorted_in sortedS Fence.wide 6 trivial trivial trivial trivial rfl (by omega) (sortsW _) (enters_of Tryz.func236 (by kernel_rfl) rfl) 237 #[.pointer (some ⟨B, 0, none⟩)] trivial (enters_of Tryz.func237 (by kernel_rfl) rfl) _ _ (by rw [hsz]; unfold maxLen; omega) (by rw [hsz]; omega) w hseq
  change CallsIn _ _ Tryz.prog 142 _ _ _ at cS
  refine cS.mono ?_
  rintro e w' ⟨v, ss, rfl, hS, hrow, hnil, hbel⟩
  have hp : ss.Perm ks := hS.trans hperm
  have e1 : ss.mergeSort (fun x y => decide (x ≤ y)) = ascN ks := mergeSort_of_perm hp
  rw [e1, hp.length_eq] at hrow
  exact ⟨v, rfl, hrow, ⟨hbel.os, hbel.tape, hbel.output, hbel.size, fun k hk => hbel.block k hk⟩⟩
end Go.Proofs.YtbkdjlahhcofmaaGreatDoor
namespace Go.Proofs.YtbkdjlahhcofmaaGreatDoor
open Go Go.RowKit Go.Proofs Go.Shelf Go.Ab
structure Alt where
  nm : Nm
  ver : Int
  cells : List Int
  gone : Bool
  had : Nm → Option Int
  kys : List Nm
instance : Inhabited Alt := ⟨⟨[], 0, [], false, fun _ => none, []⟩⟩
def altC (a : Alt) : List FV := [sv a.nm, iv a.ver, .sl a.cells.length (intsF a.cells), bv a.gone, .v (.slice none 0 0), .mp (mpG a.had)]
def altF (a : Alt) : FV := .pt (altC a) 0
def altsF (l : List Alt) : List FV := l.map altF
theorem altsF_len (l : List Alt) : (altsF l).length = l.length * 1 := by simp [altsF]
theorem altsF_ne {l : List Alt} {k : Nat} (h : k < l.length) : altsF l ≠ [] := map_ne h
theorem altsF_at {l : List Alt} {k : Nat} (h : k < l.length) : (altsF l)[k * 1]? = some (.pt (altC l[k]) 0) := map_at h
def nmA (l : List Alt) (n : Nm) (i : Nat) : Bool := decide ((l.getD i default).nm = n)
set_option maxRecDepth 100000 in
theorem isAlt_s (a : Alt) (n : Nm) : Summ Tryz.prog GG 240 [.pt (altC a) 0, .pt [sv n] 0] (bv (decide (a.nm = n))) := by
  by_cases h : a.nm = n
  · rw [decide_eq_true h]
    refine summW Tryz.func240 rfl rfl 11 rfl (by simp) (fun M0 => ?_)
    repeat (first
    | (apply s_nilCheckF; exact rfl; exact rfl; exact rfl)
    | (apply s_bind; exact rfl; exact rfl; exact rfl; exact rfl; exact rfl; exact rfl; exact eqs_t (by assumption))
    | (apply s_a TY; exact rfl)
    | apply w_seq
    | apply w_region
    | (apply w_draw (id := 1) 6 rfl (by kernel_rfl))
    | apply s_nil
    | apply t_norm
    | apply w_ret)
    exact lv_ret (ret1 rfl (res_tmp rfl))
  · rw [decide_eq_false h]
    refine summW Tryz.func240 rfl rfl 11 rfl (by simp) (fun M0 => ?_)
    repeat (first
    | (apply s_nilCheckF; exact rfl; exact rfl; exact rfl)
    | (apply s_bind; exact rfl; exact rfl; exact rfl; exact rfl; exact rfl; exact rfl; exact eqs_f (by assumption))
    | (apply s_a TY; exact rfl)
    | apply w_seq
    | apply w_region
    | (apply w_draw (id := 1) 6 rfl (by kernel_rfl))
    | apply s_nil
    | apply t_norm
    | apply w_ret)
    exact lv_ret (ret1 rfl (res_tmp rfl))
set_option maxRecDepth 100000 in
theorem idxAlt_s (l : List Alt) (n : Nm) (hl : l.length ≤ 1000000) : Summ Tryz.prog GG 239 [.sl l.length (altsF l), .fn 240 [.pt [sv n] 0]] (iv (idxP l.length (nmA l n))) := by
  refine summW Tryz.func239 rfl rfl 19 rfl (by simp) (fun M0 => ?_)
  repeat (first
    | (apply s_a TY; exact rfl)
    | apply w_seq
    | apply w_region
    | apply s_nil
    | apply t_norm
    | apply w_block)
  apply w_loop (fun k : Nat => ⟨(Ab.upd (Ab.upd (Ab.upd (Ab.upd (fun _ => .bot) 0 (.f (.sl l.length (altsF l)))) 1 (.f (.fn 240 [.pt [sv n] 0]))) 7 (.f (iv l.length))) 8 (.f (iv (k : Nat)))), (fun _ => none), 0⟩) (fun k => k ≤ l.length ∧ ∀ i, i < k → nmA l n i = false) (fun k => l.length - k) 0 (⟨Nat.zero_le _, fun j h => absurd h (Nat.not_lt_zero j)⟩) (gh_le ⟨le_upd rfl trivial (le_upd rfl trivial (le_upd rfl trivial (le_upd rfl trivial (le_nil _)))), le_h0 _ _⟩)
  intro k ⟨hk, hz⟩
  by_cases hc : k < l.length
  · have Hc := isAlt_s l[k] n
    have hpe : nmA l n k = decide (l[k].nm = n) := by unfold nmA; rw [getD_at hc]
    rw [← hpe] at Hc
    cases hp : nmA l n k with
    | true =>
      rw [hp] at Hc
      rw [idxP_at hc hz hp]
      repeat (first
    | (apply s_a TY; exact rfl)
    | (apply s_t; exact rfl; (first | assumption | omega))
    | apply w_seq
    | apply w_region
    | apply s_nil
    | apply t_norm
    | apply t_ret
    | apply k_ret
    | apply w_block
    | apply w_ret
    | apply w_skip
    | (apply w_condT; exact rfl; exact rfl)
    | (apply s_k (Hc); exact rfl)
    | (apply s_c TY; exact rfl; (first | omega | exact ⟨by omega, by (first | with_reducible assumption | ((with_reducible apply altsF_ne); omega) | assumption)⟩))
    | (apply s_l TY; exact rfl; (first | exact rfl | with_reducible assumption | ((with_reducible apply altsF_at); omega) | assumption)))
      exact lv_ret (ret1 rfl (res_tmp rfl))
    | false =>
      rw [hp] at Hc
      repeat (first
    | (apply s_a TY; exact rfl)
    | (apply s_t; exact rfl; (first | assumption | omega))
    | apply w_seq
    | apply w_region
    | apply s_nil
    | apply t_norm
    | apply k_norm
    | apply w_block
    | apply w_skip
    | (apply w_condT; exact rfl; exact rfl)
    | (apply w_condF; exact rfl; exact rfl)
    | (apply s_k (Hc); exact rfl)
    | (apply s_c TY; exact rfl; (first | omega | exact ⟨by omega, by (first | with_reducible assumption | ((with_reducible apply altsF_ne); omega) | assumption)⟩))
    | (apply s_l TY; exact rfl; (first | exact rfl | with_reducible assumption | ((with_reducible apply altsF_at); omega) | assumption)))
      exact ⟨k + 1, ⟨by omega, fun i hi => by
        by_cases e : i = k
        · subst e; exact hp
        · exact hz i (by omega)⟩, by omega, gh_le ⟨le_upd rfl trivial (le_upd rfl trivial (le_upd rfl trivial (le_upd rfl trivial (le_nil _)))), le_h0 _ _⟩⟩
  · rw [idxP_no fun i hi => hz i (by omega)]
    repeat (first
    | (apply s_a TY; exact rfl)
    | (apply s_f; exact rfl; (first | assumption | omega))
    | apply w_seq
    | apply w_region
    | apply s_nil
    | apply t_norm
    | apply t_exit
    | apply k_hit
    | apply w_exit
    | apply w_ret
    | (apply w_condF; exact rfl; exact rfl))
    exact lv_ret (ret1 rfl (res_tmp rfl))
end Go.Proofs.YtbkdjlahhcofmaaGreatDoor
namespace Go.Proofs.YtbkdjlahhcofmaaGreatDoor
open Go Go.RowKit Go.Proofs Go.Shelf Go.Ab
def bxC (j : Nat) (a : Alt) : List AV := [.f (sv a.nm), .f (iv a.ver), .f (.sl a.cells.length (intsF a.cells)), .f (bv a.gone), .f (.v (.slice none 0 0)), .ow j]
def HX (al : List Alt) (q : Nat) (i : Nat) : Option Blk := bif Nat.blt i 1000 && Nat.ble 5 i && !(Nat.beq ((i - 5) / 2) q) then (match al[(i - 5) / 2]? with
  | none => none
  | some a => bif Nat.beq ((i - 5) % 2) 0 then some (.map (mpG a.had)) else some (.box (bxC (i - 1) a))) else none
def PT (al : List Alt) (q : Nat) : List AV := (List.range al.length).map fun j => bif Nat.beq j q then .bx 4 0 else .bx (2 * j + 6) 0
def HP (cs : List Cel) (ppl : List Nm) (al : List Alt) (q : Nat) : Nat → Option Blk := Ab.upd (Ab.upd (Ab.upd (HX al q) 0 (some (.box [.f (xF cs), .ow 1, .ow 2]))) 1 (some (.row 9 1 ppl.length (strsF ppl)))) 2 (some (.rowA 241 1 al.length (PT al q)))
def HB (cs : List Cel) (ppl : List Nm) (al : List Alt) : Nat → Option Blk := HP cs ppl al 1000
def HO (cs : List Cel) (ppl : List Nm) (al : List Alt) (k : Nat) (a : Alt) : Nat → Option Blk := Ab.upd (Ab.upd (HP cs ppl al k) 3 (some (.map (mpG a.had)))) 4 (some (.box (bxC 3 a)))
theorem upd_if {α : Type} (s : Nat → α) (k : Nat) (a : α) (t : Nat) : Ab.upd s k a t = if t = k then a else s t := by
  by_cases h : t = k
  · subst h; rw [Ab.upd_same, if_pos rfl]
  · rw [Ab.upd_other _ _ h, if_neg h]
theorem HX_lo (al : List Alt) (q : Nat) {i : Nat} (h : i < 5) : HX al q i = none := by
  unfold HX
  have : Nat.ble 5 i = false := by rw [Bool.eq_false_iff]; intro e; have := Nat.le_of_ble_eq_true e; omega
  simp [this]
theorem HX_hi (al : List Alt) (q : Nat) {i : Nat} (h : 1000 ≤ i) : HX al q i = none := by
  unfold HX
  have : Nat.blt i 1000 = false := by rw [Bool.eq_false_iff]; intro e; have := Nat.le_of_ble_eq_true e; omega
  simp [this]
theorem beqF {a b : Nat} (h : a ≠ b) : Nat.beq a b = false := by
  cases e : Nat.beq a b
  · rfl
  · exact absurd (Nat.eq_of_beq_eq_true e) h
theorem beqT {a b : Nat} (h : a = b) : Nat.beq a b = true := by subst h; exact Nat.beq_refl _
theorem HX_mid (al : List Alt) (q : Nat) {i : Nat} (h : 5 ≤ i ∧ i < 1000) : HX al q i = if (i - 5) / 2 = q then none else (match al[(i - 5) / 2]? with
  | none => none
  | some a => if (i - 5) % 2 = 0 then some (.map (mpG a.had)) else some (.box (bxC (i - 1) a))) := by
  unfold HX
  have h1 : Nat.ble 5 i = true := Nat.ble_eq_true_of_le h.1
  have h2 : Nat.blt i 1000 = true := Nat.ble_eq_true_of_le h.2
  rw [h1, h2, Bool.true_and, Bool.true_and]
  by_cases hq : (i - 5) / 2 = q
  · rw [beqT hq, if_pos hq]; rfl
  · rw [beqF hq, if_neg hq]
    show (match al[(i - 5) / 2]? with | none => none | some a => _) = _
    cases al[(i - 5) / 2]? with
    | none => rfl
    | some a =>
      by_cases hm : (i - 5) % 2 = 0
      · simp only [beqT hm, if_pos hm, cond_true]
      · simp only [beqF hm, if_neg hm, cond_false]
theorem HX_map {al : List Alt} {q j : Nat} {a : Alt} (ha : al[j]? = some a) (hq : j ≠ q) (hj : j < 400) : HX al q (2 * j + 5) = some (.map (mpG a.had)) := by
  rw [HX_mid al q (by omega), show (2 * j + 5 - 5) / 2 = j by omega, if_neg hq, ha]
  exact if_pos (by omega)
theorem HX_box {al : List Alt} {q j : Nat} {a : Alt} (ha : al[j]? = some a) (hq : j ≠ q) (hj : j < 400) : HX al q (2 * j + 6) = some (.box (bxC (2 * j + 5) a)) := by
  rw [HX_mid al q (by omega), show (2 * j + 6 - 5) / 2 = j by omega, if_neg hq, ha]
  exact (if_neg (by omega)).trans rfl
theorem HX_some {al : List Alt} {q i : Nat} {B : Blk} (h : HX al q i = some B) : ∃ j a, al[j]? = some a ∧ j ≠ q ∧ j < 500 ∧ ((i = 2 * j + 5 ∧ B = .map (mpG a.had)) ∨ (i = 2 * j + 6 ∧ B = .box (bxC (2 * j + 5) a))) := by
  by_cases h1 : i < 5
  · rw [HX_lo al q h1] at h; cases h
  by_cases h2 : 1000 ≤ i
  · rw [HX_hi al q h2] at h; cases h
  rw [HX_mid al q (by omega)] at h
  split at h
  · cases h
  rename_i hq
  cases ha : al[(i - 5) / 2]? with
  | none => rw [ha] at h; cases h
  | some a =>
    rw [ha] at h
    refine ⟨(i - 5) / 2, a, ha, hq, by omega, ?_⟩
    change (if (i - 5) % 2 = 0 then some (Blk.map (mpG a.had)) else some (.box (bxC (i - 1) a))) = some B at h
    split at h
    · cases h; exact .inl ⟨by omega, rfl⟩
    · cases h; exact .inr ⟨by omega, by rw [show i - 1 = 2 * ((i - 5) / 2) + 5 by omega]⟩
theorem HX_q (al : List Alt) {q i : Nat} (h : (i - 5) / 2 = q) : HX al q i = none := by
  by_cases h1 : i < 5
  · exact HX_lo al q h1
  by_cases h2 : 1000 ≤ i
  · exact HX_hi al q h2
  rw [HX_mid al q (by omega), if_pos h]
theorem HX_ne (al : List Alt) {q q' i : Nat} (h : (i - 5) / 2 ≠ q) (h' : (i - 5) / 2 ≠ q') : HX al q i = HX al q' i := by
  by_cases h1 : i < 5
  · rw [HX_lo al q h1, HX_lo al q' h1]
  by_cases h2 : 1000 ≤ i
  · rw [HX_hi al q h2, HX_hi al q' h2]
  rw [HX_mid al q (by omega), HX_mid al q' (by omega), if_neg h, if_neg h']
theorem HX_set (al : List Alt) (q : Nat) (a : Alt) : HX (al.set q a) q = HX al q := by
  funext i
  by_cases h1 : i < 5
  · rw [HX_lo _ q h1, HX_lo al q h1]
  by_cases h2 : 1000 ≤ i
  · rw [HX_hi _ q h2, HX_hi al q h2]
  rw [HX_mid _ q (by omega), HX_mid al q (by omega)]
  by_cases h : (i - 5) / 2 = q
  · rw [if_pos h, if_pos h]
  · rw [if_neg h, if_neg h, List.getElem?_set_ne (Ne.symm h)]
theorem PT_len (al : List Alt) (q : Nat) : (PT al q).length = al.length := by simp [PT]
theorem PT_set (al : List Alt) (q k : Nat) (a : Alt) : PT (al.set k a) q = PT al q := by simp [PT]
theorem PT_at {al : List Alt} {q j : Nat} (h : j < al.length) (hq : j ≠ q) : (PT al q)[j]? = some (.bx (2 * j + 6) 0) := by
  unfold PT
  rw [List.getElem?_map, List.getElem?_range h, Option.map_some, beqF hq]; rfl
theorem PT_mem {al : List Alt} {q : Nat} {x : AV} (h : x ∈ PT al q) : (x = .bx 4 0 ∧ q < al.length) ∨ ∃ j, j < al.length ∧ j ≠ q ∧ x = .bx (2 * j + 6) 0 := by
  unfold PT at h
  obtain ⟨j, hj, rfl⟩ := List.mem_map.1 h
  rw [List.mem_range] at hj
  by_cases e : j = q
  · subst e; rw [beqT rfl]; exact .inl ⟨rfl, hj⟩
  · rw [beqF e]; exact .inr ⟨j, hj, e, rfl⟩
theorem HP_x (cs : List Cel) (ppl : List Nm) (al : List Alt) (q : Nat) {i : Nat} (h : 3 ≤ i) : HP cs ppl al q i = HX al q i := by
  unfold HP
  rw [upd_if, if_neg (by omega), upd_if, if_neg (by omega), upd_if, if_neg (by omega)]
theorem HO_x (cs : List Cel) (ppl : List Nm) (al : List Alt) (k : Nat) (a : Alt) {i : Nat} (h : 5 ≤ i) : HO cs ppl al k a i = HX al k i := by
  unfold HO
  rw [upd_if, if_neg (by omega), upd_if, if_neg (by omega), HP_x _ _ _ _ (by omega)]
theorem bx_closed {h : Nat → Option Blk} {j : Nat} (a : Alt) (hj : (h j).isSome = true) : closedB h (.box (bxC j a)) := fun x hx => by
  unfold bxC at hx
  simp only [List.mem_cons, List.not_mem_nil, or_false] at hx
  rcases hx with rfl | rfl | rfl | rfl | rfl | rfl <;> first | trivial | exact hj
theorem HB_cl (cs : List Cel) (ppl : List Nm) (al : List Alt) (hl : al.length ≤ 400) : ∀ i B, HB cs ppl al i = some B → closedB (HB cs ppl al) B := fun i B h => by
  by_cases h0 : i = 0
  · subst h0
    have : B = .box [.f (xF cs), .ow 1, .ow 2] := (Option.some.inj h).symm
    subst this
    intro x hx
    simp only [List.mem_cons, List.not_mem_nil, or_false] at hx
    rcases hx with rfl | rfl | rfl <;> first | trivial | exact rfl
  by_cases h1 : i = 1
  · subst h1; cases h; trivial
  by_cases h2 : i = 2
  · subst h2; cases h
    intro x hx
    rcases PT_mem hx with ⟨_, hq⟩ | ⟨j, hj, hq, rfl⟩
    · omega
    · show (HB cs ppl al (2 * j + 6)).isSome = true
      unfold HB; rw [HP_x _ _ _ _ (by omega), HX_box (List.getElem?_eq_getElem hj) hq (by omega)]; rfl
  unfold HB at h
  rw [HP_x _ _ _ _ (by omega)] at h
  obtain ⟨j, a, ha, hq, hj, ⟨rfl, rfl⟩ | ⟨rfl, rfl⟩⟩ := HX_some h
  · trivial
  · have hj2 := (List.getElem?_eq_some_iff.1 ha).1
    refine bx_closed a ?_
    unfold HB; rw [HP_x _ _ _ _ (by omega), HX_map ha hq (by omega)]; rfl
theorem HO_cl (cs : List Cel) (ppl : List Nm) (al : List Alt) (k : Nat) (a : Alt) (hl : al.length ≤ 400) : ∀ i B, HO cs ppl al k a i = some B → closedB (HO cs ppl al k a) B := fun i B h => by
  by_cases h0 : i = 0
  · subst h0
    have : B = .box [.f (xF cs), .ow 1, .ow 2] := (Option.some.inj h).symm
    subst this
    intro x hx
    simp only [List.mem_cons, List.not_mem_nil, or_false] at hx
    rcases hx with rfl | rfl | rfl <;> first | trivial | exact rfl
  by_cases h1 : i = 1
  · subst h1; cases h; trivial
  by_cases h2 : i = 2
  · subst h2; cases h
    intro x hx
    rcases PT_mem hx with ⟨rfl, hq⟩ | ⟨j, hj, hq, rfl⟩
    · exact rfl
    · show (HO cs ppl al k a (2 * j + 6)).isSome = true
      rw [HO_x _ _ _ _ _ (by omega), HX_box (List.getElem?_eq_getElem hj) hq (by omega)]; rfl
  by_cases h3 : i = 3
  · subst h3; cases h; trivial
  by_cases h4 : i = 4
  · subst h4; cases h; exact bx_closed a rfl
  rw [HO_x _ _ _ _ _ (by omega)] at h
  obtain ⟨j, a', ha, hq, hj, ⟨rfl, rfl⟩ | ⟨rfl, rfl⟩⟩ := HX_some h
  · trivial
  · have hj2 := (List.getElem?_eq_some_iff.1 ha).1
    refine bx_closed a' ?_
    rw [HO_x _ _ _ _ _ (by omega), HX_map ha hq (by omega)]; rfl
theorem mv_h (st : St) (i j : Nat) (B : Blk) (x : Nat) : (st.mv i j B).h x = if x = i then none else if x = j then some (B.mapA (mvA i j)) else (st.h x).map (Blk.mapA (mvA i j)) := by
  show (bif Nat.beq x i then none else bif Nat.beq x j then some (B.mapA (mvA i j)) else (st.h x).map (Blk.mapA (mvA i j))) = _
  by_cases h : x = i
  · rw [beqT h, if_pos h]; rfl
  · rw [beqF h, if_neg h]
    by_cases h2 : x = j
    · rw [beqT h2, if_pos h2]; rfl
    · rw [beqF h2, if_neg h2]; rfl
theorem mvA_f (i j : Nat) (x : FV) : mvA i j (.f x) = .f x := rfl
theorem mvA_ow (i j k : Nat) : mvA i j (.ow k) = .ow (if k = i then j else k) := by
  show AV.ofC (bif Nat.beq k i then some (Cap.ow j) else some (Cap.ow k)) = _
  by_cases h : k = i
  · rw [beqT h, if_pos h]; rfl
  · rw [beqF h, if_neg h]; rfl
theorem mvA_bx (i j k o : Nat) : mvA i j (.bx k o) = .bx (if k = i then j else k) o := by
  show AV.ofC (bif Nat.beq k i then some (Cap.bx j o) else some (Cap.bx k o)) = _
  by_cases h : k = i
  · rw [beqT h, if_pos h]; rfl
  · rw [beqF h, if_neg h]; rfl
theorem bxC_mv (i j k : Nat) (a : Alt) : (bxC k a).map (mvA i j) = bxC (if k = i then j else k) a := by
  simp only [bxC, List.map_cons, List.map_nil, mvA_f, mvA_ow]
theorem PT_open (al : List Alt) {k : Nat} (hk : k < 400) : ((PT al 1000).map (mvA (2 * k + 5) 3)).map (mvA (2 * k + 6) 4) = (PT al k) ∨ 400 < al.length := by
  by_cases hl : al.length ≤ 400
  · refine .inl ?_
    unfold PT
    rw [List.map_map, List.map_map]
    refine List.map_congr_left fun j hj => ?_
    rw [List.mem_range] at hj
    simp only [Function.comp_apply]
    rw [beqF (show j ≠ 1000 by omega), cond_false, mvA_bx, if_neg (by omega), mvA_bx]
    by_cases e : j = k
    · subst e; rw [if_pos rfl, beqT rfl]; rfl
    · rw [if_neg (by omega), beqF e]; rfl
  · exact .inr (by omega)
theorem PT_close (al : List Alt) {k : Nat} (hk : k < 400) (hl : al.length ≤ 400) : ((PT al k).map (mvA 3 (2 * k + 5))).map (mvA 4 (2 * k + 6)) = PT al 1000 := by
  unfold PT
  rw [List.map_map, List.map_map]
  refine List.map_congr_left fun j hj => ?_
  rw [List.mem_range] at hj
  simp only [Function.comp_apply]
  rw [beqF (show j ≠ 1000 by omega), cond_false]
  by_cases e : j = k
  · subst e; rw [beqT rfl, cond_true, mvA_bx, if_neg (by omega), mvA_bx, if_pos rfl]
  · rw [beqF e, cond_false, mvA_bx, if_neg (by omega), mvA_bx, if_neg (by omega)]
section
variable {C : Ctx} {N : Nat} {s : Nat → AV} {cs : List Cel} {ppl : List Nm} {al : List Alt} {k nx : Nat}
set_option maxHeartbeats 1000000 in
theorem gh_open (hk : k < al.length) (hl : al.length ≤ 400) (hJ : ∀ i, i ≠ 0 → C.J0 i = none) : Gh C N ⟨s, HB cs ppl al, nx⟩ ⟨fun t => mvA (2 * k + 6) 4 (mvA (2 * k + 5) 3 (s t)), HO cs ppl al k al[k], nx⟩ := by
  have hg := List.getElem?_eq_getElem hk
  have hx : ∀ i, 3 ≤ i → HB cs ppl al i = HX al 1000 i := fun i h1 => HP_x _ _ _ _ h1
  have e1 : (⟨s, HB cs ppl al, nx⟩ : St).h (2 * k + 5) = some (.map (mpG al[k].had)) := by
    exact (hx (2 * k + 5) (by omega)).trans (HX_map hg (by omega) (by omega))
  have e2 : (⟨s, HB cs ppl al, nx⟩ : St).h 3 = none := (hx 3 (by omega)).trans (HX_lo _ _ (by omega))
  refine gh_trans (gh_mvU (2 * k + 5) 3 (by omega) e1 e2 (hJ _ (by omega)) (hJ _ (by omega))) ?_
  have e3 : (St.mv ⟨s, HB cs ppl al, nx⟩ (2 * k + 5) 3 (.map (mpG al[k].had))).h (2 * k + 6) = some (.box (bxC 3 al[k])) := by
    rw [mv_h, if_neg (by omega), if_neg (by omega)]
    refine (congrArg (Option.map _) ((hx (2 * k + 6) (by omega)).trans (HX_box hg (by omega) (by omega)))).trans ?_
    rw [Option.map_some, Blk.mapA, bxC_mv, if_pos rfl]
  have e4 : (St.mv ⟨s, HB cs ppl al, nx⟩ (2 * k + 5) 3 (.map (mpG al[k].had))).h 4 = none := by
    rw [mv_h, if_neg (by omega), if_neg (by omega)]
    exact congrArg (Option.map _) ((hx 4 (by omega)).trans (HX_lo _ _ (by omega)))
  refine gh_trans (gh_mvU (2 * k + 6) 4 (by omega) e3 e4 (hJ _ (by omega)) (hJ _ (by omega))) ?_
  refine gh_eq (funext fun i => ?_)
  show (St.mv (St.mv ⟨s, HB cs ppl al, nx⟩ (2 * k + 5) 3 (.map (mpG al[k].had))) (2 * k + 6) 4 (.box (bxC 3 al[k]))).h i = _
  rw [mv_h, mv_h]
  by_cases c6 : i = 2 * k + 6
  · rw [if_pos c6, HO_x _ _ _ _ _ (by omega), HX_q _ (by omega)]
  rw [if_neg c6]
  by_cases c4 : i = 4
  · subst c4
    rw [if_pos rfl, Blk.mapA, bxC_mv, if_neg (by omega)]; rfl
  rw [if_neg c4]
  by_cases c5 : i = 2 * k + 5
  · rw [if_pos c5, HO_x _ _ _ _ _ (by omega), HX_q _ (by omega)]; rfl
  rw [if_neg c5]
  by_cases c3 : i = 3
  · subst c3; rw [if_pos rfl]; rfl
  rw [if_neg c3]
  show Option.map _ (Option.map _ (HB cs ppl al i)) = _
  by_cases c0 : i = 0
  · subst c0
    show some (Blk.box [_, mvA _ _ (mvA _ _ (.ow 1)), mvA _ _ (mvA _ _ (.ow 2))]) = _
    rw [mvA_ow, if_neg (by omega), mvA_ow, if_neg (by omega), mvA_ow, if_neg (by omega), mvA_ow, if_neg (by omega)]; rfl
  by_cases c1 : i = 1
  · subst c1; rfl
  by_cases c2 : i = 2
  · subst c2
    show some (Blk.rowA _ _ _ (((PT al 1000).map _).map _)) = some (Blk.rowA _ _ _ (PT al k))
    rw [(PT_open al (show k < 400 by omega)).resolve_right (by omega)]
  rw [HO_x _ _ _ _ _ (by omega)]
  show Option.map _ (Option.map _ (HP cs ppl al 1000 i)) = _
  rw [HP_x _ _ _ _ (by omega)]
  cases hh : HX al 1000 i with
  | none =>
    by_cases ck : (i - 5) / 2 = k
    · rw [HX_q al ck]; rfl
    · by_cases ck2 : (i - 5) / 2 = 1000
      · rw [HX_hi al k (by omega)]; rfl
      · rw [HX_ne al ck ck2, hh]; rfl
  | some B =>
    obtain ⟨j, a, ha, hq, hj, hB⟩ := HX_some hh
    have hj2 := (List.getElem?_eq_some_iff.1 ha).1
    rw [HX_ne al (q := k) (q' := 1000) (by omega) (by omega), hh]
    rcases hB with ⟨hi, rfl⟩ | ⟨hi, rfl⟩
    · rfl
    · rw [Option.map_some, Option.map_some, Blk.mapA, Blk.mapA, bxC_mv, if_neg (by omega), bxC_mv, if_neg (by omega)]
set_option maxHeartbeats 1000000 in
theorem gh_close {a : Alt} (hk : k < al.length) (hl : al.length ≤ 400) (hJ : ∀ i, i ≠ 0 → C.J0 i = none) : Gh C N ⟨s, HO cs ppl al k a, nx⟩ ⟨fun t => mvA 4 (2 * k + 6) (mvA 3 (2 * k + 5) (s t)), HB cs ppl (al.set k a), nx⟩ := by
  have hg : (al.set k a)[k]? = some a := by rw [List.getElem?_set_self hk]
  have hls : (al.set k a).length = al.length := List.length_set
  have e1 : (⟨s, HO cs ppl al k a, nx⟩ : St).h 3 = some (.map (mpG a.had)) := rfl
  have e2 : (⟨s, HO cs ppl al k a, nx⟩ : St).h (2 * k + 5) = none := (HO_x cs ppl al k a (i := 2 * k + 5) (by omega)).trans (HX_q al (by omega))
  refine gh_trans (gh_mvU 3 (2 * k + 5) (by omega) e1 e2 (hJ _ (by omega)) (hJ _ (by omega))) ?_
  have e3 : (St.mv ⟨s, HO cs ppl al k a, nx⟩ 3 (2 * k + 5) (.map (mpG a.had))).h 4 = some (.box (bxC (2 * k + 5) a)) := by
    rw [mv_h, if_neg (by omega), if_neg (by omega)]
    show (some (Blk.box (bxC 3 a))).map _ = _
    rw [Option.map_some, Blk.mapA, bxC_mv, if_pos rfl]
  have e4 : (St.mv ⟨s, HO cs ppl al k a, nx⟩ 3 (2 * k + 5) (.map (mpG a.had))).h (2 * k + 6) = none := by
    rw [mv_h, if_neg (by omega), if_neg (by omega)]
    exact congrArg (Option.map _) ((HO_x cs ppl al k a (i := 2 * k + 6) (by omega)).trans (HX_q al (by omega)))
  refine gh_trans (gh_mvU 4 (2 * k + 6) (by omega) e3 e4 (hJ _ (by omega)) (hJ _ (by omega))) ?_
  refine gh_eq (funext fun i => ?_)
  show (St.mv (St.mv ⟨s, HO cs ppl al k a, nx⟩ 3 (2 * k + 5) (.map (mpG a.had))) 4 (2 * k + 6) (.box (bxC (2 * k + 5) a))).h i = _
  rw [mv_h, mv_h]
  show _ = HP cs ppl (al.set k a) 1000 i
  by_cases c4 : i = 4
  · subst c4
    rw [if_pos rfl, HP_x _ _ _ _ (by omega), HX_lo _ _ (by omega)]
  rw [if_neg c4]
  by_cases c6 : i = 2 * k + 6
  · subst c6
    rw [if_pos rfl, Blk.mapA, bxC_mv, if_neg (by omega), HP_x _ _ _ _ (by omega), HX_box hg (by omega) (by omega)]
  rw [if_neg c6]
  by_cases c3 : i = 3
  · subst c3
    rw [if_pos rfl, HP_x _ _ _ _ (by omega), HX_lo _ _ (by omega)]; rfl
  rw [if_neg c3]
  by_cases c5 : i = 2 * k + 5
  · subst c5
    rw [if_pos rfl, HP_x _ _ _ _ (by omega), HX_map hg (by omega) (by omega)]; rfl
  rw [if_neg c5]
  show Option.map _ (Option.map _ (HO cs ppl al k a i)) = _
  by_cases c0 : i = 0
  · subst c0
    show some (Blk.box [_, mvA _ _ (mvA _ _ (.ow 1)), mvA _ _ (mvA _ _ (.ow 2))]) = _
    rw [mvA_ow, if_neg (by omega), mvA_ow, if_neg (by omega), mvA_ow, if_neg (by omega), mvA_ow, if_neg (by omega)]; rfl
  by_cases c1 : i = 1
  · subst c1; rfl
  by_cases c2 : i = 2
  · subst c2
    show some (Blk.rowA _ _ _ (((PT al k).map _).map _)) = some (Blk.rowA _ _ (al.set k a).length (PT (al.set k a) 1000))
    rw [PT_close al (show k < 400 by omega) hl, PT_set, hls]
  rw [HO_x _ _ _ _ _ (by omega), HP_x _ _ _ _ (by omega)]
  rw [← HX_set al k a]
  cases hh : HX (al.set k a) 1000 i with
  | none =>
    by_cases ck : (i - 5) / 2 = k
    · rw [HX_q _ ck]; rfl
    · by_cases ck2 : (i - 5) / 2 = 1000
      · rw [HX_hi _ k (by omega)]; rfl
      · rw [HX_ne _ ck ck2, hh]; rfl
  | some B =>
    obtain ⟨j, a', ha, hq, hj, hB⟩ := HX_some hh
    have hj2 := (List.getElem?_eq_some_iff.1 ha).1
    rw [hls] at hj2
    rw [HX_ne _ (q := k) (q' := 1000) (by omega) (by omega), hh]
    rcases hB with ⟨hi, rfl⟩ | ⟨hi, rfl⟩
    · rfl
    · rw [Option.map_some, Option.map_some, Blk.mapA, Blk.mapA, bxC_mv, if_neg (by omega), bxC_mv, if_neg (by omega)]
theorem PT_new (al : List Alt) (a : Alt) (hl : al.length ≤ 400) : PT al 1000 ++ [.bx 4 0] = PT (al ++ [a]) al.length := by
  unfold PT
  rw [List.length_append, List.length_singleton, List.range_succ, List.map_append, List.map_cons, List.map_nil, beqT rfl, cond_true]
  congr 1
  refine List.map_congr_left fun j hj => ?_
  rw [List.mem_range] at hj
  rw [beqF (show j ≠ 1000 by omega), beqF (show j ≠ al.length by omega)]
theorem HX_new (al : List Alt) (a : Alt) (_hl : al.length ≤ 400) : HX (al ++ [a]) al.length = HX al 1000 := by
  funext i
  by_cases h1 : i < 5
  · rw [HX_lo _ _ h1, HX_lo _ _ h1]
  by_cases h2 : 1000 ≤ i
  · rw [HX_hi _ _ h2, HX_hi _ _ h2]
  rw [HX_mid _ _ (by omega), HX_mid _ _ (by omega), if_neg (show ¬ (i - 5) / 2 = 1000 by omega)]
  by_cases h : (i - 5) / 2 < al.length
  · rw [if_neg (by omega), List.getElem?_append_left h]
  · rw [List.getElem?_eq_none (l := al) (by omega)]
    by_cases h3 : (i - 5) / 2 = al.length
    · rw [if_pos h3]
    · rw [if_neg h3, List.getElem?_eq_none (by simp; omega)]
end
end Go.Proofs.YtbkdjlahhcofmaaGreatDoor
namespace Go.Proofs.YtbkdjlahhcofmaaGreatDoor
open Go Go.RowKit Go.Proofs Go.Shelf Go.Ab
theorem HB_lt {cs : List Cel} {ppl : List Nm} {al : List Alt} {i : Nat} {B : Blk} (h : HB cs ppl al i = some B) : i < 1000 := by
  refine Classical.byContradiction fun hn => ?_
  unfold HB at h
  rw [HP_x _ _ _ _ (by omega), HX_hi _ _ (by omega)] at h; cases h
theorem HO_lt {cs : List Cel} {ppl : List Nm} {al : List Alt} {k i : Nat} {a : Alt} {B : Blk} (h : HO cs ppl al k a i = some B) : i < 1000 := by
  refine Classical.byContradiction fun hn => ?_
  rw [HO_x _ _ _ _ _ (by omega), HX_hi _ _ (by omega)] at h; cases h
section
variable {C : Ctx} {N : Nat} {st : St}
theorem sees_alts {al : List Alt} (hl : al.length ≤ 400) (hx : ∀ i B, HX al 1000 i = some B → st.h i = some B) : SeesL C N st (PT al 1000) (altsF al) := by
  refine SeesL.of (by rw [PT_len, altsF_len, Nat.mul_one]) fun j x y h1 h2 => ?_
  have hj : j < al.length := by have := (List.getElem?_eq_some_iff.1 h1).1; rwa [PT_len] at this
  rw [PT_at hj (by omega)] at h1
  cases h1
  have := altsF_at hj
  rw [Nat.mul_one] at this
  rw [this] at h2
  cases h2
  have hg := List.getElem?_eq_getElem hj
  exact sees_bx (hx _ _ (HX_box hg (by omega) (by omega))) ⟨sees_f _, sees_f _, sees_f _, sees_f _, sees_f _, sees_map (hx _ _ (HX_map hg (by omega) (by omega))), trivial⟩
end
theorem HX_HB {cs : List Cel} {ppl : List Nm} {al : List Alt} {i : Nat} {B : Blk} (h : HX al 1000 i = some B) : HB cs ppl al i = some B := by
  obtain ⟨j, a, ha, hq, hj, hB⟩ := HX_some h
  unfold HB
  rw [HP_x _ _ _ _ (by rcases hB with h | h <;> omega)]
  exact h
set_option maxRecDepth 100000 in
set_option maxHeartbeats 1600000 in
theorem find_no (cs : List Cel) (ppl : List Nm) (al : List Alt) (n : Nm) (hl : al.length ≤ 400) (hz : ∀ i, i < al.length → nmA al n i = false) : SummH Tryz.prog GG 150 (HB cs ppl al) [.bx 0 0, .f (sv n)] (.f (.v (.pointer none))) (HB cs ppl al) := by
  have HI := idxAlt_s al n (by omega)
  rw [idxP_no hz] at HI
  refine summH_of 1000 Tryz.func150 rfl rfl 21 rfl (by simp) ⟨_, _, rfl, rfl, rfl, rfl⟩ (HB_cl _ _ _ (by omega)) (fun M X J => ?_)
  repeat (first
    | (apply s_nilCheck; exact rfl; exact rfl; exact rfl)
    | (refine s_callS HI (fun _ => rfl) rfl rfl rfl ⟨sees_rowA rfl (sees_alts (by omega) fun i B h => HX_HB h), sees_f _, trivial⟩ ?_)
    | (apply s_o TY; exact rfl)
    | (apply s_makefbC; exact rfl; exact rfl; exact rfl)
    | (apply s_a TY; exact rfl)
    | (apply s_t; exact rfl; (first | assumption | omega))
    | apply w_seq
    | apply w_region
    | apply s_nil
    | apply t_norm
    | apply t_ret
    | apply w_ret
    | (apply w_condT; exact rfl; exact rfl))
  refine lvH_ret (s := Ab.upd (fun _ => .bot) 4 (.f (.v (.pointer none)))) (nx := 1000) ?_ ?_
  · exact gh_le ⟨le_upd rfl trivial (le_nil _), (le_base (HB_cl cs ppl al (by omega)) fun i B h => h)⟩
  · exact rg1 rfl (rv_tmp rfl)
set_option maxRecDepth 100000 in
set_option maxHeartbeats 1600000 in
theorem find_at (cs : List Cel) (ppl : List Nm) (al : List Alt) (n : Nm) (hl : al.length ≤ 400) (k : Nat) (hk : k < al.length) (hz : ∀ i, i < k → nmA al n i = false) (hn : nmA al n k = true) : SummH Tryz.prog GG 150 (HB cs ppl al) [.bx 0 0, .f (sv n)] (.bx (2 * k + 6) 0) (HB cs ppl al) := by
  have HI := idxAlt_s al n (by omega)
  rw [idxP_at hk hz hn] at HI
  have hc : (PT al 1000)[((k : Nat) : Int).toNat * 1]? = some (.bx (2 * k + 6) 0) := by rw [Int.toNat_natCast, Nat.mul_one]; exact PT_at hk (by omega)
  have hg : (HB cs ppl al (2 * k + 6)).isSome = true := by rw [HX_HB (HX_box (List.getElem?_eq_getElem hk) (by omega) (by omega))]; rfl
  refine summH_of 1000 Tryz.func150 rfl rfl 21 rfl (by simp) ⟨_, _, rfl, rfl, rfl, rfl⟩ (HB_cl _ _ _ (by omega)) (fun M X J => ?_)
  repeat (first
    | (apply s_nilCheck; exact rfl; exact rfl; exact rfl)
    | (refine s_callS HI (fun _ => rfl) rfl rfl rfl ⟨sees_rowA rfl (sees_alts (by omega) fun i B h => HX_HB h), sees_f _, trivial⟩ ?_)
    | (apply s_o TY; exact rfl)
    | (apply s_makefbC; exact rfl; exact rfl; exact rfl)
    | (apply s_idxOA TY; exact rfl; exact rfl; exact rfl; exact rfl; exact rfl; exact rfl; omega; omega)
    | (apply s_ldA TY; exact rfl; exact rfl; exact rfl; exact rfl; exact rfl; exact hc)
    | (apply s_a TY; exact rfl)
    | (apply s_f; exact rfl; (first | assumption | omega))
    | apply w_seq
    | apply w_region
    | apply s_nil
    | apply t_norm
    | apply w_ret
    | apply w_skip
    | (apply w_condF; exact rfl; exact rfl))
  refine lvH_ret (s := Ab.upd (fun _ => .bot) 4 (.bx (2 * k + 6) 0)) (nx := 1000) ?_ ?_
  · exact gh_le ⟨le_upd rfl (show closedA (HB cs ppl al) _ from hg) (le_nil _), (le_base (HB_cl cs ppl al (by omega)) fun i B h => h)⟩
  · exact rg1 rfl (rv_tmp rfl)
end Go.Proofs.YtbkdjlahhcofmaaGreatDoor
namespace Go.Proofs.YtbkdjlahhcofmaaGreatDoor
open Go Go.RowKit Go.Proofs Go.Shelf Go.Ab
set_option maxRecDepth 100000 in
theorem valuesN_g (L : List Nm) (n : Nat) : SummG Tryz.prog GG 377 [.arr 9 1 n ((strsF L).map .f)] [.ow 0] (.fb 428 [.bx 1 0]) [.arr 9 1 n ((strsF L).map .f), .box [.ow 0]] := by
  refine summG_of Tryz.func377 rfl rfl 4 rfl (by simp) (by simp) (fun i B B' h1 h2 => by
    match i, h1, h2 with
    | 0, h1, h2 => cases h1; cases h2; rfl
    | _ + 1, h1, _ => simp at h1) (fun M X J => ?_)
  repeat (first
    | (apply s_boxA; exact rfl; exact rfl; exact rfl; exact rfl)
    | (apply s_a TY; exact rfl)
    | (apply s_makefbC; exact rfl; exact rfl; exact rfl)
    | apply w_seq
    | apply w_region
    | apply s_nil
    | apply t_norm
    | apply w_ret)
  refine lvG_ret (s := Ab.upd (fun _ => .bot) 2 (.fb 428 [.bx 1 0])) (nx := 2) (L' := [.arr 9 1 n ((strsF L).map .f), .box [.ow 0]]) ?_ ?_
  · exact gh_le ⟨le_upd rfl rfl (le_nil _), fun i => by
      match i with
      | 0 => exact .inr ⟨_, rfl, rfl, fun x hx => by obtain ⟨y, _, rfl⟩ := List.mem_map.1 hx; trivial⟩
      | 1 => exact .inr ⟨_, rfl, rfl, fun x hx => by simp only [List.mem_singleton] at hx; subst hx; rfl⟩
      | _ + 2 => exact .inl rfl⟩
  · exact rg1 rfl (rv_tmp rfl)
set_option maxRecDepth 100000 in
theorem keysN_g (f : Nm → Option Int) : SummG Tryz.prog GG 143 [.map (mpG f)] [.ow 0] (.fb 237 [.bx 1 0]) [.map (mpG f), .box [.ow 0]] := by
  refine summG_of Tryz.func143 rfl rfl 4 rfl (by simp) (by simp) (fun i B B' h1 h2 => by
    match i, h1, h2 with
    | 0, h1, h2 => cases h1; cases h2; rfl
    | _ + 1, h1, _ => simp at h1) (fun M X J => ?_)
  repeat (first
    | (apply s_boxA; exact rfl; exact rfl; exact rfl; exact rfl)
    | (apply s_a TY; exact rfl)
    | (apply s_makefbC; exact rfl; exact rfl; exact rfl)
    | apply w_seq
    | apply w_region
    | apply s_nil
    | apply t_norm
    | apply w_ret)
  refine lvG_ret (s := Ab.upd (fun _ => .bot) 2 (.fb 237 [.bx 1 0])) (nx := 2) (L' := [.map (mpG f), .box [.ow 0]]) ?_ ?_
  · exact gh_le ⟨le_upd rfl rfl (le_nil _), fun i => by
      match i with
      | 0 => exact .inr ⟨_, rfl, rfl, trivial⟩
      | 1 => exact .inr ⟨_, rfl, rfl, fun x hx => by simp only [List.mem_singleton] at hx; subst hx; rfl⟩
      | _ + 2 => exact .inl rfl⟩
  · exact rg1 rfl (rv_tmp rfl)
theorem sortedK_c {C : Ctx} {N : Nat} {st : St} {f : Nm → Option Int} {ks : List Nm} {i j : Nat} (hP : C.P = Tryz.prog) (hk : KeysAre f ks) (hl : ks.length ≤ 1000) (hb : ∀ c, c ∈ ks → c.length ≤ 1000) (hi : st.h i = some (.map (mpG f))) (hj : st.h j = some (.box [.ow i])) : ∀ st', Hp st st' → ∀ w0 a w J, Sim C w0 N st' a w J → ∀ us, RepAs C w st'.h J us [.fb 237 [.bx j 0]] → Calls C.P 142 us.toArray w fun en w' => ∃ v, en = .returned v ∧ w'.ownsRow w.heap.size 9 1 v ks.length ((ascN ks).map encStr) ∧ Ext w w' := by
  intro st' H w0 a w J S us R
  obtain ⟨u, rfl⟩ : ∃ u, us = [u] := by
    match us, R.1 with
    | [u], _ => exact ⟨u, rfl⟩
  obtain ⟨vs, rfl, h1, h2⟩ := R.2 0 u _ rfl rfl
  obtain ⟨v, rfl⟩ : ∃ v, vs = [v] := by
    match vs, h1 with
    | [v], _ => exact ⟨v, rfl⟩
  obtain ⟨lj, b, hbj, rfl⟩ := h2 0 v _ rfl rfl
  obtain ⟨b', T, us, e1, _, e2, e3, _, e4⟩ := H.blk S hj lj
  have hbb : b' = b := by rw [e1] at hbj; simpa [bk] using hbj
  subst hbb
  obtain ⟨u0, hu⟩ : ∃ u0, us = #[u0] := Array.size_eq_one_iff.1 e3
  subst hu
  obtain ⟨li, rfl⟩ := e4 0 u0 _ rfl rfl
  obtain ⟨r, ob, e5, _, e6, e7, e8⟩ := H.blk S hi li
  rw [hP]
  refine sortedK_w hk hl hb e7 e6 (B := b') ?_
  rw [e5] at e2
  simp [World.cell?, e2]
theorem mp_updN {f : Nm → Option Int} {c : Nm} {z : Int} : ∀ ob r w, mpG f ob → w.heap[r]? = some ob → ∃ ob', (Instr.mapUpdate 242 (.map (some r)) (.string ⟨c.toArray⟩) (.int .i64 z)).run Tryz.prog w = .ok () (w.putObj r ob') ∧ mpG (updM f c z) ob' ∧ ob'.isMap = true := fun ob r w hg hr => mp_upd ob r w hg hr
def updAll (f : Nm → Option Int) (l : List Nm) (z : Int) : Nm → Option Int := fun n => if n ∈ l then some z else f n
theorem updAll_nil (f : Nm → Option Int) (z : Int) : updAll f [] z = f := by funext n; simp [updAll]
theorem updAll_tk (f : Nm → Option Int) {l : List Nm} {k : Nat} (h : k < l.length) (z : Int) : updM (updAll f (l.take k) z) l[k] z = updAll f (l.take (k + 1)) z := by
  funext n
  rw [List.take_succ_eq_append_getElem h]
  show (if n = l[k] then some z else if n ∈ l.take k then some z else f n) = if n ∈ l.take k ++ [l[k]] then some z else f n
  by_cases e : n = l[k]
  · rw [if_pos e, if_pos (List.mem_append.2 (.inr (by rw [e]; exact List.mem_singleton.2 rfl)))]
  · rw [if_neg e]
    by_cases e2 : n ∈ l.take k
    · rw [if_pos e2, if_pos (List.mem_append.2 (.inl e2))]
    · rw [if_neg e2, if_neg (fun h => (List.mem_append.1 h).elim e2 fun h => e (List.mem_singleton.1 h))]
def sent (a : Alt) (cl : List Int) (l : List Nm) : Alt := ⟨a.nm, a.ver + 1, cl, a.gone, updAll a.had l (a.ver + 1), a.kys ++ l.filter fun n => !a.kys.contains n⟩
theorem HO_34 (cs : List Cel) (ppl : List Nm) (al : List Alt) (k : Nat) (a a' : Alt) {i : Nat} (h3 : i ≠ 3) (h4 : i ≠ 4) : HO cs ppl al k a i = HO cs ppl al k a' i := by
  unfold HO
  rw [upd_if, if_neg h4, upd_if, if_neg h3, upd_if, if_neg h4, upd_if, if_neg h3]
theorem le_HO {cs : List Cel} {ppl : List Nm} {al : List Alt} {k : Nat} {a a' : Alt} {h : Nat → Option Blk} (hl : al.length ≤ 400) (h3 : h 3 = some (.map (mpG a'.had))) (h4 : h 4 = some (.box (bxC 3 a'))) (hx : ∀ i, i ≠ 3 → i ≠ 4 → i < 1000 → h i = HO cs ppl al k a i) : ∀ i, HO cs ppl al k a' i = none ∨ ∃ B, HO cs ppl al k a' i = some B ∧ h i = some B ∧ closedB (HO cs ppl al k a') B := le_base (HO_cl cs ppl al k a' hl) fun i B hB => by
  by_cases e3 : i = 3
  · subst e3; rw [h3]; exact hB
  by_cases e4 : i = 4
  · subst e4; rw [h4]; exact hB
  rw [hx i e3 e4 (HO_lt hB), HO_34 cs ppl al k a a' e3 e4]
  exact hB
set_option maxRecDepth 100000 in
set_option maxHeartbeats 3200000 in
theorem send_h (cs : List Cel) (ppl : List Nm) (al : List Alt) (k : Nat) (a : Alt) (cl : List Int) (hcl : cl.length ≤ 1000000) (hl : al.length ≤ 400) (hp : ppl.length ≤ 1000) (hv : 0 ≤ a.ver ∧ a.ver ≤ 1000) : SummH Tryz.prog GG 304 (HO cs ppl al k a) [.bx 0 0, .bx 4 0, .f (.sl cl.length (intsF cl))] (.f (.sl ppl.length (strsF (ascN ppl)))) (HO cs ppl al k (sent a cl ppl)) := by
  refine summH_of 1000 Tryz.func304 rfl rfl 50 rfl (by simp) ⟨_, _, rfl, rfl, rfl, rfl⟩ (HO_cl _ _ _ _ _ (by omega)) (fun M X J => ?_)
  repeat (first
    | (apply s_o TY; exact rfl)
    | (apply s_nilCheck; exact rfl; exact rfl; exact rfl)
    | (apply s_a TY; exact rfl)
    | apply w_seq
    | apply w_region
    | apply s_nil
    | apply t_norm
    | apply w_block
    | (apply s_k (clone_s cl hcl); exact rfl)
    | (apply s_c TY; exact rfl; (first | omega | exact ⟨by omega, by (first | with_reducible assumption | ((with_reducible apply strsF_ne); omega) | assumption)⟩))
    | (apply s_store TY; exact rfl; exact rfl; exact rfl; exact rfl; exact rfl; exact rfl))
  apply w_loop (fun j : Nat => ⟨(Ab.upd (Ab.upd (Ab.upd (Ab.upd (Ab.upd (fun _ => .bot) 0 (.bx 0 0)) 1 (.bx 4 0)) 27 (.ow 1)) 28 (.f (iv ppl.length))) 29 (.f (iv ((j : Nat) : Int)))), HO cs ppl al k (sent a cl (ppl.take j)), 1000⟩) (fun j => j ≤ ppl.length) (fun j => ppl.length - j) 0 (Nat.zero_le _) (gh_le ⟨le_upd rfl trivial (le_upd rfl trivial (le_upd rfl rfl (le_upd rfl rfl (le_upd rfl rfl (le_nil _))))), le_HO (a := a) (by omega) (congrArg (fun g => some (Blk.map (mpG g))) (updAll_nil a.had (a.ver + 1)).symm) (congrArg (fun g => some (Blk.box g)) rfl) (fun i h3 h4 h5 => by
      by_cases e1 : i = 1
      · subst e1; exact rfl
      try simp only [St.put]
      repeat (first | exact rfl | refine (afterG_h (by exact rfl) (by simp only [List.mem_cons, List.not_mem_nil, or_false]; omega) (by show i < 1000; omega)).trans ?_ | refine (Ab.upd_other _ _ (by omega)).trans ?_))⟩)
  intro j hj
  by_cases hc : j < ppl.length
  · repeat (first
    | (apply s_mapUpdate (mp_updN (z := a.ver + 1)); exact rfl; exact rfl; exact rfl; exact rfl; exact rfl; exact rfl)
    | (apply s_o TY; exact rfl)
    | (apply s_nilCheck; exact rfl; exact rfl; exact rfl)
    | (apply s_a TY; exact rfl)
    | (apply s_t; exact rfl; (first | assumption | omega))
    | apply w_seq
    | apply w_region
    | (apply w_draw (id := 6) 10 rfl (by kernel_rfl))
    | apply s_nil
    | apply t_norm
    | apply k_norm
    | apply w_block
    | apply w_skip
    | (apply w_condT; exact rfl; exact rfl)
    | (apply s_c TY; exact rfl; (first | omega | exact ⟨by omega, by (first | with_reducible assumption | ((with_reducible apply strsF_ne); omega) | assumption)⟩))
    | (apply s_r TY; exact rfl; (first | exact rfl | with_reducible assumption | ((with_reducible apply strsF_at); omega) | assumption)))
    exact ⟨j + 1, by omega, by omega, gh_le ⟨le_upd rfl trivial (le_upd rfl trivial (le_upd rfl rfl (le_upd rfl rfl (le_upd rfl rfl (le_nil _))))), le_HO (a := sent a cl (ppl.take j)) (by omega) (congrArg (fun g => some (Blk.map (mpG g))) (updAll_tk a.had hc (a.ver + 1))) rfl (fun i h3 h4 h5 => by
      by_cases e1 : i = 1
      · subst e1; exact rfl
      try simp only [St.put]
      repeat (first | exact rfl | refine (afterG_h (by exact rfl) (by simp only [List.mem_cons, List.not_mem_nil, or_false]; omega) (by show i < 1000; omega)).trans ?_ | refine (Ab.upd_other _ _ (by omega)).trans ?_))⟩⟩
  · have hjl : j = ppl.length := by omega
    subst hjl
    rw [List.take_length]
    repeat (first
    | (apply s_callG [1] (valuesN_g ppl ppl.length); exact rfl; exact rfl; exact rfl; exact ⟨congrArg some (arr_ren0 _ _ _ _ _).symm, trivial⟩; exact rfl; exact ⟨⟨rfl, rfl⟩, ⟨rfl, rfl⟩⟩)
    | (refine s_callNwF (ys := [.fn 428 [.pt [.sl ppl.length (strsF ppl)] 0]]) (sortedV_g ppl (by omega)) (fun _ => rfl) ⟨(ascN ppl).map encStr, (strsF_enc _).symm⟩ rfl rfl rfl ⟨sees_fb ⟨sees_bx rfl ⟨sees_arr (e := 9) (sz := 1) (n := ppl.length) (cells := (strsF ppl).map .f) (congrArg some (arr_ren0 _ _ _ _ _)) (seesL_f _), trivial⟩, trivial⟩, trivial⟩ ?_)
    | (refine s_ghost rfl (gh_arr 1 (cs := strsF ppl) rfl rfl) ?_)
    | (apply s_o TY; exact rfl)
    | (apply s_nilCheck; exact rfl; exact rfl; exact rfl)
    | (apply s_a TY; exact rfl)
    | (apply s_f; exact rfl; (first | assumption | omega))
    | apply w_seq
    | apply w_region
    | apply s_nil
    | apply t_norm
    | apply t_exit
    | apply k_hit
    | apply w_exit
    | apply w_ret
    | (apply w_condF; exact rfl; exact rfl))
    refine lvH_ret (s := Ab.upd (fun _ => .bot) 6 (.f (.sl ppl.length (strsF (ascN ppl))))) (nx := 1001) ?_ ?_
    · exact gh_trans (gh_unarr 1 (e := 9) (sz := 1) (n := ppl.length) (cs := strsF ppl) (congrArg some (arr_ren0 _ _ _ _ _))) (gh_le ⟨le_upd rfl trivial (le_nil _), le_HO (a := sent a cl ppl) (by omega) rfl rfl (fun i h3 h4 h5 => by
      by_cases e1 : i = 1
      · subst e1; exact rfl
      try simp only [St.put]
      repeat (first | exact rfl | refine (afterG_h (by exact rfl) (by simp only [List.mem_cons, List.not_mem_nil, or_false]; omega) (by show i < 1000; omega)).trans ?_ | refine (Ab.upd_other _ _ (by omega)).trans ?_))⟩)
    · exact rg1 rfl (rv_tmp rfl)
end Go.Proofs.YtbkdjlahhcofmaaGreatDoor
namespace Go.Proofs.YtbkdjlahhcofmaaGreatDoor
open Go Go.RowKit Go.Proofs Go.Shelf Go.Ab
theorem killA_ow {i k : Nat} (h : k ≠ i) : killA i (.ow k) = .ow k := by
  show AV.ofC (bif Nat.beq k i then none else some (Cap.ow k)) = _
  rw [beqF h]; rfl
theorem killA_bx {i k o : Nat} (h : k ≠ i) : killA i (.bx k o) = .bx k o := by
  show AV.ofC (bif Nat.beq k i then none else some (Cap.bx k o)) = _
  rw [beqF h]; rfl
theorem killA_fv (i : Nat) (x : FV) : killA i (.f x) = .f x := rfl
theorem bxC_kill {i j : Nat} (h : j ≠ i) (a : Alt) : (bxC j a).map (killA i) = bxC j a := by
  simp only [bxC, List.map_cons, List.map_nil, killA_fv, killA_ow h]
theorem HX_kill {al : List Alt} {q i d : Nat} {B : Blk} (hd : d < 5) (h : HX al q i = some B) : killB d B = B := by
  obtain ⟨j, a, _, _, _, ⟨_, rfl⟩ | ⟨_, rfl⟩⟩ := HX_some h
  · rfl
  · show Blk.box ((bxC (2 * j + 5) a).map (killA d)) = _
    rw [bxC_kill (by omega)]
theorem PT_kill (al : List Alt) (q : Nat) {d : Nat} (hd : d < 4) : (PT al q).map (killA d) = PT al q := by
  refine (List.map_congr_left fun x hx => ?_).trans (List.map_id _)
  rcases PT_mem hx with ⟨rfl, _⟩ | ⟨j, _, _, rfl⟩
  · exact killA_bx (by omega)
  · exact killA_bx (by omega)
theorem HX_bd {al : List Alt} {q i : Nat} {B : Blk} (h : HX al q i = some B) : 5 ≤ i ∧ i < 1000 := by
  constructor
  · refine Classical.byContradiction fun hn => ?_
    rw [HX_lo al q (by omega)] at h; cases h
  · refine Classical.byContradiction fun hn => ?_
    rw [HX_hi al q (by omega)] at h; cases h
theorem grow_h {st : St} {i j : Nat} {B B' : Blk} (hij : i ≠ j) (h : st.h i = some B) (hk : killB j B = B) : (st.grow j B').h i = some B := by
  show (bif Nat.beq i j then some B' else (st.h i).map (killB j)) = _
  rw [beqF hij, cond_false, h, Option.map_some, hk]
theorem join_h {h h' h0 : Nat → Option Blk} {i : Nat} {B : Blk} (e : h' i = some B) : joinH h h' h0 i = some B := by unfold joinH; rw [e]
theorem le_HB {cs : List Cel} {ppl : List Nm} {al : List Alt} {h : Nat → Option Blk} (hl : al.length ≤ 400) (h0 : h 0 = some (.box [.f (xF cs), .ow 1, .ow 2])) (h1 : h 1 = some (.row 9 1 ppl.length (strsF ppl))) (h2 : h 2 = some (.rowA 241 1 al.length (PT al 1000))) (hx : ∀ i B, HX al 1000 i = some B → h i = some B) : ∀ i, HB cs ppl al i = none ∨ ∃ B, HB cs ppl al i = some B ∧ h i = some B ∧ closedB (HB cs ppl al) B := le_base (HB_cl cs ppl al hl) fun i B hB => by
  by_cases e0 : i = 0
  · subst e0; rw [h0]; exact hB
  by_cases e1 : i = 1
  · subst e1; rw [h1]; exact hB
  by_cases e2 : i = 2
  · subst e2; rw [h2]; exact hB
  refine hx i B ?_
  unfold HB at hB
  rwa [HP_x _ _ _ _ (by omega)] at hB
theorem row_snocN (ppl : List Nm) (n : Nm) : some (Blk.row 9 1 (ppl.length + 1) (strsF ppl ++ [sv n])) = some (Blk.row 9 1 (ppl ++ [n]).length (strsF (ppl ++ [n]))) := by rw [strsF_snoc, List.length_append]; rfl
theorem eqb_run (x y : Operand) (a b : Bool) (w : World) : (do eqGuard .eql 4 x y (.bool a) (.bool b); binOp .eql 4 (.bool a) (.bool b) : Sem Value).run Tryz.prog w = .ok (.bool (decide (a = b))) w := by
  have h := run_eql_bool w 4 a b Tryz.underlying4
  cases a <;> cases b <;> simpa [eqGuard] using h
theorem eqb_t {x y : Operand} {a b : Bool} (h : a = b) (w : World) : (do eqGuard .eql 4 x y (.bool a) (.bool b); binOp .eql 4 (.bool a) (.bool b) : Sem Value).run Tryz.prog w = .ok (.bool true) w := by
  rw [eqb_run, decide_eq_true h]
theorem celsE_nil (c : Int) : celsE c [] = 0 := rfl
set_option maxRecDepth 100000 in
set_option maxHeartbeats 3200000 in
theorem act0_h (cs : List Cel) (ppl : List Nm) (al : List Alt) (hl : al.length ≤ 400) (hcs : cs.length ≤ 1000) (n : Nm) (hnl : n.length ≤ 1000) (hn : nameB n = true) (hi : idxP ppl.length (hasS ppl n) = -1) (h8 : ppl.length < 8) {r : AV} (HF : SummH Tryz.prog GG 150 (HB cs ppl al) [.bx 0 0, .f (sv n)] r (HB cs ppl al)) : SummH Tryz.prog GG 234 (HB cs ppl al) [.bx 0 0, .f (.agg [iv 0, sv n, .sl 0 []])] (.f (.tup [.v (.slice none 0 0), iv 0])) (HB cs (ppl ++ [n]) al) := by
  have HN := isName_s n (by omega)
  rw [hn] at HN
  have HC := cellsErr_s cs [] (by simp) (by omega)
  rw [celsE_nil] at HC
  have HH := hasCells_s 0
  rw [show hasCB 0 = false from rfl] at HH
  have HI := IndexS_s ppl n (by omega)
  rw [hi] at HI
  refine summH_of 1000 Tryz.func234 rfl rfl 145 rfl (by simp) ⟨_, _, rfl, rfl, rfl, rfl⟩ (HB_cl _ _ _ (by omega)) (fun M X J => ?_)
  repeat (first
    | (refine s_callH HF (fun _ => rfl) (fun i q h => (pin0_some h).1) rfl rfl rfl ⟨rfl, trivial, trivial⟩ (fun i B h => h) (fun i h _ => h) ?_)
    | (refine s_callS HI (fun _ => rfl) rfl rfl rfl ⟨sees_row rfl, sees_f _, trivial⟩ ?_)
    | (apply s_bind; exact rfl; exact rfl; exact rfl; exact rfl; exact rfl; exact rfl; exact eqb_t (by first | rfl | assumption))
    | (apply s_o TY; exact rfl)
    | (apply s_nilCheck; exact rfl; exact rfl; exact rfl)
    | (apply s_a TY; exact rfl)
    | (apply s_t; exact rfl; (first | assumption | omega))
    | (apply s_f; exact rfl; (first | assumption | omega))
    | apply w_seq
    | apply w_region
    | (apply w_draw (id := 1) 22 rfl (by kernel_rfl))
    | (apply w_draw (id := 4) 10 rfl (by kernel_rfl))
    | apply s_nil
    | apply t_norm
    | apply w_skip
    | (apply w_condF; exact rfl; exact rfl)
    | (apply s_k (HN); exact rfl)
    | (apply s_k (HC); exact rfl)
    | (apply s_k (HH); exact rfl)
    | (apply s_k1 (first4_3 _ _ _ _); exact rfl; (first | assumption | omega | decide))
    | (apply s_k (unless_T _); exact rfl)
    | (apply s_k1 (within_T _ _ _); exact rfl; (first | assumption | omega | decide)))
  refine s_ghost rfl (st' := ⟨(Ab.upd (Ab.upd (Ab.upd (fun _ => .bot) 0 (.bx 0 0)) 3 (.f (.pt [iv 0, sv n, .sl 0 []] 0))) 7 (.f (iv (-1)))), HB cs ppl al, 1000⟩) (gh_le ⟨le_upd rfl trivial (le_upd rfl trivial (le_upd rfl rfl (le_nil _))), le_base (HB_cl cs ppl al (by omega)) (fun i B h => join_h h)⟩) ?_
  repeat (first
    | (apply w_draw3 (id := 10) 8 9 254 1 rfl (by kernel_rfl) (by kernel_rfl); exact rfl)
    | (apply s_gro3 TY; exact rfl; exact rfl; exact rfl; exact rfl; exact rfl; exact rfl; exact rfl; exact rfl; exact rfl; (unfold maxLen; omega); omega; exact rfl; exact rfl; exact (fun _ => rfl))
    | (refine KE.mk ⟨rfl, rfl, rfl, rfl, rfl, rfl, rfl, rfl, trivial⟩ ?_)
    | (apply s_o TY; exact rfl)
    | (apply s_nilCheck; exact rfl; exact rfl; exact rfl)
    | (apply s_a TY; exact rfl)
    | (apply s_t; exact rfl; (first | assumption | omega))
    | apply w_seq
    | apply w_region
    | (apply w_draw (id := 7) 9 rfl (by kernel_rfl))
    | apply s_nil
    | apply t_norm
    | apply t_ret
    | apply k_ret
    | apply w_block
    | apply w_ret
    | apply w_skip
    | (apply w_condT; exact rfl; exact rfl)
    | (apply w_condF; exact rfl; exact rfl)
    | (apply s_k1 (first2_1 _ _); exact rfl; (first | assumption | omega | decide))
    | (apply s_k (unless_T _); exact rfl)
    | (apply s_store TY; exact rfl; exact rfl; exact rfl; exact rfl; exact rfl; exact rfl))
  refine lvH_ret (s := Ab.upd (Ab.upd (fun _ => .bot) 4 (.f (.v (.slice none 0 0)))) 5 (.f (iv 0))) (nx := 1000) ?_ ?_
  · exact gh_le ⟨le_upd rfl trivial (le_upd rfl trivial (le_nil _)), le_HB (by omega) rfl (row_snocN ppl n) (congrArg (fun z => some (Blk.rowA 241 1 al.length z)) (PT_kill al 1000 (by omega))) (fun i B h => by
      have hb := HX_bd h
      try simp only [St.put]
      repeat (first | exact HX_HB h | refine grow_h (by omega) ?_ (HX_kill (by omega) h) | refine (Ab.upd_other _ _ (by omega)).trans ?_))⟩
  · exact rg2 (.f (.v (.slice none 0 0))) (.f (iv 0)) rfl (rv_tmp rfl) (rv_tmp rfl) rfl
end Go.Proofs.YtbkdjlahhcofmaaGreatDoor
namespace Go.Proofs.YtbkdjlahhcofmaaGreatDoor
open Go.Proofs Go.Shelf
def delS_ren : Go.Shelf.Ren := ⟨fun | 45 => 303 | n => n, fun | 22 => 86 | 23 => 9 | 3 => 3 | 4 => 4 | 0 => 0 | n => n, fun | n => n⟩
theorem delS : Go.Proofs.SlLaysE.n45 Tryz.prog delS_ren := {
  mixed := by kernel_rfl
  f45 := ⟨Tryz.f303.name, by decide, Tryz.func303.trans (congrArg some (by kernel_rfl))⟩
  t0 := Tryz.underlying0
  a0 := Tryz.isAgg0
  z0 := Tryz.sizeOf0
  v0 := Tryz.zeroValue0
  t3 := Tryz.underlying3
  a3 := Tryz.isAgg3
  z3 := Tryz.sizeOf3
  v3 := Tryz.zeroValue3
  t4 := Tryz.underlying4
  a4 := Tryz.isAgg4
  z4 := Tryz.sizeOf4
  v4 := Tryz.zeroValue4
  t22 := Tryz.underlying86
  a22 := Tryz.isAgg86
  z22 := Tryz.sizeOf86
  v22 := Tryz.zeroValue86
  a23 := Tryz.isAgg9
  z23 := Tryz.sizeOf9 }
open Go Go.RowKit Go.Proofs Go.Shelf Go.Ab
theorem zeroS (w : World) : (zeroValue 9).run Tryz.prog w = .ok (encStr []) w := by kernel_rfl
theorem infoS : ∃ i0, (Tryz.prog).info? 9 = some i0 ∧ i0.size = 1 := by
  have h : ((Tryz.prog).info? 9).map (·.size) = some 1 := by kernel_rfl
  obtain ⟨i0, h1, h2⟩ := Option.map_eq_some_iff.1 h
  exact ⟨i0, h1, h2⟩
def pplDel (ppl : List Nm) (i : Nat) : List Nm := ppl.take i ++ ppl.drop (i + 1)
theorem delete_g (ppl : List Nm) (i : Nat) (hi : i < ppl.length) : SummG Tryz.prog GG 303 [.row 9 1 ppl.length (strsF ppl)] [.ow 0, .f (iv ((i : Nat) : Int)), .f (iv (((i : Nat) : Int) + 1))] (.ow 0) [.row 9 1 (pplDel ppl i).length (strsF (pplDel ppl i))] := by
  obtain ⟨i0, h1, h2⟩ := infoS
  exact deleteG (enc := encStr) (fun _ => rfl) [] (enters_of Tryz.func303 (by kernel_rfl) rfl) (fun blk off cap i j d w hH a b c e => AnyE.slices_Delete delS encStr (fun _ => rfl) [] zeroS i0 h1 h2 blk off cap i j d w hH a b c e) ppl (by omega) 9 (i := i) (j := i + 1) rfl (by omega) (by omega) (by unfold pplDel; simp; omega) (strsF_enc _) (strsF_enc _)
theorem killsA_ow {i k : Nat} (h : k ≠ i) : killsA [i] (.ow k) = .ow k := by
  show AV.ofC (bif (bif Nat.beq k i then true else false) then none else some (Cap.ow k)) = _
  rw [beqF h]; rfl
theorem killsA_bx {i k o : Nat} (h : k ≠ i) : killsA [i] (.bx k o) = .bx k o := by
  show AV.ofC (bif (bif Nat.beq k i then true else false) then none else some (Cap.bx k o)) = _
  rw [beqF h]; rfl
theorem killsA_fv (i : Nat) (x : FV) : killsA [i] (.f x) = .f x := rfl
theorem HX_kills {al : List Alt} {q i d : Nat} {B : Blk} (hd : d < 5) (h : HX al q i = some B) : killsB [d] B = B := by
  obtain ⟨j, a, _, _, _, ⟨_, rfl⟩ | ⟨_, rfl⟩⟩ := HX_some h
  · rfl
  · show Blk.box ((bxC (2 * j + 5) a).map (killsA [d])) = _
    simp only [bxC, List.map_cons, List.map_nil, killsA_fv, killsA_ow (show 2 * j + 5 ≠ d by omega)]
theorem PT_kills (al : List Alt) (q : Nat) {d : Nat} (hd : d < 4) : (PT al q).map (killsA [d]) = PT al q := by
  refine (List.map_congr_left fun x hx => ?_).trans (List.map_id _)
  rcases PT_mem hx with ⟨rfl, _⟩ | ⟨j, _, _, rfl⟩
  · exact killsA_bx (by omega)
  · exact killsA_bx (by omega)
theorem mv_o0 (k : Nat) : mvA (2 * k + 6) 4 (mvA (2 * k + 5) 3 (.bx 0 0)) = .bx 0 0 := by rw [mvA_bx, if_neg (by omega), mvA_bx, if_neg (by omega)]
theorem mv_ok (k : Nat) : mvA (2 * k + 6) 4 (mvA (2 * k + 5) 3 (.bx (2 * k + 6) 0)) = .bx 4 0 := by rw [mvA_bx, if_neg (by omega), mvA_bx, if_pos rfl]
set_option maxRecDepth 100000 in
set_option maxHeartbeats 3200000 in
theorem act1_h (cs : List Cel) (ppl : List Nm) (al : List Alt) (hl : al.length ≤ 400) (hcs : cs.length ≤ 1000) (n : Nm) (hnl : n.length ≤ 1000) (hn : nameB n = true) (hp : ppl.length ≤ 1000) (i : Nat) (hi : idxP ppl.length (hasS ppl n) = ((i : Nat) : Int)) (hip : i < ppl.length) {r : AV} (HF : SummH Tryz.prog GG 150 (HB cs ppl al) [.bx 0 0, .f (sv n)] r (HB cs ppl al)) : SummH Tryz.prog GG 234 (HB cs ppl al) [.bx 0 0, .f (.agg [iv 1, sv n, .sl 0 []])] (.f (.tup [.v (.slice none 0 0), iv 0])) (HB cs (pplDel ppl i) al) := by
  have HN := isName_s n (by omega)
  rw [hn] at HN
  have HC := cellsErr_s cs [] (by simp) (by omega)
  rw [celsE_nil] at HC
  have HH := hasCells_s 1
  rw [show hasCB 1 = false from rfl] at HH
  have HI := IndexS_s ppl n (by omega)
  rw [hi] at HI
  refine summH_of 1000 Tryz.func234 rfl rfl 145 rfl (by simp) ⟨_, _, rfl, rfl, rfl, rfl⟩ (HB_cl _ _ _ (by omega)) (fun M X J => ?_)
  repeat (first
    | (refine s_callH HF (fun _ => rfl) (fun i q h => (pin0_some h).1) rfl rfl rfl ⟨rfl, trivial, trivial⟩ (fun i B h => h) (fun i h _ => h) ?_; refine s_ghost rfl (st' := ⟨(Ab.upd (Ab.upd (Ab.upd (fun _ => .bot) 0 (.bx 0 0)) 3 (.f (.pt [iv 1, sv n, .sl 0 []] 0))) 45 (.f (iv ((i : Nat) : Int)))), HB cs ppl al, 1000⟩) (gh_le ⟨le_upd rfl trivial (le_upd rfl trivial (le_upd rfl rfl (le_nil _))), le_base (HB_cl cs ppl al (by omega)) (fun i B h => join_h h)⟩) ?_)
    | (refine s_callS HI (fun _ => rfl) rfl rfl rfl ⟨sees_row rfl, sees_f _, trivial⟩ ?_)
    | (apply s_callG [1] (delete_g ppl i hip); exact rfl; exact rfl; exact rfl; exact ⟨rfl, trivial⟩; exact rfl; exact ⟨rfl, rfl⟩)
    | (apply s_bind; exact rfl; exact rfl; exact rfl; exact rfl; exact rfl; exact rfl; exact eqb_t (by first | rfl | assumption))
    | (apply s_o TY; exact rfl)
    | (apply s_nilCheck; exact rfl; exact rfl; exact rfl)
    | (apply s_a TY; exact rfl)
    | (apply s_t; exact rfl; (first | assumption | omega))
    | (apply s_f; exact rfl; (first | assumption | omega))
    | apply w_seq
    | apply w_region
    | (apply w_draw (id := 1) 22 rfl (by kernel_rfl))
    | (apply w_draw (id := 4) 10 rfl (by kernel_rfl))
    | apply s_nil
    | apply t_norm
    | apply t_ret
    | apply k_ret
    | apply w_block
    | apply w_ret
    | apply w_skip
    | (apply w_condT; exact rfl; exact rfl)
    | (apply w_condF; exact rfl; exact rfl)
    | (apply s_k (HN); exact rfl)
    | (apply s_k (HC); exact rfl)
    | (apply s_k (HH); exact rfl)
    | (apply s_k1 (first4_3 _ _ _ _); exact rfl; (first | assumption | omega | decide))
    | (apply s_k (unless_T _); exact rfl)
    | (apply s_k1 (within_T _ _ _); exact rfl; (first | assumption | omega | decide))
    | (apply s_c TY; exact rfl; omega)
    | (apply s_store TY; exact rfl; exact rfl; exact rfl; exact rfl; exact rfl; exact rfl))
  refine lvH_ret (s := Ab.upd (Ab.upd (fun _ => .bot) 4 (.f (.v (.slice none 0 0)))) 5 (.f (iv 0))) (nx := 1000) ?_ ?_
  · exact gh_le ⟨le_upd rfl trivial (le_upd rfl trivial (le_nil _)), le_HB (by omega) rfl rfl (congrArg (fun z => some (Blk.rowA 241 1 al.length z)) (PT_kills al 1000 (by omega))) (fun i B h => by
      have hb := HX_bd h
      try simp only [St.put]
      repeat (first | exact HX_HB h | refine afterG_h1 (e := 1) (by exact rfl) (by simp only [List.mem_cons, List.not_mem_nil, or_false]; omega) (by show i < 1000; omega) ?_ (HX_kills (by omega) h) | refine (Ab.upd_other _ _ (by omega)).trans ?_))⟩
  · exact rg2 (.f (.v (.slice none 0 0))) (.f (iv 0)) rfl (rv_tmp rfl) (rv_tmp rfl) rfl
end Go.Proofs.YtbkdjlahhcofmaaGreatDoor
namespace Go.Proofs.YtbkdjlahhcofmaaGreatDoor
open Go Go.RowKit Go.Proofs Go.Shelf Go.Ab
theorem gh_openA {C : Ctx} {N : Nat} {s : Nat → AV} {cs : List Cel} {ppl : List Nm} {al : List Alt} {k nx : Nat} {a : Alt} (ha : al[k]? = some a) (hl : al.length ≤ 400) (hJ : ∀ i, i ≠ 0 → C.J0 i = none) : Gh C N ⟨s, HB cs ppl al, nx⟩ ⟨fun t => mvA (2 * k + 6) 4 (mvA (2 * k + 5) 3 (s t)), HO cs ppl al k a, nx⟩ := by
  obtain ⟨hk, rfl⟩ := List.getElem?_eq_some_iff.1 ha
  exact gh_open hk hl hJ
theorem pin0_no {J : Nat → Value} : ∀ i, i ≠ 0 → pin0 J i = none := fun i hi => by unfold pin0; rw [beqF hi]; rfl
set_option maxRecDepth 100000 in
set_option maxHeartbeats 3200000 in
theorem act3_h (cs : List Cel) (ppl : List Nm) (al : List Alt) (hl : al.length ≤ 400) (hcs : cs.length ≤ 1000) (n : Nm) (hnl : n.length ≤ 1000) (hn : nameB n = true) (hp : ppl.length ≤ 1000) (cl : List Int) (hc0 : 0 < cl.length) (hcm : cl.length ≤ 1000000) (hcl : celsE cs.length cl = 0) (k : Nat) {n0 : Nm} {ver : Int} {c0 : List Int} {had : Nm → Option Int} {kys : List Nm} (ha : al[k]? = some (⟨n0, ver, c0, false, had, kys⟩ : Alt)) (hz : ∀ i, i < k → nmA al n i = false) (hm : nmA al n k = true) (hver : 0 ≤ ver ∧ ver ≤ 1000) : SummH Tryz.prog GG 234 (HB cs ppl al) [.bx 0 0, .f (.agg [iv 3, sv n, .sl cl.length (intsF cl)])] (.f (.tup [.sl ppl.length (strsF (ascN ppl)), iv 0])) (HB cs ppl (al.set k (sent (⟨n0, ver, c0, false, had, kys⟩ : Alt) cl ppl))) := by
  have HN := isName_s n (by omega)
  rw [hn] at HN
  have HC := cellsErr_s cs cl (by omega) (by omega)
  rw [hcl] at HC
  have HH := hasCells_s 3
  rw [show hasCB 3 = true from rfl] at HH
  have hk : k < al.length := (List.getElem?_eq_some_iff.1 ha).1
  have hall : al.length ≤ 400 := hl
  have HF := find_at cs ppl al n hl k hk hz hm
  have hgk : (HB cs ppl al (2 * k + 6)).isSome = true := by rw [HX_HB (HX_box ha (by omega) (by omega))]; rfl
  have HI := IndexS_s ppl n (by omega)
  refine summH_of 1000 Tryz.func234 rfl rfl 145 rfl (by simp) ⟨_, _, rfl, rfl, rfl, rfl⟩ (HB_cl _ _ _ (by omega)) (fun M X J => ?_)
  repeat (first
    | (refine s_callH HF (fun _ => rfl) (fun i q h => (pin0_some h).1) rfl rfl rfl ⟨rfl, trivial, trivial⟩ (fun i B h => h) (fun i h _ => h) ?_; refine s_ghost rfl (st' := ⟨(Ab.upd (Ab.upd (Ab.upd (Ab.upd (fun _ => .bot) 0 (.bx 0 0)) 3 (.f (.pt [iv 3, sv n, .sl cl.length (intsF cl)] 0))) 45 (.f (iv (idxP ppl.length (hasS ppl n))))) 49 (.bx 4 0)), HO cs ppl al k (⟨n0, ver, c0, false, had, kys⟩ : Alt), 1000⟩) (gh_trans (b := ⟨(Ab.upd (Ab.upd (Ab.upd (Ab.upd (fun _ => .bot) 0 (.bx 0 0)) 3 (.f (.pt [iv 3, sv n, .sl cl.length (intsF cl)] 0))) 45 (.f (iv (idxP ppl.length (hasS ppl n))))) 49 (.bx (2 * k + 6) 0)), HB cs ppl al, 1000⟩) (gh_le ⟨le_upd rfl (show closedA (HB cs ppl al) _ from hgk) (le_upd rfl trivial (le_upd rfl trivial (le_upd rfl rfl (le_nil _)))), le_base (HB_cl cs ppl al (by omega)) (fun i B h => join_h h)⟩) (gh_trans (gh_openA ha (by omega) pin0_no) (gh_le ⟨le_upd (mv_ok k).symm rfl (le_upd rfl trivial (le_upd rfl trivial (le_upd (mv_o0 k).symm rfl (le_nil _)))), le_base (HO_cl cs ppl al k (⟨n0, ver, c0, false, had, kys⟩ : Alt) (by omega)) (fun i B h => h)⟩))) ?_)
    | (refine s_callS HI (fun _ => rfl) rfl rfl rfl ⟨sees_row rfl, sees_f _, trivial⟩ ?_)
    | (apply s_ptrEq (by first | exact rfl | kernel_rfl); exact rfl; exact rfl; exact rfl)
    | (refine s_callH (send_h cs ppl al k (⟨n0, ver, c0, false, had, kys⟩ : Alt) cl (by omega) hall (by omega) hver) (fun _ => rfl) (fun i q h => (pin0_some h).1) rfl rfl rfl ⟨rfl, rfl, trivial, trivial⟩ (fun i B h => h) (fun i h _ => h) ?_)
    | (apply s_bind; exact rfl; exact rfl; exact rfl; exact rfl; exact rfl; exact rfl; exact eqb_t (by first | rfl | assumption))
    | (apply s_o TY; exact rfl)
    | (apply s_nilCheck; exact rfl; exact rfl; exact rfl)
    | (apply s_a TY; exact rfl)
    | (apply s_t; exact rfl; (first | assumption | omega))
    | (apply s_f; exact rfl; (first | assumption | omega))
    | apply w_seq
    | apply w_region
    | (apply w_draw (id := 1) 22 rfl (by kernel_rfl))
    | (apply w_draw (id := 4) 10 rfl (by kernel_rfl))
    | apply s_nil
    | apply t_norm
    | apply t_ret
    | apply k_norm
    | apply w_block
    | apply w_ret
    | apply w_skip
    | (apply w_condT; exact rfl; exact rfl)
    | (apply w_condF; exact rfl; exact rfl)
    | (apply s_k (HN); exact rfl)
    | (apply s_k (HC); exact rfl)
    | (apply s_k (HH); exact rfl)
    | (apply s_k1 (first4_3 _ _ _ _); exact rfl; (first | assumption | omega | decide))
    | (apply s_k (unless_T _); exact rfl)
    | (apply s_k1 (within_T _ _ _); exact rfl; (first | assumption | omega | decide)))
  refine lvH_ret (s := Ab.upd (Ab.upd (fun _ => .bot) 4 (.f (.sl ppl.length (strsF (ascN ppl))))) 5 (.f (iv 0))) (nx := 1000) ?_ ?_
  · exact gh_trans (b := ⟨Ab.upd (Ab.upd (fun _ => .bot) 4 (.f (.sl ppl.length (strsF (ascN ppl))))) 5 (.f (iv 0)), HO cs ppl al k (sent (⟨n0, ver, c0, false, had, kys⟩ : Alt) cl ppl), 1000⟩) (gh_le ⟨le_upd rfl trivial (le_upd rfl trivial (le_nil _)), le_base (HO_cl cs ppl al k (sent (⟨n0, ver, c0, false, had, kys⟩ : Alt) cl ppl) (by omega)) (fun i B h => join_h h)⟩) (gh_trans (gh_close hk hall pin0_no) (gh_le ⟨le_upd rfl trivial (le_upd rfl trivial (le_nil _)), le_base (HB_cl cs ppl _ (by rw [List.length_set]; exact hall)) (fun i B h => h)⟩))
  · exact rg2 (.f (.sl ppl.length (strsF (ascN ppl)))) (.f (iv 0)) rfl (rv_tmp rfl) (rv_tmp rfl) rfl
set_option maxRecDepth 100000 in
set_option maxHeartbeats 3200000 in
theorem act4_h (cs : List Cel) (ppl : List Nm) (al : List Alt) (hl : al.length ≤ 400) (hcs : cs.length ≤ 1000) (n : Nm) (hnl : n.length ≤ 1000) (hn : nameB n = true) (hp : ppl.length ≤ 1000) (k : Nat) {n0 : Nm} {ver : Int} {c0 : List Int} {had : Nm → Option Int} {kys : List Nm} (ha : al[k]? = some (⟨n0, ver, c0, false, had, kys⟩ : Alt)) (hz : ∀ i, i < k → nmA al n i = false) (hm : nmA al n k = true) (hks : KeysAre had kys) (hkl : kys.length ≤ 1000) (hkb : ∀ c, c ∈ kys → c.length ≤ 1000) : SummH Tryz.prog GG 234 (HB cs ppl al) [.bx 0 0, .f (.agg [iv 4, sv n, .sl 0 []])] (.f (.tup [.sl kys.length (strsF (ascN kys)), iv 0])) (HB cs ppl (al.set k (⟨n0, ver, c0, true, had, kys⟩ : Alt))) := by
  rw [← strsF_enc]
  have HN := isName_s n (by omega)
  rw [hn] at HN
  have HC := cellsErr_s cs [] (by simp) (by omega)
  rw [celsE_nil] at HC
  have HH := hasCells_s 4
  rw [show hasCB 4 = false from rfl] at HH
  have hk : k < al.length := (List.getElem?_eq_some_iff.1 ha).1
  have hall : al.length ≤ 400 := hl
  have HF := find_at cs ppl al n hl k hk hz hm
  have hgk : (HB cs ppl al (2 * k + 6)).isSome = true := by rw [HX_HB (HX_box ha (by omega) (by omega))]; rfl
  have HI := IndexS_s ppl n (by omega)
  refine summH_of 1000 Tryz.func234 rfl rfl 145 rfl (by simp) ⟨_, _, rfl, rfl, rfl, rfl⟩ (HB_cl _ _ _ (by omega)) (fun M X J => ?_)
  repeat (first
    | (refine s_callH HF (fun _ => rfl) (fun i q h => (pin0_some h).1) rfl rfl rfl ⟨rfl, trivial, trivial⟩ (fun i B h => h) (fun i h _ => h) ?_; refine s_ghost rfl (st' := ⟨(Ab.upd (Ab.upd (Ab.upd (Ab.upd (fun _ => .bot) 0 (.bx 0 0)) 3 (.f (.pt [iv 4, sv n, .sl 0 []] 0))) 45 (.f (iv (idxP ppl.length (hasS ppl n))))) 49 (.bx 4 0)), HO cs ppl al k (⟨n0, ver, c0, false, had, kys⟩ : Alt), 1000⟩) (gh_trans (b := ⟨(Ab.upd (Ab.upd (Ab.upd (Ab.upd (fun _ => .bot) 0 (.bx 0 0)) 3 (.f (.pt [iv 4, sv n, .sl 0 []] 0))) 45 (.f (iv (idxP ppl.length (hasS ppl n))))) 49 (.bx (2 * k + 6) 0)), HB cs ppl al, 1000⟩) (gh_le ⟨le_upd rfl (show closedA (HB cs ppl al) _ from hgk) (le_upd rfl trivial (le_upd rfl trivial (le_upd rfl rfl (le_nil _)))), le_base (HB_cl cs ppl al (by omega)) (fun i B h => join_h h)⟩) (gh_trans (gh_openA ha (by omega) pin0_no) (gh_le ⟨le_upd (mv_ok k).symm rfl (le_upd rfl trivial (le_upd rfl trivial (le_upd (mv_o0 k).symm rfl (le_nil _)))), le_base (HO_cl cs ppl al k (⟨n0, ver, c0, false, had, kys⟩ : Alt) (by omega)) (fun i B h => h)⟩))) ?_)
    | (refine s_callS HI (fun _ => rfl) rfl rfl rfl ⟨sees_row rfl, sees_f _, trivial⟩ ?_)
    | (apply s_ptrEq (by first | exact rfl | kernel_rfl); exact rfl; exact rfl; exact rfl)
    | (apply s_callG [3] (keysN_g had); exact rfl; exact rfl; exact rfl; exact ⟨rfl, trivial⟩; exact rfl; exact ⟨⟨rfl, rfl⟩, ⟨rfl, rfl⟩⟩)
    | (refine s_callWF (g := 142) (e := 9) (sz := 1) (n := kys.length) (ags := [.fb 237 [.bx 1000 0]]) (vs := (ascN kys).map encStr) (enters_of Tryz.func142 (by kernel_rfl) rfl) (fun v hv => by obtain ⟨y, _, rfl⟩ := List.mem_map.1 hv; rfl) rfl rfl rfl rfl (sortedK_c (f := had) (i := 3) (j := 1000) rfl hks hkl hkb rfl rfl) ?_)
    | (apply s_bind; exact rfl; exact rfl; exact rfl; exact rfl; exact rfl; exact rfl; exact eqb_t (by first | rfl | assumption))
    | (apply s_o TY; exact rfl)
    | (apply s_nilCheck; exact rfl; exact rfl; exact rfl)
    | (apply s_a TY; exact rfl)
    | (apply s_t; exact rfl; (first | assumption | omega))
    | (apply s_f; exact rfl; (first | assumption | omega))
    | apply w_seq
    | apply w_region
    | (apply w_draw (id := 1) 22 rfl (by kernel_rfl))
    | (apply w_draw (id := 4) 10 rfl (by kernel_rfl))
    | apply s_nil
    | apply t_norm
    | apply k_norm
    | apply w_block
    | apply w_ret
    | apply w_skip
    | (apply w_condF; exact rfl; exact rfl)
    | (apply s_k (HN); exact rfl)
    | (apply s_k (HC); exact rfl)
    | (apply s_k (HH); exact rfl)
    | (apply s_k1 (first4_3 _ _ _ _); exact rfl; (first | assumption | omega | decide))
    | (apply s_k (unless_T _); exact rfl)
    | (apply s_k1 (within_T _ _ _); exact rfl; (first | assumption | omega | decide))
    | (apply s_store TY; exact rfl; exact rfl; exact rfl; exact rfl; exact rfl; exact rfl))
  refine lvH_ret (s := Ab.upd (Ab.upd (fun _ => .bot) 4 (.f (.sl kys.length (((ascN kys).map encStr).map FV.v)))) 5 (.f (iv 0))) (nx := 1001) ?_ ?_
  · exact gh_trans (b := ⟨Ab.upd (Ab.upd (fun _ => .bot) 4 (.f (.sl kys.length (((ascN kys).map encStr).map FV.v)))) 5 (.f (iv 0)), HO cs ppl al k (⟨n0, ver, c0, true, had, kys⟩ : Alt), 1001⟩) (gh_le ⟨le_upd rfl trivial (le_upd rfl trivial (le_nil _)), le_HO (a := (⟨n0, ver, c0, false, had, kys⟩ : Alt)) (by omega) rfl rfl (fun i h3 h4 h5 => by
      by_cases e1 : i = 1
      · subst e1; exact rfl
      try simp only [St.put]
      repeat (first | exact rfl | refine (afterG_h (by exact rfl) (by simp only [List.mem_cons, List.not_mem_nil, or_false]; omega) (by show i < 1000; omega)).trans ?_ | refine (Ab.upd_other _ _ (by omega)).trans ?_))⟩) (gh_trans (gh_close hk hall pin0_no) (gh_le ⟨le_upd rfl trivial (le_upd rfl trivial (le_nil _)), le_base (HB_cl cs ppl _ (by rw [List.length_set]; exact hall)) (fun i B h => h)⟩))
  · exact rg2 (.f (.sl kys.length (((ascN kys).map encStr).map FV.v))) (.f (iv 0)) rfl (rv_tmp rfl) (rv_tmp rfl) rfl
end Go.Proofs.YtbkdjlahhcofmaaGreatDoor
namespace Go.Proofs.YtbkdjlahhcofmaaGreatDoor
open Go Go.RowKit Go.Proofs Go.Shelf Go.Ab
theorem HX_newB {al : List Alt} {a : Alt} {i : Nat} {B : Blk} (hl : al.length ≤ 399) (h : HX (al ++ [a]) al.length i = some B) : HX al 1000 i = some B := by rwa [HX_new al a (by omega)] at h
theorem le_HOn {cs : List Cel} {ppl : List Nm} {al : List Alt} {a : Alt} {h : Nat → Option Blk} (hl : al.length ≤ 399) (h0 : h 0 = some (.box [.f (xF cs), .ow 1, .ow 2])) (h1 : h 1 = some (.row 9 1 ppl.length (strsF ppl))) (h2 : h 2 = some (.rowA 241 1 (al.length + 1) (PT al 1000 ++ [.bx 4 0]))) (h3 : h 3 = some (.map (mpG a.had))) (h4 : h 4 = some (.box (bxC 3 a))) (hx : ∀ i B, HX al 1000 i = some B → h i = some B) : ∀ i, HO cs ppl (al ++ [a]) al.length a i = none ∨ ∃ B, HO cs ppl (al ++ [a]) al.length a i = some B ∧ h i = some B ∧ closedB (HO cs ppl (al ++ [a]) al.length a) B := le_base (HO_cl cs ppl _ al.length a (by simp; omega)) fun i B hB => by
  by_cases e0 : i = 0
  · subst e0; rw [h0]; exact hB
  by_cases e1 : i = 1
  · subst e1; rw [h1]; exact hB
  by_cases e2 : i = 2
  · subst e2
    rw [h2, PT_new al a (by omega)]
    have : HO cs ppl (al ++ [a]) al.length a 2 = some (.rowA 241 1 (al ++ [a]).length (PT (al ++ [a]) al.length)) := rfl
    rw [this, List.length_append] at hB
    exact hB
  by_cases e3 : i = 3
  · subst e3; rw [h3]; exact hB
  by_cases e4 : i = 4
  · subst e4; rw [h4]; exact hB
  rw [HO_x _ _ _ _ _ (by omega)] at hB
  exact hx i B (HX_newB hl hB)
theorem PT_killN (al : List Alt) : (PT al 1000 ++ [AV.bx 4 0]).map (killA 2) = PT al 1000 ++ [.bx 4 0] := by
  rw [List.map_append, PT_kill al 1000 (by omega)]; rfl
theorem nil_cell {C : Ctx} {w : World} {h : Nat → Option Blk} {J : Nat → Value} {v : Value} (q : RepA C w h J v (.f (.v (.slice none 0 0)))) : RepA C w h J v (.f (.sl 0 [])) := rep_nilsl q
set_option maxRecDepth 100000 in
set_option maxHeartbeats 3200000 in
theorem act2_h (cs : List Cel) (ppl : List Nm) (al : List Alt) (hl : al.length ≤ 399) (hcs : cs.length ≤ 1000) (n : Nm) (hnl : n.length ≤ 1000) (hn : nameB n = true) (hp : ppl.length ≤ 1000) (cl : List Int) (hc0 : 0 < cl.length) (hcm : cl.length ≤ 1000000) (hcl : celsE cs.length cl = 0) (hz : ∀ i, i < al.length → nmA al n i = false) : SummH Tryz.prog GG 234 (HB cs ppl al) [.bx 0 0, .f (.agg [iv 2, sv n, .sl cl.length (intsF cl)])] (.f (.tup [.sl ppl.length (strsF (ascN ppl)), iv 0])) (HB cs ppl (al ++ [sent (⟨n, 0, [], false, fun _ => none, []⟩ : Alt) cl ppl])) := by
  have hset : (al ++ [(⟨n, 0, [], false, fun _ => none, []⟩ : Alt)]).set al.length (sent (⟨n, 0, [], false, fun _ => none, []⟩ : Alt) cl ppl) = al ++ [sent (⟨n, 0, [], false, fun _ => none, []⟩ : Alt) cl ppl] := by simp
  rw [← hset]
  have HN := isName_s n (by omega)
  rw [hn] at HN
  have HC := cellsErr_s cs cl (by omega) (by omega)
  rw [hcl] at HC
  have HH := hasCells_s 2
  rw [show hasCB 2 = true from rfl] at HH
  have HF := find_no cs ppl al n (by omega) hz
  have HI := IndexS_s ppl n (by omega)
  have hall : (al ++ [(⟨n, 0, [], false, fun _ => none, []⟩ : Alt)]).length ≤ 400 := by simp; omega
  have hk : al.length < (al ++ [(⟨n, 0, [], false, fun _ => none, []⟩ : Alt)]).length := by simp
  have hver : 0 ≤ (⟨n, 0, [], false, fun _ => none, []⟩ : Alt).ver ∧ (⟨n, 0, [], false, fun _ => none, []⟩ : Alt).ver ≤ 1000 := ⟨Int.le_refl _, (by decide : (0 : Int) ≤ 1000)⟩
  refine summH_of 1000 Tryz.func234 rfl rfl 145 rfl (by simp) ⟨_, _, rfl, rfl, rfl, rfl⟩ (HB_cl _ _ _ (by omega)) (fun M X J => ?_)
  repeat (first
    | (apply s_a TY; exact rfl)
    | (refine s_callH HF (fun _ => rfl) (fun i q h => (pin0_some h).1) rfl rfl rfl ⟨rfl, trivial, trivial⟩ (fun i B h => h) (fun i h _ => h) ?_; refine s_ghost rfl (st' := ⟨(Ab.upd (Ab.upd (Ab.upd (Ab.upd (fun _ => .bot) 0 (.bx 0 0)) 3 (.f (.pt [iv 2, sv n, .sl cl.length (intsF cl)] 0))) 45 (.f (iv (idxP ppl.length (hasS ppl n))))) 49 (.f (.v (.pointer none)))), HB cs ppl al, 3⟩) (gh_le ⟨le_upd rfl trivial (le_upd rfl trivial (le_upd rfl trivial (le_upd rfl rfl (le_nil _)))), le_base (HB_cl cs ppl al (by omega)) (fun i B h => join_h h)⟩) ?_)
    | (refine s_callS HI (fun _ => rfl) rfl rfl rfl ⟨sees_row rfl, sees_f _, trivial⟩ ?_)
    | (apply s_nilNe (by first | exact rfl | kernel_rfl); exact rfl; exact rfl; exact rfl)
    | (apply s_boxA; exact rfl; exact rfl; exact rfl; exact rfl)
    | (apply s_bind; exact rfl; exact rfl; exact rfl; exact rfl; exact rfl; exact rfl; exact eqb_t (by first | rfl | assumption))
    | (apply s_nilCheck; exact rfl; exact rfl; exact rfl)
    | (apply s_buildO TY; exact rfl; exact rfl; exact rfl; exact rfl; exact rfl; exact rfl)
    | (apply s_makeMap; exact rfl; exact rfl)
    | (apply s_t; exact rfl; (first | assumption | omega))
    | (apply s_f; exact rfl; (first | assumption | omega))
    | apply w_seq
    | apply w_region
    | (apply w_draw (id := 1) 22 rfl (by kernel_rfl))
    | (apply w_draw (id := 4) 10 rfl (by kernel_rfl))
    | apply s_nil
    | apply t_norm
    | apply w_block
    | apply w_skip
    | (apply w_condT; exact rfl; exact rfl)
    | (apply w_condF; exact rfl; exact rfl)
    | (apply s_k (HN); exact rfl)
    | (apply s_k (HC); exact rfl)
    | (apply s_k (HH); exact rfl)
    | (apply s_k1 (first4_3 _ _ _ _); exact rfl; (first | assumption | omega | decide))
    | (apply s_k (unless_T _); exact rfl)
    | (apply s_k1 (within_T _ _ _); exact rfl; (first | assumption | omega | decide)))
  refine s_ghost rfl (gh_trans (gh_mapW 3 (G := fun o => o = .map #[] 0) (mpG fun _ => none) rfl (fun o h => by
    have h : o = .map #[] 0 := h
    subst h; exact mapFn_new)) (gh_trans (gh_boxW 4 (cs := [.f (sv n), .f (iv 0), .f (.v (.slice none 0 0)), .f (bv false), .f (.v (.slice none 0 0)), .ow 3]) (cs' := bxC 3 (⟨n, 0, [], false, fun _ => none, []⟩ : Alt)) rfl rfl (fun k x x' h1 h2 w J v q => by
    match k, h1, h2 with
    | 0, h1, h2 => cases h1; cases h2; exact q
    | 1, h1, h2 => cases h1; cases h2; exact q
    | 2, h1, h2 => cases h1; cases h2; exact nil_cell q
    | 3, h1, h2 => cases h1; cases h2; exact q
    | 4, h1, h2 => cases h1; cases h2; exact q
    | 5, h1, h2 => cases h1; cases h2; exact q
    | _ + 6, h1, h2 => cases h1)) (gh_nx 1000))) ?_
  repeat (first
    | (apply s_bsliceP TY; exact rfl; exact rfl; exact rfl; exact rfl; exact rfl; exact rfl)
    | (apply s_appendA TY; exact rfl; exact rfl; exact rfl; exact rfl; exact rfl; exact rfl; exact rfl; exact rfl; (unfold maxLen; omega); omega)
    | (apply s_nilCheck; exact rfl; exact rfl; exact rfl)
    | (apply s_a TY; exact rfl)
    | apply w_seq
    | apply w_region
    | apply s_nil
    | apply t_norm
    | (apply s_store TY; exact rfl; exact rfl; exact rfl; exact rfl; exact rfl; exact rfl))
  refine s_ghost rfl (st' := ⟨(Ab.upd (Ab.upd (Ab.upd (fun _ => .bot) 115 (.bx 0 0)) 116 (.bx 4 0)) 118 (.f (.sl cl.length (intsF cl)))), HO cs ppl (al ++ [(⟨n, 0, [], false, fun _ => none, []⟩ : Alt)]) al.length (⟨n, 0, [], false, fun _ => none, []⟩ : Alt), 1000⟩) (gh_le ⟨le_upd rfl trivial (le_upd rfl rfl (le_upd rfl rfl (le_nil _))), le_HOn hl rfl rfl (congrArg (fun z => some (Blk.rowA 241 1 (al.length + 1) z)) (PT_killN al)) rfl rfl (fun i B h => by
      have hb := HX_bd h
      try simp only [St.put]
      repeat (first | exact HX_HB h | refine grow_h (by omega) ?_ (HX_kill (by omega) h) | refine (Ab.upd_other _ _ (by omega)).trans ?_))⟩) ?_
  repeat (first
    | (refine s_callH (send_h cs ppl (al ++ [(⟨n, 0, [], false, fun _ => none, []⟩ : Alt)]) al.length (⟨n, 0, [], false, fun _ => none, []⟩ : Alt) cl (by omega) hall (by omega) hver) (fun _ => rfl) (fun i q h => (pin0_some h).1) rfl rfl rfl ⟨rfl, rfl, trivial, trivial⟩ (fun i B h => h) (fun i h _ => h) ?_)
    | (apply s_a TY; exact rfl)
    | apply s_nil
    | apply t_norm
    | apply t_ret
    | apply k_ret
    | apply w_ret)
  refine lvH_ret (s := Ab.upd (Ab.upd (fun _ => .bot) 4 (.f (.sl ppl.length (strsF (ascN ppl))))) 5 (.f (iv 0))) (nx := 1000) ?_ ?_
  · exact gh_trans (b := ⟨Ab.upd (Ab.upd (fun _ => .bot) 4 (.f (.sl ppl.length (strsF (ascN ppl))))) 5 (.f (iv 0)), HO cs ppl (al ++ [(⟨n, 0, [], false, fun _ => none, []⟩ : Alt)]) al.length (sent (⟨n, 0, [], false, fun _ => none, []⟩ : Alt) cl ppl), 1000⟩) (gh_le ⟨le_upd rfl trivial (le_upd rfl trivial (le_nil _)), le_base (HO_cl cs ppl (al ++ [(⟨n, 0, [], false, fun _ => none, []⟩ : Alt)]) al.length (sent (⟨n, 0, [], false, fun _ => none, []⟩ : Alt) cl ppl) hall) (fun i B h => join_h h)⟩) (gh_trans (gh_close hk hall pin0_no) (gh_le ⟨le_upd rfl trivial (le_upd rfl trivial (le_nil _)), le_base (HB_cl cs ppl _ (by rw [List.length_set]; exact hall)) (fun i B h => h)⟩))
  · exact rg2 (.f (.sl ppl.length (strsF (ascN ppl)))) (.f (iv 0)) rfl (rv_tmp rfl) (rv_tmp rfl) rfl
end Go.Proofs.YtbkdjlahhcofmaaGreatDoor
namespace Go.Proofs.YtbkdjlahhcofmaaGreatDoor
open Go Go.RowKit Go.Proofs Go.Shelf Go.Ab
def chkE (c : Int) (x : Act) : Int := if ¬ (0 ≤ x.kind ∧ x.kind ≤ 4) then 15 else if ¬ nameB x.name = true then 4 else if celsE c x.cells ≠ 0 then celsE c x.cells else if hasCB x.kind = decide (0 < x.cells.length) then 0 else 3
def idxN (ppl : List Nm) (n : Nm) : Int := idxP ppl.length (hasS ppl n)
def idxA (al : List Alt) (n : Nm) : Int := idxP al.length (nmA al n)
abbrev Lst := List Nm × List Alt
def altA (al : List Alt) (n : Nm) : Alt := al.getD (idxA al n).toNat default
def stpE (c : Int) (s : Lst) (x : Act) : Int := if chkE c x ≠ 0 then chkE c x else
  if x.kind = 0 then (if 0 ≤ idxN s.1 x.name then 5 else if s.1.length < 8 then 0 else 16)
  else if x.kind = 1 then (if idxN s.1 x.name < 0 then 6 else 0)
  else if x.kind = 2 then (if 0 ≤ idxA s.2 x.name then 5 else 0)
  else if idxA s.2 x.name < 0 then 6 else if (altA s.2 x.name).gone = true then 20 else 0
def newA (n : Nm) : Alt := ⟨n, 0, [], false, fun _ => none, []⟩
def goneA (a : Alt) : Alt := ⟨a.nm, a.ver, a.cells, true, a.had, a.kys⟩
def stpS (s : Lst) (x : Act) : Lst :=
  if x.kind = 0 then (s.1 ++ [x.name], s.2)
  else if x.kind = 1 then (pplDel s.1 (idxN s.1 x.name).toNat, s.2)
  else if x.kind = 2 then (s.1, s.2 ++ [sent (newA x.name) x.cells s.1])
  else if x.kind = 3 then (s.1, s.2.set (idxA s.2 x.name).toNat (sent (altA s.2 x.name) x.cells s.1))
  else (s.1, s.2.set (idxA s.2 x.name).toNat (goneA (altA s.2 x.name)))
def stpW (s : Lst) (x : Act) : List Nm := if x.kind = 2 ∨ x.kind = 3 then ascN s.1 else if x.kind = 4 then ascN (altA s.2 x.name).kys else []
structure Inv (m : Nat) (s : Lst) : Prop where
  al : s.2.length ≤ m
  pl : s.1.length ≤ 8
  nd : s.1.Nodup
  nm : ∀ n, n ∈ s.1 → n.length ≤ 12
  ver : ∀ a, a ∈ s.2 → 0 ≤ a.ver ∧ a.ver ≤ m
  kys : ∀ a, a ∈ s.2 → KeysAre a.had a.kys ∧ a.kys.length ≤ 8 * m ∧ ∀ c, c ∈ a.kys → c.length ≤ 12
theorem inv0 : Inv 0 ([], []) := ⟨Nat.le_refl _, by simp, List.nodup_nil, fun n h => by simp at h, fun a h => by simp at h, fun a h => by simp at h⟩
theorem nameB_12 {n : Nm} (h : nameB n = true) : n.length ≤ 12 := by
  refine Classical.byContradiction fun hn => ?_
  rw [nameB_len (by omega)] at h; cases h
theorem chkE_0 {c : Int} {x : Act} (h : chkE c x = 0) : (0 ≤ x.kind ∧ x.kind ≤ 4) ∧ nameB x.name = true ∧ celsE c x.cells = 0 ∧ hasCB x.kind = decide (0 < x.cells.length) := by
  unfold chkE at h
  split at h
  · cases h
  rename_i h1
  split at h
  · cases h
  rename_i h2
  split at h
  · rename_i h3; exact absurd h h3
  rename_i h3
  split at h
  · rename_i h4
    exact ⟨by omega, by simpa using h2, by omega, h4⟩
  · cases h
theorem stpE_0 {c : Int} {s : Lst} {x : Act} (h : stpE c s x = 0) : chkE c x = 0 ∧ ((x.kind = 0 ∧ idxN s.1 x.name < 0 ∧ s.1.length < 8) ∨ (x.kind = 1 ∧ 0 ≤ idxN s.1 x.name) ∨ (x.kind = 2 ∧ idxA s.2 x.name < 0) ∨ ((x.kind = 3 ∨ x.kind = 4) ∧ 0 ≤ idxA s.2 x.name ∧ (altA s.2 x.name).gone = false)) := by
  unfold stpE at h
  split at h
  · rename_i h1; exact absurd h h1
  rename_i h1
  have hc : chkE c x = 0 := by simpa using h1
  refine ⟨hc, ?_⟩
  have hk := (chkE_0 hc).1
  split at h
  · rename_i h2
    split at h
    · cases h
    split at h
    · rename_i h3 h4; exact .inl ⟨h2, by omega, h4⟩
    · cases h
  split at h
  · rename_i h2
    split at h
    · cases h
    · rename_i h3; exact .inr (.inl ⟨h2, by omega⟩)
  split at h
  · rename_i h2
    split at h
    · cases h
    · rename_i h3; exact .inr (.inr (.inl ⟨h2, by omega⟩))
  split at h
  · cases h
  split at h
  · cases h
  · rename_i h2 h3 h4 h5 h6; exact .inr (.inr (.inr ⟨by omega, by omega, by simpa using h6⟩))
theorem summH_retW {P : Program} {G : Nat → Option FV} {g : Nat} {h h' : Nat → Option Blk} {args : List AV} {y y' : FV} (K : SummH P G g h args (.f y) h') (hy : ∀ (w : World) (M : Nat → Prop) (v : Value), RepF w M v y → RepF w M v y') : SummH P G g h args (.f y') h' :=
  ⟨K.enters, K.one, K.cl, fun w M X us J a b c d e f => (K.call w M X us J a b c d e f).mono fun _ _ ⟨v, J', q1, q2, q3⟩ => ⟨v, J', q1, hy _ _ _ q2, q3⟩⟩
theorem tup_nil1 {y : FV} (w : World) (M : Nat → Prop) (v : Value) (q : RepF w M v (.tup [.v (.slice none 0 0), y])) : RepF w M v (.tup [.sl 0 [], y]) := by
  cases q with
  | tup cs us hl hr =>
    refine RepF.tup _ us (by simpa using hl) (fun k u x a b => ?_)
    match k with
    | 0 => simp at b; subst b; exact rep_nilsl (hr 0 u _ a rfl)
    | 1 => simp at b; subst b; exact hr 1 u _ a rfl
    | k + 2 => simp at b
theorem find_any (cs : List Cel) (ppl : List Nm) (al : List Alt) (n : Nm) (hl : al.length ≤ 400) : ∃ r, SummH Tryz.prog GG 150 (HB cs ppl al) [.bx 0 0, .f (sv n)] r (HB cs ppl al) := by
  rcases idxP_cases al.length (nmA al n) with ⟨_, hz⟩ | ⟨k, hk, hz, hp, _⟩
  · exact ⟨_, find_no cs ppl al n hl hz⟩
  · exact ⟨_, find_at cs ppl al n hl k hk hz hp⟩
theorem cells_nil {k : Int} {l : List Int} (h : hasCB k = decide (0 < l.length)) (hk : hasCB k = false) : l = [] := by
  rw [hk] at h
  have := of_decide_eq_false h.symm
  exact List.eq_nil_of_length_eq_zero (by omega)
theorem cells_pos {k : Int} {l : List Int} (h : hasCB k = decide (0 < l.length)) (hk : hasCB k = true) : 0 < l.length := by
  rw [hk] at h
  exact of_decide_eq_true h.symm
theorem act_ok (cs : List Cel) (s : Lst) (m : Nat) (i : Inv m s) (hm : m ≤ 100) (hcs : cs.length ≤ 1000) (x : Act) (hx : x.cells.length ≤ 1000000) (h : stpE cs.length s x = 0) : SummH Tryz.prog GG 234 (HB cs s.1 s.2) [.bx 0 0, .f (.agg (actF x))] (.f (.tup [.sl (stpW s x).length (strsF (stpW s x)), iv 0])) (HB cs (stpS s x).1 (stpS s x).2) := by
  obtain ⟨ppl, al⟩ := s
  obtain ⟨kind, n, cl⟩ := x
  obtain ⟨hc, hr⟩ := stpE_0 h
  obtain ⟨hk, hn, hcl, hh⟩ := chkE_0 hc
  have hnl : n.length ≤ 1000 := by have := nameB_12 hn; simp only at this; omega
  have hal : al.length ≤ 100 := by have := i.al; simp only at this; omega
  have hpl : ppl.length ≤ 8 := i.pl
  simp only at hk hn hcl hh hr hx
  rcases hr with ⟨rfl, hi, h8⟩ | ⟨rfl, hi⟩ | ⟨rfl, hi⟩ | ⟨rfl | rfl, hi, hg⟩
  · have := cells_nil hh rfl
    subst this
    obtain ⟨r, HF⟩ := find_any cs ppl al n (by omega)
    have hi1 : idxP ppl.length (hasS ppl n) = -1 := by
      rcases idxP_cases ppl.length (hasS ppl n) with ⟨e, _⟩ | ⟨k, _, _, _, e⟩
      · exact e
      · unfold idxN at hi; omega
    exact summH_retW (act0_h cs ppl al (by omega) hcs n hnl hn hi1 h8 HF) tup_nil1
  · have := cells_nil hh rfl
    subst this
    obtain ⟨r, HF⟩ := find_any cs ppl al n (by omega)
    rcases idxP_cases ppl.length (hasS ppl n) with ⟨e, _⟩ | ⟨k, hk2, _, _, e⟩
    · unfold idxN at hi; omega
    · have hst : stpS (ppl, al) ⟨1, n, []⟩ = (pplDel ppl k, al) := by
        show (pplDel ppl (idxN ppl n).toNat, al) = _
        unfold idxN; rw [e, Int.toNat_natCast]
      rw [hst]
      exact summH_retW (act1_h cs ppl al (by omega) hcs n hnl hn (by omega) k e hk2 HF) tup_nil1
  · have hc0 := cells_pos hh rfl
    have hz : ∀ j, j < al.length → nmA al n j = false := by
      rcases idxP_cases al.length (nmA al n) with ⟨_, hz⟩ | ⟨k, _, _, _, e⟩
      · exact hz
      · unfold idxA at hi; omega
    rw [show stpW (ppl, al) ⟨2, n, cl⟩ = ascN ppl from rfl, ascN_len]
    exact act2_h cs ppl al (by omega) hcs n hnl hn (by omega) cl hc0 hx hcl hz
  all_goals
    rcases idxP_cases al.length (nmA al n) with ⟨e, _⟩ | ⟨k, hk2, hz, hpn, e⟩
    · unfold idxA at hi; omega
  · have hc0 := cells_pos hh rfl
    have hka : (idxA al n).toNat = k := by unfold idxA; rw [e, Int.toNat_natCast]
    have ha : altA al n = al[k] := by unfold altA; rw [hka, getD_at hk2]
    have hst : stpS (ppl, al) ⟨3, n, cl⟩ = (ppl, al.set k (sent al[k] cl ppl)) := by
      show (ppl, al.set (idxA al n).toNat (sent (altA al n) cl ppl)) = _
      rw [ha, hka]
    rw [hst]
    rw [ha] at hg
    have hv := i.ver al[k] (List.getElem_mem hk2)
    have hge := List.getElem?_eq_getElem hk2
    generalize al[k] = a at hg hv hge
    obtain ⟨n0, ver, c0, gone, had, kys⟩ := a
    simp only at hg hv
    subst hg
    rw [show stpW (ppl, al) ⟨3, n, cl⟩ = ascN ppl from rfl, ascN_len]
    exact act3_h cs ppl al (by omega) hcs n hnl hn (by omega) cl hc0 hx hcl k hge hz hpn (by omega)
  · have := cells_nil hh rfl
    subst this
    have hka : (idxA al n).toNat = k := by unfold idxA; rw [e, Int.toNat_natCast]
    have ha : altA al n = al[k] := by unfold altA; rw [hka, getD_at hk2]
    have hst : stpS (ppl, al) ⟨4, n, []⟩ = (ppl, al.set k (goneA al[k])) := by
      show (ppl, al.set (idxA al n).toNat (goneA (altA al n))) = _
      rw [ha, hka]
    have hw : stpW (ppl, al) ⟨4, n, []⟩ = ascN al[k].kys := by
      show ascN (altA al n).kys = _
      rw [ha]
    rw [hst, hw, ascN_len]
    rw [ha] at hg
    obtain ⟨hks, hkl, hkb⟩ := i.kys al[k] (List.getElem_mem hk2)
    have hge := List.getElem?_eq_getElem hk2
    generalize al[k] = a at hg hge hks hkl hkb
    obtain ⟨n0, ver, c0, gone, had, kys⟩ := a
    simp only at hg hks hkl hkb
    subst hg
    exact act4_h cs ppl al (by omega) hcs n hnl hn (by omega) k hge hz hpn hks (show kys.length ≤ 1000 by omega) (fun c h => by have := hkb c h; omega)
end Go.Proofs.YtbkdjlahhcofmaaGreatDoor
namespace Go.Proofs.YtbkdjlahhcofmaaGreatDoor
open Go Go.RowKit Go.Proofs Go.Shelf Go.Ab
theorem hasS_not {l : List Nm} {n : Nm} (h : idxN l n < 0) : n ∉ l := fun hm => by
  have : anyP l.length (hasS l n) = true := by rw [anyS_has]; simpa using hm
  have := (idxP_pos l.length (hasS l n)).2 this
  unfold idxN at h; omega
theorem pplDel_eq (l : List Nm) (i : Nat) : pplDel l i = l.eraseIdx i := (List.eraseIdx_eq_take_drop_succ l i).symm
theorem pplDel_sub (l : List Nm) (i : Nat) : (pplDel l i).Sublist l := by rw [pplDel_eq]; exact List.eraseIdx_sublist l i
theorem keys_sent {a : Alt} {ppl : List Nm} (cl : List Int) (hk : KeysAre a.had a.kys) (hn : ppl.Nodup) : KeysAre (sent a cl ppl).had (sent a cl ppl).kys := by
  have hf : ∀ c, c ∈ (ppl.filter fun n => !a.kys.contains n) ↔ c ∈ ppl ∧ c ∉ a.kys := fun c => by simp [List.mem_filter]
  constructor
  · show (a.kys ++ ppl.filter fun n => !a.kys.contains n).Nodup
    refine List.nodup_append.2 ⟨hk.nd, hn.sublist List.filter_sublist, fun x hx y hy e => ?_⟩
    subst e
    exact ((hf x).1 hy).2 hx
  · intro c
    show c ∈ a.kys ++ (ppl.filter fun n => !a.kys.contains n) ↔ (updAll a.had ppl (a.ver + 1) c).isSome = true
    rw [List.mem_append, hf]
    unfold updAll
    by_cases h : c ∈ ppl
    · rw [if_pos h]
      by_cases h2 : c ∈ a.kys
      · simp [h2]
      · simp [h, h2]
    · rw [if_neg h, ← hk.mem]
      simp [h]
theorem inv_step {m : Nat} {s : Lst} {c : Int} {x : Act} (i : Inv m s) (h : stpE c s x = 0) : Inv (m + 1) (stpS s x) := by
  obtain ⟨ppl, al⟩ := s
  obtain ⟨kind, n, cl⟩ := x
  obtain ⟨hc, hr⟩ := stpE_0 h
  obtain ⟨hk, hn, -, -⟩ := chkE_0 hc
  have i1 := i.al; have i2 := i.pl; have i3 := i.nd; have i4 := i.nm; have i5 := i.ver; have i6 := i.kys
  simp only at hk hn hr i1 i2 i3 i4 i5 i6
  have n12 := nameB_12 hn
  have i5' : ∀ a, a ∈ al → 0 ≤ a.ver ∧ a.ver ≤ ((m + 1 : Nat) : Int) := fun a ha => by have := i5 a ha; omega
  have i6' : ∀ a, a ∈ al → KeysAre a.had a.kys ∧ a.kys.length ≤ 8 * (m + 1) ∧ ∀ c, c ∈ a.kys → c.length ≤ 12 := fun a ha => by
    obtain ⟨h1, h2, h3⟩ := i6 a ha
    exact ⟨h1, by omega, h3⟩
  have hs : ∀ a, (0 ≤ a.ver ∧ a.ver ≤ (m : Int)) → (KeysAre a.had a.kys ∧ a.kys.length ≤ 8 * m ∧ ∀ c, c ∈ a.kys → c.length ≤ 12) → (0 ≤ (sent a cl ppl).ver ∧ (sent a cl ppl).ver ≤ ((m + 1 : Nat) : Int)) ∧ (KeysAre (sent a cl ppl).had (sent a cl ppl).kys ∧ (sent a cl ppl).kys.length ≤ 8 * (m + 1) ∧ ∀ c, c ∈ (sent a cl ppl).kys → c.length ≤ 12) := fun a hv ⟨h1, h2, h3⟩ => by
    refine ⟨⟨by show 0 ≤ a.ver + 1; omega, by show a.ver + 1 ≤ _; omega⟩, keys_sent cl h1 i3, ?_, fun c hc => ?_⟩
    · show (a.kys ++ ppl.filter fun n => !a.kys.contains n).length ≤ _
      have := List.length_filter_le (fun n => !a.kys.contains n) ppl
      rw [List.length_append]; omega
    · rcases List.mem_append.1 hc with h | h
      · exact h3 c h
      · exact i4 c (List.mem_filter.1 h).1
  have hset : ∀ (k : Nat) (b : Alt), ((0 ≤ b.ver ∧ b.ver ≤ ((m + 1 : Nat) : Int)) ∧ (KeysAre b.had b.kys ∧ b.kys.length ≤ 8 * (m + 1) ∧ ∀ c, c ∈ b.kys → c.length ≤ 12)) → Inv (m + 1) (ppl, al.set k b) := fun k b hb => by
    refine ⟨by show (al.set k b).length ≤ _; rw [List.length_set]; omega, i2, i3, i4, fun a ha => ?_, fun a ha => ?_⟩
    · rcases List.mem_or_eq_of_mem_set ha with h | rfl
      · exact i5' a h
      · exact hb.1
    · rcases List.mem_or_eq_of_mem_set ha with h | rfl
      · exact i6' a h
      · exact hb.2
  have hal : ∀ (h : 0 ≤ idxA al n), altA al n ∈ al := fun h => by
    rcases idxP_cases al.length (nmA al n) with ⟨e, _⟩ | ⟨k, hk2, _, _, e⟩
    · unfold idxA at h; omega
    · unfold altA idxA; rw [e, Int.toNat_natCast, getD_at hk2]; exact List.getElem_mem hk2
  rcases hr with ⟨rfl, hi, h8⟩ | ⟨rfl, hi⟩ | ⟨rfl, hi⟩ | ⟨rfl | rfl, hi, hg⟩
  · refine ⟨by show al.length ≤ _; omega, by show (ppl ++ [n]).length ≤ 8; simp; omega, ?_, fun c hc => ?_, i5', i6'⟩
    · show (ppl ++ [n]).Nodup
      refine List.nodup_append.2 ⟨i3, by simp, fun x hx y hy e => ?_⟩
      subst e
      rw [List.mem_singleton] at hy
      subst hy
      exact hasS_not hi hx
    · rcases List.mem_append.1 (show c ∈ ppl ++ [n] from hc) with h | h
      · exact i4 c h
      · rw [List.mem_singleton.1 h]; exact n12
  · have hsub := pplDel_sub ppl (idxN ppl n).toNat
    refine ⟨by show al.length ≤ _; omega, Nat.le_trans hsub.length_le i2, i3.sublist hsub, fun c hc => i4 c (hsub.subset hc), i5', i6'⟩
  · have hb := hs (newA n) ⟨by show (0 : Int) ≤ 0; omega, by show (0 : Int) ≤ m; omega⟩ ⟨⟨List.nodup_nil, fun c => by show c ∈ [] ↔ _; simp [newA]⟩, by show 0 ≤ _; omega, fun c hc => by simp [newA] at hc⟩
    refine ⟨by show (al ++ [_]).length ≤ _; simp; omega, i2, i3, i4, fun a ha => ?_, fun a ha => ?_⟩
    · rcases List.mem_append.1 (show a ∈ al ++ [sent (newA n) cl ppl] from ha) with h | h
      · exact i5' a h
      · rw [List.mem_singleton.1 h]; exact hb.1
    · rcases List.mem_append.1 (show a ∈ al ++ [sent (newA n) cl ppl] from ha) with h | h
      · exact i6' a h
      · rw [List.mem_singleton.1 h]; exact hb.2
  · have ha := hal hi
    exact hset _ _ (hs _ (i5 _ ha) (i6 _ ha))
  · have ha := hal hi
    have h5 := i5' _ ha
    have h6 := i6' _ ha
    exact hset (idxA al n).toNat (goneA (altA al n)) ⟨h5, h6⟩
def runS (l : List Act) : Nat → Lst
  | 0 => ([], [])
  | k + 1 => stpS (runS l k) (l.getD k default)
def runW (l : List Act) : Nat → List (List Nm)
  | 0 => []
  | k + 1 => runW l k ++ [stpW (runS l k) (l.getD k default)]
theorem runW_len (l : List Act) : ∀ k, (runW l k).length = k
  | 0 => rfl
  | k + 1 => by rw [runW, List.length_append, runW_len l k]; rfl
def runE (c : Int) (l : List Act) (i : Nat) : Int := stpE c (runS l i) (l.getD i default)
theorem inv_run {c : Int} {l : List Act} : ∀ {k : Nat}, (∀ i, i < k → runE c l i = 0) → Inv k (runS l k)
  | 0, _ => inv0
  | k + 1, h => inv_step (inv_run fun i hi => h i (by omega)) (h k (by omega))
end Go.Proofs.YtbkdjlahhcofmaaGreatDoor
namespace Go.Proofs.YtbkdjlahhcofmaaGreatDoor
open Go Go.RowKit Go.Proofs Go.Shelf Go.Ab
theorem killA_big {d : Nat} (al : List Alt) (hl : al.length ≤ 400) (hd : 1000 ≤ d) : (PT al 1000).map (killA d) = PT al 1000 := by
  refine (List.map_congr_left fun x hx => ?_).trans (List.map_id _)
  rcases PT_mem hx with ⟨_, h⟩ | ⟨j, hj, _, rfl⟩
  · omega
  · exact killA_bx (by omega)
theorem HX_killB {al : List Alt} {q i d : Nat} {B : Blk} (hl : al.length ≤ 400) (hd : 1000 ≤ d) (h : HX al q i = some B) : killB d B = B := by
  obtain ⟨j, a, ha, _, _, ⟨_, rfl⟩ | ⟨_, rfl⟩⟩ := HX_some h
  · rfl
  · have hj := (List.getElem?_eq_some_iff.1 ha).1
    show Blk.box ((bxC (2 * j + 5) a).map (killA d)) = _
    rw [bxC_kill (by omega)]
def lsC (cs : List Cel) (s : Lst) : List FV := [xF cs, .sl s.1.length (strsF s.1), .sl s.2.length (altsF s.2)]
theorem sees_ls {C : Ctx} {N : Nat} {st : St} {cs : List Cel} {s : Lst} (hl : s.2.length ≤ 400) (h0 : st.h 0 = some (.box [.f (xF cs), .ow 1, .ow 2])) (h1 : st.h 1 = some (.row 9 1 s.1.length (strsF s.1))) (h2 : st.h 2 = some (.rowA 241 1 s.2.length (PT s.2 1000))) (hx : ∀ i B, HX s.2 1000 i = some B → st.h i = some B) : Sees C N st (.bx 0 0) (.pt (lsC cs s) 0) :=
  sees_bx h0 ⟨sees_f _, sees_row h1, sees_rowA h2 (sees_alts hl hx), trivial⟩
theorem over_sub {cs : List Cel} {ppl : List Nm} {al : List Alt} (R B1 B2 : Option Blk) : ∀ i B, HB cs ppl al i = some B → Ab.upd (Ab.upd (Ab.upd (HB cs ppl al) 1000 R) 1001 B1) 1001 B2 i = some B := fun i B h => by
  have := HB_lt h
  rw [Ab.upd_other _ _ (by omega), Ab.upd_other _ _ (by omega), Ab.upd_other _ _ (by omega)]
  exact h
theorem over_new {cs : List Cel} {ppl ppl' : List Nm} {al al' : List Alt} (R B1 B2 : Option Blk) : ∀ i, HB cs ppl al i = none → (HB cs ppl' al' i).isSome = true → Ab.upd (Ab.upd (Ab.upd (HB cs ppl al) 1000 R) 1001 B1) 1001 B2 i = none := fun i h h2 => by
  obtain ⟨B, hB⟩ := Option.isSome_iff_exists.1 h2
  have := HB_lt hB
  rw [Ab.upd_other _ _ (by omega), Ab.upd_other _ _ (by omega), Ab.upd_other _ _ (by omega)]
  exact h
set_option maxRecDepth 100000 in
set_option maxHeartbeats 3200000 in
theorem replay_ok (rs : List Int) (o : SkyOk rs) (l : List Act) (hl : l.length ≤ 40) (hcl : ∀ i, i < l.length → (l.getD i default).cells.length ≤ 1000000) (hE : ∀ i, i < l.length → runE (skyC rs).length l i = 0) : Summ Tryz.prog GG 138 [skF rs, .sl l.length (actsF l)] (.tup [.pt (lsC (skyC rs) (runS l l.length)) 0, .sl l.length (listsF (runW l l.length)), iv 0, iv 0]) := by
  have HO := open_ok rs o
  have hbd := skyC_bd o
  have hall : (runS l 0).2.length ≤ 400 := by show 0 ≤ 400; omega
  refine summW Tryz.func138 rfl rfl 58 rfl (by simp) (fun M0 => ?_)
  repeat (first
    | (apply s_boxw (T := 240); exact rfl; exact rfl; exact rfl; exact rfl)
    | (apply s_a TY; exact rfl)
    | (apply s_t; exact rfl; (first | assumption | omega))
    | apply w_seq
    | apply w_region
    | apply s_nil
    | apply t_norm
    | apply w_block
    | apply w_skip
    | (apply w_condF; exact rfl; exact rfl)
    | (apply s_k (HO); exact rfl)
    | (apply s_k1 (first2_1 _ _); exact rfl; (first | assumption | omega | decide))
    | (apply s_k (unless_T _); exact rfl))
  apply w_gh (gh_trans (gh_ownB 0 1 9 1 rfl rfl rfl) (gh_trans (gh_ownB 0 2 241 1 rfl rfl rfl) (gh_trans (gh_rowA 2 (cs := []) rfl) (gh_trans (gh_nx 1000) (gh_own 11 86 1 rfl rfl)))))
  apply w_loop (fun k : Nat => ⟨(Ab.upd (Ab.upd (Ab.upd (Ab.upd (Ab.upd (fun _ => .bot) 10 (.bx 0 0)) 11 (.ow 1000)) 34 (.f (.sl l.length (actsF l)))) 35 (.f (iv l.length))) 36 (.f (iv ((k : Nat) : Int)))), Ab.upd (HB (skyC rs) (runS l k).1 (runS l k).2) 1000 (some (.row 86 1 k (listsF (runW l k)))), 1001⟩) (fun k => k ≤ l.length) (fun k => l.length - k) 0 (Nat.zero_le _) (gh_le ⟨le_upd rfl trivial (le_upd rfl trivial (le_upd rfl trivial (le_upd rfl rfl (le_upd rfl rfl (le_nil _))))), le_baseO rfl rfl trivial (le_HB hall rfl rfl rfl (fun i B h => by obtain ⟨j, a, ha, _⟩ := HX_some h; simp [runS] at ha))⟩)
  intro k hk
  have inv := inv_run (l := l) (k := k) (c := (skyC rs).length) (fun i hi => hE i (by omega))
  have hal := inv.al
  by_cases hc : k < l.length
  · have hx := getD_at hc
    have hcx := hcl k hc
    have hEk : stpE (skyC rs).length (runS l k) (l.getD k default) = 0 := hE k hc
    rw [hx] at hcx hEk
    have HACT := act_ok (skyC rs) (runS l k) k inv (by omega) (by omega) l[k] hcx hEk
    have hall := (inv_step inv hEk).al
    replace hall : (stpS (runS l k) l[k]).2.length ≤ 400 := by omega
    have hS : runS l (k + 1) = stpS (runS l k) l[k] := by rw [runS, hx]
    have hW : runW l (k + 1) = runW l k ++ [stpW (runS l k) l[k]] := by rw [runW, hx]
    repeat (first
    | (refine s_callH HACT (fun _ => rfl) (fun i q h => by cases h) rfl rfl rfl ⟨rfl, trivial, trivial⟩ (over_sub _ _ _) (over_new _ _ _) ?_)
    | (apply s_a TY; exact rfl)
    | (apply s_t; exact rfl; (first | assumption | omega))
    | apply w_seq
    | apply w_region
    | apply s_nil
    | apply t_norm
    | apply k_norm
    | apply w_block
    | apply w_skip
    | (apply w_condT; exact rfl; exact rfl)
    | (apply w_condF; exact rfl; exact rfl)
    | (apply s_c TY; exact rfl; (first | omega | exact ⟨by omega, by (first | with_reducible assumption | ((with_reducible apply actsF_ne); omega) | assumption)⟩))
    | (apply s_m TY; exact rfl; (first | with_reducible assumption | ((with_reducible apply actsF_sub); omega) | exact rfl); exact rfl)
    | (apply s_alloc TY; exact rfl; exact rfl; exact rfl)
    | (apply s_store TY; exact rfl; exact rfl; exact rfl; exact rfl; exact rfl; exact rfl)
    | (apply s_append TY; exact rfl; exact rfl; exact rfl; exact rfl; exact rfl; exact rfl; exact rfl; exact rfl; exact rfl; (unfold maxLen; omega); omega))
    refine ⟨k + 1, by omega, by omega, ?_⟩
    simp only [hS, hW, listsF_snoc]
    exact gh_le ⟨le_upd rfl trivial (le_upd rfl trivial (le_upd rfl trivial (le_upd rfl rfl (le_upd rfl rfl (le_nil _))))), le_baseO rfl rfl trivial (le_HB hall rfl rfl (congrArg (fun z => some (Blk.rowA 241 1 _ z)) (killA_big _ hall (by omega))) (fun i B h => by
      have hb := HX_bd h
      try simp only [St.put]
      repeat (first | exact HX_HB h | exact join_h (HX_HB h) | refine grow_h (by omega) ?_ (HX_killB (by omega) (by omega) h) | refine (Ab.upd_other _ _ (by omega)).trans ?_)))⟩
  · have hkl : k = l.length := by omega
    subst hkl
    repeat (first
    | (apply s_a TY; exact rfl)
    | (apply s_f; exact rfl; (first | assumption | omega))
    | apply w_seq
    | apply w_region
    | apply s_nil
    | apply t_norm
    | apply t_exit
    | apply k_hit
    | apply w_exit
    | apply w_ret
    | (apply w_condF; exact rfl; exact rfl))
    exact lv_ret (ret4 rfl (res_sees rfl (sees_ls (by omega) rfl rfl rfl (fun i B h => by
      have hb := HX_bd h
      try simp only [St.put]
      repeat (first | exact HX_HB h | exact join_h (HX_HB h) | refine grow_h (by omega) ?_ (HX_killB (by omega) (by omega) h) | refine (Ab.upd_other _ _ (by omega)).trans ?_)))) (res_sees rfl (sees_row rfl)) (res_tmp rfl) (res_tmp rfl))
end Go.Proofs.YtbkdjlahhcofmaaGreatDoor
namespace Go.Proofs.YtbkdjlahhcofmaaGreatDoor
open Go Go.RowKit Go.Proofs Go.Shelf Go.Ab
set_option maxRecDepth 100000 in
set_option maxHeartbeats 1600000 in
theorem RecipientsOf_ok (rs : List Int) (o : SkyOk rs) (l : List Act) (hl : l.length ≤ 40) (hcl : ∀ i, i < l.length → (l.getD i default).cells.length ≤ 1000000) (hE : ∀ i, i < l.length → runE (skyC rs).length l i = 0) (k : Nat) (hk : k < l.length) (h0 : l[k].kind ≠ 0) (h1 : l[k].kind ≠ 1) : Summ Tryz.prog GG 36 [skF rs, .sl l.length (actsF l), iv ((k : Nat) : Int)] (.tup [listF ((runW l l.length)[k]'(by rw [runW_len]; exact hk)), iv 0]) := by
  have HR := replay_ok rs o l hl hcl hE
  have hw : (listsF (runW l l.length))[((k : Nat) : Int).toNat * 1]? = some (listF ((runW l l.length)[k]'(by rw [runW_len]; exact hk))) := by rw [Int.toNat_natCast]; exact listsF_at (by rw [runW_len]; exact hk)
  have hw2 : (listsF (runW l l.length))[k * 1]? = some (listF ((runW l l.length)[k]'(by rw [runW_len]; exact hk))) := listsF_at (by rw [runW_len]; exact hk)
  have hne : listsF (runW l l.length) ≠ [] := listsF_ne (k := k) (by rw [runW_len]; exact hk)
  generalize (runW l l.length)[k]'(by rw [runW_len]; exact hk) = w at hw hw2 ⊢
  refine summW Tryz.func36 rfl rfl 50 rfl (by simp) (fun M0 => ?_)
  repeat (first
    | (apply s_a TY; exact rfl)
    | (apply s_t; exact rfl; (first | assumption | omega))
    | (apply s_f; exact rfl; (first | assumption | omega))
    | apply w_seq
    | apply w_region
    | apply s_nil
    | apply t_norm
    | apply w_ret
    | apply w_skip
    | (apply w_condF; exact rfl; exact rfl)
    | (apply s_k (HR); exact rfl)
    | (apply s_k1 (first2_1 _ _); exact rfl; (first | assumption | omega | decide))
    | (apply s_k (unless_T _); exact rfl)
    | (apply s_k1 (within_T _ _ _); exact rfl; (first | assumption | omega | decide))
    | (apply s_c TY; exact rfl; (first | omega | exact ⟨by omega, by (first | with_reducible assumption | ((with_reducible apply actsF_ne); omega) | ((with_reducible apply listsF_ne); omega) | assumption)⟩))
    | (apply s_l TY; exact rfl; (first | exact rfl | with_reducible assumption | ((with_reducible apply actsF_f0); omega) | ((with_reducible apply actsF_f1); omega) | ((with_reducible apply actsF_f2); omega) | ((with_reducible apply listsF_at); omega) | assumption)))
  exact lv_ret (ret2 rfl (res_tmp rfl) (res_tmp rfl))
end Go.Proofs.YtbkdjlahhcofmaaGreatDoor
namespace Go.Proofs.YtbkdjlahhcofmaaGreatDoor
open Go Go.RowKit Go.Proofs Go.Shelf Go.Ab
structure PtOk (p : Pt) : Prop where
  h : -1000000 ≤ p.height ∧ p.height ≤ 1000000
  t : 0 ≤ p.turn ∧ p.turn ≤ 999999
end Go.Proofs.YtbkdjlahhcofmaaGreatDoor
