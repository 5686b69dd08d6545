/- Laws on which the proofs of this seat stand. No condition. -/
import Derived.Test.YtienhiloecfgnaaDoorKept6
namespace Go.Proofs.YtienhiloecfgnaaDoor
open Go Go.RowKit Go.Proofs Go.Shelf Go.Ab
theorem spreadTo_keep {y : Layer} (h0 : y.loss = 0) {t : List Int} : ∀ k, k ≤ t.length → (spreadTo y t k).sum = (t.take k).sum
  | 0, _ => by simp [spreadTo]
  | k + 1, hk => by
    have ih := spreadTo_keep h0 (t := t) k (by omega)
    have hl := spreadTo_len y t k
    have hr : restOf y (t.getD k 0) = t.getD k 0 := by unfold restOf; rw [h0]; simp
    rw [spreadTo, spreadOne, sum_set _ _ _ (by simp [hl]; split <;> omega), sum_set _ _ _ (by omega), take_sum_succ (by omega), hr]
    omega
theorem spreadStep_keep {y : Layer} (h0 : y.loss = 0) (t : List Int) : (spreadStep y t).sum = t.sum := by
  have := spreadTo_keep h0 (t := t) t.length (Nat.le_refl _)
  rw [List.take_length] at this; exact this
theorem mul_grow {n m a : Int} (h : n ≤ m) (ha : 0 ≤ a) (hb : a ≤ 1000) : n * a ≤ m * a ∧ m * a ≤ n * a + 1000 * (m - n) := by
  have h1 : n * a ≤ m * a := Int.mul_le_mul_of_nonneg_right h ha
  have h2 : (m - n) * a ≤ (m - n) * 1000 := Int.mul_le_mul_of_nonneg_left hb (by omega)
  rw [Int.sub_mul] at h2
  exact ⟨h1, by omega⟩
theorem rest_mono {y : Layer} (v : LayerV y) {n m : Int} (h : n ≤ m) : restOf y n ≤ restOf y m := by
  have := mul_grow h v.1.1 v.1.2
  unfold restOf; omega
theorem late_mono {y : Layer} (v : LayerV y) {n m : Int} (h : n ≤ m) : lateOf y n ≤ lateOf y m ∧ restOf y n - lateOf y n ≤ restOf y m - lateOf y m := by
  have r := rest_mono v h
  have := mul_grow r v.2.1 v.2.2
  unfold lateOf; omega
def Under (s t : List Int) : Prop := s.length = t.length ∧ ∀ k : Nat, s.getD k 0 ≤ t.getD k 0
theorem Under.set {s t : List Int} (h : Under s t) (j : Nat) {a b : Int} (hab : a ≤ b) : Under (s.set j a) (t.set j b) := by
  refine ⟨by simp [h.1], fun k => ?_⟩
  simp only [List.getD_eq_getElem?_getD, List.getElem?_set]
  have := h.2 k
  simp only [List.getD_eq_getElem?_getD] at this
  by_cases e : j = k
  · subst e
    by_cases hk : j < s.length
    · have hk2 : j < t.length := by rw [← h.1]; exact hk
      simp [hk, hk2, hab]
    · have hk2 : ¬ j < t.length := by rw [← h.1]; exact hk
      simp [hk, hk2]
  · simpa [e] using this
theorem spreadTo_mono {y : Layer} (v : LayerV y) {t t' : List Int} (h : Under t t') : ∀ k, Under (spreadTo y t k) (spreadTo y t' k)
  | 0 => by unfold spreadTo; rw [h.1]; exact ⟨rfl, fun _ => Int.le_refl _⟩
  | k + 1 => by
    have ih := spreadTo_mono v h k
    have lm := late_mono v (h.2 k)
    have hj : (if k + 1 < t.length then k + 1 else t.length - 1) = (if k + 1 < t'.length then k + 1 else t'.length - 1) := by rw [h.1]
    have s1 : Under ((spreadTo y t k).set k ((spreadTo y t k).getD k 0 + (restOf y (t.getD k 0) - lateOf y (t.getD k 0)))) ((spreadTo y t' k).set k ((spreadTo y t' k).getD k 0 + (restOf y (t'.getD k 0) - lateOf y (t'.getD k 0)))) := ih.set k (by have := ih.2 k; omega)
    rw [spreadTo, spreadTo, spreadOne, spreadOne, hj]
    exact s1.set _ (by have := s1.2 (if k + 1 < t'.length then k + 1 else t'.length - 1); omega)
theorem spreadL_mono {x : Grid} (v : Valid x) : ∀ (l t t' : List Int), (∀ k ∈ l, 0 ≤ k ∧ k < x.layers.length) → Under t t' → Under (spreadL x t l) (spreadL x t' l)
  | [], _, _, _, h => h
  | k :: l, t, t', hl, h => by
    have hk := hl k (by simp)
    refine spreadL_mono v l _ _ (fun k hk => hl k (by simp [hk])) ?_
    unfold spreadStep
    rw [h.1]
    exact spreadTo_mono (layerAtI_v v hk.1 hk.2) h _
def moreL (t : List Int) (k : Nat) : List Int := t.mapIdx fun i z => if i < k then min 1000000 (z + i + 1) else z
theorem moreL_len (t : List Int) (k : Nat) : (moreL t k).length = t.length := by simp [moreL]
theorem moreL_zero (t : List Int) : moreL t 0 = t := by
  apply List.ext_getElem?; intro i; simp [moreL, List.getElem?_mapIdx]
theorem moreL_at {t : List Int} {k j : Nat} (hk : k < t.length) : (moreL t j)[k]'(by rw [moreL_len]; exact hk) = if k < j then min 1000000 (t[k] + k + 1) else t[k] := by simp [moreL]
theorem moreL_set {t : List Int} {k : Nat} (hk : k < t.length) {z : Int} (hz : z = min 1000000 (t[k] + k + 1)) : (moreL t k).set k z = moreL t (k + 1) := by
  subst hz
  apply List.ext_getElem
  · simp [moreL]
  intro i h1 h2
  have hi : i < t.length := by simpa [moreL] using h2
  rw [moreL_at hi]
  rw [List.getElem_set]
  by_cases e : k = i
  · subst e; simp
  · rw [if_neg e, moreL_at hi]
    by_cases h3 : i < k
    · rw [if_pos h3, if_pos (by omega)]
    · rw [if_neg h3, if_neg (by omega)]
theorem more_under {t : List Int} (h : ∀ z ∈ t, 0 ≤ z ∧ z ≤ 1000000) : Under t (moreL t t.length) := by
  refine ⟨(moreL_len _ _).symm, fun k => ?_⟩
  by_cases hk : k < t.length
  · have := h _ (List.getElem_mem hk)
    rw [getD_get hk, getD_get (by rw [moreL_len]; exact hk), moreL_at hk, if_pos hk]; omega
  · simp [List.getD_eq_getElem?_getD, List.getElem?_eq_none (show t.length ≤ k by omega), List.getElem?_eq_none (show (moreL t t.length).length ≤ k by rw [moreL_len]; omega)]
theorem more_bd {t : List Int} (h : ∀ z ∈ t, 0 ≤ z ∧ z ≤ 1000000) : ∀ z ∈ moreL t t.length, 0 ≤ z ∧ z ≤ 1000000 := fun z hz => by
  obtain ⟨k, hk, rfl⟩ := List.getElem_of_mem hz
  have hk' : k < t.length := by rw [moreL_len] at hk; exact hk
  have := h _ (List.getElem_mem hk')
  rw [moreL_at hk', if_pos hk']; omega
def lossB (x : Grid) (l : List Int) : Bool := l.all fun k => decide ((layerAtI x k).loss = 0)
theorem lossB_succ {x : Grid} {l : List Int} {j : Nat} (hj : j < l.length) : lossB x (l.take (j + 1)) = (lossB x (l.take j) && decide ((layerAtI x l[j]).loss = 0)) := by
  unfold lossB; rw [intsF_tk' hj, List.all_append]; simp [List.all]
structure StepOk (x : Grid) (t l : List Int) (s : Nat) : Prop where
  le : (spreadL x t (l.take s)).sum ≤ (spreadL x t (l.take (s - 1))).sum
  keep : lossB x (l.take s) = true → (spreadL x t (l.take s)).sum = (spreadL x t (l.take (s - 1))).sum
theorem stepOk {x : Grid} {t l : List Int} (h : SpreadOk x t l) (s : Nat) (hs : s ≤ l.length) : StepOk x t l s := by
  cases s with
  | zero => exact ⟨Int.le_refl _, fun _ => rfl⟩
  | succ j =>
    have hj : j < l.length := hs
    have hz := h.lay _ (List.getElem_mem hj)
    have e : spreadL x t (l.take (j + 1)) = spreadStep (layerAtI x l[j]) (spreadL x t (l.take j)) := by rw [intsF_tk' hj, spreadL_snoc]
    have T := h.tab j
    refine ⟨?_, fun hb => ?_⟩
    · rw [e]; exact (spreadStep_bd (layerAtI_v h.v hz.1 hz.2) T.nn).2
    · rw [lossB_succ hj, Bool.and_eq_true, decide_eq_true_eq] at hb
      rw [e]; exact spreadStep_keep hb.2 _
theorem loss_cases {x : Grid} {l : List Int} (s : Nat) (hs : s ≤ l.length) : (s = 0) ∨ (1 ≤ s ∧ lossB x (l.take (s - 1)) = false ∧ lossB x (l.take s) = false) ∨
    (∃ (j : Nat) (hj : j < l.length), s = j + 1 ∧ lossB x (l.take (j + 1 - 1)) = true ∧ (layerAtI x l[j]).loss = 0 ∧ lossB x (l.take (j + 1)) = true) ∨ (∃ (j : Nat) (hj : j < l.length), s = j + 1 ∧ lossB x (l.take (j + 1 - 1)) = true ∧ (layerAtI x l[j]).loss ≠ 0 ∧ lossB x (l.take (j + 1)) = false) := by
  cases s with
  | zero => exact .inl rfl
  | succ j =>
    have hj : j < l.length := hs
    have e := lossB_succ (x := x) hj
    cases hb : lossB x (l.take j) with
    | false => exact .inr (.inl ⟨by omega, hb, by rw [e, hb]; rfl⟩)
    | true =>
      by_cases h0 : (layerAtI x l[j]).loss = 0
      · exact .inr (.inr (.inl ⟨j, hj, rfl, hb, h0, by rw [e, hb, h0]; rfl⟩))
      · exact .inr (.inr (.inr ⟨j, hj, rfl, hb, h0, by rw [e, hb]; simp [h0]⟩))
theorem CopyTake (l : List Int) (s : Nat) (hl : l.length ≤ 1000) (hs : s ≤ l.length) : Summ Tryd.prog GG 38 [.sl ((s : Int).toNat - (0 : Int).toNat) (((intsF l).drop ((0 : Int).toNat * 1)).take (((s : Int).toNat - (0 : Int).toNat) * 1))] (.sl s (intsF (l.take s))) := by
  have := CopyInts_s (l.take s) (by simp; omega)
  have e1 : (l.take s).length = s := by simp; omega
  have e2 : intsF (l.take s) = ((intsF l).drop ((0 : Int).toNat * 1)).take (((s : Int).toNat - (0 : Int).toNat) * 1) := by simp [intsF, List.map_take]
  have e3 : (s : Int).toNat - (0 : Int).toNat = s := by simp
  rw [e1] at this
  rw [← e2, e3]
  exact this
set_option maxRecDepth 100000 in
theorem CopyIntsN (l : List Int) (hl : l.length ≤ 1000000) : SummN Tryd.prog GG 38 [.sl l.length (intsF l)] 3 1 l.length (intsF l) := by
  have hl1 := intsF_len l
  refine summN_of Tryd.func38 rfl rfl 6 rfl (by simp) (fun M0 => ?_)
  repeat (first
    | (apply s_bslicew TY; exact rfl; exact rfl; exact rfl; exact rfl; exact rfl; exact rfl; exact rfl; exact rfl; exact rfl)
    | (apply s_append TY; exact rfl; exact rfl; exact rfl; exact rfl; exact rfl; exact rfl; exact rfl; exact rfl; exact hl1; (unfold maxLen; omega); omega)
    | (apply s_auto TY; exact rfl; exact rfl; exact rfl)
    | apply w_seq
    | apply w_region
    | apply s_nil
    | apply t_norm
    | apply t_exit
    | apply t_ret
    | apply k_hit
    | (apply k_miss; exact rfl)
    | apply k_norm
    | apply k_ret
    | apply w_block
    | apply w_exit
    | apply w_ret
    | apply w_skip
    | (apply w_condT; exact rfl; exact rfl)
    | (apply w_condF; exact rfl; exact rfl)
    | (apply s_append TY; exact rfl; exact rfl; exact rfl; exact rfl; exact rfl; exact rfl; exact rfl; exact rfl; exact rfl; (unfold maxLen; omega); omega))
  exact ⟨2, 0, rfl, rfl, by show some (Blk.row 3 1 (0 + l.length) ([] ++ intsF l)) = _; simp⟩
set_option maxRecDepth 100000 in
set_option maxHeartbeats 1000000 in
theorem IceKept_s (x : Grid) (t l : List Int) : Summ Tryd.prog GG 7 [gridF x, .sl t.length (intsF t), .sl l.length (intsF l)] (bv true) := by
  have F := Few_s x
  refine summW Tryd.func7 rfl rfl 204 rfl (by simp) (fun M0 => ?_)
  cases hf : fewB x with
  | false =>
    rw [hf] at F
    repeat (first
    | (apply s_auto TY; exact rfl; exact rfl; exact rfl)
    | (apply s_cmpt; exact rfl; exact rfl; exact rfl; (first | assumption | omega))
    | (apply s_cmpf; exact rfl; exact rfl; exact rfl; (first | assumption | omega))
    | apply w_seq
    | apply w_region
    | (apply w_draw (id := 9) 13 rfl (by kernel_rfl))
    | (apply w_draw (id := 19) 13 rfl (by kernel_rfl))
    | (apply w_draw (id := 35) 8 rfl (by kernel_rfl))
    | apply s_nil
    | apply t_norm
    | apply t_exit
    | apply t_ret
    | apply k_hit
    | (apply k_miss; exact rfl)
    | apply k_norm
    | apply k_ret
    | apply w_block
    | apply w_exit
    | apply w_ret
    | apply w_skip
    | (apply w_condT; exact rfl; exact rfl)
    | (apply w_condF; exact rfl; exact rfl)
    | (apply s_cl (F); exact rfl; exact rfl; exact rfl; exact rfl; exact rfl)
    | (apply s_cl (awake_s); exact rfl; exact rfl; exact rfl; exact rfl; exact rfl)
    | (apply s_cl (Few_s _); exact rfl; exact rfl; exact rfl; exact rfl; exact rfl)
    | (apply s_cl (IceErr_s _); exact rfl; exact rfl; exact rfl; exact rfl; exact rfl)
    | (apply s_cl2 (CopyIce_s _); exact rfl; exact rfl; exact rfl; exact rfl; exact rfl; (first | assumption | omega | decide); (first | assumption | omega | decide))
    | (apply s_cl1 (CopyInts_s _); exact rfl; exact rfl; exact rfl; exact rfl; exact rfl; (first | assumption | omega | decide))
    | (apply s_cl1 (Within_t _ _ _); exact rfl; exact rfl; exact rfl; exact rfl; exact rfl; (first | assumption | omega | decide))
    | (apply s_cl1 (Within_f _ _ _); exact rfl; exact rfl; exact rfl; exact rfl; exact rfl; (first | assumption | omega | decide))
    | (apply s_cl (Within_s _ _ _); exact rfl; exact rfl; exact rfl; exact rfl; exact rfl)
    | (apply s_skip; exact rfl; exact rfl)
    | (apply s_cond TY; exact rfl; exact rfl; exact rfl; (first | omega | exact ⟨by omega, by (first | with_reducible assumption | ((with_reducible apply intsF_ne); omega) | ((with_reducible apply laysF_ne); omega) | ((with_reducible apply celsF_ne); omega) | ((with_reducible apply rngsF_ne); omega) | ((with_reducible apply flasF_ne); omega) | ((with_reducible apply matF_ne); omega) | ((with_reducible apply boolsF_ne); omega) | exact nea (by simp <;> omega))⟩))
    | (apply s_idxz TY; exact rfl; exact rfl; exact rfl; (first | omega | exact ⟨by omega, by (first | with_reducible assumption | ((with_reducible apply intsF_ne); omega) | ((with_reducible apply laysF_ne); omega) | ((with_reducible apply celsF_ne); omega) | ((with_reducible apply rngsF_ne); omega) | ((with_reducible apply flasF_ne); omega) | ((with_reducible apply matF_ne); omega) | ((with_reducible apply boolsF_ne); omega) | exact nea (by simp <;> omega))⟩))
    | (apply s_ld TY; exact rfl; exact rfl; exact rfl; exact rfl; (first | exact rfl | with_reducible assumption | ((with_reducible apply intsF_at); omega) | ((with_reducible apply matF_at); omega) | ((with_reducible apply boolsF_at); omega) | assumption))
    | (apply s_lds TY; exact rfl; exact rfl; exact rfl; exact rfl; (first | with_reducible assumption | ((with_reducible apply laysF_sub); omega) | ((with_reducible apply celsF_sub); omega) | ((with_reducible apply rngsF_sub); omega) | ((with_reducible apply flasF_sub); omega) | exact rfl); exact rfl)
    | (apply s_ldr TY; exact rfl; exact rfl; exact rfl; exact rfl; exact rfl; (first | exact rfl | with_reducible assumption | ((with_reducible apply intsF_at); omega) | ((with_reducible apply matF_at); omega) | ((with_reducible apply boolsF_at); omega) | assumption))
    | (apply s_store TY; exact rfl; exact rfl; exact rfl; exact rfl; exact rfl; exact rfl)
    | (apply s_storeR TY; exact rfl; exact rfl; exact rfl; exact rfl; exact rfl; (first | exact rfl | (simp [intsF, setAt_length, initF] <;> omega)))
    | (apply s_slice TY; exact rfl; exact rfl; exact rfl; (first | exact rfl | exact ⟨_, rfl⟩); (first | exact rfl | exact ⟨_, rfl⟩); omega; omega; omega))
    exact lv_ret (ret1 rfl (res_tmp rfl))
  | true =>
  rw [hf] at F
  obtain ⟨f1, f2⟩ := fewB_true hf
  have b : SmallG x := ⟨by omega, by omega⟩
  by_cases i0 : iceErrE x = 0
  case neg =>
    repeat (first
    | (apply s_auto TY; exact rfl; exact rfl; exact rfl)
    | (apply s_cmpt; exact rfl; exact rfl; exact rfl; (first | assumption | omega))
    | (apply s_cmpf; exact rfl; exact rfl; exact rfl; (first | assumption | omega))
    | apply w_seq
    | apply w_region
    | (apply w_draw (id := 9) 13 rfl (by kernel_rfl))
    | (apply w_draw (id := 19) 13 rfl (by kernel_rfl))
    | (apply w_draw (id := 35) 8 rfl (by kernel_rfl))
    | apply s_nil
    | apply t_norm
    | apply t_exit
    | apply t_ret
    | apply k_hit
    | (apply k_miss; exact rfl)
    | apply k_norm
    | apply k_ret
    | apply w_block
    | apply w_exit
    | apply w_ret
    | apply w_skip
    | (apply w_condT; exact rfl; exact rfl)
    | (apply w_condF; exact rfl; exact rfl)
    | (apply s_cl (F); exact rfl; exact rfl; exact rfl; exact rfl; exact rfl)
    | (apply s_cl (awake_s); exact rfl; exact rfl; exact rfl; exact rfl; exact rfl)
    | (apply s_cl (Few_s _); exact rfl; exact rfl; exact rfl; exact rfl; exact rfl)
    | (apply s_cl (IceErr_s _); exact rfl; exact rfl; exact rfl; exact rfl; exact rfl)
    | (apply s_cl2 (CopyIce_s _); exact rfl; exact rfl; exact rfl; exact rfl; exact rfl; (first | assumption | omega | decide); (first | assumption | omega | decide))
    | (apply s_cl1 (CopyInts_s _); exact rfl; exact rfl; exact rfl; exact rfl; exact rfl; (first | assumption | omega | decide))
    | (apply s_cl1 (Within_t _ _ _); exact rfl; exact rfl; exact rfl; exact rfl; exact rfl; (first | assumption | omega | decide))
    | (apply s_cl1 (Within_f _ _ _); exact rfl; exact rfl; exact rfl; exact rfl; exact rfl; (first | assumption | omega | decide))
    | (apply s_cl (Within_s _ _ _); exact rfl; exact rfl; exact rfl; exact rfl; exact rfl)
    | (apply s_skip; exact rfl; exact rfl)
    | (apply s_cond TY; exact rfl; exact rfl; exact rfl; (first | omega | exact ⟨by omega, by (first | with_reducible assumption | ((with_reducible apply intsF_ne); omega) | ((with_reducible apply laysF_ne); omega) | ((with_reducible apply celsF_ne); omega) | ((with_reducible apply rngsF_ne); omega) | ((with_reducible apply flasF_ne); omega) | ((with_reducible apply matF_ne); omega) | ((with_reducible apply boolsF_ne); omega) | exact nea (by simp <;> omega))⟩))
    | (apply s_idxz TY; exact rfl; exact rfl; exact rfl; (first | omega | exact ⟨by omega, by (first | with_reducible assumption | ((with_reducible apply intsF_ne); omega) | ((with_reducible apply laysF_ne); omega) | ((with_reducible apply celsF_ne); omega) | ((with_reducible apply rngsF_ne); omega) | ((with_reducible apply flasF_ne); omega) | ((with_reducible apply matF_ne); omega) | ((with_reducible apply boolsF_ne); omega) | exact nea (by simp <;> omega))⟩))
    | (apply s_ld TY; exact rfl; exact rfl; exact rfl; exact rfl; (first | exact rfl | with_reducible assumption | ((with_reducible apply intsF_at); omega) | ((with_reducible apply matF_at); omega) | ((with_reducible apply boolsF_at); omega) | assumption))
    | (apply s_lds TY; exact rfl; exact rfl; exact rfl; exact rfl; (first | with_reducible assumption | ((with_reducible apply laysF_sub); omega) | ((with_reducible apply celsF_sub); omega) | ((with_reducible apply rngsF_sub); omega) | ((with_reducible apply flasF_sub); omega) | exact rfl); exact rfl)
    | (apply s_ldr TY; exact rfl; exact rfl; exact rfl; exact rfl; exact rfl; (first | exact rfl | with_reducible assumption | ((with_reducible apply intsF_at); omega) | ((with_reducible apply matF_at); omega) | ((with_reducible apply boolsF_at); omega) | assumption))
    | (apply s_store TY; exact rfl; exact rfl; exact rfl; exact rfl; exact rfl; exact rfl)
    | (apply s_storeR TY; exact rfl; exact rfl; exact rfl; exact rfl; exact rfl; (first | exact rfl | (simp [intsF, setAt_length, initF] <;> omega)))
    | (apply s_slice TY; exact rfl; exact rfl; exact rfl; (first | exact rfl | exact ⟨_, rfl⟩); (first | exact rfl | exact ⟨_, rfl⟩); omega; omega; omega))
    exact lv_ret (ret1 rfl (res_tmp rfl))
  by_cases ht : 30 < t.length
  · repeat (first
    | (apply s_auto TY; exact rfl; exact rfl; exact rfl)
    | (apply s_cmpt; exact rfl; exact rfl; exact rfl; (first | assumption | omega))
    | (apply s_cmpf; exact rfl; exact rfl; exact rfl; (first | assumption | omega))
    | apply w_seq
    | apply w_region
    | (apply w_draw (id := 9) 13 rfl (by kernel_rfl))
    | (apply w_draw (id := 19) 13 rfl (by kernel_rfl))
    | (apply w_draw (id := 35) 8 rfl (by kernel_rfl))
    | apply s_nil
    | apply t_norm
    | apply t_exit
    | apply t_ret
    | apply k_hit
    | (apply k_miss; exact rfl)
    | apply k_norm
    | apply k_ret
    | apply w_block
    | apply w_exit
    | apply w_ret
    | apply w_skip
    | (apply w_condT; exact rfl; exact rfl)
    | (apply w_condF; exact rfl; exact rfl)
    | (apply s_cl (F); exact rfl; exact rfl; exact rfl; exact rfl; exact rfl)
    | (apply s_cl (awake_s); exact rfl; exact rfl; exact rfl; exact rfl; exact rfl)
    | (apply s_cl (Few_s _); exact rfl; exact rfl; exact rfl; exact rfl; exact rfl)
    | (apply s_cl (IceErr_s _); exact rfl; exact rfl; exact rfl; exact rfl; exact rfl)
    | (apply s_cl2 (CopyIce_s _); exact rfl; exact rfl; exact rfl; exact rfl; exact rfl; (first | assumption | omega | decide); (first | assumption | omega | decide))
    | (apply s_cl1 (CopyInts_s _); exact rfl; exact rfl; exact rfl; exact rfl; exact rfl; (first | assumption | omega | decide))
    | (apply s_cl1 (Within_t _ _ _); exact rfl; exact rfl; exact rfl; exact rfl; exact rfl; (first | assumption | omega | decide))
    | (apply s_cl1 (Within_f _ _ _); exact rfl; exact rfl; exact rfl; exact rfl; exact rfl; (first | assumption | omega | decide))
    | (apply s_cl (Within_s _ _ _); exact rfl; exact rfl; exact rfl; exact rfl; exact rfl)
    | (apply s_skip; exact rfl; exact rfl)
    | (apply s_cond TY; exact rfl; exact rfl; exact rfl; (first | omega | exact ⟨by omega, by (first | with_reducible assumption | ((with_reducible apply intsF_ne); omega) | ((with_reducible apply laysF_ne); omega) | ((with_reducible apply celsF_ne); omega) | ((with_reducible apply rngsF_ne); omega) | ((with_reducible apply flasF_ne); omega) | ((with_reducible apply matF_ne); omega) | ((with_reducible apply boolsF_ne); omega) | exact nea (by simp <;> omega))⟩))
    | (apply s_idxz TY; exact rfl; exact rfl; exact rfl; (first | omega | exact ⟨by omega, by (first | with_reducible assumption | ((with_reducible apply intsF_ne); omega) | ((with_reducible apply laysF_ne); omega) | ((with_reducible apply celsF_ne); omega) | ((with_reducible apply rngsF_ne); omega) | ((with_reducible apply flasF_ne); omega) | ((with_reducible apply matF_ne); omega) | ((with_reducible apply boolsF_ne); omega) | exact nea (by simp <;> omega))⟩))
    | (apply s_ld TY; exact rfl; exact rfl; exact rfl; exact rfl; (first | exact rfl | with_reducible assumption | ((with_reducible apply intsF_at); omega) | ((with_reducible apply matF_at); omega) | ((with_reducible apply boolsF_at); omega) | assumption))
    | (apply s_lds TY; exact rfl; exact rfl; exact rfl; exact rfl; (first | with_reducible assumption | ((with_reducible apply laysF_sub); omega) | ((with_reducible apply celsF_sub); omega) | ((with_reducible apply rngsF_sub); omega) | ((with_reducible apply flasF_sub); omega) | exact rfl); exact rfl)
    | (apply s_ldr TY; exact rfl; exact rfl; exact rfl; exact rfl; exact rfl; (first | exact rfl | with_reducible assumption | ((with_reducible apply intsF_at); omega) | ((with_reducible apply matF_at); omega) | ((with_reducible apply boolsF_at); omega) | assumption))
    | (apply s_store TY; exact rfl; exact rfl; exact rfl; exact rfl; exact rfl; exact rfl)
    | (apply s_storeR TY; exact rfl; exact rfl; exact rfl; exact rfl; exact rfl; (first | exact rfl | (simp [intsF, setAt_length, initF] <;> omega)))
    | (apply s_slice TY; exact rfl; exact rfl; exact rfl; (first | exact rfl | exact ⟨_, rfl⟩); (first | exact rfl | exact ⟨_, rfl⟩); omega; omega; omega))
    exact lv_ret (ret1 rfl (res_tmp rfl))
  by_cases hl : 40 < l.length
  · repeat (first
    | (apply s_auto TY; exact rfl; exact rfl; exact rfl)
    | (apply s_cmpt; exact rfl; exact rfl; exact rfl; (first | assumption | omega))
    | (apply s_cmpf; exact rfl; exact rfl; exact rfl; (first | assumption | omega))
    | apply w_seq
    | apply w_region
    | (apply w_draw (id := 9) 13 rfl (by kernel_rfl))
    | (apply w_draw (id := 19) 13 rfl (by kernel_rfl))
    | (apply w_draw (id := 35) 8 rfl (by kernel_rfl))
    | apply s_nil
    | apply t_norm
    | apply t_exit
    | apply t_ret
    | apply k_hit
    | (apply k_miss; exact rfl)
    | apply k_norm
    | apply k_ret
    | apply w_block
    | apply w_exit
    | apply w_ret
    | apply w_skip
    | (apply w_condT; exact rfl; exact rfl)
    | (apply w_condF; exact rfl; exact rfl)
    | (apply s_cl (F); exact rfl; exact rfl; exact rfl; exact rfl; exact rfl)
    | (apply s_cl (awake_s); exact rfl; exact rfl; exact rfl; exact rfl; exact rfl)
    | (apply s_cl (Few_s _); exact rfl; exact rfl; exact rfl; exact rfl; exact rfl)
    | (apply s_cl (IceErr_s _); exact rfl; exact rfl; exact rfl; exact rfl; exact rfl)
    | (apply s_cl2 (CopyIce_s _); exact rfl; exact rfl; exact rfl; exact rfl; exact rfl; (first | assumption | omega | decide); (first | assumption | omega | decide))
    | (apply s_cl1 (CopyInts_s _); exact rfl; exact rfl; exact rfl; exact rfl; exact rfl; (first | assumption | omega | decide))
    | (apply s_cl1 (Within_t _ _ _); exact rfl; exact rfl; exact rfl; exact rfl; exact rfl; (first | assumption | omega | decide))
    | (apply s_cl1 (Within_f _ _ _); exact rfl; exact rfl; exact rfl; exact rfl; exact rfl; (first | assumption | omega | decide))
    | (apply s_cl (Within_s _ _ _); exact rfl; exact rfl; exact rfl; exact rfl; exact rfl)
    | (apply s_skip; exact rfl; exact rfl)
    | (apply s_cond TY; exact rfl; exact rfl; exact rfl; (first | omega | exact ⟨by omega, by (first | with_reducible assumption | ((with_reducible apply intsF_ne); omega) | ((with_reducible apply laysF_ne); omega) | ((with_reducible apply celsF_ne); omega) | ((with_reducible apply rngsF_ne); omega) | ((with_reducible apply flasF_ne); omega) | ((with_reducible apply matF_ne); omega) | ((with_reducible apply boolsF_ne); omega) | exact nea (by simp <;> omega))⟩))
    | (apply s_idxz TY; exact rfl; exact rfl; exact rfl; (first | omega | exact ⟨by omega, by (first | with_reducible assumption | ((with_reducible apply intsF_ne); omega) | ((with_reducible apply laysF_ne); omega) | ((with_reducible apply celsF_ne); omega) | ((with_reducible apply rngsF_ne); omega) | ((with_reducible apply flasF_ne); omega) | ((with_reducible apply matF_ne); omega) | ((with_reducible apply boolsF_ne); omega) | exact nea (by simp <;> omega))⟩))
    | (apply s_ld TY; exact rfl; exact rfl; exact rfl; exact rfl; (first | exact rfl | with_reducible assumption | ((with_reducible apply intsF_at); omega) | ((with_reducible apply matF_at); omega) | ((with_reducible apply boolsF_at); omega) | assumption))
    | (apply s_lds TY; exact rfl; exact rfl; exact rfl; exact rfl; (first | with_reducible assumption | ((with_reducible apply laysF_sub); omega) | ((with_reducible apply celsF_sub); omega) | ((with_reducible apply rngsF_sub); omega) | ((with_reducible apply flasF_sub); omega) | exact rfl); exact rfl)
    | (apply s_ldr TY; exact rfl; exact rfl; exact rfl; exact rfl; exact rfl; (first | exact rfl | with_reducible assumption | ((with_reducible apply intsF_at); omega) | ((with_reducible apply matF_at); omega) | ((with_reducible apply boolsF_at); omega) | assumption))
    | (apply s_store TY; exact rfl; exact rfl; exact rfl; exact rfl; exact rfl; exact rfl)
    | (apply s_storeR TY; exact rfl; exact rfl; exact rfl; exact rfl; exact rfl; (first | exact rfl | (simp [intsF, setAt_length, initF] <;> omega)))
    | (apply s_slice TY; exact rfl; exact rfl; exact rfl; (first | exact rfl | exact ⟨_, rfl⟩); (first | exact rfl | exact ⟨_, rfl⟩); omega; omega; omega))
    exact lv_ret (ret1 rfl (res_tmp rfl))
  have h40 := TableErr_s t
  have h41 := LayersErr_s x l (by omega)
  by_cases t0 : tabE t = 0
  case neg =>
    repeat (first
    | (apply s_auto TY; exact rfl; exact rfl; exact rfl)
    | (apply s_cmpt; exact rfl; exact rfl; exact rfl; (first | assumption | omega))
    | (apply s_cmpf; exact rfl; exact rfl; exact rfl; (first | assumption | omega))
    | apply w_seq
    | apply w_region
    | (apply w_draw (id := 9) 13 rfl (by kernel_rfl))
    | (apply w_draw (id := 19) 13 rfl (by kernel_rfl))
    | (apply w_draw (id := 35) 8 rfl (by kernel_rfl))
    | apply s_nil
    | apply t_norm
    | apply t_exit
    | apply t_ret
    | apply k_hit
    | (apply k_miss; exact rfl)
    | apply k_norm
    | apply k_ret
    | apply w_block
    | apply w_exit
    | apply w_ret
    | apply w_skip
    | (apply w_condT; exact rfl; exact rfl)
    | (apply w_condF; exact rfl; exact rfl)
    | (apply s_cl (F); exact rfl; exact rfl; exact rfl; exact rfl; exact rfl)
    | (apply s_cl (h40); exact rfl; exact rfl; exact rfl; exact rfl; exact rfl)
    | (apply s_cl (h41); exact rfl; exact rfl; exact rfl; exact rfl; exact rfl)
    | (apply s_cl (awake_s); exact rfl; exact rfl; exact rfl; exact rfl; exact rfl)
    | (apply s_cl (Few_s _); exact rfl; exact rfl; exact rfl; exact rfl; exact rfl)
    | (apply s_cl (IceErr_s _); exact rfl; exact rfl; exact rfl; exact rfl; exact rfl)
    | (apply s_cl2 (CopyIce_s _); exact rfl; exact rfl; exact rfl; exact rfl; exact rfl; (first | assumption | omega | decide); (first | assumption | omega | decide))
    | (apply s_cl1 (CopyInts_s _); exact rfl; exact rfl; exact rfl; exact rfl; exact rfl; (first | assumption | omega | decide))
    | (apply s_cl1 (Within_t _ _ _); exact rfl; exact rfl; exact rfl; exact rfl; exact rfl; (first | assumption | omega | decide))
    | (apply s_cl1 (Within_f _ _ _); exact rfl; exact rfl; exact rfl; exact rfl; exact rfl; (first | assumption | omega | decide))
    | (apply s_cl (Within_s _ _ _); exact rfl; exact rfl; exact rfl; exact rfl; exact rfl)
    | (apply s_skip; exact rfl; exact rfl)
    | (apply s_cond TY; exact rfl; exact rfl; exact rfl; (first | omega | exact ⟨by omega, by (first | with_reducible assumption | ((with_reducible apply intsF_ne); omega) | ((with_reducible apply laysF_ne); omega) | ((with_reducible apply celsF_ne); omega) | ((with_reducible apply rngsF_ne); omega) | ((with_reducible apply flasF_ne); omega) | ((with_reducible apply matF_ne); omega) | ((with_reducible apply boolsF_ne); omega) | exact nea (by simp <;> omega))⟩))
    | (apply s_idxz TY; exact rfl; exact rfl; exact rfl; (first | omega | exact ⟨by omega, by (first | with_reducible assumption | ((with_reducible apply intsF_ne); omega) | ((with_reducible apply laysF_ne); omega) | ((with_reducible apply celsF_ne); omega) | ((with_reducible apply rngsF_ne); omega) | ((with_reducible apply flasF_ne); omega) | ((with_reducible apply matF_ne); omega) | ((with_reducible apply boolsF_ne); omega) | exact nea (by simp <;> omega))⟩))
    | (apply s_ld TY; exact rfl; exact rfl; exact rfl; exact rfl; (first | exact rfl | with_reducible assumption | ((with_reducible apply intsF_at); omega) | ((with_reducible apply matF_at); omega) | ((with_reducible apply boolsF_at); omega) | assumption))
    | (apply s_lds TY; exact rfl; exact rfl; exact rfl; exact rfl; (first | with_reducible assumption | ((with_reducible apply laysF_sub); omega) | ((with_reducible apply celsF_sub); omega) | ((with_reducible apply rngsF_sub); omega) | ((with_reducible apply flasF_sub); omega) | exact rfl); exact rfl)
    | (apply s_ldr TY; exact rfl; exact rfl; exact rfl; exact rfl; exact rfl; (first | exact rfl | with_reducible assumption | ((with_reducible apply intsF_at); omega) | ((with_reducible apply matF_at); omega) | ((with_reducible apply boolsF_at); omega) | assumption))
    | (apply s_store TY; exact rfl; exact rfl; exact rfl; exact rfl; exact rfl; exact rfl)
    | (apply s_storeR TY; exact rfl; exact rfl; exact rfl; exact rfl; exact rfl; (first | exact rfl | (simp [intsF, setAt_length, initF] <;> omega)))
    | (apply s_slice TY; exact rfl; exact rfl; exact rfl; (first | exact rfl | exact ⟨_, rfl⟩); (first | exact rfl | exact ⟨_, rfl⟩); omega; omega; omega))
    exact lv_ret (ret1 rfl (res_tmp rfl))
  by_cases l0 : layersErrE x l = 0
  case neg =>
    repeat (first
    | (apply s_auto TY; exact rfl; exact rfl; exact rfl)
    | (apply s_cmpt; exact rfl; exact rfl; exact rfl; (first | assumption | omega))
    | (apply s_cmpf; exact rfl; exact rfl; exact rfl; (first | assumption | omega))
    | apply w_seq
    | apply w_region
    | (apply w_draw (id := 9) 13 rfl (by kernel_rfl))
    | (apply w_draw (id := 19) 13 rfl (by kernel_rfl))
    | (apply w_draw (id := 35) 8 rfl (by kernel_rfl))
    | apply s_nil
    | apply t_norm
    | apply t_exit
    | apply t_ret
    | apply k_hit
    | (apply k_miss; exact rfl)
    | apply k_norm
    | apply k_ret
    | apply w_block
    | apply w_exit
    | apply w_ret
    | apply w_skip
    | (apply w_condT; exact rfl; exact rfl)
    | (apply w_condF; exact rfl; exact rfl)
    | (apply s_cl (F); exact rfl; exact rfl; exact rfl; exact rfl; exact rfl)
    | (apply s_cl (h40); exact rfl; exact rfl; exact rfl; exact rfl; exact rfl)
    | (apply s_cl (h41); exact rfl; exact rfl; exact rfl; exact rfl; exact rfl)
    | (apply s_cl (awake_s); exact rfl; exact rfl; exact rfl; exact rfl; exact rfl)
    | (apply s_cl (Few_s _); exact rfl; exact rfl; exact rfl; exact rfl; exact rfl)
    | (apply s_cl (IceErr_s _); exact rfl; exact rfl; exact rfl; exact rfl; exact rfl)
    | (apply s_cl2 (CopyIce_s _); exact rfl; exact rfl; exact rfl; exact rfl; exact rfl; (first | assumption | omega | decide); (first | assumption | omega | decide))
    | (apply s_cl1 (CopyInts_s _); exact rfl; exact rfl; exact rfl; exact rfl; exact rfl; (first | assumption | omega | decide))
    | (apply s_cl1 (Within_t _ _ _); exact rfl; exact rfl; exact rfl; exact rfl; exact rfl; (first | assumption | omega | decide))
    | (apply s_cl1 (Within_f _ _ _); exact rfl; exact rfl; exact rfl; exact rfl; exact rfl; (first | assumption | omega | decide))
    | (apply s_cl (Within_s _ _ _); exact rfl; exact rfl; exact rfl; exact rfl; exact rfl)
    | (apply s_skip; exact rfl; exact rfl)
    | (apply s_cond TY; exact rfl; exact rfl; exact rfl; (first | omega | exact ⟨by omega, by (first | with_reducible assumption | ((with_reducible apply intsF_ne); omega) | ((with_reducible apply laysF_ne); omega) | ((with_reducible apply celsF_ne); omega) | ((with_reducible apply rngsF_ne); omega) | ((with_reducible apply flasF_ne); omega) | ((with_reducible apply matF_ne); omega) | ((with_reducible apply boolsF_ne); omega) | exact nea (by simp <;> omega))⟩))
    | (apply s_idxz TY; exact rfl; exact rfl; exact rfl; (first | omega | exact ⟨by omega, by (first | with_reducible assumption | ((with_reducible apply intsF_ne); omega) | ((with_reducible apply laysF_ne); omega) | ((with_reducible apply celsF_ne); omega) | ((with_reducible apply rngsF_ne); omega) | ((with_reducible apply flasF_ne); omega) | ((with_reducible apply matF_ne); omega) | ((with_reducible apply boolsF_ne); omega) | exact nea (by simp <;> omega))⟩))
    | (apply s_ld TY; exact rfl; exact rfl; exact rfl; exact rfl; (first | exact rfl | with_reducible assumption | ((with_reducible apply intsF_at); omega) | ((with_reducible apply matF_at); omega) | ((with_reducible apply boolsF_at); omega) | assumption))
    | (apply s_lds TY; exact rfl; exact rfl; exact rfl; exact rfl; (first | with_reducible assumption | ((with_reducible apply laysF_sub); omega) | ((with_reducible apply celsF_sub); omega) | ((with_reducible apply rngsF_sub); omega) | ((with_reducible apply flasF_sub); omega) | exact rfl); exact rfl)
    | (apply s_ldr TY; exact rfl; exact rfl; exact rfl; exact rfl; exact rfl; (first | exact rfl | with_reducible assumption | ((with_reducible apply intsF_at); omega) | ((with_reducible apply matF_at); omega) | ((with_reducible apply boolsF_at); omega) | assumption))
    | (apply s_store TY; exact rfl; exact rfl; exact rfl; exact rfl; exact rfl; exact rfl)
    | (apply s_storeR TY; exact rfl; exact rfl; exact rfl; exact rfl; exact rfl; (first | exact rfl | (simp [intsF, setAt_length, initF] <;> omega)))
    | (apply s_slice TY; exact rfl; exact rfl; exact rfl; (first | exact rfl | exact ⟨_, rfl⟩); (first | exact rfl | exact ⟨_, rfl⟩); omega; omega; omega))
    exact lv_ret (ret1 rfl (res_tmp rfl))
  obtain ⟨t1, t2, tb⟩ := tabE_zero.1 t0
  have lb := (layersErrE_zero.1 l0).2
  have v : Valid x := (checkIce_zero x).1 i0
  have tsum : t.sum ≤ 1000000000 := Int.le_trans (sum_le_of (B := 1000000) fun z hz => (tb z hz).2) (by omega)
  have KO : SpreadOk x t l := ⟨v, t1, by omega, by omega, lb, fun z hz => (tb z hz).1, tsum⟩
  have S37 : ∀ s, s ≤ l.length → Summ Tryd.prog GG 37 [gridF x, .sl t.length (intsF t), .sl s (intsF (l.take s))] (.tup [.sl t.length (intsF (spreadL x t (l.take s))), iv 0]) := fun s hs => by
    have := Spread_ok x t (l.take s) b (by omega) (by simp; omega) (spreadE_zero.2 ⟨v, ⟨t1, t2, tb⟩, by simp; omega, fun k hk => lb k (List.mem_of_mem_take hk)⟩)
    rwa [show (l.take s).length = s by simp; omega] at this
  have h44 := Total_s t (by omega) (fun z hz => (tb z hz).1) tsum
  repeat (first
    | (apply s_auto TY; exact rfl; exact rfl; exact rfl)
    | (apply s_cmpt; exact rfl; exact rfl; exact rfl; (first | assumption | omega))
    | (apply s_cmpf; exact rfl; exact rfl; exact rfl; (first | assumption | omega))
    | apply w_seq
    | apply w_region
    | (apply w_draw (id := 9) 13 rfl (by kernel_rfl))
    | (apply w_draw (id := 19) 13 rfl (by kernel_rfl))
    | (apply w_draw (id := 35) 8 rfl (by kernel_rfl))
    | apply s_nil
    | apply t_norm
    | apply t_exit
    | apply t_ret
    | apply k_hit
    | (apply k_miss; exact rfl)
    | apply k_norm
    | apply k_ret
    | apply w_block
    | apply w_exit
    | apply w_ret
    | apply w_skip
    | (apply w_condT; exact rfl; exact rfl)
    | (apply w_condF; exact rfl; exact rfl)
    | (apply s_cl (F); exact rfl; exact rfl; exact rfl; exact rfl; exact rfl)
    | (apply s_cl (h40); exact rfl; exact rfl; exact rfl; exact rfl; exact rfl)
    | (apply s_cl (h41); exact rfl; exact rfl; exact rfl; exact rfl; exact rfl)
    | (apply s_cl (h44); exact rfl; exact rfl; exact rfl; exact rfl; exact rfl)
    | (apply s_cl (awake_s); exact rfl; exact rfl; exact rfl; exact rfl; exact rfl)
    | (apply s_cl (Few_s _); exact rfl; exact rfl; exact rfl; exact rfl; exact rfl)
    | (apply s_cl (IceErr_s _); exact rfl; exact rfl; exact rfl; exact rfl; exact rfl)
    | (apply s_cl2 (CopyIce_s _); exact rfl; exact rfl; exact rfl; exact rfl; exact rfl; (first | assumption | omega | decide); (first | assumption | omega | decide))
    | (apply s_cl1 (CopyInts_s _); exact rfl; exact rfl; exact rfl; exact rfl; exact rfl; (first | assumption | omega | decide))
    | (apply s_cl1 (Within_t _ _ _); exact rfl; exact rfl; exact rfl; exact rfl; exact rfl; (first | assumption | omega | decide))
    | (apply s_cl1 (Within_f _ _ _); exact rfl; exact rfl; exact rfl; exact rfl; exact rfl; (first | assumption | omega | decide))
    | (apply s_cl (Within_s _ _ _); exact rfl; exact rfl; exact rfl; exact rfl; exact rfl)
    | (apply s_skip; exact rfl; exact rfl)
    | (apply s_cond TY; exact rfl; exact rfl; exact rfl; (first | omega | exact ⟨by omega, by (first | with_reducible assumption | ((with_reducible apply intsF_ne); omega) | ((with_reducible apply laysF_ne); omega) | ((with_reducible apply celsF_ne); omega) | ((with_reducible apply rngsF_ne); omega) | ((with_reducible apply flasF_ne); omega) | ((with_reducible apply matF_ne); omega) | ((with_reducible apply boolsF_ne); omega) | exact nea (by simp <;> omega))⟩))
    | (apply s_idxz TY; exact rfl; exact rfl; exact rfl; (first | omega | exact ⟨by omega, by (first | with_reducible assumption | ((with_reducible apply intsF_ne); omega) | ((with_reducible apply laysF_ne); omega) | ((with_reducible apply celsF_ne); omega) | ((with_reducible apply rngsF_ne); omega) | ((with_reducible apply flasF_ne); omega) | ((with_reducible apply matF_ne); omega) | ((with_reducible apply boolsF_ne); omega) | exact nea (by simp <;> omega))⟩))
    | (apply s_ld TY; exact rfl; exact rfl; exact rfl; exact rfl; (first | exact rfl | with_reducible assumption | ((with_reducible apply intsF_at); omega) | ((with_reducible apply matF_at); omega) | ((with_reducible apply boolsF_at); omega) | assumption))
    | (apply s_lds TY; exact rfl; exact rfl; exact rfl; exact rfl; (first | with_reducible assumption | ((with_reducible apply laysF_sub); omega) | ((with_reducible apply celsF_sub); omega) | ((with_reducible apply rngsF_sub); omega) | ((with_reducible apply flasF_sub); omega) | exact rfl); exact rfl)
    | (apply s_ldr TY; exact rfl; exact rfl; exact rfl; exact rfl; exact rfl; (first | exact rfl | with_reducible assumption | ((with_reducible apply intsF_at); omega) | ((with_reducible apply matF_at); omega) | ((with_reducible apply boolsF_at); omega) | assumption))
    | (apply s_store TY; exact rfl; exact rfl; exact rfl; exact rfl; exact rfl; exact rfl)
    | (apply s_storeR TY; exact rfl; exact rfl; exact rfl; exact rfl; exact rfl; (first | exact rfl | (simp [intsF, setAt_length, initF] <;> omega)))
    | (apply s_slice TY; exact rfl; exact rfl; exact rfl; (first | exact rfl | exact ⟨_, rfl⟩); (first | exact rfl | exact ⟨_, rfl⟩); omega; omega; omega))
  apply w_loop (fun p : Nat × Bool => ⟨(Ab.upd (Ab.upd (Ab.upd (Ab.upd (Ab.upd (Ab.upd (fun _ => .bot) 1 (.f (.sl t.length (intsF t)))) 2 (.f (.sl l.length (intsF l)))) 3 (.f (.pt (gridL x) 0))) 7 (.f (iv (spreadL x t (l.take (p.1 - 1))).sum))) 8 (.f (bv p.2))) 9 (.f (iv (p.1 : Nat)))), (fun _ => none), 0⟩) (fun p => p.1 ≤ l.length + 1 ∧ p.2 = lossB x (l.take (p.1 - 1))) (fun p => l.length + 1 - p.1) (0, true) ⟨Nat.zero_le _, rfl⟩ (gh_le ⟨le_upd rfl trivial (le_upd rfl trivial (le_upd rfl trivial (le_upd rfl trivial (le_upd rfl trivial (le_upd rfl trivial (le_nil _)))))), le_h0 _ _⟩)
  rintro ⟨s, bb⟩ ⟨hs, hbb⟩
  simp only at hs hbb
  by_cases hsc : s ≤ l.length
  · have CT := CopyTake l s (by omega) hsc
    have h37 := S37 s hsc
    have T := KO.tab s
    have T' := KO.tab (s - 1)
    have st := stepOk KO s hsc
    have st1 := st.le
    have lk := st.keep
    have hcur : ∃ cur, cur = spreadL x t (l.take s) := ⟨_, rfl⟩
    obtain ⟨cur, ec⟩ := hcur
    have lc := loss_cases (x := x) s hsc
    rw [← ec] at h37 T st1 lk
    have cl := T.len
    have left0 : 0 ≤ (spreadL x t (l.take (s - 1))).sum := sum_nonneg T'.nn
    have left1 := T'.sum
    repeat (first
    | (apply s_auto TY; exact rfl; exact rfl; exact rfl)
    | (apply s_cmpt; exact rfl; exact rfl; exact rfl; (first | assumption | omega))
    | (apply s_cmpf; exact rfl; exact rfl; exact rfl; (first | assumption | omega))
    | apply w_seq
    | apply w_region
    | (apply w_draw (id := 9) 13 rfl (by kernel_rfl))
    | (apply w_draw (id := 19) 13 rfl (by kernel_rfl))
    | (apply w_draw (id := 35) 8 rfl (by kernel_rfl))
    | apply s_nil
    | apply t_norm
    | apply t_exit
    | apply t_ret
    | apply k_hit
    | (apply k_miss; exact rfl)
    | apply k_norm
    | apply k_ret
    | apply w_block
    | apply w_exit
    | apply w_ret
    | apply w_skip
    | (apply w_condT; exact rfl; exact rfl)
    | (apply w_condF; exact rfl; exact rfl)
    | (apply s_cl (F); exact rfl; exact rfl; exact rfl; exact rfl; exact rfl)
    | (apply s_cl (h40); exact rfl; exact rfl; exact rfl; exact rfl; exact rfl)
    | (apply s_cl (h41); exact rfl; exact rfl; exact rfl; exact rfl; exact rfl)
    | (apply s_cl (CT); exact rfl; exact rfl; exact rfl; exact rfl; exact rfl)
    | (apply s_cl (h37); exact rfl; exact rfl; exact rfl; exact rfl; exact rfl)
    | (apply s_cl (awake_s); exact rfl; exact rfl; exact rfl; exact rfl; exact rfl)
    | (apply s_cl (Few_s _); exact rfl; exact rfl; exact rfl; exact rfl; exact rfl)
    | (apply s_cl (IceErr_s _); exact rfl; exact rfl; exact rfl; exact rfl; exact rfl)
    | (apply s_cl2 (CopyIce_s _); exact rfl; exact rfl; exact rfl; exact rfl; exact rfl; (first | assumption | omega | decide); (first | assumption | omega | decide))
    | (apply s_cl1 (CopyInts_s _); exact rfl; exact rfl; exact rfl; exact rfl; exact rfl; (first | assumption | omega | decide))
    | (apply s_cl1 (Within_t _ _ _); exact rfl; exact rfl; exact rfl; exact rfl; exact rfl; (first | assumption | omega | decide))
    | (apply s_cl1 (Within_f _ _ _); exact rfl; exact rfl; exact rfl; exact rfl; exact rfl; (first | assumption | omega | decide))
    | (apply s_cl (Within_s _ _ _); exact rfl; exact rfl; exact rfl; exact rfl; exact rfl)
    | (apply s_skip; exact rfl; exact rfl)
    | (apply s_cond TY; exact rfl; exact rfl; exact rfl; (first | omega | exact ⟨by omega, by (first | with_reducible assumption | ((with_reducible apply intsF_ne); omega) | ((with_reducible apply laysF_ne); omega) | ((with_reducible apply celsF_ne); omega) | ((with_reducible apply rngsF_ne); omega) | ((with_reducible apply flasF_ne); omega) | ((with_reducible apply matF_ne); omega) | ((with_reducible apply boolsF_ne); omega) | exact nea (by simp <;> omega))⟩))
    | (apply s_idxz TY; exact rfl; exact rfl; exact rfl; (first | omega | exact ⟨by omega, by (first | with_reducible assumption | ((with_reducible apply intsF_ne); omega) | ((with_reducible apply laysF_ne); omega) | ((with_reducible apply celsF_ne); omega) | ((with_reducible apply rngsF_ne); omega) | ((with_reducible apply flasF_ne); omega) | ((with_reducible apply matF_ne); omega) | ((with_reducible apply boolsF_ne); omega) | exact nea (by simp <;> omega))⟩))
    | (apply s_ld TY; exact rfl; exact rfl; exact rfl; exact rfl; (first | exact rfl | with_reducible assumption | ((with_reducible apply intsF_at); omega) | ((with_reducible apply matF_at); omega) | ((with_reducible apply boolsF_at); omega) | assumption))
    | (apply s_lds TY; exact rfl; exact rfl; exact rfl; exact rfl; (first | with_reducible assumption | ((with_reducible apply laysF_sub); omega) | ((with_reducible apply celsF_sub); omega) | ((with_reducible apply rngsF_sub); omega) | ((with_reducible apply flasF_sub); omega) | exact rfl); exact rfl)
    | (apply s_ldr TY; exact rfl; exact rfl; exact rfl; exact rfl; exact rfl; (first | exact rfl | with_reducible assumption | ((with_reducible apply intsF_at); omega) | ((with_reducible apply matF_at); omega) | ((with_reducible apply boolsF_at); omega) | assumption))
    | (apply s_store TY; exact rfl; exact rfl; exact rfl; exact rfl; exact rfl; exact rfl)
    | (apply s_storeR TY; exact rfl; exact rfl; exact rfl; exact rfl; exact rfl; (first | exact rfl | (simp [intsF, setAt_length, initF] <;> omega)))
    | (apply s_slice TY; exact rfl; exact rfl; exact rfl; (first | exact rfl | exact ⟨_, rfl⟩); (first | exact rfl | exact ⟨_, rfl⟩); omega; omega; omega))
    apply w_loop (fun k : Nat => ⟨(Ab.upd (Ab.upd (Ab.upd (Ab.upd (Ab.upd (Ab.upd (Ab.upd (Ab.upd (Ab.upd (fun _ => .bot) 1 (.f (.sl t.length (intsF t)))) 2 (.f (.sl l.length (intsF l)))) 3 (.f (.pt (gridL x) 0))) 7 (.f (iv (spreadL x t (l.take (s - 1))).sum))) 8 (.f (bv bb))) 9 (.f (iv (s : Nat)))) 10 (.f (.sl t.length (intsF cur)))) 12 (.f (iv (cur.take k).sum))) 13 (.f (iv (k : Nat)))), (fun _ => none), 0⟩) (fun k => k ≤ t.length) (fun k => t.length - k) 0 (Nat.zero_le _) (gh_le ⟨le_upd rfl trivial (le_upd rfl trivial (le_upd rfl trivial (le_upd rfl trivial (le_upd rfl trivial (le_upd rfl trivial (le_upd rfl trivial (le_upd rfl trivial (le_upd rfl trivial (le_nil _))))))))), le_h0 _ _⟩)
    intro k hk
    by_cases hkc : k < t.length
    · have hkl : k < cur.length := by omega
      have b1 := T.nn _ (List.getElem_mem hkl)
      have b2 := le_sum T.nn (List.getElem_mem hkl)
      have b3 := take_sum_le T.nn (k + 1)
      have b4 : 0 ≤ (cur.take k).sum := sum_nonneg (fun z hz => T.nn z (List.mem_of_mem_take hz))
      have e := take_sum_succ hkl
      rw [getD_get hkl] at e
      have b5 := T.sum
      repeat (first
    | (apply s_auto TY; exact rfl; exact rfl; exact rfl)
    | (apply s_cmpt; exact rfl; exact rfl; exact rfl; (first | assumption | omega))
    | (apply s_cmpf; exact rfl; exact rfl; exact rfl; (first | assumption | omega))
    | apply w_seq
    | apply w_region
    | (apply w_draw (id := 9) 13 rfl (by kernel_rfl))
    | (apply w_draw (id := 19) 13 rfl (by kernel_rfl))
    | (apply w_draw (id := 35) 8 rfl (by kernel_rfl))
    | apply s_nil
    | apply t_norm
    | apply t_exit
    | apply t_ret
    | apply k_hit
    | (apply k_miss; exact rfl)
    | apply k_norm
    | apply k_ret
    | apply w_block
    | apply w_exit
    | apply w_ret
    | apply w_skip
    | (apply w_condT; exact rfl; exact rfl)
    | (apply w_condF; exact rfl; exact rfl)
    | (apply s_cl (F); exact rfl; exact rfl; exact rfl; exact rfl; exact rfl)
    | (apply s_cl (h40); exact rfl; exact rfl; exact rfl; exact rfl; exact rfl)
    | (apply s_cl (h41); exact rfl; exact rfl; exact rfl; exact rfl; exact rfl)
    | (apply s_cl (CT); exact rfl; exact rfl; exact rfl; exact rfl; exact rfl)
    | (apply s_cl (h37); exact rfl; exact rfl; exact rfl; exact rfl; exact rfl)
    | (apply s_cl (awake_s); exact rfl; exact rfl; exact rfl; exact rfl; exact rfl)
    | (apply s_cl (Few_s _); exact rfl; exact rfl; exact rfl; exact rfl; exact rfl)
    | (apply s_cl (IceErr_s _); exact rfl; exact rfl; exact rfl; exact rfl; exact rfl)
    | (apply s_cl2 (CopyIce_s _); exact rfl; exact rfl; exact rfl; exact rfl; exact rfl; (first | assumption | omega | decide); (first | assumption | omega | decide))
    | (apply s_cl1 (CopyInts_s _); exact rfl; exact rfl; exact rfl; exact rfl; exact rfl; (first | assumption | omega | decide))
    | (apply s_cl1 (Within_t _ _ _); exact rfl; exact rfl; exact rfl; exact rfl; exact rfl; (first | assumption | omega | decide))
    | (apply s_cl1 (Within_f _ _ _); exact rfl; exact rfl; exact rfl; exact rfl; exact rfl; (first | assumption | omega | decide))
    | (apply s_cl (Within_s _ _ _); exact rfl; exact rfl; exact rfl; exact rfl; exact rfl)
    | (apply s_skip; exact rfl; exact rfl)
    | (apply s_cond TY; exact rfl; exact rfl; exact rfl; (first | omega | exact ⟨by omega, by (first | with_reducible assumption | ((with_reducible apply intsF_ne); omega) | ((with_reducible apply laysF_ne); omega) | ((with_reducible apply celsF_ne); omega) | ((with_reducible apply rngsF_ne); omega) | ((with_reducible apply flasF_ne); omega) | ((with_reducible apply matF_ne); omega) | ((with_reducible apply boolsF_ne); omega) | exact nea (by simp <;> omega))⟩))
    | (apply s_idxz TY; exact rfl; exact rfl; exact rfl; (first | omega | exact ⟨by omega, by (first | with_reducible assumption | ((with_reducible apply intsF_ne); omega) | ((with_reducible apply laysF_ne); omega) | ((with_reducible apply celsF_ne); omega) | ((with_reducible apply rngsF_ne); omega) | ((with_reducible apply flasF_ne); omega) | ((with_reducible apply matF_ne); omega) | ((with_reducible apply boolsF_ne); omega) | exact nea (by simp <;> omega))⟩))
    | (apply s_ld TY; exact rfl; exact rfl; exact rfl; exact rfl; (first | exact rfl | with_reducible assumption | ((with_reducible apply intsF_at); omega) | ((with_reducible apply matF_at); omega) | ((with_reducible apply boolsF_at); omega) | assumption))
    | (apply s_lds TY; exact rfl; exact rfl; exact rfl; exact rfl; (first | with_reducible assumption | ((with_reducible apply laysF_sub); omega) | ((with_reducible apply celsF_sub); omega) | ((with_reducible apply rngsF_sub); omega) | ((with_reducible apply flasF_sub); omega) | exact rfl); exact rfl)
    | (apply s_ldr TY; exact rfl; exact rfl; exact rfl; exact rfl; exact rfl; (first | exact rfl | with_reducible assumption | ((with_reducible apply intsF_at); omega) | ((with_reducible apply matF_at); omega) | ((with_reducible apply boolsF_at); omega) | assumption))
    | (apply s_store TY; exact rfl; exact rfl; exact rfl; exact rfl; exact rfl; exact rfl)
    | (apply s_storeR TY; exact rfl; exact rfl; exact rfl; exact rfl; exact rfl; (first | exact rfl | (simp [intsF, setAt_length, initF] <;> omega)))
    | (apply s_slice TY; exact rfl; exact rfl; exact rfl; (first | exact rfl | exact ⟨_, rfl⟩); (first | exact rfl | exact ⟨_, rfl⟩); omega; omega; omega))
      exact ⟨k + 1, by omega, by omega, gh_le ⟨le_upd rfl trivial (le_upd (avi e) trivial (le_upd rfl trivial (le_upd rfl trivial (le_upd rfl trivial (le_upd rfl trivial (le_upd rfl trivial (le_upd rfl trivial (le_upd rfl trivial (le_nil _))))))))), le_h0 _ _⟩⟩
    have hke : k = t.length := by omega
    subst hke
    have hsum : (cur.take t.length).sum = cur.sum := by rw [← cl, List.take_length]
    have E7 : AV.f (iv (spreadL x t (l.take (s + 1 - 1))).sum) = AV.f (iv (cur.take t.length).sum) := avi (by rw [hsum, ec]; rfl)
    rcases lc with rfl | ⟨s1, g1, g2⟩ | ⟨j, hj, rfl, g1, g0, g2⟩ | ⟨j, hj, rfl, g1, g0, g2⟩
    · have ls := lk rfl
      have hb2 : bb = true := hbb
      subst hb2
      repeat (first
    | (apply s_auto TY; exact rfl; exact rfl; exact rfl)
    | (apply s_cmpt; exact rfl; exact rfl; exact rfl; (first | assumption | omega))
    | (apply s_cmpf; exact rfl; exact rfl; exact rfl; (first | assumption | omega))
    | apply w_seq
    | apply w_region
    | (apply w_draw (id := 9) 13 rfl (by kernel_rfl))
    | (apply w_draw (id := 19) 13 rfl (by kernel_rfl))
    | (apply w_draw (id := 35) 8 rfl (by kernel_rfl))
    | apply s_nil
    | apply t_norm
    | apply t_exit
    | apply t_ret
    | apply k_hit
    | (apply k_miss; exact rfl)
    | apply k_norm
    | apply k_ret
    | apply w_block
    | apply w_exit
    | apply w_ret
    | apply w_skip
    | (apply w_condT; exact rfl; exact rfl)
    | (apply w_condF; exact rfl; exact rfl)
    | (apply s_cl (F); exact rfl; exact rfl; exact rfl; exact rfl; exact rfl)
    | (apply s_cl (h40); exact rfl; exact rfl; exact rfl; exact rfl; exact rfl)
    | (apply s_cl (h41); exact rfl; exact rfl; exact rfl; exact rfl; exact rfl)
    | (apply s_cl (CT); exact rfl; exact rfl; exact rfl; exact rfl; exact rfl)
    | (apply s_cl (h37); exact rfl; exact rfl; exact rfl; exact rfl; exact rfl)
    | (apply s_cl (awake_s); exact rfl; exact rfl; exact rfl; exact rfl; exact rfl)
    | (apply s_cl (Few_s _); exact rfl; exact rfl; exact rfl; exact rfl; exact rfl)
    | (apply s_cl (IceErr_s _); exact rfl; exact rfl; exact rfl; exact rfl; exact rfl)
    | (apply s_cl2 (CopyIce_s _); exact rfl; exact rfl; exact rfl; exact rfl; exact rfl; (first | assumption | omega | decide); (first | assumption | omega | decide))
    | (apply s_cl1 (CopyInts_s _); exact rfl; exact rfl; exact rfl; exact rfl; exact rfl; (first | assumption | omega | decide))
    | (apply s_cl1 (Within_t _ _ _); exact rfl; exact rfl; exact rfl; exact rfl; exact rfl; (first | assumption | omega | decide))
    | (apply s_cl1 (Within_f _ _ _); exact rfl; exact rfl; exact rfl; exact rfl; exact rfl; (first | assumption | omega | decide))
    | (apply s_cl (Within_s _ _ _); exact rfl; exact rfl; exact rfl; exact rfl; exact rfl)
    | (apply s_skip; exact rfl; exact rfl)
    | (apply s_cond TY; exact rfl; exact rfl; exact rfl; (first | omega | exact ⟨by omega, by (first | with_reducible assumption | ((with_reducible apply intsF_ne); omega) | ((with_reducible apply laysF_ne); omega) | ((with_reducible apply celsF_ne); omega) | ((with_reducible apply rngsF_ne); omega) | ((with_reducible apply flasF_ne); omega) | ((with_reducible apply matF_ne); omega) | ((with_reducible apply boolsF_ne); omega) | exact nea (by simp <;> omega))⟩))
    | (apply s_idxz TY; exact rfl; exact rfl; exact rfl; (first | omega | exact ⟨by omega, by (first | with_reducible assumption | ((with_reducible apply intsF_ne); omega) | ((with_reducible apply laysF_ne); omega) | ((with_reducible apply celsF_ne); omega) | ((with_reducible apply rngsF_ne); omega) | ((with_reducible apply flasF_ne); omega) | ((with_reducible apply matF_ne); omega) | ((with_reducible apply boolsF_ne); omega) | exact nea (by simp <;> omega))⟩))
    | (apply s_ld TY; exact rfl; exact rfl; exact rfl; exact rfl; (first | exact rfl | with_reducible assumption | ((with_reducible apply intsF_at); omega) | ((with_reducible apply matF_at); omega) | ((with_reducible apply boolsF_at); omega) | assumption))
    | (apply s_lds TY; exact rfl; exact rfl; exact rfl; exact rfl; (first | with_reducible assumption | ((with_reducible apply laysF_sub); omega) | ((with_reducible apply celsF_sub); omega) | ((with_reducible apply rngsF_sub); omega) | ((with_reducible apply flasF_sub); omega) | exact rfl); exact rfl)
    | (apply s_ldr TY; exact rfl; exact rfl; exact rfl; exact rfl; exact rfl; (first | exact rfl | with_reducible assumption | ((with_reducible apply intsF_at); omega) | ((with_reducible apply matF_at); omega) | ((with_reducible apply boolsF_at); omega) | assumption))
    | (apply s_store TY; exact rfl; exact rfl; exact rfl; exact rfl; exact rfl; exact rfl)
    | (apply s_storeR TY; exact rfl; exact rfl; exact rfl; exact rfl; exact rfl; (first | exact rfl | (simp [intsF, setAt_length, initF] <;> omega)))
    | (apply s_slice TY; exact rfl; exact rfl; exact rfl; (first | exact rfl | exact ⟨_, rfl⟩); (first | exact rfl | exact ⟨_, rfl⟩); omega; omega; omega))
      exact ⟨(0 + 1, true), ⟨by simp, rfl⟩, by simp <;> omega, gh_le ⟨le_upd rfl trivial (le_upd rfl trivial (le_upd E7 trivial (le_upd rfl trivial (le_upd rfl trivial (le_upd rfl trivial (le_nil _)))))), le_h0 _ _⟩⟩
    · rw [g1] at hbb
      subst hbb
      repeat (first
    | (apply s_auto TY; exact rfl; exact rfl; exact rfl)
    | (apply s_cmpt; exact rfl; exact rfl; exact rfl; (first | assumption | omega))
    | (apply s_cmpf; exact rfl; exact rfl; exact rfl; (first | assumption | omega))
    | apply w_seq
    | apply w_region
    | (apply w_draw (id := 9) 13 rfl (by kernel_rfl))
    | (apply w_draw (id := 19) 13 rfl (by kernel_rfl))
    | (apply w_draw (id := 35) 8 rfl (by kernel_rfl))
    | apply s_nil
    | apply t_norm
    | apply t_exit
    | apply t_ret
    | apply k_hit
    | (apply k_miss; exact rfl)
    | apply k_norm
    | apply k_ret
    | apply w_block
    | apply w_exit
    | apply w_ret
    | apply w_skip
    | (apply w_condT; exact rfl; exact rfl)
    | (apply w_condF; exact rfl; exact rfl)
    | (apply s_cl (F); exact rfl; exact rfl; exact rfl; exact rfl; exact rfl)
    | (apply s_cl (h40); exact rfl; exact rfl; exact rfl; exact rfl; exact rfl)
    | (apply s_cl (h41); exact rfl; exact rfl; exact rfl; exact rfl; exact rfl)
    | (apply s_cl (CT); exact rfl; exact rfl; exact rfl; exact rfl; exact rfl)
    | (apply s_cl (h37); exact rfl; exact rfl; exact rfl; exact rfl; exact rfl)
    | (apply s_cl (awake_s); exact rfl; exact rfl; exact rfl; exact rfl; exact rfl)
    | (apply s_cl (Few_s _); exact rfl; exact rfl; exact rfl; exact rfl; exact rfl)
    | (apply s_cl (IceErr_s _); exact rfl; exact rfl; exact rfl; exact rfl; exact rfl)
    | (apply s_cl2 (CopyIce_s _); exact rfl; exact rfl; exact rfl; exact rfl; exact rfl; (first | assumption | omega | decide); (first | assumption | omega | decide))
    | (apply s_cl1 (CopyInts_s _); exact rfl; exact rfl; exact rfl; exact rfl; exact rfl; (first | assumption | omega | decide))
    | (apply s_cl1 (Within_t _ _ _); exact rfl; exact rfl; exact rfl; exact rfl; exact rfl; (first | assumption | omega | decide))
    | (apply s_cl1 (Within_f _ _ _); exact rfl; exact rfl; exact rfl; exact rfl; exact rfl; (first | assumption | omega | decide))
    | (apply s_cl (Within_s _ _ _); exact rfl; exact rfl; exact rfl; exact rfl; exact rfl)
    | (apply s_skip; exact rfl; exact rfl)
    | (apply s_cond TY; exact rfl; exact rfl; exact rfl; (first | omega | exact ⟨by omega, by (first | with_reducible assumption | ((with_reducible apply intsF_ne); omega) | ((with_reducible apply laysF_ne); omega) | ((with_reducible apply celsF_ne); omega) | ((with_reducible apply rngsF_ne); omega) | ((with_reducible apply flasF_ne); omega) | ((with_reducible apply matF_ne); omega) | ((with_reducible apply boolsF_ne); omega) | exact nea (by simp <;> omega))⟩))
    | (apply s_idxz TY; exact rfl; exact rfl; exact rfl; (first | omega | exact ⟨by omega, by (first | with_reducible assumption | ((with_reducible apply intsF_ne); omega) | ((with_reducible apply laysF_ne); omega) | ((with_reducible apply celsF_ne); omega) | ((with_reducible apply rngsF_ne); omega) | ((with_reducible apply flasF_ne); omega) | ((with_reducible apply matF_ne); omega) | ((with_reducible apply boolsF_ne); omega) | exact nea (by simp <;> omega))⟩))
    | (apply s_ld TY; exact rfl; exact rfl; exact rfl; exact rfl; (first | exact rfl | with_reducible assumption | ((with_reducible apply intsF_at); omega) | ((with_reducible apply matF_at); omega) | ((with_reducible apply boolsF_at); omega) | assumption))
    | (apply s_lds TY; exact rfl; exact rfl; exact rfl; exact rfl; (first | with_reducible assumption | ((with_reducible apply laysF_sub); omega) | ((with_reducible apply celsF_sub); omega) | ((with_reducible apply rngsF_sub); omega) | ((with_reducible apply flasF_sub); omega) | exact rfl); exact rfl)
    | (apply s_ldr TY; exact rfl; exact rfl; exact rfl; exact rfl; exact rfl; (first | exact rfl | with_reducible assumption | ((with_reducible apply intsF_at); omega) | ((with_reducible apply matF_at); omega) | ((with_reducible apply boolsF_at); omega) | assumption))
    | (apply s_store TY; exact rfl; exact rfl; exact rfl; exact rfl; exact rfl; exact rfl)
    | (apply s_storeR TY; exact rfl; exact rfl; exact rfl; exact rfl; exact rfl; (first | exact rfl | (simp [intsF, setAt_length, initF] <;> omega)))
    | (apply s_slice TY; exact rfl; exact rfl; exact rfl; (first | exact rfl | exact ⟨_, rfl⟩); (first | exact rfl | exact ⟨_, rfl⟩); omega; omega; omega))
      exact ⟨(s + 1, false), ⟨by simp <;> omega, g2.symm⟩, by simp <;> omega, gh_le ⟨le_upd rfl trivial (le_upd rfl trivial (le_upd E7 trivial (le_upd rfl trivial (le_upd rfl trivial (le_upd rfl trivial (le_nil _)))))), le_h0 _ _⟩⟩
    · rw [g1] at hbb
      subst hbb
      have ls := lk g2
      have hz := lb _ (List.getElem_mem hj)
      have z0 := hz.1
      have z1 := hz.2
      have la := lay_at z0 z1
      have a1 : (intsF l)[(max 0 (((j + 1 : Nat) : Int) - 1)).toNat * 1]? = some (iv l[j]) := by rw [show (max 0 (((j + 1 : Nat) : Int) - 1)).toNat = j by omega]; exact map_at hj
      have a2 : (laysF x.layers)[l[j].toNat * 3 + 1]? = some (iv (layerAtI x l[j]).loss) := by rw [la]; exact flat_at (f := layF) (fun _ => rfl) (by omega) (by decide)
      repeat (first
    | (apply s_auto TY; exact rfl; exact rfl; exact rfl)
    | (apply s_cmpt; exact rfl; exact rfl; exact rfl; (first | assumption | omega))
    | (apply s_cmpf; exact rfl; exact rfl; exact rfl; (first | assumption | omega))
    | apply w_seq
    | apply w_region
    | (apply w_draw (id := 9) 13 rfl (by kernel_rfl))
    | (apply w_draw (id := 19) 13 rfl (by kernel_rfl))
    | (apply w_draw (id := 35) 8 rfl (by kernel_rfl))
    | apply s_nil
    | apply t_norm
    | apply t_exit
    | apply t_ret
    | apply k_hit
    | (apply k_miss; exact rfl)
    | apply k_norm
    | apply k_ret
    | apply w_block
    | apply w_exit
    | apply w_ret
    | apply w_skip
    | (apply w_condT; exact rfl; exact rfl)
    | (apply w_condF; exact rfl; exact rfl)
    | (apply s_cl (F); exact rfl; exact rfl; exact rfl; exact rfl; exact rfl)
    | (apply s_cl (h40); exact rfl; exact rfl; exact rfl; exact rfl; exact rfl)
    | (apply s_cl (h41); exact rfl; exact rfl; exact rfl; exact rfl; exact rfl)
    | (apply s_cl (CT); exact rfl; exact rfl; exact rfl; exact rfl; exact rfl)
    | (apply s_cl (h37); exact rfl; exact rfl; exact rfl; exact rfl; exact rfl)
    | (apply s_cl (awake_s); exact rfl; exact rfl; exact rfl; exact rfl; exact rfl)
    | (apply s_cl (Few_s _); exact rfl; exact rfl; exact rfl; exact rfl; exact rfl)
    | (apply s_cl (IceErr_s _); exact rfl; exact rfl; exact rfl; exact rfl; exact rfl)
    | (apply s_cl2 (CopyIce_s _); exact rfl; exact rfl; exact rfl; exact rfl; exact rfl; (first | assumption | omega | decide); (first | assumption | omega | decide))
    | (apply s_cl1 (CopyInts_s _); exact rfl; exact rfl; exact rfl; exact rfl; exact rfl; (first | assumption | omega | decide))
    | (apply s_cl1 (Within_t _ _ _); exact rfl; exact rfl; exact rfl; exact rfl; exact rfl; (first | assumption | omega | decide))
    | (apply s_cl1 (Within_f _ _ _); exact rfl; exact rfl; exact rfl; exact rfl; exact rfl; (first | assumption | omega | decide))
    | (apply s_cl (Within_s _ _ _); exact rfl; exact rfl; exact rfl; exact rfl; exact rfl)
    | (apply s_skip; exact rfl; exact rfl)
    | (apply s_cond TY; exact rfl; exact rfl; exact rfl; (first | omega | exact ⟨by omega, by (first | with_reducible assumption | ((with_reducible apply intsF_ne); omega) | ((with_reducible apply laysF_ne); omega) | ((with_reducible apply celsF_ne); omega) | ((with_reducible apply rngsF_ne); omega) | ((with_reducible apply flasF_ne); omega) | ((with_reducible apply matF_ne); omega) | ((with_reducible apply boolsF_ne); omega) | exact nea (by simp <;> omega))⟩))
    | (apply s_idxz TY; exact rfl; exact rfl; exact rfl; (first | omega | exact ⟨by omega, by (first | with_reducible assumption | ((with_reducible apply intsF_ne); omega) | ((with_reducible apply laysF_ne); omega) | ((with_reducible apply celsF_ne); omega) | ((with_reducible apply rngsF_ne); omega) | ((with_reducible apply flasF_ne); omega) | ((with_reducible apply matF_ne); omega) | ((with_reducible apply boolsF_ne); omega) | exact nea (by simp <;> omega))⟩))
    | (apply s_ld TY; exact rfl; exact rfl; exact rfl; exact rfl; (first | exact rfl | with_reducible assumption | ((with_reducible apply intsF_at); omega) | ((with_reducible apply matF_at); omega) | ((with_reducible apply boolsF_at); omega) | assumption))
    | (apply s_lds TY; exact rfl; exact rfl; exact rfl; exact rfl; (first | with_reducible assumption | ((with_reducible apply laysF_sub); omega) | ((with_reducible apply celsF_sub); omega) | ((with_reducible apply rngsF_sub); omega) | ((with_reducible apply flasF_sub); omega) | exact rfl); exact rfl)
    | (apply s_ldr TY; exact rfl; exact rfl; exact rfl; exact rfl; exact rfl; (first | exact rfl | with_reducible assumption | ((with_reducible apply intsF_at); omega) | ((with_reducible apply matF_at); omega) | ((with_reducible apply boolsF_at); omega) | assumption))
    | (apply s_store TY; exact rfl; exact rfl; exact rfl; exact rfl; exact rfl; exact rfl)
    | (apply s_storeR TY; exact rfl; exact rfl; exact rfl; exact rfl; exact rfl; (first | exact rfl | (simp [intsF, setAt_length, initF] <;> omega)))
    | (apply s_slice TY; exact rfl; exact rfl; exact rfl; (first | exact rfl | exact ⟨_, rfl⟩); (first | exact rfl | exact ⟨_, rfl⟩); omega; omega; omega))
      exact ⟨(j + 1 + 1, true), ⟨by simp <;> omega, g2.symm⟩, by simp <;> omega, gh_le ⟨le_upd rfl trivial (le_upd rfl trivial (le_upd E7 trivial (le_upd rfl trivial (le_upd rfl trivial (le_upd rfl trivial (le_nil _)))))), le_h0 _ _⟩⟩
    · rw [g1] at hbb
      subst hbb
      have hz := lb _ (List.getElem_mem hj)
      have z0 := hz.1
      have z1 := hz.2
      have la := lay_at z0 z1
      have a1 : (intsF l)[(max 0 (((j + 1 : Nat) : Int) - 1)).toNat * 1]? = some (iv l[j]) := by rw [show (max 0 (((j + 1 : Nat) : Int) - 1)).toNat = j by omega]; exact map_at hj
      have a2 : (laysF x.layers)[l[j].toNat * 3 + 1]? = some (iv (layerAtI x l[j]).loss) := by rw [la]; exact flat_at (f := layF) (fun _ => rfl) (by omega) (by decide)
      repeat (first
    | (apply s_auto TY; exact rfl; exact rfl; exact rfl)
    | (apply s_cmpt; exact rfl; exact rfl; exact rfl; (first | assumption | omega))
    | (apply s_cmpf; exact rfl; exact rfl; exact rfl; (first | assumption | omega))
    | apply w_seq
    | apply w_region
    | (apply w_draw (id := 9) 13 rfl (by kernel_rfl))
    | (apply w_draw (id := 19) 13 rfl (by kernel_rfl))
    | (apply w_draw (id := 35) 8 rfl (by kernel_rfl))
    | apply s_nil
    | apply t_norm
    | apply t_exit
    | apply t_ret
    | apply k_hit
    | (apply k_miss; exact rfl)
    | apply k_norm
    | apply k_ret
    | apply w_block
    | apply w_exit
    | apply w_ret
    | apply w_skip
    | (apply w_condT; exact rfl; exact rfl)
    | (apply w_condF; exact rfl; exact rfl)
    | (apply s_cl (F); exact rfl; exact rfl; exact rfl; exact rfl; exact rfl)
    | (apply s_cl (h40); exact rfl; exact rfl; exact rfl; exact rfl; exact rfl)
    | (apply s_cl (h41); exact rfl; exact rfl; exact rfl; exact rfl; exact rfl)
    | (apply s_cl (CT); exact rfl; exact rfl; exact rfl; exact rfl; exact rfl)
    | (apply s_cl (h37); exact rfl; exact rfl; exact rfl; exact rfl; exact rfl)
    | (apply s_cl (awake_s); exact rfl; exact rfl; exact rfl; exact rfl; exact rfl)
    | (apply s_cl (Few_s _); exact rfl; exact rfl; exact rfl; exact rfl; exact rfl)
    | (apply s_cl (IceErr_s _); exact rfl; exact rfl; exact rfl; exact rfl; exact rfl)
    | (apply s_cl2 (CopyIce_s _); exact rfl; exact rfl; exact rfl; exact rfl; exact rfl; (first | assumption | omega | decide); (first | assumption | omega | decide))
    | (apply s_cl1 (CopyInts_s _); exact rfl; exact rfl; exact rfl; exact rfl; exact rfl; (first | assumption | omega | decide))
    | (apply s_cl1 (Within_t _ _ _); exact rfl; exact rfl; exact rfl; exact rfl; exact rfl; (first | assumption | omega | decide))
    | (apply s_cl1 (Within_f _ _ _); exact rfl; exact rfl; exact rfl; exact rfl; exact rfl; (first | assumption | omega | decide))
    | (apply s_cl (Within_s _ _ _); exact rfl; exact rfl; exact rfl; exact rfl; exact rfl)
    | (apply s_skip; exact rfl; exact rfl)
    | (apply s_cond TY; exact rfl; exact rfl; exact rfl; (first | omega | exact ⟨by omega, by (first | with_reducible assumption | ((with_reducible apply intsF_ne); omega) | ((with_reducible apply laysF_ne); omega) | ((with_reducible apply celsF_ne); omega) | ((with_reducible apply rngsF_ne); omega) | ((with_reducible apply flasF_ne); omega) | ((with_reducible apply matF_ne); omega) | ((with_reducible apply boolsF_ne); omega) | exact nea (by simp <;> omega))⟩))
    | (apply s_idxz TY; exact rfl; exact rfl; exact rfl; (first | omega | exact ⟨by omega, by (first | with_reducible assumption | ((with_reducible apply intsF_ne); omega) | ((with_reducible apply laysF_ne); omega) | ((with_reducible apply celsF_ne); omega) | ((with_reducible apply rngsF_ne); omega) | ((with_reducible apply flasF_ne); omega) | ((with_reducible apply matF_ne); omega) | ((with_reducible apply boolsF_ne); omega) | exact nea (by simp <;> omega))⟩))
    | (apply s_ld TY; exact rfl; exact rfl; exact rfl; exact rfl; (first | exact rfl | with_reducible assumption | ((with_reducible apply intsF_at); omega) | ((with_reducible apply matF_at); omega) | ((with_reducible apply boolsF_at); omega) | assumption))
    | (apply s_lds TY; exact rfl; exact rfl; exact rfl; exact rfl; (first | with_reducible assumption | ((with_reducible apply laysF_sub); omega) | ((with_reducible apply celsF_sub); omega) | ((with_reducible apply rngsF_sub); omega) | ((with_reducible apply flasF_sub); omega) | exact rfl); exact rfl)
    | (apply s_ldr TY; exact rfl; exact rfl; exact rfl; exact rfl; exact rfl; (first | exact rfl | with_reducible assumption | ((with_reducible apply intsF_at); omega) | ((with_reducible apply matF_at); omega) | ((with_reducible apply boolsF_at); omega) | assumption))
    | (apply s_store TY; exact rfl; exact rfl; exact rfl; exact rfl; exact rfl; exact rfl)
    | (apply s_storeR TY; exact rfl; exact rfl; exact rfl; exact rfl; exact rfl; (first | exact rfl | (simp [intsF, setAt_length, initF] <;> omega)))
    | (apply s_slice TY; exact rfl; exact rfl; exact rfl; (first | exact rfl | exact ⟨_, rfl⟩); (first | exact rfl | exact ⟨_, rfl⟩); omega; omega; omega))
      exact ⟨(j + 1 + 1, false), ⟨by simp <;> omega, g2.symm⟩, by simp <;> omega, gh_le ⟨le_upd rfl trivial (le_upd rfl trivial (le_upd E7 trivial (le_upd rfl trivial (le_upd rfl trivial (le_upd rfl trivial (le_nil _)))))), le_h0 _ _⟩⟩
  have hse : s = l.length + 1 := by omega
  subst hse
  have MB := more_bd tb
  have MU := more_under tb
  have ml := moreL_len t t.length
  have N38 := CopyIntsN t (by omega)
  have ML : (moreL t t.length).sum ≤ 1000000000 := Int.le_trans (sum_le_of (B := 1000000) fun z hz => (MB z hz).2) (by omega)
  have h37 : Summ Tryd.prog GG 37 [gridF x, .sl t.length (intsF t), .sl l.length (intsF l)] (.tup [.sl t.length (intsF (spreadL x t l)), iv 0]) := Spread_ok x t l b (by omega) (by omega) (spreadE_zero.2 ⟨v, ⟨t1, t2, tb⟩, by omega, lb⟩)
  have h37b : Summ Tryd.prog GG 37 [gridF x, .sl t.length (intsF (moreL t t.length)), .sl l.length (intsF l)] (.tup [.sl t.length (intsF (spreadL x (moreL t t.length) l)), iv 0]) := by
    have := Spread_ok x (moreL t t.length) l b (by omega) (by omega) (spreadE_zero.2 ⟨v, ⟨by omega, by omega, MB⟩, by omega, lb⟩)
    rwa [ml] at this
  repeat (first
    | (apply s_auto TY; exact rfl; exact rfl; exact rfl)
    | (apply s_cmpt; exact rfl; exact rfl; exact rfl; (first | assumption | omega))
    | (apply s_cmpf; exact rfl; exact rfl; exact rfl; (first | assumption | omega))
    | apply w_seq
    | apply w_region
    | (apply w_draw (id := 9) 13 rfl (by kernel_rfl))
    | (apply w_draw (id := 19) 13 rfl (by kernel_rfl))
    | (apply w_draw (id := 35) 8 rfl (by kernel_rfl))
    | apply s_nil
    | apply t_norm
    | apply t_exit
    | apply t_ret
    | apply k_hit
    | (apply k_miss; exact rfl)
    | apply k_norm
    | apply k_ret
    | apply w_block
    | apply w_exit
    | apply w_ret
    | apply w_skip
    | (apply w_condT; exact rfl; exact rfl)
    | (apply w_condF; exact rfl; exact rfl)
    | (apply s_cl (F); exact rfl; exact rfl; exact rfl; exact rfl; exact rfl)
    | (apply s_cl (h40); exact rfl; exact rfl; exact rfl; exact rfl; exact rfl)
    | (apply s_cl (h41); exact rfl; exact rfl; exact rfl; exact rfl; exact rfl)
    | (apply s_callN (N38); exact rfl; exact rfl; exact rfl; exact rfl; exact rfl)
    | (apply s_cl (awake_s); exact rfl; exact rfl; exact rfl; exact rfl; exact rfl)
    | (apply s_cl (Few_s _); exact rfl; exact rfl; exact rfl; exact rfl; exact rfl)
    | (apply s_cl (IceErr_s _); exact rfl; exact rfl; exact rfl; exact rfl; exact rfl)
    | (apply s_cl2 (CopyIce_s _); exact rfl; exact rfl; exact rfl; exact rfl; exact rfl; (first | assumption | omega | decide); (first | assumption | omega | decide))
    | (apply s_cl1 (Within_t _ _ _); exact rfl; exact rfl; exact rfl; exact rfl; exact rfl; (first | assumption | omega | decide))
    | (apply s_cl1 (Within_f _ _ _); exact rfl; exact rfl; exact rfl; exact rfl; exact rfl; (first | assumption | omega | decide))
    | (apply s_cl (Within_s _ _ _); exact rfl; exact rfl; exact rfl; exact rfl; exact rfl)
    | (apply s_skip; exact rfl; exact rfl)
    | (apply s_cond TY; exact rfl; exact rfl; exact rfl; (first | omega | exact ⟨by omega, by (first | with_reducible assumption | ((with_reducible apply intsF_ne); omega) | ((with_reducible apply laysF_ne); omega) | ((with_reducible apply celsF_ne); omega) | ((with_reducible apply rngsF_ne); omega) | ((with_reducible apply flasF_ne); omega) | ((with_reducible apply matF_ne); omega) | ((with_reducible apply boolsF_ne); omega) | exact nea (by simp <;> omega))⟩))
    | (apply s_idxz TY; exact rfl; exact rfl; exact rfl; (first | omega | exact ⟨by omega, by (first | with_reducible assumption | ((with_reducible apply intsF_ne); omega) | ((with_reducible apply laysF_ne); omega) | ((with_reducible apply celsF_ne); omega) | ((with_reducible apply rngsF_ne); omega) | ((with_reducible apply flasF_ne); omega) | ((with_reducible apply matF_ne); omega) | ((with_reducible apply boolsF_ne); omega) | exact nea (by simp <;> omega))⟩))
    | (apply s_ld TY; exact rfl; exact rfl; exact rfl; exact rfl; (first | exact rfl | with_reducible assumption | ((with_reducible apply intsF_at); omega) | ((with_reducible apply matF_at); omega) | ((with_reducible apply boolsF_at); omega) | assumption))
    | (apply s_lds TY; exact rfl; exact rfl; exact rfl; exact rfl; (first | with_reducible assumption | ((with_reducible apply laysF_sub); omega) | ((with_reducible apply celsF_sub); omega) | ((with_reducible apply rngsF_sub); omega) | ((with_reducible apply flasF_sub); omega) | exact rfl); exact rfl)
    | (apply s_ldr TY; exact rfl; exact rfl; exact rfl; exact rfl; exact rfl; (first | exact rfl | with_reducible assumption | ((with_reducible apply intsF_at); omega) | ((with_reducible apply matF_at); omega) | ((with_reducible apply boolsF_at); omega) | assumption))
    | (apply s_store TY; exact rfl; exact rfl; exact rfl; exact rfl; exact rfl; exact rfl)
    | (apply s_storeR TY; exact rfl; exact rfl; exact rfl; exact rfl; exact rfl; (first | exact rfl | (simp [intsF, setAt_length, initF] <;> omega)))
    | (apply s_slice TY; exact rfl; exact rfl; exact rfl; (first | exact rfl | exact ⟨_, rfl⟩); (first | exact rfl | exact ⟨_, rfl⟩); omega; omega; omega))
  apply w_loop (fun k : Nat => ⟨(Ab.upd (Ab.upd (Ab.upd (Ab.upd (Ab.upd (fun _ => .bot) 1 (.f (.sl t.length (intsF t)))) 2 (.f (.sl l.length (intsF l)))) 3 (.f (.pt (gridL x) 0))) 14 (.ow 0)) 15 (.f (iv (k : Nat)))), (Ab.upd (fun _ => none) 0 (some (.row 3 1 t.length (intsF (moreL t k))))), 1⟩) (fun k => k ≤ t.length) (fun k => t.length - k) 0 (Nat.zero_le _) (gh_le ⟨le_upd rfl trivial (le_upd rfl rfl (le_upd rfl trivial (le_upd rfl trivial (le_upd rfl trivial (le_nil _))))), le_hupd (by rw [moreL_zero]; rfl) trivial (le_h0 _ _)⟩)
  intro k hk
  by_cases hkc : k < t.length
  · have ml := moreL_len t k
    have mb := tb _ (List.getElem_mem hkc)
    have ma : (moreL t k)[k]'(by omega) = t[k] := by rw [moreL_at hkc, if_neg (by omega)]
    have HF : Ab.setAt (intsF (moreL t k)) (k * 1) [iv (min 1000000 ((moreL t k)[k]'(by omega) + (k : Int) + 1))] = intsF (moreL t (k + 1)) := by
      rw [setI, ma, moreL_set hkc rfl]
    repeat (first
    | (apply s_auto TY; exact rfl; exact rfl; exact rfl)
    | (apply s_cmpt; exact rfl; exact rfl; exact rfl; (first | assumption | omega))
    | (apply s_cmpf; exact rfl; exact rfl; exact rfl; (first | assumption | omega))
    | apply w_seq
    | apply w_region
    | (apply w_draw (id := 9) 13 rfl (by kernel_rfl))
    | (apply w_draw (id := 19) 13 rfl (by kernel_rfl))
    | (apply w_draw (id := 35) 8 rfl (by kernel_rfl))
    | apply s_nil
    | apply t_norm
    | apply t_exit
    | apply t_ret
    | apply k_hit
    | (apply k_miss; exact rfl)
    | apply k_norm
    | apply k_ret
    | apply w_block
    | apply w_exit
    | apply w_ret
    | apply w_skip
    | (apply w_condT; exact rfl; exact rfl)
    | (apply w_condF; exact rfl; exact rfl)
    | (apply s_cl (F); exact rfl; exact rfl; exact rfl; exact rfl; exact rfl)
    | (apply s_cl (h40); exact rfl; exact rfl; exact rfl; exact rfl; exact rfl)
    | (apply s_cl (h41); exact rfl; exact rfl; exact rfl; exact rfl; exact rfl)
    | (apply s_cl (awake_s); exact rfl; exact rfl; exact rfl; exact rfl; exact rfl)
    | (apply s_cl (Few_s _); exact rfl; exact rfl; exact rfl; exact rfl; exact rfl)
    | (apply s_cl (IceErr_s _); exact rfl; exact rfl; exact rfl; exact rfl; exact rfl)
    | (apply s_cl2 (CopyIce_s _); exact rfl; exact rfl; exact rfl; exact rfl; exact rfl; (first | assumption | omega | decide); (first | assumption | omega | decide))
    | (apply s_cl1 (CopyInts_s _); exact rfl; exact rfl; exact rfl; exact rfl; exact rfl; (first | assumption | omega | decide))
    | (apply s_cl1 (Within_t _ _ _); exact rfl; exact rfl; exact rfl; exact rfl; exact rfl; (first | assumption | omega | decide))
    | (apply s_cl1 (Within_f _ _ _); exact rfl; exact rfl; exact rfl; exact rfl; exact rfl; (first | assumption | omega | decide))
    | (apply s_cl (Within_s _ _ _); exact rfl; exact rfl; exact rfl; exact rfl; exact rfl)
    | (apply s_skip; exact rfl; exact rfl)
    | (apply s_cond TY; exact rfl; exact rfl; exact rfl; (first | omega | exact ⟨by omega, by (first | with_reducible assumption | ((with_reducible apply intsF_ne); omega) | ((with_reducible apply laysF_ne); omega) | ((with_reducible apply celsF_ne); omega) | ((with_reducible apply rngsF_ne); omega) | ((with_reducible apply flasF_ne); omega) | ((with_reducible apply matF_ne); omega) | ((with_reducible apply boolsF_ne); omega) | exact nea (by simp <;> omega))⟩))
    | (apply s_idxz TY; exact rfl; exact rfl; exact rfl; (first | omega | exact ⟨by omega, by (first | with_reducible assumption | ((with_reducible apply intsF_ne); omega) | ((with_reducible apply laysF_ne); omega) | ((with_reducible apply celsF_ne); omega) | ((with_reducible apply rngsF_ne); omega) | ((with_reducible apply flasF_ne); omega) | ((with_reducible apply matF_ne); omega) | ((with_reducible apply boolsF_ne); omega) | exact nea (by simp <;> omega))⟩))
    | (apply s_ld TY; exact rfl; exact rfl; exact rfl; exact rfl; (first | exact rfl | with_reducible assumption | ((with_reducible apply intsF_at); omega) | ((with_reducible apply matF_at); omega) | ((with_reducible apply boolsF_at); omega) | assumption))
    | (apply s_lds TY; exact rfl; exact rfl; exact rfl; exact rfl; (first | with_reducible assumption | ((with_reducible apply laysF_sub); omega) | ((with_reducible apply celsF_sub); omega) | ((with_reducible apply rngsF_sub); omega) | ((with_reducible apply flasF_sub); omega) | exact rfl); exact rfl)
    | (apply s_ldr TY; exact rfl; exact rfl; exact rfl; exact rfl; exact rfl; (first | exact rfl | with_reducible assumption | ((with_reducible apply intsF_at); omega) | ((with_reducible apply matF_at); omega) | ((with_reducible apply boolsF_at); omega) | assumption))
    | (apply s_store TY; exact rfl; exact rfl; exact rfl; exact rfl; exact rfl; exact rfl)
    | (apply s_storeR TY; exact rfl; exact rfl; exact rfl; exact rfl; exact rfl; (first | exact rfl | (simp [intsF] <;> omega)))
    | (apply s_slice TY; exact rfl; exact rfl; exact rfl; (first | exact rfl | exact ⟨_, rfl⟩); (first | exact rfl | exact ⟨_, rfl⟩); omega; omega; omega))
    exact ⟨k + 1, by omega, by omega, gh_le ⟨le_upd rfl trivial (le_upd rfl rfl (le_upd rfl trivial (le_upd rfl trivial (le_upd rfl trivial (le_nil _))))), le_hupd (congrArg (fun z => some (Blk.row 3 1 t.length z)) HF) trivial (le_h0 _ _)⟩⟩
  have hke : k = t.length := by omega
  subst hke
  repeat (first
    | (apply s_auto TY; exact rfl; exact rfl; exact rfl)
    | (apply s_cmpt; exact rfl; exact rfl; exact rfl; (first | assumption | omega))
    | (apply s_cmpf; exact rfl; exact rfl; exact rfl; (first | assumption | omega))
    | apply w_seq
    | apply w_region
    | (apply w_draw (id := 9) 13 rfl (by kernel_rfl))
    | (apply w_draw (id := 19) 13 rfl (by kernel_rfl))
    | (apply w_draw (id := 35) 8 rfl (by kernel_rfl))
    | apply s_nil
    | apply t_norm
    | apply t_exit
    | apply t_ret
    | apply k_hit
    | (apply k_miss; exact rfl)
    | apply k_norm
    | apply k_ret
    | apply w_block
    | apply w_exit
    | apply w_ret
    | apply w_skip
    | (apply w_condT; exact rfl; exact rfl)
    | (apply w_condF; exact rfl; exact rfl)
    | (apply s_cl (F); exact rfl; exact rfl; exact rfl; exact rfl; exact rfl)
    | (apply s_cl (h40); exact rfl; exact rfl; exact rfl; exact rfl; exact rfl)
    | (apply s_cl (h41); exact rfl; exact rfl; exact rfl; exact rfl; exact rfl)
    | (apply s_cl (h37); exact rfl; exact rfl; exact rfl; exact rfl; exact rfl)
    | (apply s_cl (h37b); exact rfl; exact rfl; exact rfl; exact rfl; exact rfl)
    | (apply s_cl (awake_s); exact rfl; exact rfl; exact rfl; exact rfl; exact rfl)
    | (apply s_cl (Few_s _); exact rfl; exact rfl; exact rfl; exact rfl; exact rfl)
    | (apply s_cl (IceErr_s _); exact rfl; exact rfl; exact rfl; exact rfl; exact rfl)
    | (apply s_cl2 (CopyIce_s _); exact rfl; exact rfl; exact rfl; exact rfl; exact rfl; (first | assumption | omega | decide); (first | assumption | omega | decide))
    | (apply s_cl1 (CopyInts_s _); exact rfl; exact rfl; exact rfl; exact rfl; exact rfl; (first | assumption | omega | decide))
    | (apply s_cl1 (Within_t _ _ _); exact rfl; exact rfl; exact rfl; exact rfl; exact rfl; (first | assumption | omega | decide))
    | (apply s_cl1 (Within_f _ _ _); exact rfl; exact rfl; exact rfl; exact rfl; exact rfl; (first | assumption | omega | decide))
    | (apply s_cl (Within_s _ _ _); exact rfl; exact rfl; exact rfl; exact rfl; exact rfl)
    | (apply s_skip; exact rfl; exact rfl)
    | (apply s_cond TY; exact rfl; exact rfl; exact rfl; (first | omega | exact ⟨by omega, by (first | with_reducible assumption | ((with_reducible apply intsF_ne); omega) | ((with_reducible apply laysF_ne); omega) | ((with_reducible apply celsF_ne); omega) | ((with_reducible apply rngsF_ne); omega) | ((with_reducible apply flasF_ne); omega) | ((with_reducible apply matF_ne); omega) | ((with_reducible apply boolsF_ne); omega) | exact nea (by simp <;> omega))⟩))
    | (apply s_idxz TY; exact rfl; exact rfl; exact rfl; (first | omega | exact ⟨by omega, by (first | with_reducible assumption | ((with_reducible apply intsF_ne); omega) | ((with_reducible apply laysF_ne); omega) | ((with_reducible apply celsF_ne); omega) | ((with_reducible apply rngsF_ne); omega) | ((with_reducible apply flasF_ne); omega) | ((with_reducible apply matF_ne); omega) | ((with_reducible apply boolsF_ne); omega) | exact nea (by simp <;> omega))⟩))
    | (apply s_ld TY; exact rfl; exact rfl; exact rfl; exact rfl; (first | exact rfl | with_reducible assumption | ((with_reducible apply intsF_at); omega) | ((with_reducible apply matF_at); omega) | ((with_reducible apply boolsF_at); omega) | assumption))
    | (apply s_lds TY; exact rfl; exact rfl; exact rfl; exact rfl; (first | with_reducible assumption | ((with_reducible apply laysF_sub); omega) | ((with_reducible apply celsF_sub); omega) | ((with_reducible apply rngsF_sub); omega) | ((with_reducible apply flasF_sub); omega) | exact rfl); exact rfl)
    | (apply s_ldr TY; exact rfl; exact rfl; exact rfl; exact rfl; exact rfl; (first | exact rfl | with_reducible assumption | ((with_reducible apply intsF_at); omega) | ((with_reducible apply matF_at); omega) | ((with_reducible apply boolsF_at); omega) | assumption))
    | (apply s_store TY; exact rfl; exact rfl; exact rfl; exact rfl; exact rfl; exact rfl)
    | (apply s_storeR TY; exact rfl; exact rfl; exact rfl; exact rfl; exact rfl; (first | exact rfl | (simp [intsF, setAt_length, initF] <;> omega)))
    | (apply s_slice TY; exact rfl; exact rfl; exact rfl; (first | exact rfl | exact ⟨_, rfl⟩); (first | exact rfl | exact ⟨_, rfl⟩); omega; omega; omega))
  apply s_ghost; exact rfl; exact gh_row 0 rfl
  repeat (first
    | (apply s_auto TY; exact rfl; exact rfl; exact rfl)
    | (apply s_cmpt; exact rfl; exact rfl; exact rfl; (first | assumption | omega))
    | (apply s_cmpf; exact rfl; exact rfl; exact rfl; (first | assumption | omega))
    | apply w_seq
    | apply w_region
    | (apply w_draw (id := 9) 13 rfl (by kernel_rfl))
    | (apply w_draw (id := 19) 13 rfl (by kernel_rfl))
    | (apply w_draw (id := 35) 8 rfl (by kernel_rfl))
    | apply s_nil
    | apply t_norm
    | apply t_exit
    | apply t_ret
    | apply k_hit
    | (apply k_miss; exact rfl)
    | apply k_norm
    | apply k_ret
    | apply w_block
    | apply w_exit
    | apply w_ret
    | apply w_skip
    | (apply w_condT; exact rfl; exact rfl)
    | (apply w_condF; exact rfl; exact rfl)
    | (apply s_cl (F); exact rfl; exact rfl; exact rfl; exact rfl; exact rfl)
    | (apply s_cl (h40); exact rfl; exact rfl; exact rfl; exact rfl; exact rfl)
    | (apply s_cl (h41); exact rfl; exact rfl; exact rfl; exact rfl; exact rfl)
    | (apply s_cl (h37); exact rfl; exact rfl; exact rfl; exact rfl; exact rfl)
    | (apply s_cl (h37b); exact rfl; exact rfl; exact rfl; exact rfl; exact rfl)
    | (apply s_cl (awake_s); exact rfl; exact rfl; exact rfl; exact rfl; exact rfl)
    | (apply s_cl (Few_s _); exact rfl; exact rfl; exact rfl; exact rfl; exact rfl)
    | (apply s_cl (IceErr_s _); exact rfl; exact rfl; exact rfl; exact rfl; exact rfl)
    | (apply s_cl2 (CopyIce_s _); exact rfl; exact rfl; exact rfl; exact rfl; exact rfl; (first | assumption | omega | decide); (first | assumption | omega | decide))
    | (apply s_cl1 (CopyInts_s _); exact rfl; exact rfl; exact rfl; exact rfl; exact rfl; (first | assumption | omega | decide))
    | (apply s_cl1 (Within_t _ _ _); exact rfl; exact rfl; exact rfl; exact rfl; exact rfl; (first | assumption | omega | decide))
    | (apply s_cl1 (Within_f _ _ _); exact rfl; exact rfl; exact rfl; exact rfl; exact rfl; (first | assumption | omega | decide))
    | (apply s_cl (Within_s _ _ _); exact rfl; exact rfl; exact rfl; exact rfl; exact rfl)
    | (apply s_skip; exact rfl; exact rfl)
    | (apply s_cond TY; exact rfl; exact rfl; exact rfl; (first | omega | exact ⟨by omega, by (first | with_reducible assumption | ((with_reducible apply intsF_ne); omega) | ((with_reducible apply laysF_ne); omega) | ((with_reducible apply celsF_ne); omega) | ((with_reducible apply rngsF_ne); omega) | ((with_reducible apply flasF_ne); omega) | ((with_reducible apply matF_ne); omega) | ((with_reducible apply boolsF_ne); omega) | exact nea (by simp <;> omega))⟩))
    | (apply s_idxz TY; exact rfl; exact rfl; exact rfl; (first | omega | exact ⟨by omega, by (first | with_reducible assumption | ((with_reducible apply intsF_ne); omega) | ((with_reducible apply laysF_ne); omega) | ((with_reducible apply celsF_ne); omega) | ((with_reducible apply rngsF_ne); omega) | ((with_reducible apply flasF_ne); omega) | ((with_reducible apply matF_ne); omega) | ((with_reducible apply boolsF_ne); omega) | exact nea (by simp <;> omega))⟩))
    | (apply s_ld TY; exact rfl; exact rfl; exact rfl; exact rfl; (first | exact rfl | with_reducible assumption | ((with_reducible apply intsF_at); omega) | ((with_reducible apply matF_at); omega) | ((with_reducible apply boolsF_at); omega) | assumption))
    | (apply s_lds TY; exact rfl; exact rfl; exact rfl; exact rfl; (first | with_reducible assumption | ((with_reducible apply laysF_sub); omega) | ((with_reducible apply celsF_sub); omega) | ((with_reducible apply rngsF_sub); omega) | ((with_reducible apply flasF_sub); omega) | exact rfl); exact rfl)
    | (apply s_ldr TY; exact rfl; exact rfl; exact rfl; exact rfl; exact rfl; (first | exact rfl | with_reducible assumption | ((with_reducible apply intsF_at); omega) | ((with_reducible apply matF_at); omega) | ((with_reducible apply boolsF_at); omega) | assumption))
    | (apply s_store TY; exact rfl; exact rfl; exact rfl; exact rfl; exact rfl; exact rfl)
    | (apply s_storeR TY; exact rfl; exact rfl; exact rfl; exact rfl; exact rfl; (first | exact rfl | (simp [intsF, setAt_length, initF] <;> omega)))
    | (apply s_slice TY; exact rfl; exact rfl; exact rfl; (first | exact rfl | exact ⟨_, rfl⟩); (first | exact rfl | exact ⟨_, rfl⟩); omega; omega; omega))
  have UL := spreadL_mono v l _ _ lb MU
  have la := spreadL_len x t l
  have lm := spreadL_len x (moreL t t.length) l
  apply w_loop (fun k : Nat => ⟨(Ab.upd (Ab.upd (Ab.upd (fun _ => .bot) 16 (.f (.sl t.length (intsF (spreadL x t l))))) 18 (.f (.sl t.length (intsF (spreadL x (moreL t t.length) l))))) 20 (.f (iv (k : Nat)))), (fun _ => none), 0⟩) (fun k => k ≤ t.length) (fun k => t.length - k) 0 (Nat.zero_le _) (gh_le ⟨le_upd rfl trivial (le_upd rfl trivial (le_upd rfl trivial (le_nil _))), le_h0 _ _⟩)
  clear hk
  intro k hk
  by_cases hkc : k < t.length
  · have u := UL.2 k
    rw [getD_get (by omega), getD_get (by omega)] at u
    repeat (first
    | (apply s_auto TY; exact rfl; exact rfl; exact rfl)
    | (apply s_cmpt; exact rfl; exact rfl; exact rfl; (first | assumption | omega))
    | (apply s_cmpf; exact rfl; exact rfl; exact rfl; (first | assumption | omega))
    | apply w_seq
    | apply w_region
    | (apply w_draw (id := 9) 13 rfl (by kernel_rfl))
    | (apply w_draw (id := 19) 13 rfl (by kernel_rfl))
    | (apply w_draw (id := 35) 8 rfl (by kernel_rfl))
    | apply s_nil
    | apply t_norm
    | apply t_exit
    | apply t_ret
    | apply k_hit
    | (apply k_miss; exact rfl)
    | apply k_norm
    | apply k_ret
    | apply w_block
    | apply w_exit
    | apply w_ret
    | apply w_skip
    | (apply w_condT; exact rfl; exact rfl)
    | (apply w_condF; exact rfl; exact rfl)
    | (apply s_cl (F); exact rfl; exact rfl; exact rfl; exact rfl; exact rfl)
    | (apply s_cl (h40); exact rfl; exact rfl; exact rfl; exact rfl; exact rfl)
    | (apply s_cl (h41); exact rfl; exact rfl; exact rfl; exact rfl; exact rfl)
    | (apply s_cl (awake_s); exact rfl; exact rfl; exact rfl; exact rfl; exact rfl)
    | (apply s_cl (Few_s _); exact rfl; exact rfl; exact rfl; exact rfl; exact rfl)
    | (apply s_cl (IceErr_s _); exact rfl; exact rfl; exact rfl; exact rfl; exact rfl)
    | (apply s_cl2 (CopyIce_s _); exact rfl; exact rfl; exact rfl; exact rfl; exact rfl; (first | assumption | omega | decide); (first | assumption | omega | decide))
    | (apply s_cl1 (CopyInts_s _); exact rfl; exact rfl; exact rfl; exact rfl; exact rfl; (first | assumption | omega | decide))
    | (apply s_cl1 (Within_t _ _ _); exact rfl; exact rfl; exact rfl; exact rfl; exact rfl; (first | assumption | omega | decide))
    | (apply s_cl1 (Within_f _ _ _); exact rfl; exact rfl; exact rfl; exact rfl; exact rfl; (first | assumption | omega | decide))
    | (apply s_cl (Within_s _ _ _); exact rfl; exact rfl; exact rfl; exact rfl; exact rfl)
    | (apply s_skip; exact rfl; exact rfl)
    | (apply s_cond TY; exact rfl; exact rfl; exact rfl; (first | omega | exact ⟨by omega, by (first | with_reducible assumption | ((with_reducible apply intsF_ne); omega) | ((with_reducible apply laysF_ne); omega) | ((with_reducible apply celsF_ne); omega) | ((with_reducible apply rngsF_ne); omega) | ((with_reducible apply flasF_ne); omega) | ((with_reducible apply matF_ne); omega) | ((with_reducible apply boolsF_ne); omega) | exact nea (by simp <;> omega))⟩))
    | (apply s_idxz TY; exact rfl; exact rfl; exact rfl; (first | omega | exact ⟨by omega, by (first | with_reducible assumption | ((with_reducible apply intsF_ne); omega) | ((with_reducible apply laysF_ne); omega) | ((with_reducible apply celsF_ne); omega) | ((with_reducible apply rngsF_ne); omega) | ((with_reducible apply flasF_ne); omega) | ((with_reducible apply matF_ne); omega) | ((with_reducible apply boolsF_ne); omega) | exact nea (by simp <;> omega))⟩))
    | (apply s_ld TY; exact rfl; exact rfl; exact rfl; exact rfl; (first | exact rfl | with_reducible assumption | ((with_reducible apply intsF_at); omega) | ((with_reducible apply matF_at); omega) | ((with_reducible apply boolsF_at); omega) | assumption))
    | (apply s_lds TY; exact rfl; exact rfl; exact rfl; exact rfl; (first | with_reducible assumption | ((with_reducible apply laysF_sub); omega) | ((with_reducible apply celsF_sub); omega) | ((with_reducible apply rngsF_sub); omega) | ((with_reducible apply flasF_sub); omega) | exact rfl); exact rfl)
    | (apply s_ldr TY; exact rfl; exact rfl; exact rfl; exact rfl; exact rfl; (first | exact rfl | with_reducible assumption | ((with_reducible apply intsF_at); omega) | ((with_reducible apply matF_at); omega) | ((with_reducible apply boolsF_at); omega) | assumption))
    | (apply s_store TY; exact rfl; exact rfl; exact rfl; exact rfl; exact rfl; exact rfl)
    | (apply s_storeR TY; exact rfl; exact rfl; exact rfl; exact rfl; exact rfl; (first | exact rfl | (simp [intsF, setAt_length, initF] <;> omega)))
    | (apply s_slice TY; exact rfl; exact rfl; exact rfl; (first | exact rfl | exact ⟨_, rfl⟩); (first | exact rfl | exact ⟨_, rfl⟩); omega; omega; omega))
    exact ⟨k + 1, by omega, by omega, gh_le ⟨le_upd rfl trivial (le_upd rfl trivial (le_upd rfl trivial (le_nil _))), le_h0 _ _⟩⟩
  · repeat (first
    | (apply s_auto TY; exact rfl; exact rfl; exact rfl)
    | (apply s_cmpt; exact rfl; exact rfl; exact rfl; (first | assumption | omega))
    | (apply s_cmpf; exact rfl; exact rfl; exact rfl; (first | assumption | omega))
    | apply w_seq
    | apply w_region
    | (apply w_draw (id := 9) 13 rfl (by kernel_rfl))
    | (apply w_draw (id := 19) 13 rfl (by kernel_rfl))
    | (apply w_draw (id := 35) 8 rfl (by kernel_rfl))
    | apply s_nil
    | apply t_norm
    | apply t_exit
    | apply t_ret
    | apply k_hit
    | (apply k_miss; exact rfl)
    | apply k_norm
    | apply k_ret
    | apply w_block
    | apply w_exit
    | apply w_ret
    | apply w_skip
    | (apply w_condT; exact rfl; exact rfl)
    | (apply w_condF; exact rfl; exact rfl)
    | (apply s_cl (F); exact rfl; exact rfl; exact rfl; exact rfl; exact rfl)
    | (apply s_cl (h40); exact rfl; exact rfl; exact rfl; exact rfl; exact rfl)
    | (apply s_cl (h41); exact rfl; exact rfl; exact rfl; exact rfl; exact rfl)
    | (apply s_cl (awake_s); exact rfl; exact rfl; exact rfl; exact rfl; exact rfl)
    | (apply s_cl (Few_s _); exact rfl; exact rfl; exact rfl; exact rfl; exact rfl)
    | (apply s_cl (IceErr_s _); exact rfl; exact rfl; exact rfl; exact rfl; exact rfl)
    | (apply s_cl2 (CopyIce_s _); exact rfl; exact rfl; exact rfl; exact rfl; exact rfl; (first | assumption | omega | decide); (first | assumption | omega | decide))
    | (apply s_cl1 (CopyInts_s _); exact rfl; exact rfl; exact rfl; exact rfl; exact rfl; (first | assumption | omega | decide))
    | (apply s_cl1 (Within_t _ _ _); exact rfl; exact rfl; exact rfl; exact rfl; exact rfl; (first | assumption | omega | decide))
    | (apply s_cl1 (Within_f _ _ _); exact rfl; exact rfl; exact rfl; exact rfl; exact rfl; (first | assumption | omega | decide))
    | (apply s_cl (Within_s _ _ _); exact rfl; exact rfl; exact rfl; exact rfl; exact rfl)
    | (apply s_skip; exact rfl; exact rfl)
    | (apply s_cond TY; exact rfl; exact rfl; exact rfl; (first | omega | exact ⟨by omega, by (first | with_reducible assumption | ((with_reducible apply intsF_ne); omega) | ((with_reducible apply laysF_ne); omega) | ((with_reducible apply celsF_ne); omega) | ((with_reducible apply rngsF_ne); omega) | ((with_reducible apply flasF_ne); omega) | ((with_reducible apply matF_ne); omega) | ((with_reducible apply boolsF_ne); omega) | exact nea (by simp <;> omega))⟩))
    | (apply s_idxz TY; exact rfl; exact rfl; exact rfl; (first | omega | exact ⟨by omega, by (first | with_reducible assumption | ((with_reducible apply intsF_ne); omega) | ((with_reducible apply laysF_ne); omega) | ((with_reducible apply celsF_ne); omega) | ((with_reducible apply rngsF_ne); omega) | ((with_reducible apply flasF_ne); omega) | ((with_reducible apply matF_ne); omega) | ((with_reducible apply boolsF_ne); omega) | exact nea (by simp <;> omega))⟩))
    | (apply s_ld TY; exact rfl; exact rfl; exact rfl; exact rfl; (first | exact rfl | with_reducible assumption | ((with_reducible apply intsF_at); omega) | ((with_reducible apply matF_at); omega) | ((with_reducible apply boolsF_at); omega) | assumption))
    | (apply s_lds TY; exact rfl; exact rfl; exact rfl; exact rfl; (first | with_reducible assumption | ((with_reducible apply laysF_sub); omega) | ((with_reducible apply celsF_sub); omega) | ((with_reducible apply rngsF_sub); omega) | ((with_reducible apply flasF_sub); omega) | exact rfl); exact rfl)
    | (apply s_ldr TY; exact rfl; exact rfl; exact rfl; exact rfl; exact rfl; (first | exact rfl | with_reducible assumption | ((with_reducible apply intsF_at); omega) | ((with_reducible apply matF_at); omega) | ((with_reducible apply boolsF_at); omega) | assumption))
    | (apply s_store TY; exact rfl; exact rfl; exact rfl; exact rfl; exact rfl; exact rfl)
    | (apply s_storeR TY; exact rfl; exact rfl; exact rfl; exact rfl; exact rfl; (first | exact rfl | (simp [intsF, setAt_length, initF] <;> omega)))
    | (apply s_slice TY; exact rfl; exact rfl; exact rfl; (first | exact rfl | exact ⟨_, rfl⟩); (first | exact rfl | exact ⟨_, rfl⟩); omega; omega; omega))
    exact lv_ret (ret1 rfl (res_tmp rfl))
end Go.Proofs.YtienhiloecfgnaaDoor
