/- Laws on which the proofs of this seat stand. No condition. -/
import Derived.Test.YtenkgipcblfocaaGreatSmallest3
import Derived.Laws.IdiomStrings
import Derived.Laws.Pointers
import Derived.Shelf.SlicesE.Delete
import Derived.Shelf.SlIter.Sorted
import Derived.Shelf.SlIter.Nil
namespace Go.Proofs.YtenkgipcblfocaaGreat
open Go Go.RowKit Go.Proofs Go.Shelf Go.Ab
theorem idxL_succ (k : Nat) : idxL (k + 1) = idxL k ++ [(k : Int)] := by unfold idxL; rw [List.range_succ, List.map_append]; rfl
theorem idxL_len (k : Nat) : (idxL k).length = k := by simp [idxL]
theorem rowI_snoc {a b : List Int} {x : Int} (h : b = a ++ [x]) : some (Blk.row 3 1 (a.length + 1) (intsF a ++ [iv x])) = some (Blk.row 3 1 b.length (intsF b)) := by rw [h, intsF_snoc, List.length_append]; rfl
theorem intsF_take (L : List Int) (k : Nat) : (intsF L).take (k * 1) = intsF (L.take k) := by unfold intsF; rw [Nat.mul_one, List.map_take]
def sortedW (m : List Int) : List Int := sortO (wI m) (idxL m.length)
def wantV (m : List Int) (pct : Int) : Int := pct * sumI (wI m) (idxL m.length)
def regV (m : List Int) (pct : Int) : List Int := ascL ((sortedW m).take (regC (wI m) (sortedW m) (wantV m pct)))
theorem want_ok {n : Int} {m : List Int} (o : MapOk n m) {pct : Int} (hp : 1 ≤ pct ∧ pct ≤ 100) : wantV m pct ≤ 100 * sumI (wI m) (sortedW m) := by
  unfold wantV sortedW
  rw [sumI_perm (sortO_perm _)]
  have := (sumW_bd o (l := idxL m.length) (fun z hz => idxL_mem.1 hz) (Nat.le_refl _)).1
  rw [List.take_length] at this
  exact Int.mul_le_mul_of_nonneg_right hp.2 this
def StabOk (m : List Int) : Prop := SummG Tryz.prog GG 114 [.arr 3 1 (idxL m.length).length (cellsA (idxL m.length))] [.ow 0, .f (.fn 115 [.pt [.sl m.length (intsF m)] 0])] (.f (.tup [])) [.arr 3 1 (idxL m.length).length (cellsA (sortedW m))]
theorem stab_few {m : List Int} (h : m.length ≤ 19) : StabOk m := sortStable_of m (idxL m.length) (stable_few m _ (by rw [idxL_len]; omega) (idxL_asc _) (fun z hz => idxL_mem.1 hz))
set_option maxRecDepth 100000 in
set_option maxHeartbeats 3200000 in
theorem RegionOf_of (rs m : List Int) (pct : Int) (o : SkyOk rs) (om : MapOk (befK rs rs.length) m) (hp : 1 ≤ pct ∧ pct ≤ 100) (HST : StabOk m) : Summ Tryz.prog GG 42 [skF rs, skF m, iv pct] (.tup [.sl (regV m pct).length (intsF (regV m pct)), iv 0]) := by
  unfold StabOk at HST
  have hm0 := mapChk_ok om
  have hcl := skyC_len o
  have hcb := skyC_bd o
  have hml : m.length = (skyC rs).length := by have := om.len; omega
  have HO := openMap_sky rs m o (by omega)
  rw [hm0] at HO
  have hmem : ∀ z, z ∈ idxL m.length → 0 ≤ z ∧ z < m.length := fun z hz => idxL_mem.1 hz
  have HW := weight_s m (idxL m.length) om (by rw [idxL_len]; omega) hmem
  have hsb := sumW_bd om hmem (Nat.le_refl _)
  rw [List.take_length, idxL_len] at hsb
  have hpm := mul_nn (a := pct) (A := 100) (b := sumI (wI m) (idxL m.length)) (B := 96000000) (by omega) (by omega)
  refine summW Tryz.func42 rfl rfl 64 rfl (by simp) (fun M0 => ?_)
  repeat (first
    | (apply s_a TY; exact rfl)
    | (apply s_t; exact rfl; (first | assumption | omega))
    | apply w_seq
    | apply w_region
    | apply s_nil
    | apply t_norm
    | apply w_block
    | apply w_skip
    | (apply w_condF; exact rfl; exact rfl)
    | (apply s_k (HO); exact rfl)
    | (apply s_k1 (first2_1 _ _); exact rfl; (first | assumption | omega | decide))
    | (apply s_k (unless_T _); exact rfl)
    | (apply s_k1 (within_T _ _ _); exact rfl; (first | assumption | omega | decide)))
  apply w_gh (gh_own 10 3 1 rfl rfl)
  apply w_loop (fun k : Nat => ⟨(Ab.upd (Ab.upd (Ab.upd (Ab.upd (Ab.upd (Ab.upd (Ab.upd (fun _ => .bot) 2 (.f (iv pct))) 4 (.f (.pt [.sl m.length (intsF m)] 0))) 8 (.f (xF (skyC rs)))) 10 (.ow 0)) 30 (.f (xF (skyC rs)))) 31 (.f (iv (skyC rs).length))) 32 (.f (iv (k : Nat)))), (Ab.upd (fun _ => none) 0 (some (.row 3 1 (idxL k).length (intsF (idxL k))))), 1⟩) (fun k => k ≤ (skyC rs).length) (fun k => (skyC rs).length - k) 0 (Nat.zero_le _) (gh_le ⟨le_upd rfl trivial (le_upd rfl trivial (le_upd rfl trivial (le_upd rfl rfl (le_upd rfl trivial (le_upd rfl trivial (le_upd rfl trivial (le_nil _))))))), le_hupd rfl trivial (le_h0 _ _)⟩)
  intro k hk
  by_cases hc : k < (skyC rs).length
  · have hil := idxL_len k
    repeat (first
    | (apply s_a TY; exact rfl)
    | (apply s_t; exact rfl; (first | assumption | omega))
    | apply w_seq
    | apply w_region
    | apply s_nil
    | apply t_norm
    | apply k_norm
    | apply w_block
    | apply w_skip
    | (apply w_condT; exact rfl; exact rfl)
    | (apply s_c TY; exact rfl; omega)
    | (apply s_append TY; exact rfl; exact rfl; exact rfl; exact rfl; exact rfl; exact rfl; exact rfl; exact rfl; exact rfl; (unfold maxLen; omega); omega))
    exact ⟨k + 1, by omega, by omega, gh_le ⟨le_upd rfl trivial (le_upd rfl trivial (le_upd rfl trivial (le_upd rfl rfl (le_upd rfl trivial (le_upd rfl trivial (le_upd rfl trivial (le_nil _))))))), le_hupd (rowI_snoc (idxL_succ k)) trivial (le_h0 _ _)⟩⟩
  · have hke : k = m.length := by omega
    subst hke
    repeat (first
    | (apply s_callS HW (fun _ => rfl); exact rfl; exact rfl; exact rfl; exact ⟨sees_f _, sees_row rfl, trivial⟩)
    | (apply s_a TY; exact rfl)
    | (apply s_makefn; exact rfl; exact rfl)
    | (apply s_f; exact rfl; (first | assumption | omega))
    | apply w_seq
    | apply w_region
    | apply s_nil
    | apply t_norm
    | apply t_exit
    | apply k_hit
    | apply w_exit
    | (apply w_condF; exact rfl; exact rfl)
    | (apply s_c TY; exact rfl; omega))
    refine s_ghost rfl (gh_arr 0 (cs := intsF (idxL m.length)) rfl rfl) ?_
    repeat (first
    | (apply s_callG [0] HST; exact rfl; exact rfl; exact rfl; exact ⟨congrArg some (arrA_ren _ _ _).symm, trivial⟩; exact rfl; exact ⟨rfl, rfl⟩)
    | (apply s_a TY; exact rfl)
    | apply w_seq
    | apply w_region
    | apply s_nil
    | apply t_norm
    | apply w_block)
    refine w_gh (gh_unarr 0 (e := 3) (sz := 1) (n := (idxL m.length).length) (cs := intsF (sortedW m)) (congrArg some (arr_ren0 _ _ _ _ _))) ?_
    have hwo := want_ok om hp
    obtain ⟨g1, g2, g3⟩ := regC_spec hwo
    have hreg : regV m pct = ascL ((sortedW m).take (regC (wI m) (sortedW m) (wantV m pct))) := rfl
    have hswl : (sortedW m).length = m.length := by unfold sortedW; rw [sortO_len, idxL_len]
    have hswm : ∀ z, z ∈ (sortedW m) → 0 ≤ z ∧ z < m.length := fun z hz => hmem z ((sortO_perm _).mem_iff.1 hz)
    have hwv : 0 ≤ (wantV m pct) ∧ (wantV m pct) ≤ 9600000000 := hpm
    generalize hC : regC (wI m) (sortedW m) (wantV m pct) = c at *
    rw [hreg]
    apply w_loop (fun k : Nat => ⟨(Ab.upd (Ab.upd (Ab.upd (Ab.upd (fun _ => .bot) 4 (.f (.pt [.sl m.length (intsF m)] 0))) 10 (.ow 0)) 12 (.f (iv (wantV m pct)))) 13 (.f (iv (k : Nat)))), (Ab.upd (fun _ => none) 0 (some (.row 3 1 (sortedW m).length (intsF (sortedW m))))), 1⟩) (fun k => k ≤ c) (fun k => c - k) 0 (Nat.zero_le _) (gh_le ⟨le_upd rfl trivial (le_upd rfl trivial (le_upd rfl rfl (le_upd rfl trivial (le_nil _)))), le_hupd (show some (Blk.row _ 1 (idxL m.length).length (intsF (sortedW m))) = _ by rw [hswl, idxL_len]) trivial (le_h0 _ _)⟩)
    intro k hk
    have hbd := sumW_bd om hswm (k := k) (by omega)
    have HWk : Summ Tryz.prog GG 113 [skF m, .sl ((k : Nat) : Int).toNat (((intsF (sortedW m)).drop 0).take (((k : Nat) : Int).toNat * 1))] (iv (sumI (wI m) ((sortedW m).take k))) := by
      have := weight_s m ((sortedW m).take k) om (by rw [List.length_take]; omega) (fun z hz => hswm z (List.mem_of_mem_take hz))
      rw [List.drop_zero, Int.toNat_natCast, intsF_take]
      rwa [List.length_take, Nat.min_eq_left (by omega)] at this
    have hle : 0 + ((k : Nat) : Int).toNat * 1 ≤ (intsF (sortedW m)).length := by rw [intsF_len]; omega
    by_cases hkc : k < c
    · have hlt := g3 k hkc
      repeat (first
    | (apply s_slice_pre TY; exact rfl; exact rfl; exact rfl; exact rfl; exact rfl; exact rfl; omega; omega)
    | (apply s_callS HWk (fun _ => rfl); exact rfl; exact rfl; exact rfl; exact ⟨sees_f _, sees_sv rfl hle (by decide), trivial⟩)
    | (apply s_a TY; exact rfl)
    | (apply s_t; exact rfl; (first | assumption | omega))
    | apply w_seq
    | apply w_region
    | (apply w_draw (id := 14) 7 rfl (by kernel_rfl))
    | apply s_nil
    | apply t_norm
    | apply k_norm
    | apply w_block
    | apply w_skip
    | (apply w_condT; exact rfl; exact rfl)
    | (apply s_c TY; exact rfl; omega))
      exact ⟨k + 1, by omega, by omega, gh_le ⟨le_upd rfl trivial (le_upd rfl trivial (le_upd rfl rfl (le_upd rfl trivial (le_nil _)))), le_hupd rfl trivial (le_h0 _ _)⟩⟩
    · have hkce : k = c := by omega
      subst hkce
      have hge : ¬ 100 * sumI (wI m) ((sortedW m).take k) < (wantV m pct) := by omega
      have HS := sortI_g ((sortedW m).take k) k (by rw [List.length_take]; omega) (by rw [List.length_take]; omega)
      have hlk : (ascL ((sortedW m).take k)).length = k := by rw [show (ascL ((sortedW m).take k)).length = ((sortedW m).take k).length from (List.mergeSort_perm _ _).length_eq, List.length_take]; omega
      have hrw : some (Blk.row 3 1 ((k : Nat) : Int).toNat ((intsF (sortedW m)).take (((k : Nat) : Int).toNat * 1))) = some (Blk.row 3 1 k (intsF ((sortedW m).take k))) := by rw [Int.toNat_natCast, intsF_take]
      rw [hlk]
      repeat (first
    | (apply s_callS HWk (fun _ => rfl); exact rfl; exact rfl; exact rfl; exact ⟨sees_f _, sees_sv rfl hle (by decide), trivial⟩)
    | (apply s_slice_head TY; exact rfl; exact rfl; exact rfl; exact rfl; exact rfl; omega; omega; omega; exact rfl)
    | (apply s_slice_pre TY; exact rfl; exact rfl; exact rfl; exact rfl; exact rfl; exact rfl; omega; omega)
    | (apply s_a TY; exact rfl)
    | (apply s_f; exact rfl; (first | assumption | omega))
    | apply w_seq
    | apply w_region
    | (apply w_draw (id := 14) 7 rfl (by kernel_rfl))
    | apply s_nil
    | apply t_norm
    | apply t_exit
    | apply k_hit
    | apply w_exit
    | (apply w_condF; exact rfl; exact rfl)
    | (apply s_c TY; exact rfl; omega))
      refine s_ghost rfl (gh_arr 0 hrw rfl) ?_
      repeat (first
    | (apply s_callG [0] HS; exact rfl; exact rfl; exact rfl; exact ⟨congrArg some (arrA_ren _ _ _).symm, trivial⟩; exact rfl; exact ⟨rfl, rfl⟩)
    | (apply s_a TY; exact rfl)
    | apply w_seq
    | apply w_region
    | apply s_nil
    | apply t_norm
    | apply w_ret)
      exact lv_ret (ret_gh (gh_trans (gh_trans (b := _) (c := ⟨(Ab.upd (Ab.upd (fun _ => .bot) 6 (.ow 0)) 7 (.f (iv 0))), (Ab.upd (fun _ => none) 0 (some (.row 3 1 k (intsF (ascL ((sortedW m).take k)))))), 1⟩) (gh_unarr 0 (e := 3) (sz := 1) (n := k) (cs := intsF (ascL ((sortedW m).take k))) (congrArg some (arr_ren0 _ _ _ _ _))) (gh_le ⟨le_upd rfl trivial (le_upd rfl rfl (le_nil _)), le_hupd rfl trivial (le_h0 _ _)⟩)) (gh_row 0 rfl)) (ret2 rfl (res_tmp rfl) (res_tmp rfl)))
end Go.Proofs.YtenkgipcblfocaaGreat
namespace Go.Proofs.YtenkgipcblfocaaGreat
open Go Go.RowKit Go.Proofs Go.Shelf Go.Ab
section
variable {near : Int → Int → Bool}
structure MkOk (near : Int → Int → Bool) (X mk : List Int) : Prop where
  len : mk.length = X.length
  each : ∀ i, i < X.length → mk.getD i default ∈ X ∧ Conn near X (X.getD i default) (mk.getD i default) ∧ mk.getD i default ≤ X.getD i default
def stillM (near : Int → Int → Bool) (X mk : List Int) (i k : Nat) : Prop := ¬ (mk.getD i default < mk.getD k default ∧ near (X.getD i default) (X.getD k default) = true)
def sumM (mk : List Int) : Nat := (mk.map Int.toNat).sum
structure Sweep (near : Int → Int → Bool) (X m0 : List Int) (i k : Nat) (mk : List Int) (c : Bool) : Prop where
  ok : MkOk near X mk
  low : c = true → sumM mk < sumM m0
  same : c = false → mk = m0
  still : c = false → ∀ a b, a < X.length → b < X.length → (a < i ∨ (a = i ∧ b < k)) → stillM near X m0 a b
end
end Go.Proofs.YtenkgipcblfocaaGreat
namespace Go.Proofs.YtenkgipcblfocaaGreat
open Go Go.RowKit Go.Proofs Go.Shelf Go.Ab
structure Mrg (w : Int → Int) (D : Nat → Int) (a m b : Nat) : Prop where
  L : SrtI w D a m
  R : SrtI w D m b
  X : ∀ i j, a ≤ i → i < m → m ≤ j → j < b → D i < D j
structure Res (w : Int → Int) (D E : Nat → Int) (a b : Nat) : Prop where
  srt : SrtI w E a b
  out : ∀ p, p < a ∨ b ≤ p → E p = D p
  ins : ∀ z, InI E a b z ↔ InI D a b z
theorem befW_x {w : Int → Int} {x y : Int} (h : y < x) : befW w x y ↔ w y < w x := by unfold befW; omega
theorem srt_ne {w : Int → Int} {D : Nat → Int} {a b : Nat} (h : SrtI w D a b) {i j : Nat} (h1 : a ≤ i) (h2 : i < b) (h3 : a ≤ j) (h4 : j < b) (hne : i ≠ j) : D i ≠ D j := fun e => by
  by_cases hlt : i < j
  · have := h i j h1 hlt h4
    rw [e] at this; exact befW_irr this this
  · have := h j i h3 (by omega) h2
    rw [e] at this; exact befW_irr this this
theorem Mrg.dist {w : Int → Int} {D : Nat → Int} {a m b : Nat} (h : Mrg w D a m b) : ∀ i j, a ≤ i → i < b → a ≤ j → j < b → i ≠ j → D i ≠ D j := fun i j h1 h2 h3 h4 hne e => by
  by_cases hi : i < m
  · by_cases hj : j < m
    · exact srt_ne h.L h1 hi h3 hj hne e
    · have := h.X i j h1 hi (by omega) h4; omega
  · by_cases hj : j < m
    · have := h.X j i h3 hj (by omega) h2; omega
    · exact srt_ne h.R (by omega) h2 (by omega) h4 hne e
theorem rot_nil (D : Nat → Int) (s m : Nat) (_h : s ≤ m) : rotI D s m m = D := by
  funext p
  unfold rotI
  by_cases c : s ≤ p ∧ p < s + (m - m)
  · omega
  · rw [if_neg c]
    by_cases d : s + (m - m) ≤ p ∧ p < m
    · rw [if_pos d]; congr 1; omega
    · rw [if_neg d]
theorem rot_nil2 (D : Nat → Int) (m e : Nat) (h : m ≤ e) : rotI D m m e = D := by
  funext p
  unfold rotI
  by_cases c : m ≤ p ∧ p < m + (e - m)
  · rw [if_pos c]; congr 1; omega
  · rw [if_neg c, if_neg (by omega)]
theorem rot_r (D : Nat → Int) {a k : Nat} (h : a ≤ k) : swp1 (rotI D a (a + 1) (k + 1)) k (k + 1) = rotI D a (a + 1) (k + 2) := by
  funext p
  unfold swp1 rotI
  by_cases h1 : p = k
  · subst h1
    rw [if_pos rfl, if_neg (show ¬ (a ≤ p + 1 ∧ p + 1 < a + (p + 1 - (a + 1))) by omega), if_neg (show ¬ (a + (p + 1 - (a + 1)) ≤ p + 1 ∧ p + 1 < p + 1) by omega), if_pos (show a ≤ p ∧ p < a + (p + 2 - (a + 1)) by omega)]
    congr 1; omega
  · rw [if_neg h1]
    by_cases h2 : p = k + 1
    · subst h2
      rw [if_pos rfl, if_neg (show ¬ (a ≤ k ∧ k < a + (k + 1 - (a + 1))) by omega), if_pos (show a + (k + 1 - (a + 1)) ≤ k ∧ k < k + 1 by omega), if_neg (show ¬ (a ≤ k + 1 ∧ k + 1 < a + (k + 2 - (a + 1))) by omega), if_pos (show a + (k + 2 - (a + 1)) ≤ k + 1 ∧ k + 1 < k + 2 by omega)]
      congr 1; omega
    · rw [if_neg h2]
      by_cases c : a ≤ p ∧ p < a + (k + 1 - (a + 1))
      · rw [if_pos c, if_pos (show a ≤ p ∧ p < a + (k + 2 - (a + 1)) by omega)]
      · rw [if_neg c, if_neg (show ¬ (a + (k + 1 - (a + 1)) ≤ p ∧ p < k + 1) by omega), if_neg (show ¬ (a ≤ p ∧ p < a + (k + 2 - (a + 1))) by omega), if_neg (show ¬ (a + (k + 2 - (a + 1)) ≤ p ∧ p < k + 2) by omega)]
theorem rot_l (D : Nat → Int) {k m : Nat} (h : k + 1 ≤ m) : swp1 (rotI D (k + 1) m (m + 1)) (k + 1) k = rotI D k m (m + 1) := by
  funext p
  unfold swp1 rotI
  by_cases h1 : p = k + 1
  · subst h1
    rw [if_pos rfl, if_neg (show ¬ (k + 1 ≤ k ∧ k < k + 1 + (m + 1 - m)) by omega), if_neg (show ¬ (k + 1 + (m + 1 - m) ≤ k ∧ k < m + 1) by omega), if_neg (show ¬ (k ≤ k + 1 ∧ k + 1 < k + (m + 1 - m)) by omega), if_pos (show k + (m + 1 - m) ≤ k + 1 ∧ k + 1 < m + 1 by omega)]
    congr 1; omega
  · rw [if_neg h1]
    by_cases h2 : p = k
    · subst h2
      rw [if_pos rfl, if_pos (show p + 1 ≤ p + 1 ∧ p + 1 < p + 1 + (m + 1 - m) by omega), if_pos (show p ≤ p ∧ p < p + (m + 1 - m) by omega)]
      congr 1; omega
    · rw [if_neg h2]
      by_cases c : k + 1 ≤ p ∧ p < k + 1 + (m + 1 - m)
      · omega
      · rw [if_neg c, if_neg (show ¬ (k ≤ p ∧ p < k + (m + 1 - m)) by omega)]
        by_cases d : k + 1 + (m + 1 - m) ≤ p ∧ p < m + 1
        · rw [if_pos d, if_pos (show k + (m + 1 - m) ≤ p ∧ p < m + 1 by omega)]
        · rw [if_neg d, if_neg (show ¬ (k + (m + 1 - m) ≤ p ∧ p < m + 1) by omega)]
theorem rot_out (D : Nat → Int) {s m e a b p : Nat} (h1 : a ≤ s) (h2 : e ≤ b) (h3 : s ≤ m ∧ m ≤ e) (h : p < a ∨ b ≤ p) : rotI D s m e p = D p := by
  unfold rotI; rw [if_neg (by omega), if_neg (by omega)]
theorem res_one {w : Int → Int} {D : Nat → Int} {a b i : Nat} (h : Mrg w D a (a + 1) b) (h1 : a + 1 ≤ i) (h2 : i ≤ b) (hl : ∀ q, a + 1 ≤ q → q < i → befW w (D q) (D a)) (hr : ∀ q, i ≤ q → q < b → ¬ befW w (D q) (D a)) : Res w D (rotI D a (a + 1) i) a b := by
  refine ⟨fun x y p q r => ?_, fun p hp => rot_out D (Nat.le_refl _) h2 ⟨by omega, h1⟩ hp, fun z => rot_in (Nat.le_refl _) (by omega) h1 h2⟩
  have g1 : ∀ p, a ≤ p → p < i - 1 → rotI D a (a + 1) i p = D (p + 1) := fun p h3 h4 => by
    unfold rotI; rw [if_pos (show a ≤ p ∧ p < a + (i - (a + 1)) by omega)]; congr 1; omega
  have g2 : rotI D a (a + 1) i (i - 1) = D a := by
    unfold rotI; rw [if_neg (show ¬ (a ≤ i - 1 ∧ i - 1 < a + (i - (a + 1))) by omega), if_pos (show a + (i - (a + 1)) ≤ i - 1 ∧ i - 1 < i by omega)]; congr 1; omega
  have g3 : ∀ p, i ≤ p → rotI D a (a + 1) i p = D p := fun p h3 => by
    unfold rotI; rw [if_neg (show ¬ (a ≤ p ∧ p < a + (i - (a + 1))) by omega), if_neg (show ¬ (a + (i - (a + 1)) ≤ p ∧ p < i) by omega)]
  have hb : ∀ q, i ≤ q → q < b → befW w (D a) (D q) := fun q h3 h4 => not_bef (h.dist q a (by omega) h4 (by omega) (by omega) (by omega)) (hr q h3 h4)
  by_cases c1 : x < i - 1
  · rw [g1 x p c1]
    by_cases c2 : y < i - 1
    · rw [g1 y (by omega) c2]; exact h.R _ _ (by omega) (by omega) (by omega)
    · by_cases c3 : y = i - 1
      · rw [c3, g2]; exact hl _ (by omega) (by omega)
      · rw [g3 y (by omega)]; exact h.R _ _ (by omega) (by omega) (by omega)
  · by_cases c3 : x = i - 1
    · rw [c3, g2, g3 y (by omega)]; exact hb y (by omega) r
    · rw [g3 x (by omega), g3 y (by omega)]; exact h.R _ _ (by omega) q r
theorem res_last {w : Int → Int} {D : Nat → Int} {a m i : Nat} (h : Mrg w D a m (m + 1)) (h1 : a ≤ i) (h2 : i ≤ m) (hl : ∀ q, a ≤ q → q < i → ¬ befW w (D m) (D q)) (hr : ∀ q, i ≤ q → q < m → befW w (D m) (D q)) : Res w D (rotI D i m (m + 1)) a (m + 1) := by
  refine ⟨fun x y p q r => ?_, fun p hp => rot_out D h1 (Nat.le_refl _) ⟨h2, by omega⟩ hp, fun z => rot_in h1 h2 (by omega) (Nat.le_refl _)⟩
  have g1 : ∀ p, p < i → rotI D i m (m + 1) p = D p := fun p h3 => by
    unfold rotI; rw [if_neg (show ¬ (i ≤ p ∧ p < i + (m + 1 - m)) by omega), if_neg (show ¬ (i + (m + 1 - m) ≤ p ∧ p < m + 1) by omega)]
  have g2 : rotI D i m (m + 1) i = D m := by
    unfold rotI; rw [if_pos (show i ≤ i ∧ i < i + (m + 1 - m) by omega)]; congr 1; omega
  have g3 : ∀ p, i < p → p < m + 1 → rotI D i m (m + 1) p = D (p - 1) := fun p h3 h4 => by
    unfold rotI; rw [if_neg (show ¬ (i ≤ p ∧ p < i + (m + 1 - m)) by omega), if_pos (show i + (m + 1 - m) ≤ p ∧ p < m + 1 by omega)]; congr 1; omega
  have hb : ∀ q, a ≤ q → q < i → befW w (D q) (D m) := fun q h3 h4 => not_bef (h.dist m q (by omega) (by omega) h3 (by omega) (by omega)) (hl q h3 h4)
  by_cases c1 : x < i
  · rw [g1 x c1]
    by_cases c2 : y < i
    · rw [g1 y c2]; exact h.L _ _ p q (by omega)
    · by_cases c3 : y = i
      · rw [c3, g2]; exact hb x p c1
      · rw [g3 y (by omega) r]; exact h.L _ _ p (by omega) (by omega)
  · by_cases c3 : x = i
    · rw [c3, g2, g3 y (by omega) r]; exact hr _ (by omega) (by omega)
    · rw [g3 x (by omega) (by omega), g3 y (by omega) r]; exact h.L _ _ (by omega) (by omega) (by omega)
structure CutAt (w : Int → Int) (D : Nat → Int) (a m b mid s e : Nat) : Prop where
  hs : a ≤ s ∧ s ≤ m ∧ s ≤ mid
  he : m ≤ e ∧ e ≤ b ∧ mid ≤ e
  sum : s + e = mid + m
  r1 : SrtI w (rotI D s m e) a s
  r2 : SrtI w (rotI D s m e) s mid
  r3 : SrtI w (rotI D s m e) mid e
  r4 : SrtI w (rotI D s m e) e b
  x : ∀ x y, a ≤ x → x < mid → mid ≤ y → y < b → befW w (rotI D s m e x) (rotI D s m e y)
theorem cut_at {w : Int → Int} {D : Nat → Int} {a m b mid lo hi s : Nat} (h : Mrg w D a m b) (h0 : a < m ∧ m < b) (hmid : mid = (a + b) / 2) (hb : (mid < m ∧ lo + b = mid + m ∧ hi = mid) ∨ (m ≤ mid ∧ lo = a ∧ hi = m)) (hlo : lo ≤ s ∧ s ≤ hi)
    (c1 : ∀ c, lo ≤ c → c < s → ¬ befW w (D (mid + m - 1 - c)) (D c)) (c2 : ∀ c, s ≤ c → c < hi → befW w (D (mid + m - 1 - c)) (D c)) : CutAt w D a m b mid s (mid + m - s) := by
  obtain ⟨q1, q2, q3, q4, q5⟩ := sym_cut (e := mid + m - s) h.L h.R h.dist h0 (mid := mid) (lo := lo) (hi := hi) (s := s) (by omega) (by omega) (by omega) (by omega) hlo (by omega) (by omega) (by omega) c1 c2
  exact ⟨by omega, by omega, by omega, q1, q2, q3, q4, q5⟩
theorem CutAt.m1 {w : Int → Int} {D : Nat → Int} {a m b mid s e : Nat} (c : CutAt w D a m b mid s e) (h : Mrg w D a m b) : Mrg w (rotI D s m e) a s mid := by
  have hs := c.hs; have he := c.he; have hu := c.sum
  refine ⟨c.r1, c.r2, fun i j h1 h2 h3 h4 => ?_⟩
  have e1 : rotI D s m e i = D i := by unfold rotI; rw [if_neg (by omega), if_neg (by omega)]
  have e2 : rotI D s m e j = D (j + (m - s)) := by unfold rotI; rw [if_pos (by omega)]
  rw [e1, e2]; exact h.X _ _ h1 (by omega) (by omega) (by omega)
theorem CutAt.m2 {w : Int → Int} {D E : Nat → Int} {a m b mid s e : Nat} (c : CutAt w D a m b mid s e) (h : Mrg w D a m b) (hE : ∀ p, mid ≤ p → E p = rotI D s m e p) : Mrg w E mid e b := by
  have hs := c.hs; have he := c.he; have hu := c.sum
  refine ⟨fun i j p q r => ?_, fun i j p q r => ?_, fun i j h1 h2 h3 h4 => ?_⟩
  · rw [hE i p, hE j (by omega)]; exact c.r3 i j p q r
  · rw [hE i (by omega), hE j (by omega)]; exact c.r4 i j p q r
  · have e1 : rotI D s m e i = D (i - (e - m)) := by unfold rotI; rw [if_neg (by omega), if_pos (by omega)]
    have e2 : rotI D s m e j = D j := by unfold rotI; rw [if_neg (by omega), if_neg (by omega)]
    rw [hE i h1, hE j (by omega), e1, e2]; exact h.X _ _ (by omega) (by omega) (by omega) h4
theorem res_join {w : Int → Int} {D E1 E2 : Nat → Int} {a m b mid s e : Nat} (c : CutAt w D a m b mid s e) (hm : a ≤ mid ∧ mid ≤ b) (r1 : Res w (rotI D s m e) E1 a mid) (r2 : Res w E1 E2 mid b) : Res w D E2 a b := by
  have hs := c.hs; have he := c.he
  have o1 : ∀ p, p < mid → E2 p = E1 p := fun p hp => r2.out p (.inl hp)
  have i1 : ∀ x, a ≤ x → x < mid → InI (rotI D s m e) a mid (E2 x) := fun x h1 h2 => by rw [o1 x h2]; exact (r1.ins _).1 ⟨x, h1, h2, rfl⟩
  have i2 : ∀ y, mid ≤ y → y < b → InI (rotI D s m e) mid b (E2 y) := fun y h1 h2 => by
    obtain ⟨q, q1, q2, q3⟩ := (r2.ins _).1 ⟨y, h1, h2, rfl⟩
    exact ⟨q, q1, q2, by rw [← r1.out q (.inr q1)]; exact q3⟩
  refine ⟨SrtI.join (m := mid) (fun i j p q r => by rw [o1 i (by omega), o1 j r]; exact r1.srt i j p q r) r2.srt (fun i j p q r t => ?_), fun p hp => ?_, fun z => ?_⟩
  · obtain ⟨x, x1, x2, x3⟩ := i1 i p q
    obtain ⟨y, y1, y2, y3⟩ := i2 j r t
    rw [← x3, ← y3]; exact c.x x y x1 x2 y1 y2
  · rw [r2.out p (by omega), r1.out p (by omega)]; exact rot_out D hs.1 he.2.1 ⟨hs.2.1, he.1⟩ hp
  · rw [← rot_in (D := D) (s := s) (m := m) (e := e) hs.1 hs.2.1 he.1 he.2.1]
    constructor
    · rintro ⟨x, x1, x2, rfl⟩
      by_cases h : x < mid
      · obtain ⟨q, q1, q2, q3⟩ := i1 x x1 h
        exact ⟨q, q1, by omega, q3⟩
      · obtain ⟨q, q1, q2, q3⟩ := i2 x (by omega) x2
        exact ⟨q, by omega, q2, q3⟩
    · rintro ⟨x, x1, x2, rfl⟩
      by_cases h : x < mid
      · obtain ⟨q, q1, q2, q3⟩ := (r1.ins _).2 ⟨x, x1, h, rfl⟩
        exact ⟨q, q1, by omega, by rw [o1 q q2]; exact q3⟩
      · obtain ⟨q, q1, q2, q3⟩ := (r2.ins (E1 x)).2 ⟨x, by omega, x2, rfl⟩
        exact ⟨q, by omega, q2, by rw [q3]; exact r1.out x (.inr (by omega))⟩
theorem res_same {w : Int → Int} {D : Nat → Int} {a b : Nat} (h : SrtI w D a b) : Res w D D a b := ⟨h, fun _ _ => rfl, fun _ => Iff.rfl⟩
theorem Res.rng {w : Int → Int} {D E : Nat → Int} {a b : Nat} (r : Res w D E a b) {Q : Int → Prop} (h : ∀ p, a ≤ p → p < b → Q (D p)) : ∀ p, a ≤ p → p < b → Q (E p) := fun p h1 h2 => by
  obtain ⟨q, q1, q2, q3⟩ := (r.ins _).1 ⟨p, h1, h2, rfl⟩
  rw [← q3]; exact h q q1 q2
end Go.Proofs.YtenkgipcblfocaaGreat
namespace Go.Proofs.YtenkgipcblfocaaGreat
open Go Go.RowKit Go.Proofs Go.Shelf Go.Ab
def lst (D : Nat → Int) (n : Nat) : List Int := (List.range n).map D
theorem lst_len (D : Nat → Int) (n : Nat) : (lst D n).length = n := by simp [lst]
theorem lst_get (D : Nat → Int) {n k : Nat} (h : k < n) : (lst D n)[k]? = some (D k) := by unfold lst; rw [List.getElem?_map, List.getElem?_range h]; rfl
theorem lst_of (L : List Int) : lst (fun p => L.getD p default) L.length = L := by
  refine List.ext_getElem (lst_len _ _) fun i h1 h2 => ?_
  simp only [lst, List.getElem_map, List.getElem_range]
  exact getD_at h2
theorem lst_swap (D : Nat → Int) {n x y : Nat} (hx : x < n) (hy : y < n) : ((lst D n).set x (D y)).set y (D x) = lst (swp1 D x y) n ∨ x = y := by
  by_cases e : x = y
  · exact .inr e
  · left
    refine List.ext_getElem (by simp [lst]) fun i h1 h2 => ?_
    have hi : i < n := by rwa [lst_len] at h2
    have e1 : (lst (swp1 D x y) n)[i] = swp1 D x y i := by simp [lst]
    have e2 : (lst D n)[i]'(by rw [lst_len]; exact hi) = D i := by simp [lst]
    rw [e1]
    unfold swp1
    by_cases h3 : i = y
    · subst h3
      rw [List.getElem_set_self, if_neg (fun h => e h.symm), if_pos rfl]
    · rw [List.getElem_set_ne (fun h => h3 h.symm)]
      by_cases h4 : i = x
      · subst h4
        rw [List.getElem_set_self, if_pos rfl]
      · rw [List.getElem_set_ne (fun h => h4 h.symm), e2, if_neg h4, if_neg h3]
theorem cells_swap (D : Nat → Int) {n x y : Nat} (hx : x < n) (hy : y < n) (hne : x ≠ y) {o q : Nat} (ho : o = x) (hq : q = y) : setAt (setAt (cellsA (lst D n)) o [.f (iv (D y))]) q [.f (iv (D x))] = cellsA (lst (swp1 D x y) n) := by
  rw [cellsA_set ho, cellsA_set hq, (lst_swap D hx hy).resolve_right hne]
theorem cells_get (D : Nat → Int) {n k o : Nat} (h : k < n) (ho : o = k) : (cellsA (lst D n))[o]? = some (.f (iv (D k))) := cellsA_at ho (lst_get D h)
set_option maxRecDepth 100000 in
set_option maxHeartbeats 3200000 in
theorem swapRange_g (c : FV) (D : Nat → Int) (n a b k : Nat) (hn : n ≤ 1000) (h1 : a + k ≤ b) (h2 : b + k ≤ n) : SummG Tryz.prog GG 224 [.arr 3 1 n (cellsA (lst D n))] [.ow 0, .f (iv ((a : Nat) : Int)), .f (iv ((b : Nat) : Int)), .f (iv ((k : Nat) : Int)), .f c] (.f (.tup [])) [.arr 3 1 n (cellsA (lst (swpI D a b k) n))] := by
  refine summG_of Tryz.func224 rfl rfl 38 rfl (by simp) (by simp) (fun i B B' h1 h2 => by
    match i, h1, h2 with
    | 0, h1, h2 => cases h1; cases h2; rfl
    | _ + 1, h1, _ => simp at h1) (fun M X J => ?_)
  repeat (first
    | (apply s_a TY; exact rfl)
    | apply w_seq
    | apply w_region
    | apply s_nil
    | apply t_norm
    | apply w_block)
  apply w_loop (fun i : Nat => ⟨(Ab.upd (Ab.upd (Ab.upd (Ab.upd (Ab.upd (fun _ => .bot) 0 (.ow 0)) 1 (.f (iv ((a : Nat) : Int)))) 2 (.f (iv ((b : Nat) : Int)))) 3 (.f (iv ((k : Nat) : Int)))) 10 (.f (iv ((i : Nat) : Int)))), (Ab.upd (fun _ => none) 0 (some (.arr 3 1 n (cellsA (lst (swpI D a b i) n))))), 1⟩) (fun i => i ≤ k) (fun i => k - i) 0 (Nat.zero_le _) (gh_le ⟨le_upd rfl trivial (le_upd rfl trivial (le_upd rfl trivial (le_upd rfl trivial (le_upd rfl rfl (le_nil _))))), le_hupd (arrEq (by rw [swpI_zero])) (cl_arr _) (le_h0 _ _)⟩)
  intro i hi
  by_cases hik : i < k
  · have hln : (lst (swpI D a b i) n).length = n := lst_len _ _
    have hX : (cellsA (lst (swpI D a b i) n))[((((b : Nat) : Int)) + ((i : Nat) : Int)).toNat * 1]? = some (.f (iv ((swpI D a b i) (b + i)))) := cells_get _ (by omega) (by omega)
    have hY : (cellsA (lst (swpI D a b i) n))[((((a : Nat) : Int)) + ((i : Nat) : Int)).toNat * 1]? = some (.f (iv ((swpI D a b i) (a + i)))) := cells_get _ (by omega) (by omega)
    have hcs : setAt (setAt (cellsA (lst (swpI D a b i) n)) (((((a : Nat) : Int)) + ((i : Nat) : Int)).toNat * 1) [.f (iv ((swpI D a b i) (b + i)))]) (((((b : Nat) : Int)) + ((i : Nat) : Int)).toNat * 1) [.f (iv ((swpI D a b i) (a + i)))] = cellsA (lst (swpI D a b (i + 1)) n) := by
      rw [cells_swap _ (x := a + i) (y := b + i) (by omega) (by omega) (by omega) (by omega) (by omega), swpI_succ D hik h1]
    repeat (first
    | (apply w_draw4 (id := 3) 21 22 2096911 240 rfl (by kernel_rfl) (by kernel_rfl); exact rfl)
    | (apply s_stW TY; exact rfl; exact rfl; exact rfl; exact rfl; exact rfl; (show _ + 1 ≤ _; rw [cellsA_len]; omega); exact rfl; exact rfl; exact (fun _ => rfl))
    | (refine KW.mk ⟨rfl, rfl, rfl, rfl, rfl, rfl, rfl, rfl, rfl, rfl, rfl, rfl, rfl, rfl, rfl, rfl, rfl, rfl, rfl, rfl, rfl, trivial⟩ ?_)
    | (apply s_storeArr TY; exact rfl; exact rfl; exact rfl; exact rfl; exact rfl; (show _ + 1 ≤ _; rw [setAt_length, cellsA_len]; omega))
    | (apply s_idxArr TY; exact rfl; exact rfl; exact rfl; exact rfl; exact rfl; exact rfl; omega; omega)
    | (apply s_ldArr TY; exact rfl; exact rfl; exact rfl; exact rfl; exact rfl; assumption)
    | (apply s_a TY; exact rfl)
    | (apply s_t; exact rfl; (first | assumption | omega))
    | apply w_seq
    | apply w_region
    | apply s_nil
    | apply t_norm
    | apply k_norm
    | apply w_block
    | apply w_skip
    | (apply w_condT; exact rfl; exact rfl)
    | (apply s_c TY; exact rfl; (first | omega | exact ⟨by omega, by (first | with_reducible assumption | ((with_reducible apply intsF_ne); omega) | assumption)⟩)))
    exact ⟨i + 1, by omega, by omega, gh_le ⟨le_upd rfl trivial (le_upd rfl trivial (le_upd rfl trivial (le_upd rfl trivial (le_upd rfl rfl (le_nil _))))), le_hupd (arrEq hcs) (cl_arr _) (le_h0 _ _)⟩⟩
  · have hik2 : i = k := by omega
    subst hik2
    repeat (first
    | (apply s_a TY; exact rfl)
    | (apply s_f; exact rfl; (first | assumption | omega))
    | apply w_seq
    | apply w_region
    | apply s_nil
    | apply t_norm
    | apply t_exit
    | apply k_hit
    | apply w_exit
    | (apply w_condF; exact rfl; exact rfl))
    exact lvG_norm (L' := [.arr 3 1 n (cellsA (lst (swpI D a b i) n))]) (s := (fun _ => .bot)) (nx := 1) (gh_le ⟨le_nil _, le_hupd rfl (cl_arr _) (le_h0 _ _)⟩) (rg0 rfl)
set_option maxRecDepth 100000 in
set_option maxHeartbeats 3200000 in
theorem rotate_g (D : Nat → Int) (n a m b : Nat) (mm : List Int) (hn : n ≤ 1000) (h1 : a < m) (h2 : m < b) (h3 : b ≤ n) : SummG Tryz.prog GG 212 [.arr 3 1 n (cellsA (lst D n))] [.ow 0, .f (iv ((a : Nat) : Int)), .f (iv ((m : Nat) : Int)), .f (iv ((b : Nat) : Int)), .f (.fn 115 [.pt [.sl mm.length (intsF mm)] 0])] (.f (.tup [])) [.arr 3 1 n (cellsA (lst (rotI D a m b) n))] := by
  refine summG_of Tryz.func212 rfl rfl 58 rfl (by simp) (by simp) (fun i B B' h1 h2 => by
    match i, h1, h2 with
    | 0, h1, h2 => cases h1; cases h2; rfl
    | _ + 1, h1, _ => simp at h1) (fun M X J => ?_)
  repeat (first
    | (apply s_a TY; exact rfl)
    | apply w_seq
    | apply w_region
    | apply s_nil
    | apply t_norm
    | apply w_block
    | (apply s_c TY; exact rfl; omega))
  apply w_loop (fun q : (Nat → Int) × Nat × Nat => ⟨(Ab.upd (Ab.upd (Ab.upd (Ab.upd (Ab.upd (fun _ => .bot) 0 (.ow 0)) 2 (.f (iv ((m : Nat) : Int)))) 4 (.f (.fn 115 [.pt [.sl mm.length (intsF mm)] 0]))) 10 (.f (iv ((q.2.1 : Nat) : Int)))) 11 (.f (iv ((q.2.2 : Nat) : Int)))), (Ab.upd (fun _ => none) 0 (some (.arr 3 1 n (cellsA (lst q.1 n))))), 1⟩) (fun q => rotI q.1 (m - q.2.1) m (m + q.2.2) = (rotI D a m b) ∧ 1 ≤ q.2.1 ∧ 1 ≤ q.2.2 ∧ q.2.1 ≤ m ∧ m + q.2.2 ≤ n) (fun q => q.2.1 + q.2.2) (D, m - a, b - m) (⟨by show rotI D (m - (m - a)) m (m + (b - m)) = _; rw [show m - (m - a) = a by omega, show m + (b - m) = b by omega], by show 1 ≤ m - a; omega, by show 1 ≤ b - m; omega, by show m - a ≤ m; omega, by show m + (b - m) ≤ n; omega⟩) (gh_le ⟨le_upd (congrArg (fun z : Int => AV.f (iv z)) (show ((b - m : Nat) : Int) = (b : Int) - (m : Int) by omega)) trivial (le_upd (congrArg (fun z : Int => AV.f (iv z)) (show ((m - a : Nat) : Int) = (m : Int) - (a : Int) by omega)) trivial (le_upd rfl trivial (le_upd rfl trivial (le_upd rfl rfl (le_nil _))))), le_hupd rfl (cl_arr _) (le_h0 _ _)⟩)
  rintro ⟨E, i, j⟩ ⟨hE, hi, hj, him, hjn⟩
  change rotI E (m - i) m (m + j) = (rotI D a m b) at hE
  change 1 ≤ i at hi
  change 1 ≤ j at hj
  change i ≤ m at him
  change m + j ≤ n at hjn
  change W _ _ _ _ (⟨(Ab.upd (Ab.upd (Ab.upd (Ab.upd (Ab.upd (fun _ => .bot) 0 (.ow 0)) 2 (.f (iv ((m : Nat) : Int)))) 4 (.f (.fn 115 [.pt [.sl mm.length (intsF mm)] 0]))) 10 (.f (iv ((i : Nat) : Int)))) 11 (.f (iv ((j : Nat) : Int)))), (Ab.upd (fun _ => none) 0 (some (.arr 3 1 n (cellsA (lst E n))))), 1⟩)
  by_cases hij : i = j
  · subst hij
    have HS := swapRange_g (.fn 115 [.pt [.sl mm.length (intsF mm)] 0]) E n (m - i) m i hn (by omega) (by omega)
    rw [show ((m - i : Nat) : Int) = (m : Int) - (i : Int) by omega] at HS
    rw [rot_same E him] at HS
    rw [← hE]
    repeat (first
    | (apply s_callG [0] HS; exact rfl; exact rfl; exact rfl; exact ⟨congrArg some (arrA_ren _ _ _).symm, trivial⟩; exact rfl; exact ⟨rfl, rfl⟩)
    | (apply s_a TY; exact rfl)
    | (apply s_t; exact rfl; (first | assumption | omega))
    | apply w_seq
    | apply w_region
    | apply s_nil
    | apply t_norm
    | apply t_exit
    | apply k_hit
    | apply w_exit
    | (apply w_condF; exact rfl; exact rfl)
    | (apply s_c TY; exact rfl; omega))
    exact lvG_norm (L' := [.arr 3 1 n (cellsA (lst (rotI E (m - i) m (m + i)) n))]) (s := (fun _ => .bot)) (nx := 1) (gh_le ⟨le_nil _, le_hupd (congrArg some (arrA_ren _ _ _)) (cl_arr _) (le_h0 _ _)⟩) (rg0 rfl)
  · by_cases hlt : j < i
    · have HS := swapRange_g (.fn 115 [.pt [.sl mm.length (intsF mm)] 0]) E n (m - i) m j hn (by omega) (by omega)
      rw [show ((m - i : Nat) : Int) = (m : Int) - (i : Int) by omega] at HS
      have hr := rot_left E hlt him
      repeat (first
    | (apply s_callG [0] HS; exact rfl; exact rfl; exact rfl; exact ⟨congrArg some (arrA_ren _ _ _).symm, trivial⟩; exact rfl; exact ⟨rfl, rfl⟩)
    | (apply s_a TY; exact rfl)
    | (apply s_t; exact rfl; (first | assumption | omega))
    | (apply s_f; exact rfl; (first | assumption | omega))
    | apply w_seq
    | apply w_region
    | apply s_nil
    | apply t_norm
    | apply k_norm
    | apply w_block
    | apply w_skip
    | (apply w_condT; exact rfl; exact rfl)
    | (apply s_c TY; exact rfl; omega))
      exact ⟨(swpI E (m - i) m j, i - j, j), ⟨by show rotI _ (m - (i - j)) m (m + j) = _; rw [show m - (i - j) = m - i + j by omega, hr, hE], by show 1 ≤ i - j; omega, hj, by show i - j ≤ m; omega, hjn⟩, by show i - j + j < i + j; omega, gh_le ⟨le_upd rfl trivial (le_upd (congrArg (fun z : Int => AV.f (iv z)) (show ((i - j : Nat) : Int) = (i : Int) - (j : Int) by omega)) trivial (le_upd rfl trivial (le_upd rfl trivial (le_upd rfl rfl (le_nil _))))), le_hupd (congrArg some (arrA_ren _ _ _)) (cl_arr _) (le_h0 _ _)⟩⟩
    · have hlt2 : i < j := by omega
      have HS := swapRange_g (.fn 115 [.pt [.sl mm.length (intsF mm)] 0]) E n (m - i) (m + j - i) i hn (by omega) (by omega)
      rw [show ((m - i : Nat) : Int) = (m : Int) - (i : Int) by omega, show ((m + j - i : Nat) : Int) = (m : Int) + (j : Int) - (i : Int) by omega] at HS
      have hr := rot_right E hlt2 him
      repeat (first
    | (apply s_callG [0] HS; exact rfl; exact rfl; exact rfl; exact ⟨congrArg some (arrA_ren _ _ _).symm, trivial⟩; exact rfl; exact ⟨rfl, rfl⟩)
    | (apply s_a TY; exact rfl)
    | (apply s_f; exact rfl; (first | assumption | omega))
    | apply w_seq
    | apply w_region
    | apply s_nil
    | apply t_norm
    | apply k_norm
    | apply w_block
    | apply w_skip
    | (apply w_condT; exact rfl; exact rfl)
    | (apply w_condF; exact rfl; exact rfl)
    | (apply s_c TY; exact rfl; omega))
      exact ⟨(swpI E (m - i) (m + j - i) i, i, j - i), ⟨by show rotI _ (m - i) m (m + (j - i)) = _; rw [show m + (j - i) = m + j - i by omega, hr, hE], hi, by show 1 ≤ j - i; omega, him, by show m + (j - i) ≤ n; omega⟩, by show i + (j - i) < i + j; omega, gh_le ⟨le_upd (congrArg (fun z : Int => AV.f (iv z)) (show ((j - i : Nat) : Int) = (j : Int) - (i : Int) by omega)) trivial (le_upd rfl trivial (le_upd rfl trivial (le_upd rfl trivial (le_upd rfl rfl (le_nil _))))), le_hupd (congrArg some (arrA_ren _ _ _)) (cl_arr _) (le_h0 _ _)⟩⟩
end Go.Proofs.YtenkgipcblfocaaGreat
namespace Go.Ab
open Go Go.RowKit Go.Shelf Go.Proofs
section
variable {C : Ctx} {N : Nat} {st : St}
theorem gh_nx {s : Nat → AV} {h : Nat → Option Blk} {n : Nat} (m : Nat) : Gh C N ⟨s, h, n⟩ ⟨s, h, m⟩ := fun _ _ _ S => S.nx
theorem v_nilCheck {o : Oper} {x : Operand} {i off : Nat} (ho : o.op = .nilCheck x) (hd : dstB N o.dst = true) (hx : st.ev C x = .bx i off) : ValOp C N o st (.bx i off) :=
  valop_run hd fun w0 a w J st' hA S => by
    have e1 := S.eval x
    rw [hA.ev x (by simp [ho, Op.operands]), hx] at e1
    obtain ⟨hl, b, hb, hv⟩ := e1
    exact ⟨_, w, by simp only [execOp, ho, hv]; rfl, Ext.refl _, hl, b, hb, rfl⟩
theorem v_nilCheckF {o : Oper} {x : Operand} {cs : List FV} {off : Nat} (ho : o.op = .nilCheck x) (hd : dstB N o.dst = true) (hx : st.ev C x = .f (.pt cs off)) : ValOp C N o st (.f (.pt cs off)) :=
  valop_run hd fun w0 a w J st' hA S => by
    have e1 := evF S ((hA.ev x (by simp [ho, Op.operands])).trans hx)
    generalize hv : a.eval x = v at e1
    cases e1 with
    | pt b of _ _ us h1 h2 h3 h4 =>
      exact ⟨_, w, by simp only [execOp, ho, hv]; rfl, Ext.refl _, RepF.pt b of _ _ us h1 h2 h3 h4⟩
theorem v_ptrNil {o : Oper} {neg : Bool} {T T' : TypeId} {x : Operand} {i off : Nat} (hu : C.P.underlying T = some (.pointer (C.P.pointee T))) (ho : o.op = .binOp (bif neg then .neq else .eql) T x (.const (.pointer none)) T') (hd : dstB N o.dst = true) (hx : st.ev C x = .bx i off) : ValOp C N o st (.f (.v (.bool neg))) :=
  valop_run hd fun w0 a w J st' hA S => by
    have e1 := S.eval x
    rw [hA.ev x (by simp [ho, Op.operands]), hx] at e1
    obtain ⟨hl, b, hb, hv⟩ := e1
    refine ⟨.bool neg, w, ?_, Ext.refl _, RepF.v _⟩
    have hc : a.eval (.const (.pointer none)) = .pointer none := rfl
    cases neg <;> simp [execOp, ho, hv, hc, eqGuard, run_eql_pointer_nil w T _ hu, run_neq_pointer_nil w T _ hu]
theorem v_nilNil {o : Oper} {neg : Bool} {T T' : TypeId} {x : Operand} (hu : C.P.underlying T = some (.pointer (C.P.pointee T))) (ho : o.op = .binOp (bif neg then .neq else .eql) T x (.const (.pointer none)) T') (hd : dstB N o.dst = true) (hx : st.ev C x = .f (.v (.pointer none))) : ValOp C N o st (.f (.v (.bool (!neg)))) :=
  valop_run hd fun w0 a w J st' hA S => by
    have hv := evV S ((hA.ev x (by simp [ho, Op.operands])).trans hx)
    refine ⟨.bool (!neg), w, ?_, Ext.refl _, RepF.v _⟩
    have hc : a.eval (.const (.pointer none)) = .pointer none := rfl
    cases neg <;> simp [execOp, ho, hv, hc, eqGuard, run_eql_pointer_nil w T _ hu, run_neq_pointer_nil w T _ hu]
def bytesF (s : List UInt8) : List FV := s.map fun b => .v (.int .u8 b.toNat)
theorem bytesF_ne {s : List UInt8} {k : Nat} (h : k < s.length) : bytesF s ≠ [] := fun e => by
  have : (bytesF s).length = 0 := by rw [e]; rfl
  simp [bytesF] at this; subst this; simp at h
theorem bytesF_at {s : List UInt8} {k : Nat} (h : k < s.length) : (bytesF s)[k * 1]? = some (.v (.int .u8 s[k].toNat)) := by
  unfold bytesF; rw [Nat.mul_one, List.getElem?_map, List.getElem?_eq_getElem h]; rfl
theorem v_bytes {o : Oper} {T T' E : TypeId} {x : Operand} {s : List UInt8} (h1 : C.P.underlying T = some .string) (h2 : C.P.underlying T' = some (.slice E)) (h3 : C.P.underlying E = some (.int .u8)) (ho : o.op = .convert T T' x) (hd : dstB N o.dst = true) (hx : st.ev C x = .f (.v (.string ⟨s.toArray⟩))) : ValOp C N o st (.f (.sl s.length (bytesF s))) :=
  valop_run hd fun w0 a w J st' hA S => by
    have hv := evV S ((hA.ev x (by simp [ho, Op.operands])).trans hx)
    have hrun := run_bytes_of_string (P := C.P) w T T' E ⟨s.toArray⟩ h1 h2 h3
    generalize hcap : grownCap w (⟨s.toArray⟩ : ByteArray).size 0 E = cap at hrun
    have hsz : (⟨s.toArray⟩ : ByteArray).size = s.length := by simp [ByteArray.size]
    rw [hsz] at hrun hcap
    refine ⟨_, _, by simp only [execOp, ho, hv, Sem.run_bind, hrun]; rfl, (Ext.drew w).trans (Ext.alloc _ _), ?_⟩
    have hc : s.length ≤ cap := by
      rw [← hcap]; exact grownCap_ge w s.length 0 E
    refine RepF.sl _ s.length cap (bytesF s) (s.map fun b => Value.int .u8 b.toNat) hc (by simp [bytesF]) (fun u hu => by
      obtain ⟨b, _, rfl⟩ := List.mem_map.1 hu; rfl) (fun _ => ⟨w.heap.size, 0, rfl, ?_, fun h => ?_, fun k hk => ?_⟩) (fun k u y a1 a2 => ?_)
    · show w.heap.size < (w.heap.push _).size
      rw [Array.size_push]; exact Nat.lt_succ_self _
    · have := mb_lt S _ h; omega
    · simp only [List.length_map] at hk
      rw [Nat.zero_add]
      have hh : (w.drew.alloc (.cells (bytesRow ⟨s.toArray⟩ cap) E ((bytesRow ⟨s.toArray⟩ cap).size, (bytesRow ⟨s.toArray⟩ cap).size + 1))).heap[w.heap.size]? = some (.cells (bytesRow ⟨s.toArray⟩ cap) E ((bytesRow ⟨s.toArray⟩ cap).size, (bytesRow ⟨s.toArray⟩ cap).size + 1)) := by
        show (w.heap.push _)[w.heap.size]? = _
        simp
      simp only [World.cell?, hh]
      unfold bytesRow
      rw [Array.getElem?_append_left (by simpa using hk)]
      simp
    · unfold bytesF at a2
      rw [List.getElem?_map] at a1 a2
      cases hb : s[k]? with
      | none => rw [hb] at a1; cases a1
      | some b => rw [hb] at a1 a2; cases a1; cases a2; exact RepF.v _
theorem al_rep {w0 : World} {a : Act} {w : World} {J : Nat → Value} (_S : Sim C w0 N st a w J) {n : Nat} (hn : st.h n = none) {w' : World} (e : Ext w w') {u : Value} {B : Blk} (hu : ∀ c, bk u = some c → w.heap.size ≤ c) {v : Value} {x : AV} (h : RepA C w st.h J v x) : RepA C w' (upd st.h n (some B)) (upd J n u) v x := by
  have hlive : ∀ i, (st.h i).isSome = true → i ≠ n := fun i hi e => by subst e; rw [hn] at hi; cases hi
  refine h.same fun _ _ q => q.conv (fun i hi => ⟨by rw [upd_other _ _ (hlive i hi)]; exact hi, by rw [upd_other _ _ (hlive i hi)]⟩) fun _ _ h => RepF.ext h e ?_
  rintro b hb (h0 | ⟨i, hi, hbi⟩)
  · exact .inl h0
  by_cases e : i = n
  · subst e; rw [upd_same] at hbi; have := hu _ hbi; omega
  · rw [upd_other _ _ e] at hi hbi; exact .inr ⟨i, hi, hbi⟩
theorem a_boxA {o : Oper} {T : TypeId} {x : Operand} {y : AV} {cs : List AV} (ho : o.op = .box T x) (hd : dstB N o.dst = true) (hx : st.ev C x = y) (hc : cellsA y = some cs) (hJ : C.J0 st.nx = none) : AllOp C N o st (.bx st.nx 0) (.box cs) := by
  intro w0 a w st' hA hn ⟨J, S⟩ K Q hK
  have e1 := S.eval x
  rw [hA.ev x (by simp [ho, Op.operands]), hx] at e1
  obtain ⟨r1, r2, r3⟩ := repCellsA S.blk e1 hc
  refine op_value (show (execOp a.eval o).run C.P w = .ok (.value (.pointer (some ⟨w.heap.size, 0, none⟩))) (w.alloc (.cells (a.eval x).cells T)) by simp [execOp, ho, Instr.box, run_newVar]) ?_
  refine hK _ _ ⟨upd J st.nx (.pointer (some ⟨w.heap.size, 0, none⟩)), S.al hn hd (Ext.alloc _ _) (fun c hc => by simp [bk] at hc; omega) ?_ ?_ (fun _ => hJ)⟩
  · refine ⟨w.heap.size, T, (a.eval x).cells, rfl, .inl S.ext.le, World.alloc_heap_new _ _, r1, r2, fun k u z h1 h2 => ?_⟩
    exact al_rep S hn (Ext.alloc _ _) (fun c hc => by simp [bk] at hc; omega) (r3 k u z (by simpa using h1) h2)
  · exact ⟨by rw [upd_same]; rfl, w.heap.size, by rw [upd_same]; rfl, rfl⟩
theorem a_bsliceP {o : Oper} {T E bs i off : Nat} {x : Operand} {zs : List Value} (ty : Ty C.P) (ho : o.op = .buildSlice T 1 #[(0, x)]) (hd : dstB N o.dst = true) (hT : (ty.ty T).sl = some (E, 1, bs)) (hz : (ty.ty E).zero = some zs) (hzl : zs.length = 1) (hx : st.ev C x = .bx i off) : AllOp C N o st (.ow st.nx) (.rowA E 1 1 [.bx i off]) := by
  intro w0 a w st' hA hn ⟨J, S⟩ K Q hK
  have e1 := S.eval x
  rw [hA.ev x (by simp [ho, Op.operands]), hx] at e1
  have e0 := e1
  obtain ⟨hlv, b, hb, hv⟩ := e1
  have hrun := run_buildSlice (w := w) (len := 1) (parts := #[((0 : Nat), Value.pointer (some ⟨b, off, none⟩))]) (us := #[.pointer (some ⟨b, off, none⟩)]) ((ty.ok T).sl _ hT) ((ty.ok E).zero zs hz) (by decide) (fun z' hz' => by
    have e : z'.cells.size = 1 := by rw [← hzl, ← hz']; simp
    have e2 : (madeCells z'.cells (1 * 1)).size = 1 := by simp [size_madeCells]
    obtain ⟨y, hy⟩ : ∃ y, madeCells z'.cells (1 * 1) = #[y] := Array.size_eq_one_iff.1 e2
    rw [hy]
    simp [Instr.fill, Value.cells])
  refine op_value (show (execOp a.eval o).run C.P w = .ok (.value (.slice (some ⟨w.heap.size, 0, none⟩) 1 1)) (w.alloc (.cells #[.pointer (some ⟨b, off, none⟩)] E)) by
    simp only [execOp, ho, Sem.run_bind, List.map_toArray, List.map_cons, List.map_nil, hv]
    rw [hrun]; rfl) ?_
  refine hK _ _ ⟨upd J st.nx (.slice (some ⟨w.heap.size, 0, none⟩) 1 1), S.al hn hd (Ext.alloc _ _) (fun c hc => by simp [bk] at hc; omega) ?_ ?_ (fun e => by cases e)⟩
  · refine ⟨[.pointer (some ⟨b, off, none⟩)], ⟨by simp, .inr ⟨w.heap.size, 1, #[.pointer (some ⟨b, off, none⟩)], rfl, Nat.zero_le _, World.alloc_heap_new _ _, Nat.le_refl _, by decide, by simp, by simp⟩⟩, fun b hb => .inl (by simp [bk] at hb; rw [← hb]; exact S.ext.le), by simp [Value.oneCell'], rfl, fun k u y h1 h2 => ?_⟩
    cases k with
    | zero =>
      simp at h1 h2; subst h1; subst h2
      rw [hv] at e0
      exact al_rep S hn (Ext.alloc _ _) (fun c hc => by simp [bk] at hc; omega) e0
    | succ k => simp at h1
  · exact ⟨by rw [upd_same]; rfl, by rw [upd_same]⟩
variable {ops : Array Oper} {pr : Bool} {K : St → Prop} {rest : List Oper} {d : Option Tmp} {T0 : TypeId} {pos : String} {af : Array Edge} {gd : Option (Nat × Bool)}
theorem s_nilCheck {x : Operand} {i off : Nat} (hw : wantB st ops ⟨d, .nilCheck x, T0, pos, af, gd⟩ = some true) (hd : dstB N d = true) (hx : st.ev C x = .bx i off) (k : R C N ops pr K rest (st.put d (.bx i off))) : R C N ops pr K (⟨d, .nilCheck x, T0, pos, af, gd⟩ :: rest) st := ⟨r_val hw (v_nilCheck rfl hd hx) k.out⟩
theorem s_nilCheckF {x : Operand} {cs : List FV} {off : Nat} (hw : wantB st ops ⟨d, .nilCheck x, T0, pos, af, gd⟩ = some true) (hd : dstB N d = true) (hx : st.ev C x = .f (.pt cs off)) (k : R C N ops pr K rest (st.put d (.f (.pt cs off)))) : R C N ops pr K (⟨d, .nilCheck x, T0, pos, af, gd⟩ :: rest) st := ⟨r_val hw (v_nilCheckF rfl hd hx) k.out⟩
theorem s_ptrEq {T T' : TypeId} {x : Operand} {i off : Nat} (hu : C.P.underlying T = some (.pointer (C.P.pointee T))) (hw : wantB st ops ⟨d, .binOp .eql T x (.const (.pointer none)) T', T0, pos, af, gd⟩ = some true) (hd : dstB N d = true) (hx : st.ev C x = .bx i off) (k : R C N ops pr K rest (st.put d (.f (.v (.bool false))))) : R C N ops pr K (⟨d, .binOp .eql T x (.const (.pointer none)) T', T0, pos, af, gd⟩ :: rest) st := ⟨r_val hw (v_ptrNil (neg := false) hu rfl hd hx) k.out⟩
theorem s_nilNe {T T' : TypeId} {x : Operand} (hu : C.P.underlying T = some (.pointer (C.P.pointee T))) (hw : wantB st ops ⟨d, .binOp .neq T x (.const (.pointer none)) T', T0, pos, af, gd⟩ = some true) (hd : dstB N d = true) (hx : st.ev C x = .f (.v (.pointer none))) (k : R C N ops pr K rest (st.put d (.f (.v (.bool false))))) : R C N ops pr K (⟨d, .binOp .neq T x (.const (.pointer none)) T', T0, pos, af, gd⟩ :: rest) st := ⟨r_val hw (v_nilNil (neg := true) hu rfl hd hx) k.out⟩
theorem s_bytes {T T' E : TypeId} {x : Operand} {s : List UInt8} (h1 : C.P.underlying T = some .string) (h2 : C.P.underlying T' = some (.slice E)) (h3 : C.P.underlying E = some (.int .u8)) (hw : wantB st ops ⟨d, .convert T T' x, T0, pos, af, gd⟩ = some true) (hd : dstB N d = true) (hx : st.ev C x = .f (.v (.string ⟨s.toArray⟩))) (k : R C N ops pr K rest (st.put d (.f (.sl s.length (bytesF s))))) : R C N ops pr K (⟨d, .convert T T' x, T0, pos, af, gd⟩ :: rest) st := ⟨r_val hw (v_bytes h1 h2 h3 rfl hd hx) k.out⟩
theorem s_convW {T T' : TypeId} {x : Operand} {vx v : Value} (hw : wantB st ops ⟨d, .convert T T' x, T0, pos, af, gd⟩ = some true) (hd : dstB N d = true) (hx : st.ev C x = .f (.v vx)) (hrun : ∀ w, (convert T T' vx).run C.P w = .ok v w) (h : R C N ops pr K rest (st.put d (.f (.v v)))) : R C N ops pr K (⟨d, .convert T T' x, T0, pos, af, gd⟩ :: rest) st := ⟨r_val hw (v_conv rfl hd hx hrun) h.out⟩
theorem s_boxA {T : TypeId} {x : Operand} {y : AV} {cs : List AV} (hd : dstB N d = true) (hn : st.frB C = true) (hx : st.ev C x = y) (hc : cellsA y = some cs) (k : R C N ops pr K rest ⟨(st.put d (.bx st.nx 0)).s, upd st.h st.nx (some (.box cs)), st.nx + 1⟩) : R C N ops pr K (⟨d, .box T x, T0, pos, af, none⟩ :: rest) st :=
  ⟨r_all rfl rfl (frB_spec hn).1 (a_boxA rfl hd hx hc (frB_spec hn).2) k.out⟩
theorem s_bsliceP (ty : Ty C.P) {T E bs i off : Nat} {x : Operand} {zs : List Value} (hd : dstB N d = true) (hn : st.h st.nx = none) (hT : (ty.ty T).sl = some (E, 1, bs)) (hz : (ty.ty E).zero = some zs) (hzl : zs.length = 1) (hx : st.ev C x = .bx i off) (k : R C N ops pr K rest ⟨(st.put d (.ow st.nx)).s, upd st.h st.nx (some (.rowA E 1 1 [.bx i off])), st.nx + 1⟩) : R C N ops pr K (⟨d, .buildSlice T 1 #[(0, x)], T0, pos, af, none⟩ :: rest) st :=
  ⟨r_all rfl rfl hn (a_bsliceP ty rfl hd hT hz hzl hx) k.out⟩
end
end Go.Ab
namespace Go.Proofs.YtenkgipcblfocaaGreat
open Go Go.RowKit Go.Proofs Go.Shelf Go.Ab
def symC (mm : List Int) (n : Nat) (D : Nat → Int) (a m b : Nat) : Prop := ∃ E, Res (wI mm) D E a b ∧ SummG Tryz.prog GG 184 [.arr 3 1 n (cellsA (lst D n))] [.ow 0, .f (iv ((a : Nat) : Int)), .f (iv ((m : Nat) : Int)), .f (iv ((b : Nat) : Int)), .f (.fn 115 [.pt [.sl mm.length (intsF mm)] 0])] (.f (.tup [])) [.arr 3 1 n (cellsA (lst E n))]
theorem split_at {P : Nat → Prop} (lo : Nat) : ∀ (d : Nat), (∀ c e, lo ≤ c → c ≤ e → e < lo + d → P e → P c) → ∃ i, lo ≤ i ∧ i ≤ lo + d ∧ (∀ q, lo ≤ q → q < i → P q) ∧ (∀ q, i ≤ q → q < lo + d → ¬ P q)
  | 0, _ => ⟨lo, Nat.le_refl _, Nat.le_refl _, fun q h1 h2 => absurd h2 (by omega), fun q h1 h2 => absurd h2 (by omega)⟩
  | d + 1, h => by
    obtain ⟨i, h1, h2, h3, h4⟩ := split_at lo d (fun c e a1 a2 a3 => h c e a1 a2 (by omega))
    by_cases hp : P (lo + d)
    · refine ⟨lo + d + 1, by omega, by omega, fun q q1 q2 => h q (lo + d) q1 (by omega) (by omega) hp, fun q q1 q2 => absurd q2 (by omega)⟩
    · refine ⟨i, h1, by omega, h3, fun q q1 q2 => ?_⟩
      by_cases e : q = lo + d
      · subst e; exact hp
      · exact h4 q q1 (by omega)
theorem conv_iu {z : Int} (h : 0 ≤ z ∧ z ≤ 1000000) (w : World) : (convert 3 228 (.int .i64 z)).run Tryz.prog w = .ok (.int .u64 z) w := by
  have e : IntKind.u64.wrap z = z := IntWalk.u64_in _ (by omega)
  simp [convert, run_underlying Tryz.underlying3, run_underlying Tryz.underlying228, Conv.intToInt, e]
theorem conv_ui {z : Int} (h : 0 ≤ z ∧ z ≤ 1000000) (w : World) : (convert 228 3 (.int .u64 z)).run Tryz.prog w = .ok (.int .i64 z) w := by
  have e : IntKind.i64.wrap z = z := IntWalk.i64_in _ (by omega)
  simp [convert, run_underlying Tryz.underlying3, run_underlying Tryz.underlying228, Conv.intToInt, e]
theorem shr_u {x y : Operand} {z c : Int} (_hz : 0 ≤ z ∧ z ≤ 1000000) (hc : z / 2 = c) (w : World) : (do eqGuard .shr 228 x y (.int .u64 z) (.int .u64 1); binOp .shr 228 (.int .u64 z) (.int .u64 1) : Sem Value).run Tryz.prog w = .ok (.int .u64 c) w := by
  have e : z.fdiv 2 = c := by rw [Int.fdiv_eq_ediv_of_nonneg _ (by decide)]; exact hc
  have e2 : min 1 IntKind.u64.bits = 1 := by decide
  simp [eqGuard, binOp, Op.shift, e2, e]
set_option maxRecDepth 100000 in
set_option maxHeartbeats 6400000 in
theorem sym_one (mm : List Int) (n : Nat) (hn : n ≤ 1000) (D : Nat → Int) (a b : Nat) (h1 : a + 1 < b) (h2 : b ≤ n) (MG : Mrg (wI mm) D a (a + 1) b) (hr : ∀ p, a ≤ p → p < b → 0 ≤ D p ∧ D p < mm.length) : symC mm n D a (a + 1) b := by
  obtain ⟨i, hi1, hi2, hl, hg⟩ := split_at (P := fun q => befW (wI mm) (D q) (D a)) (a + 1) (b - (a + 1)) (fun c e q1 q2 q3 q4 => by
    by_cases ee : c = e
    · subst ee; exact q4
    · exact befW_trans (MG.R c e q1 (by omega) (by omega)) q4)
  rw [show a + 1 + (b - (a + 1)) = b by omega] at hi2 hg
  refine ⟨rotI D a (a + 1) i, res_one MG hi1 hi2 hl hg, ?_⟩
  have hln : (lst D n).length = n := lst_len _ _
  have hA : (cellsA (lst D n))[((a : Nat) : Int).toNat * 1]? = some (.f (iv (D a))) := cells_get _ (by omega) (by omega)
  have hra := hr a (by omega) (by omega)
  refine summG_of Tryz.func184 rfl rfl 220 rfl (by simp) (by simp) (fun i B B' h1 h2 => by
    match i, h1, h2 with
    | 0, h1, h2 => cases h1; cases h2; rfl
    | _ + 1, h1, _ => simp at h1) (fun M X J => ?_)
  repeat (first
    | (apply s_a TY; exact rfl)
    | (apply s_t; exact rfl; (first | assumption | omega))
    | apply w_seq
    | apply w_region
    | apply s_nil
    | apply t_norm
    | apply w_block
    | (apply w_condT; exact rfl; exact rfl)
    | (apply s_c TY; exact rfl; (first | omega | exact ⟨by omega, by (first | with_reducible assumption | ((with_reducible apply intsF_ne); omega) | assumption)⟩)))
  apply w_loop (fun q : Nat × Nat => ⟨(Ab.upd (Ab.upd (Ab.upd (Ab.upd (Ab.upd (fun _ => .bot) 0 (.ow 0)) 1 (.f (iv ((a : Nat) : Int)))) 4 (.f (.fn 115 [.pt [.sl mm.length (intsF mm)] 0]))) 10 (.f (iv ((q.1 : Nat) : Int)))) 11 (.f (iv ((q.2 : Nat) : Int)))), (Ab.upd (fun _ => none) 0 (some (.arr 3 1 n (cellsA (lst D n))))), 1⟩) (fun q => a + 1 ≤ q.1 ∧ q.1 ≤ i ∧ i ≤ q.2 ∧ q.2 ≤ b) (fun q => q.2 - q.1) (a + 1, b) (⟨Nat.le_refl _, hi1, hi2, Nat.le_refl _⟩) (gh_le ⟨le_upd rfl trivial (le_upd rfl trivial (le_upd rfl trivial (le_upd rfl trivial (le_upd rfl rfl (le_nil _))))), le_hupd rfl (cl_arr _) (le_h0 _ _)⟩)
  rintro ⟨x, y⟩ ⟨q1, q2, q3, q4⟩
  change a + 1 ≤ x at q1
  change x ≤ i at q2
  change i ≤ y at q3
  change y ≤ b at q4
  change W _ _ _ _ (⟨(Ab.upd (Ab.upd (Ab.upd (Ab.upd (Ab.upd (fun _ => .bot) 0 (.ow 0)) 1 (.f (iv ((a : Nat) : Int)))) 4 (.f (.fn 115 [.pt [.sl mm.length (intsF mm)] 0]))) 10 (.f (iv ((x : Nat) : Int)))) 11 (.f (iv ((y : Nat) : Int)))), (Ab.upd (fun _ => none) 0 (some (.arr 3 1 n (cellsA (lst D n))))), 1⟩)
  by_cases hxy : x < y
  · obtain ⟨h, hh⟩ : ∃ h : Nat, ((((x : Nat) : Int)) + ((y : Nat) : Int)) / 2 = ((h : Nat) : Int) := ⟨(x + y) / 2, by omega⟩
    have hX : (cellsA (lst D n))[((h : Nat) : Int).toNat * 1]? = some (.f (iv (D h))) := cells_get _ (by omega) (by omega)
    have HC := cmpW_s mm (D h) (D a) (hr h (by omega) (by omega)) hra
    have hbx := befW_x (w := (wI mm)) (MG.X a h (Nat.le_refl _) (by omega) (by omega) (by omega))
    by_cases hw : wI mm (D a) < wI mm (D h)
    · have hz := cmpZ_lt hw
      have hhi : h < i := Nat.lt_of_not_le fun e => hg h e (by omega) (hbx.2 hw)
      repeat (first
    | (apply s_convW; exact rfl; exact rfl; exact rfl; (first | exact conv_iu (by omega) | exact conv_ui (by omega)))
    | (apply s_bind; exact rfl; exact rfl; exact rfl; exact rfl; exact rfl; exact rfl; exact shr_u (by omega) hh)
    | (apply s_idxArr TY; exact rfl; exact rfl; exact rfl; exact rfl; exact rfl; exact rfl; omega; omega)
    | (apply s_ldArr TY; exact rfl; exact rfl; exact rfl; exact rfl; exact rfl; assumption)
    | (apply s_a TY; exact rfl)
    | (apply s_t; exact rfl; (first | assumption | omega))
    | apply w_seq
    | apply w_region
    | (apply w_draw (id := 5) 9 rfl (by kernel_rfl))
    | apply s_nil
    | apply t_norm
    | apply k_norm
    | apply w_block
    | apply w_skip
    | (apply w_condT; exact rfl; exact rfl)
    | (apply s_k (HC); exact rfl)
    | (apply s_c TY; exact rfl; (first | omega | exact ⟨by omega, by (first | with_reducible assumption | ((with_reducible apply intsF_ne); omega) | assumption)⟩)))
      exact ⟨(h + 1, y), ⟨by show _ ≤ _; omega, by show _ ≤ _; omega, by show _ ≤ _; omega, by show _ ≤ _; omega⟩, by show _ - _ < _ - _; omega, gh_le ⟨le_upd rfl trivial (le_upd rfl trivial (le_upd rfl trivial (le_upd rfl trivial (le_upd rfl rfl (le_nil _))))), le_hupd rfl (cl_arr _) (le_h0 _ _)⟩⟩
    · have hz := cmpZ_ge hw
      have hhi : i ≤ h := Nat.le_of_not_lt fun e => hw (hbx.1 (hl h (by omega) e))
      repeat (first
    | (apply s_convW; exact rfl; exact rfl; exact rfl; (first | exact conv_iu (by omega) | exact conv_ui (by omega)))
    | (apply s_bind; exact rfl; exact rfl; exact rfl; exact rfl; exact rfl; exact rfl; exact shr_u (by omega) hh)
    | (apply s_idxArr TY; exact rfl; exact rfl; exact rfl; exact rfl; exact rfl; exact rfl; omega; omega)
    | (apply s_ldArr TY; exact rfl; exact rfl; exact rfl; exact rfl; exact rfl; assumption)
    | (apply s_a TY; exact rfl)
    | (apply s_t; exact rfl; (first | assumption | omega))
    | (apply s_f; exact rfl; (first | assumption | omega))
    | apply w_seq
    | apply w_region
    | (apply w_draw (id := 5) 9 rfl (by kernel_rfl))
    | apply s_nil
    | apply t_norm
    | apply k_norm
    | apply w_block
    | apply w_skip
    | (apply w_condT; exact rfl; exact rfl)
    | (apply w_condF; exact rfl; exact rfl)
    | (apply s_k (HC); exact rfl)
    | (apply s_c TY; exact rfl; (first | omega | exact ⟨by omega, by (first | with_reducible assumption | ((with_reducible apply intsF_ne); omega) | assumption)⟩)))
      exact ⟨(x, h), ⟨by show _ ≤ _; omega, by show _ ≤ _; omega, by show _ ≤ _; omega, by show _ ≤ _; omega⟩, by show _ - _ < _ - _; omega, gh_le ⟨le_upd rfl trivial (le_upd rfl trivial (le_upd rfl trivial (le_upd rfl trivial (le_upd rfl rfl (le_nil _))))), le_hupd rfl (cl_arr _) (le_h0 _ _)⟩⟩
  · have hxi : x = i := by omega
    subst hxi
    repeat (first
    | (apply s_a TY; exact rfl)
    | (apply s_f; exact rfl; (first | assumption | omega))
    | apply w_seq
    | apply w_region
    | apply s_nil
    | apply t_norm
    | apply t_exit
    | apply k_hit
    | apply w_block
    | apply w_exit
    | (apply w_condF; exact rfl; exact rfl))
    apply w_loop (fun k : Nat => ⟨(Ab.upd (Ab.upd (Ab.upd (fun _ => .bot) 0 (.ow 0)) 10 (.f (iv ((x : Nat) : Int)))) 13 (.f (iv ((k : Nat) : Int)))), (Ab.upd (fun _ => none) 0 (some (.arr 3 1 n (cellsA (lst (rotI D a (a + 1) (k + 1)) n))))), 1⟩) (fun k => a ≤ k ∧ k + 1 ≤ x) (fun k => x - k) a (⟨Nat.le_refl _, hi1⟩) (gh_le ⟨le_upd rfl trivial (le_upd rfl trivial (le_upd rfl rfl (le_nil _))), le_hupd (arrEq (by rw [rot_nil D a (a + 1) (Nat.le_succ a)])) (cl_arr _) (le_h0 _ _)⟩)
    intro k ⟨k1, k2⟩
    have hlk : (lst (rotI D a (a + 1) (k + 1)) n).length = n := lst_len _ _
    by_cases hk : k + 1 < x
    · have hX : (cellsA (lst (rotI D a (a + 1) (k + 1)) n))[((((k : Nat) : Int)) + 1).toNat * 1]? = some (.f (iv ((rotI D a (a + 1) (k + 1)) (k + 1)))) := cells_get _ (by omega) (by omega)
      have hY : (cellsA (lst (rotI D a (a + 1) (k + 1)) n))[((k : Nat) : Int).toNat * 1]? = some (.f (iv ((rotI D a (a + 1) (k + 1)) k))) := cells_get _ (by omega) (by omega)
      have hcs : setAt (setAt (cellsA (lst (rotI D a (a + 1) (k + 1)) n)) (((k : Nat) : Int).toNat * 1) [.f (iv ((rotI D a (a + 1) (k + 1)) (k + 1)))]) (((((k : Nat) : Int)) + 1).toNat * 1) [.f (iv ((rotI D a (a + 1) (k + 1)) k))] = cellsA (lst (rotI D a (a + 1) ((k + 1) + 1)) n) := by
        rw [cells_swap _ (x := k) (y := k + 1) (by omega) (by omega) (by omega) (by omega) (by omega), rot_r D k1]
      repeat (first
    | (apply w_draw4 (id := 11) 15 16 32739 28 rfl (by kernel_rfl) (by kernel_rfl); exact rfl)
    | (apply s_stW TY; exact rfl; exact rfl; exact rfl; exact rfl; exact rfl; (show _ + 1 ≤ _; rw [cellsA_len]; omega); exact rfl; exact rfl; exact (fun _ => rfl))
    | (refine KW.mk ⟨rfl, rfl, rfl, rfl, rfl, rfl, rfl, rfl, rfl, rfl, rfl, rfl, rfl, rfl, rfl, trivial⟩ ?_)
    | (apply s_storeArr TY; exact rfl; exact rfl; exact rfl; exact rfl; exact rfl; (show _ + 1 ≤ _; rw [setAt_length, cellsA_len]; omega))
    | (apply s_idxArr TY; exact rfl; exact rfl; exact rfl; exact rfl; exact rfl; exact rfl; omega; omega)
    | (apply s_ldArr TY; exact rfl; exact rfl; exact rfl; exact rfl; exact rfl; assumption)
    | (apply s_a TY; exact rfl)
    | (apply s_t; exact rfl; (first | assumption | omega))
    | apply w_seq
    | apply w_region
    | apply s_nil
    | apply t_norm
    | apply k_norm
    | apply w_block
    | apply w_skip
    | (apply w_condT; exact rfl; exact rfl)
    | (apply s_c TY; exact rfl; (first | omega | exact ⟨by omega, by (first | with_reducible assumption | ((with_reducible apply intsF_ne); omega) | assumption)⟩)))
      exact ⟨k + 1, ⟨by omega, by omega⟩, by omega, gh_le ⟨le_upd rfl trivial (le_upd rfl trivial (le_upd rfl rfl (le_nil _))), le_hupd (arrEq hcs) (cl_arr _) (le_h0 _ _)⟩⟩
    · have hke : x = k + 1 := by omega
      subst hke
      repeat (first
    | (apply s_a TY; exact rfl)
    | (apply s_f; exact rfl; (first | assumption | omega))
    | apply w_seq
    | apply w_region
    | apply s_nil
    | apply t_norm
    | apply t_exit
    | apply t_ret
    | apply k_hit
    | apply w_exit
    | apply w_ret
    | (apply w_condF; exact rfl; exact rfl)
    | (apply s_c TY; exact rfl; (first | omega | exact ⟨by omega, by (first | with_reducible assumption | ((with_reducible apply intsF_ne); omega) | assumption)⟩)))
      exact lvG_ret (L' := [.arr 3 1 n (cellsA (lst (rotI D a (a + 1) (k + 1)) n))]) (s := (fun _ => .bot)) (nx := 1) (gh_le ⟨le_nil _, le_hupd rfl (cl_arr _) (le_h0 _ _)⟩) (rg0 rfl)
set_option maxRecDepth 100000 in
set_option maxHeartbeats 6400000 in
theorem sym_last (mm : List Int) (n : Nat) (hn : n ≤ 1000) (D : Nat → Int) (a m : Nat) (h1 : a + 1 < m) (h2 : m + 1 ≤ n) (MG : Mrg (wI mm) D a m (m + 1)) (hr : ∀ p, a ≤ p → p < m + 1 → 0 ≤ D p ∧ D p < mm.length) : symC mm n D a m (m + 1) := by
  obtain ⟨i, hi1, hi2, hl, hg⟩ := split_at (P := fun q => ¬ befW (wI mm) (D m) (D q)) a (m - a) (fun c e q1 q2 q3 q4 q5 => q4 (by
    by_cases ee : c = e
    · subst ee; exact q5
    · exact befW_trans q5 (MG.L c e q1 (by omega) (by omega))))
  rw [show a + (m - a) = m by omega] at hi2 hg
  have hg2 : ∀ q, i ≤ q → q < m → befW (wI mm) (D m) (D q) := fun q q1 q2 => Classical.byContradiction fun h => hg q q1 q2 h
  refine ⟨rotI D i m (m + 1), res_last MG hi1 hi2 hl hg2, ?_⟩
  have hln : (lst D n).length = n := lst_len _ _
  have hA : (cellsA (lst D n))[((m : Nat) : Int).toNat * 1]? = some (.f (iv (D m))) := cells_get _ (by omega) (by omega)
  have hra := hr m (by omega) (by omega)
  refine summG_of Tryz.func184 rfl rfl 220 rfl (by simp) (by simp) (fun i B B' h1 h2 => by
    match i, h1, h2 with
    | 0, h1, h2 => cases h1; cases h2; rfl
    | _ + 1, h1, _ => simp at h1) (fun M X J => ?_)
  repeat (first
    | (apply s_a TY; exact rfl)
    | (apply s_t; exact rfl; (first | assumption | omega))
    | (apply s_f; exact rfl; (first | assumption | omega))
    | apply w_seq
    | apply w_region
    | apply s_nil
    | apply t_norm
    | apply w_block
    | apply w_skip
    | (apply w_condT; exact rfl; exact rfl)
    | (apply w_condF; exact rfl; exact rfl)
    | (apply s_c TY; exact rfl; (first | omega | exact ⟨by omega, by (first | with_reducible assumption | ((with_reducible apply intsF_ne); omega) | assumption)⟩)))
  apply w_loop (fun q : Nat × Nat => ⟨(Ab.upd (Ab.upd (Ab.upd (Ab.upd (Ab.upd (fun _ => .bot) 0 (.ow 0)) 2 (.f (iv ((m : Nat) : Int)))) 4 (.f (.fn 115 [.pt [.sl mm.length (intsF mm)] 0]))) 14 (.f (iv ((q.1 : Nat) : Int)))) 15 (.f (iv ((q.2 : Nat) : Int)))), (Ab.upd (fun _ => none) 0 (some (.arr 3 1 n (cellsA (lst D n))))), 1⟩) (fun q => a ≤ q.1 ∧ q.1 ≤ i ∧ i ≤ q.2 ∧ q.2 ≤ m) (fun q => q.2 - q.1) (a, m) (⟨Nat.le_refl _, hi1, hi2, Nat.le_refl _⟩) (gh_le ⟨le_upd rfl trivial (le_upd rfl trivial (le_upd rfl trivial (le_upd rfl trivial (le_upd rfl rfl (le_nil _))))), le_hupd rfl (cl_arr _) (le_h0 _ _)⟩)
  rintro ⟨x, y⟩ ⟨q1, q2, q3, q4⟩
  change a ≤ x at q1
  change x ≤ i at q2
  change i ≤ y at q3
  change y ≤ m at q4
  change W _ _ _ _ (⟨(Ab.upd (Ab.upd (Ab.upd (Ab.upd (Ab.upd (fun _ => .bot) 0 (.ow 0)) 2 (.f (iv ((m : Nat) : Int)))) 4 (.f (.fn 115 [.pt [.sl mm.length (intsF mm)] 0]))) 14 (.f (iv ((x : Nat) : Int)))) 15 (.f (iv ((y : Nat) : Int)))), (Ab.upd (fun _ => none) 0 (some (.arr 3 1 n (cellsA (lst D n))))), 1⟩)
  by_cases hxy : x < y
  · obtain ⟨h, hh⟩ : ∃ h : Nat, ((((x : Nat) : Int)) + ((y : Nat) : Int)) / 2 = ((h : Nat) : Int) := ⟨(x + y) / 2, by omega⟩
    have hX : (cellsA (lst D n))[((h : Nat) : Int).toNat * 1]? = some (.f (iv (D h))) := cells_get _ (by omega) (by omega)
    have HC := cmpW_s mm (D m) (D h) hra (hr h (by omega) (by omega))
    have hbx := befW_x (w := (wI mm)) (MG.X h m (by omega) (by omega) (Nat.le_refl _) (by omega))
    by_cases hw : wI mm (D h) < wI mm (D m)
    · have hz := cmpZ_lt hw
      have hhi : i ≤ h := Nat.le_of_not_lt fun e => hl h (by omega) e (hbx.2 hw)
      repeat (first
    | (apply s_convW; exact rfl; exact rfl; exact rfl; (first | exact conv_iu (by omega) | exact conv_ui (by omega)))
    | (apply s_bind; exact rfl; exact rfl; exact rfl; exact rfl; exact rfl; exact rfl; exact shr_u (by omega) hh)
    | (apply s_idxArr TY; exact rfl; exact rfl; exact rfl; exact rfl; exact rfl; exact rfl; omega; omega)
    | (apply s_ldArr TY; exact rfl; exact rfl; exact rfl; exact rfl; exact rfl; assumption)
    | (apply s_a TY; exact rfl)
    | (apply s_t; exact rfl; (first | assumption | omega))
    | apply w_seq
    | apply w_region
    | (apply w_draw (id := 17) 9 rfl (by kernel_rfl))
    | apply s_nil
    | apply t_norm
    | apply k_norm
    | apply w_block
    | apply w_skip
    | (apply w_condT; exact rfl; exact rfl)
    | (apply w_condF; exact rfl; exact rfl)
    | (apply s_k (HC); exact rfl)
    | (apply s_c TY; exact rfl; (first | omega | exact ⟨by omega, by (first | with_reducible assumption | ((with_reducible apply intsF_ne); omega) | assumption)⟩)))
      exact ⟨(x, h), ⟨by show _ ≤ _; omega, by show _ ≤ _; omega, by show _ ≤ _; omega, by show _ ≤ _; omega⟩, by show _ - _ < _ - _; omega, gh_le ⟨le_upd rfl trivial (le_upd rfl trivial (le_upd rfl trivial (le_upd rfl trivial (le_upd rfl rfl (le_nil _))))), le_hupd rfl (cl_arr _) (le_h0 _ _)⟩⟩
    · have hz := cmpZ_ge hw
      have hhi : h < i := Nat.lt_of_not_le fun e => hw (hbx.1 (hg2 h e (by omega)))
      repeat (first
    | (apply s_convW; exact rfl; exact rfl; exact rfl; (first | exact conv_iu (by omega) | exact conv_ui (by omega)))
    | (apply s_bind; exact rfl; exact rfl; exact rfl; exact rfl; exact rfl; exact rfl; exact shr_u (by omega) hh)
    | (apply s_idxArr TY; exact rfl; exact rfl; exact rfl; exact rfl; exact rfl; exact rfl; omega; omega)
    | (apply s_ldArr TY; exact rfl; exact rfl; exact rfl; exact rfl; exact rfl; assumption)
    | (apply s_a TY; exact rfl)
    | (apply s_t; exact rfl; (first | assumption | omega))
    | (apply s_f; exact rfl; (first | assumption | omega))
    | apply w_seq
    | apply w_region
    | (apply w_draw (id := 17) 9 rfl (by kernel_rfl))
    | apply s_nil
    | apply t_norm
    | apply k_norm
    | apply w_block
    | apply w_skip
    | (apply w_condT; exact rfl; exact rfl)
    | (apply s_k (HC); exact rfl)
    | (apply s_c TY; exact rfl; (first | omega | exact ⟨by omega, by (first | with_reducible assumption | ((with_reducible apply intsF_ne); omega) | assumption)⟩)))
      exact ⟨(h + 1, y), ⟨by show _ ≤ _; omega, by show _ ≤ _; omega, by show _ ≤ _; omega, by show _ ≤ _; omega⟩, by show _ - _ < _ - _; omega, gh_le ⟨le_upd rfl trivial (le_upd rfl trivial (le_upd rfl trivial (le_upd rfl trivial (le_upd rfl rfl (le_nil _))))), le_hupd rfl (cl_arr _) (le_h0 _ _)⟩⟩
  · have hxi : x = i := by omega
    subst hxi
    repeat (first
    | (apply s_a TY; exact rfl)
    | (apply s_f; exact rfl; (first | assumption | omega))
    | apply w_seq
    | apply w_region
    | apply s_nil
    | apply t_norm
    | apply t_exit
    | apply k_hit
    | apply w_block
    | apply w_exit
    | (apply w_condF; exact rfl; exact rfl))
    apply w_loop (fun k : Nat => ⟨(Ab.upd (Ab.upd (Ab.upd (fun _ => .bot) 0 (.ow 0)) 14 (.f (iv ((x : Nat) : Int)))) 17 (.f (iv ((k : Nat) : Int)))), (Ab.upd (fun _ => none) 0 (some (.arr 3 1 n (cellsA (lst (rotI D k m (m + 1)) n))))), 1⟩) (fun k => x ≤ k ∧ k ≤ m) (fun k => k) m (⟨hi2, Nat.le_refl _⟩) (gh_le ⟨le_upd rfl trivial (le_upd rfl trivial (le_upd rfl rfl (le_nil _))), le_hupd (arrEq (by rw [rot_nil2 D m (m + 1) (Nat.le_succ m)])) (cl_arr _) (le_h0 _ _)⟩)
    intro k ⟨k1, k2⟩
    by_cases hk : x < k
    · obtain ⟨k, rfl⟩ : ∃ k', k = k' + 1 := ⟨k - 1, by omega⟩
      have hlk : (lst (rotI D (k + 1) m (m + 1)) n).length = n := lst_len _ _
      have hX : (cellsA (lst (rotI D (k + 1) m (m + 1)) n))[((((k + 1 : Nat) : Int)) - 1).toNat * 1]? = some (.f (iv ((rotI D (k + 1) m (m + 1)) k))) := cells_get _ (by omega) (by omega)
      have hY : (cellsA (lst (rotI D (k + 1) m (m + 1)) n))[((k + 1 : Nat) : Int).toNat * 1]? = some (.f (iv ((rotI D (k + 1) m (m + 1)) (k + 1)))) := cells_get _ (by omega) (by omega)
      have hcs : setAt (setAt (cellsA (lst (rotI D (k + 1) m (m + 1)) n)) (((k + 1 : Nat) : Int).toNat * 1) [.f (iv ((rotI D (k + 1) m (m + 1)) k))]) (((((k + 1 : Nat) : Int)) - 1).toNat * 1) [.f (iv ((rotI D (k + 1) m (m + 1)) (k + 1)))] = cellsA (lst (rotI D k m (m + 1)) n) := by
        rw [cells_swap _ (x := k + 1) (y := k) (by omega) (by omega) (by omega) (by omega) (by omega), rot_l D k2]
      repeat (first
    | (apply w_draw4 (id := 23) 15 16 32739 28 rfl (by kernel_rfl) (by kernel_rfl); exact rfl)
    | (apply s_stW TY; exact rfl; exact rfl; exact rfl; exact rfl; exact rfl; (show _ + 1 ≤ _; rw [cellsA_len]; omega); exact rfl; exact rfl; exact (fun _ => rfl))
    | (refine KW.mk ⟨rfl, rfl, rfl, rfl, rfl, rfl, rfl, rfl, rfl, rfl, rfl, rfl, rfl, rfl, rfl, trivial⟩ ?_)
    | (apply s_storeArr TY; exact rfl; exact rfl; exact rfl; exact rfl; exact rfl; (show _ + 1 ≤ _; rw [setAt_length, cellsA_len]; omega))
    | (apply s_idxArr TY; exact rfl; exact rfl; exact rfl; exact rfl; exact rfl; exact rfl; omega; omega)
    | (apply s_ldArr TY; exact rfl; exact rfl; exact rfl; exact rfl; exact rfl; assumption)
    | (apply s_a TY; exact rfl)
    | (apply s_t; exact rfl; (first | assumption | omega))
    | apply w_seq
    | apply w_region
    | apply s_nil
    | apply t_norm
    | apply k_norm
    | apply w_block
    | apply w_skip
    | (apply w_condT; exact rfl; exact rfl)
    | (apply s_c TY; exact rfl; (first | omega | exact ⟨by omega, by (first | with_reducible assumption | ((with_reducible apply intsF_ne); omega) | assumption)⟩)))
      exact ⟨k, ⟨by omega, by omega⟩, by omega, gh_le ⟨le_upd (congrArg (fun z : Int => AV.f (iv z)) (show ((k : Nat) : Int) = ((k + 1 : Nat) : Int) - 1 by omega)) trivial (le_upd rfl trivial (le_upd rfl rfl (le_nil _))), le_hupd (arrEq hcs) (cl_arr _) (le_h0 _ _)⟩⟩
    · have hke : k = x := by omega
      subst hke
      repeat (first
    | (apply s_a TY; exact rfl)
    | (apply s_f; exact rfl; (first | assumption | omega))
    | apply w_seq
    | apply w_region
    | apply s_nil
    | apply t_norm
    | apply t_exit
    | apply t_ret
    | apply k_hit
    | apply w_exit
    | apply w_ret
    | (apply w_condF; exact rfl; exact rfl))
      exact lvG_ret (L' := [.arr 3 1 n (cellsA (lst (rotI D k m (m + 1)) n))]) (s := (fun _ => .bot)) (nx := 1) (gh_le ⟨le_nil _, le_hupd rfl (cl_arr _) (le_h0 _ _)⟩) (rg0 rfl)
end Go.Proofs.YtenkgipcblfocaaGreat
namespace Go.Proofs.YtenkgipcblfocaaGreat
open Go Go.RowKit Go.Proofs Go.Shelf Go.Ab
theorem rot_rng {D : Nat → Int} {a s m e b : Nat} {Q : Int → Prop} (h1 : a ≤ s) (h2 : s ≤ m) (h3 : m ≤ e) (h4 : e ≤ b) (h : ∀ p, a ≤ p → p < b → Q (D p)) : ∀ p, a ≤ p → p < b → Q (rotI D s m e p) := fun p p1 p2 => by
  obtain ⟨q, q1, q2, q3⟩ := (rot_in h1 h2 h3 h4).1 ⟨p, p1, p2, rfl⟩
  rw [← q3]; exact h q q1 q2
set_option maxRecDepth 100000 in
set_option maxHeartbeats 25600000 in
theorem sym_gen (mm : List Int) (n : Nat) (hn : n ≤ 1000) (D : Nat → Int) (a m b : Nat) (h1 : a + 1 < m) (h2 : m + 1 < b) (h3 : b ≤ n) (MG : Mrg (wI mm) D a m b) (hr : ∀ p, a ≤ p → p < b → 0 ≤ D p ∧ D p < mm.length) (IH : ∀ (D' : Nat → Int) (a' m' b' : Nat), b' - a' < b - a → a' < m' → m' < b' → b' ≤ n → Mrg (wI mm) D' a' m' b' → (∀ p, a' ≤ p → p < b' → 0 ≤ D' p ∧ D' p < mm.length) → symC mm n D' a' m' b') : symC mm n D a m b := by
  obtain ⟨mid, hh⟩ : ∃ mid : Nat, (((a : Nat) : Int) + ((b : Nat) : Int)) / 2 = ((mid : Nat) : Int) := ⟨(a + b) / 2, by omega⟩
  obtain ⟨lo, hi, hcase⟩ : ∃ lo hi : Nat, (mid < m ∧ lo + b = mid + m ∧ hi = mid) ∨ (m ≤ mid ∧ lo = a ∧ hi = m) := by
    by_cases h : mid < m
    · exact ⟨mid + m - b, mid, .inl ⟨h, by omega, rfl⟩⟩
    · exact ⟨a, m, .inr ⟨by omega, rfl, rfl⟩⟩
  obtain ⟨s, s1, s2, hl, hg⟩ := split_at (P := fun c => ¬ befW (wI mm) (D (mid + m - 1 - c)) (D c)) lo (hi - lo) (fun c e q1 q2 q3 q4 q5 => q4 (cut_mono MG.L MG.R ⟨by omega, by omega⟩ (lo := lo) (hi := hi) (by omega) (by omega) (by omega) (by omega) q1 q2 (by omega) q5))
  rw [show lo + (hi - lo) = hi by omega] at s2 hg
  have hg2 : ∀ c, s ≤ c → c < hi → befW (wI mm) (D (mid + m - 1 - c)) (D c) := fun c q1 q2 => Classical.byContradiction fun h => hg c q1 q2 h
  have CT := cut_at MG ⟨by omega, by omega⟩ (mid := mid) (by omega) hcase ⟨s1, s2⟩ hl hg2
  obtain ⟨e, he⟩ : ∃ e : Nat, e = mid + m - s := ⟨_, rfl⟩
  rw [← he] at CT
  have hec : ((e : Nat) : Int) = ((mid : Nat) : Int) + ((m : Nat) : Int) - ((s : Nat) : Int) := by omega
  have c1 := CT.hs
  have c2 := CT.he
  have hrR := rot_rng (Q := fun z => 0 ≤ z ∧ z < mm.length) c1.1 c1.2.1 c2.1 c2.2.1 hr
  have M1 := CT.m1 MG
  obtain ⟨R, hR⟩ : ∃ R, R = rotI D s m e := ⟨_, rfl⟩
  rw [← hR] at hrR M1
  obtain ⟨E1, r1, A1⟩ : ∃ E1, Res (wI mm) R E1 a mid ∧ ((a < s ∧ s < mid ∧ SummG Tryz.prog GG 184 [.arr 3 1 n (cellsA (lst R n))] [.ow 0, .f (iv ((a : Nat) : Int)), .f (iv ((s : Nat) : Int)), .f (iv ((mid : Nat) : Int)), .f (.fn 115 [.pt [.sl mm.length (intsF mm)] 0])] (.f (.tup [])) [.arr 3 1 n (cellsA (lst E1 n))]) ∨ (¬ (a < s ∧ s < mid) ∧ E1 = R)) := by
    by_cases h : a < s ∧ s < mid
    · obtain ⟨E1, r1, K1⟩ := IH R a s mid (by omega) h.1 h.2 (by omega) M1 (fun p q1 q2 => hrR p q1 (by omega))
      exact ⟨E1, r1, .inl ⟨h.1, h.2, K1⟩⟩
    · refine ⟨R, res_same ?_, .inr ⟨h, rfl⟩⟩
      by_cases hs : s = a
      · have := CT.r2; rw [← hR, hs] at this; exact this
      · have hs2 : s = mid := by omega
        have := CT.r1; rw [← hR, hs2] at this; exact this
  have hE1 : ∀ p, mid ≤ p → E1 p = R p := fun p hp => r1.out p (.inr hp)
  have M2 := CT.m2 MG (E := E1) (fun p hp => by rw [hE1 p hp, hR])
  obtain ⟨E2, r2, A2⟩ : ∃ E2, Res (wI mm) E1 E2 mid b ∧ ((mid < e ∧ e < b ∧ SummG Tryz.prog GG 184 [.arr 3 1 n (cellsA (lst E1 n))] [.ow 0, .f (iv ((mid : Nat) : Int)), .f (iv (((mid : Nat) : Int) + ((m : Nat) : Int) - ((s : Nat) : Int))), .f (iv ((b : Nat) : Int)), .f (.fn 115 [.pt [.sl mm.length (intsF mm)] 0])] (.f (.tup [])) [.arr 3 1 n (cellsA (lst E2 n))]) ∨ (¬ (mid < e ∧ e < b) ∧ E2 = E1)) := by
    by_cases h : mid < e ∧ e < b
    · obtain ⟨E2, r2, K2⟩ := IH E1 mid e b (by omega) h.1 h.2 (by omega) M2 (fun p q1 q2 => by rw [hE1 p q1]; exact hrR p (by omega) q2)
      rw [hec] at K2
      exact ⟨E2, r2, .inl ⟨h.1, h.2, K2⟩⟩
    · refine ⟨E1, res_same ?_, .inr ⟨h, rfl⟩⟩
      by_cases hs : e = mid
      · have := M2.R; rw [hs] at this; exact this
      · have hs2 : e = b := by omega
        have := M2.L; rw [hs2] at this; exact this
  refine ⟨E2, res_join CT ⟨by omega, by omega⟩ (by rw [← hR]; exact r1) r2, ?_⟩
  clear IH M1 M2 r1 r2 hE1 hrR
  have hln : (lst D n).length = n := lst_len _ _
  refine summG_of Tryz.func184 rfl rfl 220 rfl (by simp) (by simp) (fun i B B' h1 h2 => by
    match i, h1, h2 with
    | 0, h1, h2 => cases h1; cases h2; rfl
    | _ + 1, h1, _ => simp at h1) (fun M X J => ?_)
  repeat (first
    | (apply s_convW; exact rfl; exact rfl; exact rfl; (first | exact conv_iu (by omega) | exact conv_ui (by omega)))
    | (apply s_bind; exact rfl; exact rfl; exact rfl; exact rfl; exact rfl; exact rfl; exact shr_u (by omega) hh)
    | (apply s_a TY; exact rfl)
    | (apply s_f; exact rfl; (first | assumption | omega))
    | apply w_seq
    | apply w_region
    | apply s_nil
    | apply t_norm
    | apply w_skip
    | (apply w_condF; exact rfl; exact rfl)
    | (apply s_c TY; exact rfl; (first | omega | exact ⟨by omega, by (first | with_reducible assumption | ((with_reducible apply intsF_ne); omega) | assumption)⟩)))
  rcases hcase with ⟨k1, k2, k3⟩ | ⟨k1, k2, k3⟩
  all_goals
    repeat (first
    | (apply s_a TY; exact rfl)
    | (apply s_t; exact rfl; (first | assumption | omega))
    | (apply s_f; exact rfl; (first | assumption | omega))
    | apply w_seq
    | apply w_region
    | apply s_nil
    | apply t_norm
    | apply w_block
    | (apply w_condT; exact rfl; exact rfl)
    | (apply w_condF; exact rfl; exact rfl)
    | (apply s_c TY; exact rfl; (first | omega | exact ⟨by omega, by (first | with_reducible assumption | ((with_reducible apply intsF_ne); omega) | assumption)⟩)))
    apply w_loop (fun q : Nat × Nat => ⟨(Ab.upd (Ab.upd (Ab.upd (Ab.upd (Ab.upd (Ab.upd (Ab.upd (Ab.upd (Ab.upd (Ab.upd (fun _ => .bot) 0 (.ow 0)) 1 (.f (iv ((a : Nat) : Int)))) 2 (.f (iv ((m : Nat) : Int)))) 3 (.f (iv ((b : Nat) : Int)))) 4 (.f (.fn 115 [.pt [.sl mm.length (intsF mm)] 0]))) 18 (.f (iv ((mid : Nat) : Int)))) 19 (.f (iv (((mid : Nat) : Int) + ((m : Nat) : Int))))) 20 (.f (iv ((q.1 : Nat) : Int)))) 21 (.f (iv ((q.2 : Nat) : Int)))) 22 (.f (iv (((mid : Nat) : Int) + ((m : Nat) : Int) - 1)))), (Ab.upd (fun _ => none) 0 (some (.arr 3 1 n (cellsA (lst D n))))), 1⟩) (fun q => lo ≤ q.1 ∧ q.1 ≤ s ∧ s ≤ q.2 ∧ q.2 ≤ hi) (fun q => q.2 - q.1) (lo, hi) (⟨Nat.le_refl _, s1, s2, Nat.le_refl _⟩) (gh_le ⟨le_upd rfl trivial (le_upd (congrArg (fun z : Int => AV.f (iv z)) (by omega)) trivial (le_upd (congrArg (fun z : Int => AV.f (iv z)) (by omega)) trivial (le_upd rfl trivial (le_upd rfl trivial (le_upd rfl trivial (le_upd rfl trivial (le_upd rfl trivial (le_upd rfl trivial (le_upd rfl rfl (le_nil _)))))))))), le_hupd rfl (cl_arr _) (le_h0 _ _)⟩)
    rintro ⟨x, y⟩ ⟨q1, q2, q3, q4⟩
    change lo ≤ x at q1
    change x ≤ s at q2
    change s ≤ y at q3
    change y ≤ hi at q4
    change W _ _ _ _ (⟨(Ab.upd (Ab.upd (Ab.upd (Ab.upd (Ab.upd (Ab.upd (Ab.upd (Ab.upd (Ab.upd (Ab.upd (fun _ => .bot) 0 (.ow 0)) 1 (.f (iv ((a : Nat) : Int)))) 2 (.f (iv ((m : Nat) : Int)))) 3 (.f (iv ((b : Nat) : Int)))) 4 (.f (.fn 115 [.pt [.sl mm.length (intsF mm)] 0]))) 18 (.f (iv ((mid : Nat) : Int)))) 19 (.f (iv (((mid : Nat) : Int) + ((m : Nat) : Int))))) 20 (.f (iv ((x : Nat) : Int)))) 21 (.f (iv ((y : Nat) : Int)))) 22 (.f (iv (((mid : Nat) : Int) + ((m : Nat) : Int) - 1)))), (Ab.upd (fun _ => none) 0 (some (.arr 3 1 n (cellsA (lst D n))))), 1⟩)
    by_cases hxy : x < y
    · obtain ⟨h, hh⟩ : ∃ h : Nat, ((((x : Nat) : Int)) + ((y : Nat) : Int)) / 2 = ((h : Nat) : Int) := ⟨(x + y) / 2, by omega⟩
      have hX : (cellsA (lst D n))[((((mid : Nat) : Int) + ((m : Nat) : Int) - 1) - ((h : Nat) : Int)).toNat * 1]? = some (.f (iv (D (mid + m - 1 - h)))) := cells_get _ (by omega) (by omega)
      have hY : (cellsA (lst D n))[((h : Nat) : Int).toNat * 1]? = some (.f (iv (D h))) := cells_get _ (by omega) (by omega)
      have HC := cmpW_s mm (D (mid + m - 1 - h)) (D h) (hr _ (by omega) (by omega)) (hr h (by omega) (by omega))
      have hbx := befW_x (w := (wI mm)) (MG.X h (mid + m - 1 - h) (by omega) (by omega) (by omega) (by omega))
      by_cases hw : wI mm (D h) < wI mm (D (mid + m - 1 - h))
      · have hz := cmpZ_lt hw
        have hhi : s ≤ h := Nat.le_of_not_lt fun e => hl h (by omega) e (hbx.2 hw)
        repeat (first
    | (apply s_convW; exact rfl; exact rfl; exact rfl; (first | exact conv_iu (by omega) | exact conv_ui (by omega)))
    | (apply s_bind; exact rfl; exact rfl; exact rfl; exact rfl; exact rfl; exact rfl; exact shr_u (by omega) hh)
    | (apply s_idxArr TY; exact rfl; exact rfl; exact rfl; exact rfl; exact rfl; exact rfl; omega; omega)
    | (apply s_ldArr TY; exact rfl; exact rfl; exact rfl; exact rfl; exact rfl; assumption)
    | (apply s_a TY; exact rfl)
    | (apply s_t; exact rfl; (first | assumption | omega))
    | apply w_seq
    | apply w_region
    | (apply w_draw (id := 35) 11 rfl (by kernel_rfl))
    | apply s_nil
    | apply t_norm
    | apply k_norm
    | apply w_block
    | apply w_skip
    | (apply w_condT; exact rfl; exact rfl)
    | (apply w_condF; exact rfl; exact rfl)
    | (apply s_k (HC); exact rfl)
    | (apply s_c TY; exact rfl; (first | omega | exact ⟨by omega, by (first | with_reducible assumption | ((with_reducible apply intsF_ne); omega) | assumption)⟩)))
        exact ⟨(x, h), ⟨by show _ ≤ _; omega, by show _ ≤ _; omega, by show _ ≤ _; omega, by show _ ≤ _; omega⟩, by show _ - _ < _ - _; omega, gh_le ⟨le_upd rfl trivial (le_upd rfl trivial (le_upd rfl trivial (le_upd rfl trivial (le_upd rfl trivial (le_upd rfl trivial (le_upd rfl trivial (le_upd rfl trivial (le_upd rfl trivial (le_upd rfl rfl (le_nil _)))))))))), le_hupd rfl (cl_arr _) (le_h0 _ _)⟩⟩
      · have hz := cmpZ_ge hw
        have hhi : h < s := Nat.lt_of_not_le fun e => hw (hbx.1 (hg2 h e (by omega)))
        repeat (first
    | (apply s_convW; exact rfl; exact rfl; exact rfl; (first | exact conv_iu (by omega) | exact conv_ui (by omega)))
    | (apply s_bind; exact rfl; exact rfl; exact rfl; exact rfl; exact rfl; exact rfl; exact shr_u (by omega) hh)
    | (apply s_idxArr TY; exact rfl; exact rfl; exact rfl; exact rfl; exact rfl; exact rfl; omega; omega)
    | (apply s_ldArr TY; exact rfl; exact rfl; exact rfl; exact rfl; exact rfl; assumption)
    | (apply s_a TY; exact rfl)
    | (apply s_t; exact rfl; (first | assumption | omega))
    | (apply s_f; exact rfl; (first | assumption | omega))
    | apply w_seq
    | apply w_region
    | (apply w_draw (id := 35) 11 rfl (by kernel_rfl))
    | apply s_nil
    | apply t_norm
    | apply k_norm
    | apply w_block
    | apply w_skip
    | (apply w_condT; exact rfl; exact rfl)
    | (apply s_k (HC); exact rfl)
    | (apply s_c TY; exact rfl; (first | omega | exact ⟨by omega, by (first | with_reducible assumption | ((with_reducible apply intsF_ne); omega) | assumption)⟩)))
        exact ⟨(h + 1, y), ⟨by show _ ≤ _; omega, by show _ ≤ _; omega, by show _ ≤ _; omega, by show _ ≤ _; omega⟩, by show _ - _ < _ - _; omega, gh_le ⟨le_upd rfl trivial (le_upd rfl trivial (le_upd rfl trivial (le_upd rfl trivial (le_upd rfl trivial (le_upd rfl trivial (le_upd rfl trivial (le_upd rfl trivial (le_upd rfl trivial (le_upd rfl rfl (le_nil _)))))))))), le_hupd rfl (cl_arr _) (le_h0 _ _)⟩⟩
    · have hxi : x = s := by omega
      subst hxi
      by_cases h0 : x < m ∧ m < e
      · obtain ⟨h0a, h0b⟩ := h0
        have HRt := rotate_g D n x m e mm hn h0a h0b (by omega)
        rw [← hR, hec] at HRt
        rcases A1 with ⟨h1a, h1b, K1⟩ | ⟨h1n, e1⟩
        · rcases A2 with ⟨h2a, h2b, K2⟩ | ⟨h2n, e2⟩
          · try (exfalso; omega)
            all_goals
              repeat (first
    | (apply s_callG [0] HRt; exact rfl; exact rfl; exact rfl; (first | exact ⟨congrArg some (arrA_ren _ _ _).symm, trivial⟩ | exact ⟨congrArg some ((arrA_ren _ _ _).trans (arrA_ren _ _ _).symm), trivial⟩); exact rfl; exact ⟨rfl, rfl⟩)
    | (apply s_callG [0] K1; exact rfl; exact rfl; exact rfl; (first | exact ⟨congrArg some (arrA_ren _ _ _).symm, trivial⟩ | exact ⟨congrArg some ((arrA_ren _ _ _).trans (arrA_ren _ _ _).symm), trivial⟩); exact rfl; exact ⟨rfl, rfl⟩)
    | (apply s_callG [0] K2; exact rfl; exact rfl; exact rfl; (first | exact ⟨congrArg some (arrA_ren _ _ _).symm, trivial⟩ | exact ⟨congrArg some ((arrA_ren _ _ _).trans (arrA_ren _ _ _).symm), trivial⟩); exact rfl; exact ⟨rfl, rfl⟩)
    | (apply s_a TY; exact rfl)
    | (apply s_t; exact rfl; (first | assumption | omega))
    | (apply s_f; exact rfl; (first | assumption | omega))
    | apply w_seq
    | apply w_region
    | apply s_nil
    | apply t_norm
    | apply t_exit
    | apply k_hit
    | apply w_exit
    | (apply w_condT; exact rfl; exact rfl)
    | (apply w_condF; exact rfl; exact rfl)
    | (apply s_c TY; exact rfl; (first | omega | exact ⟨by omega, by (first | with_reducible assumption | ((with_reducible apply intsF_ne); omega) | assumption)⟩)))
              exact lvG_norm (L' := [.arr 3 1 n (cellsA (lst E2 n))]) (s := (fun _ => .bot)) (nx := 1) (gh_le ⟨le_nil _, le_hupd (by first | exact congrArg some (arrA_ren _ _ _) | rfl) (cl_arr _) (le_h0 _ _)⟩) (rg0 rfl)
          · subst e2
            by_cases h2 : mid < e
            · have h2b : ¬ e < b := fun h => h2n ⟨h2, h⟩
              try (exfalso; omega)
              all_goals
                repeat (first
    | (apply s_callG [0] HRt; exact rfl; exact rfl; exact rfl; (first | exact ⟨congrArg some (arrA_ren _ _ _).symm, trivial⟩ | exact ⟨congrArg some ((arrA_ren _ _ _).trans (arrA_ren _ _ _).symm), trivial⟩); exact rfl; exact ⟨rfl, rfl⟩)
    | (apply s_callG [0] K1; exact rfl; exact rfl; exact rfl; (first | exact ⟨congrArg some (arrA_ren _ _ _).symm, trivial⟩ | exact ⟨congrArg some ((arrA_ren _ _ _).trans (arrA_ren _ _ _).symm), trivial⟩); exact rfl; exact ⟨rfl, rfl⟩)
    | (apply s_a TY; exact rfl)
    | (apply s_t; exact rfl; (first | assumption | omega))
    | (apply s_f; exact rfl; (first | assumption | omega))
    | apply w_seq
    | apply w_region
    | apply s_nil
    | apply t_norm
    | apply t_exit
    | apply k_hit
    | apply w_exit
    | apply w_skip
    | (apply w_condT; exact rfl; exact rfl)
    | (apply w_condF; exact rfl; exact rfl)
    | (apply s_c TY; exact rfl; (first | omega | exact ⟨by omega, by (first | with_reducible assumption | ((with_reducible apply intsF_ne); omega) | assumption)⟩)))
                exact lvG_norm (L' := [.arr 3 1 n (cellsA (lst E2 n))]) (s := (fun _ => .bot)) (nx := 1) (gh_le ⟨le_nil _, le_hupd (by first | exact congrArg some (arrA_ren _ _ _) | rfl) (cl_arr _) (le_h0 _ _)⟩) (rg0 rfl)
            · try (exfalso; omega)
              all_goals
                skip
                exact lvG_norm (L' := [.arr 3 1 n (cellsA (lst E2 n))]) (s := (fun _ => .bot)) (nx := 1) (gh_le ⟨le_nil _, le_hupd (by first | exact congrArg some (arrA_ren _ _ _) | rfl) (cl_arr _) (le_h0 _ _)⟩) (rg0 rfl)
        · subst e1
          by_cases h1 : a < x
          · have h1b : ¬ x < mid := fun h => h1n ⟨h1, h⟩
            rcases A2 with ⟨h2a, h2b, K2⟩ | ⟨h2n, e2⟩
            · try (exfalso; omega)
              all_goals
                skip
                exact lvG_norm (L' := [.arr 3 1 n (cellsA (lst E2 n))]) (s := (fun _ => .bot)) (nx := 1) (gh_le ⟨le_nil _, le_hupd (by first | exact congrArg some (arrA_ren _ _ _) | rfl) (cl_arr _) (le_h0 _ _)⟩) (rg0 rfl)
            · subst e2
              by_cases h2 : mid < e
              · have h2b : ¬ e < b := fun h => h2n ⟨h2, h⟩
                try (exfalso; omega)
                all_goals
                  skip
                  exact lvG_norm (L' := [.arr 3 1 n (cellsA (lst E2 n))]) (s := (fun _ => .bot)) (nx := 1) (gh_le ⟨le_nil _, le_hupd (by first | exact congrArg some (arrA_ren _ _ _) | rfl) (cl_arr _) (le_h0 _ _)⟩) (rg0 rfl)
              · try (exfalso; omega)
                all_goals
                  skip
                  exact lvG_norm (L' := [.arr 3 1 n (cellsA (lst E2 n))]) (s := (fun _ => .bot)) (nx := 1) (gh_le ⟨le_nil _, le_hupd (by first | exact congrArg some (arrA_ren _ _ _) | rfl) (cl_arr _) (le_h0 _ _)⟩) (rg0 rfl)
          · rcases A2 with ⟨h2a, h2b, K2⟩ | ⟨h2n, e2⟩
            · try (exfalso; omega)
              all_goals
                repeat (first
    | (apply s_callG [0] HRt; exact rfl; exact rfl; exact rfl; (first | exact ⟨congrArg some (arrA_ren _ _ _).symm, trivial⟩ | exact ⟨congrArg some ((arrA_ren _ _ _).trans (arrA_ren _ _ _).symm), trivial⟩); exact rfl; exact ⟨rfl, rfl⟩)
    | (apply s_callG [0] K2; exact rfl; exact rfl; exact rfl; (first | exact ⟨congrArg some (arrA_ren _ _ _).symm, trivial⟩ | exact ⟨congrArg some ((arrA_ren _ _ _).trans (arrA_ren _ _ _).symm), trivial⟩); exact rfl; exact ⟨rfl, rfl⟩)
    | (apply s_a TY; exact rfl)
    | (apply s_t; exact rfl; (first | assumption | omega))
    | (apply s_f; exact rfl; (first | assumption | omega))
    | apply w_seq
    | apply w_region
    | apply s_nil
    | apply t_norm
    | apply t_exit
    | apply k_hit
    | apply w_exit
    | apply w_skip
    | (apply w_condT; exact rfl; exact rfl)
    | (apply w_condF; exact rfl; exact rfl)
    | (apply s_s; exact rfl)
    | (apply s_c TY; exact rfl; (first | omega | exact ⟨by omega, by (first | with_reducible assumption | ((with_reducible apply intsF_ne); omega) | assumption)⟩)))
                exact lvG_norm (L' := [.arr 3 1 n (cellsA (lst E2 n))]) (s := (fun _ => .bot)) (nx := 1) (gh_le ⟨le_nil _, le_hupd (by first | exact congrArg some (arrA_ren _ _ _) | rfl) (cl_arr _) (le_h0 _ _)⟩) (rg0 rfl)
            · subst e2
              by_cases h2 : mid < e
              · have h2b : ¬ e < b := fun h => h2n ⟨h2, h⟩
                try (exfalso; omega)
                all_goals
                  repeat (first
    | (apply s_callG [0] HRt; exact rfl; exact rfl; exact rfl; (first | exact ⟨congrArg some (arrA_ren _ _ _).symm, trivial⟩ | exact ⟨congrArg some ((arrA_ren _ _ _).trans (arrA_ren _ _ _).symm), trivial⟩); exact rfl; exact ⟨rfl, rfl⟩)
    | (apply s_a TY; exact rfl)
    | (apply s_t; exact rfl; (first | assumption | omega))
    | (apply s_f; exact rfl; (first | assumption | omega))
    | apply w_seq
    | apply w_region
    | apply s_nil
    | apply t_norm
    | apply t_exit
    | apply k_hit
    | apply w_exit
    | apply w_skip
    | (apply w_condT; exact rfl; exact rfl)
    | (apply w_condF; exact rfl; exact rfl)
    | (apply s_s; exact rfl)
    | (apply s_c TY; exact rfl; (first | omega | exact ⟨by omega, by (first | with_reducible assumption | ((with_reducible apply intsF_ne); omega) | assumption)⟩)))
                  exact lvG_norm (L' := [.arr 3 1 n (cellsA (lst E2 n))]) (s := (fun _ => .bot)) (nx := 1) (gh_le ⟨le_nil _, le_hupd (by first | exact congrArg some (arrA_ren _ _ _) | rfl) (cl_arr _) (le_h0 _ _)⟩) (rg0 rfl)
              · try (exfalso; omega)
                all_goals
                  skip
                  exact lvG_norm (L' := [.arr 3 1 n (cellsA (lst E2 n))]) (s := (fun _ => .bot)) (nx := 1) (gh_le ⟨le_nil _, le_hupd (by first | exact congrArg some (arrA_ren _ _ _) | rfl) (cl_arr _) (le_h0 _ _)⟩) (rg0 rfl)
      · have hRD : R = D := by
          rw [hR]
          by_cases h : x < m
          · have : m = e := by omega
            rw [← this]; exact rot_nil D x m (by omega)
          · have : x = m := by omega
            rw [this]; exact rot_nil2 D m e (by omega)
        have h0n := h0
        clear h0
        subst hRD
        by_cases h0 : x < m
        · have h0b : ¬ m < e := fun h => h0n ⟨h0, h⟩
          rcases A1 with ⟨h1a, h1b, K1⟩ | ⟨h1n, e1⟩
          · rcases A2 with ⟨h2a, h2b, K2⟩ | ⟨h2n, e2⟩
            · try (exfalso; omega)
              all_goals
                skip
                exact lvG_norm (L' := [.arr 3 1 n (cellsA (lst E2 n))]) (s := (fun _ => .bot)) (nx := 1) (gh_le ⟨le_nil _, le_hupd (by first | exact congrArg some (arrA_ren _ _ _) | rfl) (cl_arr _) (le_h0 _ _)⟩) (rg0 rfl)
            · subst e2
              by_cases h2 : mid < e
              · have h2b : ¬ e < b := fun h => h2n ⟨h2, h⟩
                try (exfalso; omega)
                all_goals
                  skip
                  exact lvG_norm (L' := [.arr 3 1 n (cellsA (lst E2 n))]) (s := (fun _ => .bot)) (nx := 1) (gh_le ⟨le_nil _, le_hupd (by first | exact congrArg some (arrA_ren _ _ _) | rfl) (cl_arr _) (le_h0 _ _)⟩) (rg0 rfl)
              · try (exfalso; omega)
                all_goals
                  skip
                  exact lvG_norm (L' := [.arr 3 1 n (cellsA (lst E2 n))]) (s := (fun _ => .bot)) (nx := 1) (gh_le ⟨le_nil _, le_hupd (by first | exact congrArg some (arrA_ren _ _ _) | rfl) (cl_arr _) (le_h0 _ _)⟩) (rg0 rfl)
          · subst e1
            by_cases h1 : a < x
            · have h1b : ¬ x < mid := fun h => h1n ⟨h1, h⟩
              rcases A2 with ⟨h2a, h2b, K2⟩ | ⟨h2n, e2⟩
              · try (exfalso; omega)
                all_goals
                  repeat (first
    | (apply s_callG [0] K2; exact rfl; exact rfl; exact rfl; (first | exact ⟨congrArg some (arrA_ren _ _ _).symm, trivial⟩ | exact ⟨congrArg some ((arrA_ren _ _ _).trans (arrA_ren _ _ _).symm), trivial⟩); exact rfl; exact ⟨rfl, rfl⟩)
    | (apply s_a TY; exact rfl)
    | (apply s_t; exact rfl; (first | assumption | omega))
    | (apply s_f; exact rfl; (first | assumption | omega))
    | apply w_seq
    | apply w_region
    | apply s_nil
    | apply t_norm
    | apply t_exit
    | apply k_hit
    | apply w_exit
    | apply w_skip
    | (apply w_condT; exact rfl; exact rfl)
    | (apply w_condF; exact rfl; exact rfl)
    | (apply s_c TY; exact rfl; (first | omega | exact ⟨by omega, by (first | with_reducible assumption | ((with_reducible apply intsF_ne); omega) | assumption)⟩)))
                  exact lvG_norm (L' := [.arr 3 1 n (cellsA (lst E2 n))]) (s := (fun _ => .bot)) (nx := 1) (gh_le ⟨le_nil _, le_hupd (by first | exact congrArg some (arrA_ren _ _ _) | rfl) (cl_arr _) (le_h0 _ _)⟩) (rg0 rfl)
              · subst e2
                by_cases h2 : mid < e
                · have h2b : ¬ e < b := fun h => h2n ⟨h2, h⟩
                  try (exfalso; omega)
                  all_goals
                    skip
                    exact lvG_norm (L' := [.arr 3 1 n (cellsA (lst E2 n))]) (s := (fun _ => .bot)) (nx := 1) (gh_le ⟨le_nil _, le_hupd (by first | exact congrArg some (arrA_ren _ _ _) | rfl) (cl_arr _) (le_h0 _ _)⟩) (rg0 rfl)
                · try (exfalso; omega)
                  all_goals
                    skip
                    exact lvG_norm (L' := [.arr 3 1 n (cellsA (lst E2 n))]) (s := (fun _ => .bot)) (nx := 1) (gh_le ⟨le_nil _, le_hupd (by first | exact congrArg some (arrA_ren _ _ _) | rfl) (cl_arr _) (le_h0 _ _)⟩) (rg0 rfl)
            · rcases A2 with ⟨h2a, h2b, K2⟩ | ⟨h2n, e2⟩
              · try (exfalso; omega)
                all_goals
                  skip
                  exact lvG_norm (L' := [.arr 3 1 n (cellsA (lst E2 n))]) (s := (fun _ => .bot)) (nx := 1) (gh_le ⟨le_nil _, le_hupd (by first | exact congrArg some (arrA_ren _ _ _) | rfl) (cl_arr _) (le_h0 _ _)⟩) (rg0 rfl)
              · subst e2
                by_cases h2 : mid < e
                · have h2b : ¬ e < b := fun h => h2n ⟨h2, h⟩
                  try (exfalso; omega)
                  all_goals
                    skip
                    exact lvG_norm (L' := [.arr 3 1 n (cellsA (lst E2 n))]) (s := (fun _ => .bot)) (nx := 1) (gh_le ⟨le_nil _, le_hupd (by first | exact congrArg some (arrA_ren _ _ _) | rfl) (cl_arr _) (le_h0 _ _)⟩) (rg0 rfl)
                · try (exfalso; omega)
                  all_goals
                    skip
                    exact lvG_norm (L' := [.arr 3 1 n (cellsA (lst E2 n))]) (s := (fun _ => .bot)) (nx := 1) (gh_le ⟨le_nil _, le_hupd (by first | exact congrArg some (arrA_ren _ _ _) | rfl) (cl_arr _) (le_h0 _ _)⟩) (rg0 rfl)
        · rcases A1 with ⟨h1a, h1b, K1⟩ | ⟨h1n, e1⟩
          · rcases A2 with ⟨h2a, h2b, K2⟩ | ⟨h2n, e2⟩
            · try (exfalso; omega)
              all_goals
                skip
                exact lvG_norm (L' := [.arr 3 1 n (cellsA (lst E2 n))]) (s := (fun _ => .bot)) (nx := 1) (gh_le ⟨le_nil _, le_hupd (by first | exact congrArg some (arrA_ren _ _ _) | rfl) (cl_arr _) (le_h0 _ _)⟩) (rg0 rfl)
            · subst e2
              by_cases h2 : mid < e
              · have h2b : ¬ e < b := fun h => h2n ⟨h2, h⟩
                try (exfalso; omega)
                all_goals
                  skip
                  exact lvG_norm (L' := [.arr 3 1 n (cellsA (lst E2 n))]) (s := (fun _ => .bot)) (nx := 1) (gh_le ⟨le_nil _, le_hupd (by first | exact congrArg some (arrA_ren _ _ _) | rfl) (cl_arr _) (le_h0 _ _)⟩) (rg0 rfl)
              · try (exfalso; omega)
                all_goals
                  repeat (first
    | (apply s_callG [0] K1; exact rfl; exact rfl; exact rfl; (first | exact ⟨congrArg some (arrA_ren _ _ _).symm, trivial⟩ | exact ⟨congrArg some ((arrA_ren _ _ _).trans (arrA_ren _ _ _).symm), trivial⟩); exact rfl; exact ⟨rfl, rfl⟩)
    | (apply s_a TY; exact rfl)
    | (apply s_t; exact rfl; (first | assumption | omega))
    | (apply s_f; exact rfl; (first | assumption | omega))
    | apply w_seq
    | apply w_region
    | apply s_nil
    | apply t_norm
    | apply t_exit
    | apply k_hit
    | apply w_exit
    | apply w_skip
    | (apply w_condT; exact rfl; exact rfl)
    | (apply w_condF; exact rfl; exact rfl)
    | (apply s_s; exact rfl)
    | (apply s_c TY; exact rfl; (first | omega | exact ⟨by omega, by (first | with_reducible assumption | ((with_reducible apply intsF_ne); omega) | assumption)⟩)))
                  exact lvG_norm (L' := [.arr 3 1 n (cellsA (lst E2 n))]) (s := (fun _ => .bot)) (nx := 1) (gh_le ⟨le_nil _, le_hupd (by first | exact congrArg some (arrA_ren _ _ _) | rfl) (cl_arr _) (le_h0 _ _)⟩) (rg0 rfl)
          · subst e1
            by_cases h1 : a < x
            · have h1b : ¬ x < mid := fun h => h1n ⟨h1, h⟩
              rcases A2 with ⟨h2a, h2b, K2⟩ | ⟨h2n, e2⟩
              · try (exfalso; omega)
                all_goals
                  skip
                  exact lvG_norm (L' := [.arr 3 1 n (cellsA (lst E2 n))]) (s := (fun _ => .bot)) (nx := 1) (gh_le ⟨le_nil _, le_hupd (by first | exact congrArg some (arrA_ren _ _ _) | rfl) (cl_arr _) (le_h0 _ _)⟩) (rg0 rfl)
              · subst e2
                by_cases h2 : mid < e
                · have h2b : ¬ e < b := fun h => h2n ⟨h2, h⟩
                  try (exfalso; omega)
                  all_goals
                    skip
                    exact lvG_norm (L' := [.arr 3 1 n (cellsA (lst E2 n))]) (s := (fun _ => .bot)) (nx := 1) (gh_le ⟨le_nil _, le_hupd (by first | exact congrArg some (arrA_ren _ _ _) | rfl) (cl_arr _) (le_h0 _ _)⟩) (rg0 rfl)
                · try (exfalso; omega)
                  all_goals
                    repeat (first
    | (apply s_a TY; exact rfl)
    | (apply s_t; exact rfl; (first | assumption | omega))
    | (apply s_f; exact rfl; (first | assumption | omega))
    | apply w_seq
    | apply w_region
    | apply s_nil
    | apply t_norm
    | apply t_exit
    | apply k_hit
    | apply w_exit
    | apply w_skip
    | (apply w_condF; exact rfl; exact rfl)
    | (apply s_s; exact rfl)
    | (apply s_c TY; exact rfl; (first | omega | exact ⟨by omega, by (first | with_reducible assumption | ((with_reducible apply intsF_ne); omega) | assumption)⟩)))
                    exact lvG_norm (L' := [.arr 3 1 n (cellsA (lst E2 n))]) (s := (fun _ => .bot)) (nx := 1) (gh_le ⟨le_nil _, le_hupd (by first | exact congrArg some (arrA_ren _ _ _) | rfl) (cl_arr _) (le_h0 _ _)⟩) (rg0 rfl)
            · rcases A2 with ⟨h2a, h2b, K2⟩ | ⟨h2n, e2⟩
              · try (exfalso; omega)
                all_goals
                  skip
                  exact lvG_norm (L' := [.arr 3 1 n (cellsA (lst E2 n))]) (s := (fun _ => .bot)) (nx := 1) (gh_le ⟨le_nil _, le_hupd (by first | exact congrArg some (arrA_ren _ _ _) | rfl) (cl_arr _) (le_h0 _ _)⟩) (rg0 rfl)
              · subst e2
                by_cases h2 : mid < e
                · have h2b : ¬ e < b := fun h => h2n ⟨h2, h⟩
                  try (exfalso; omega)
                  all_goals
                    skip
                    exact lvG_norm (L' := [.arr 3 1 n (cellsA (lst E2 n))]) (s := (fun _ => .bot)) (nx := 1) (gh_le ⟨le_nil _, le_hupd (by first | exact congrArg some (arrA_ren _ _ _) | rfl) (cl_arr _) (le_h0 _ _)⟩) (rg0 rfl)
                · try (exfalso; omega)
                  all_goals
                    skip
                    exact lvG_norm (L' := [.arr 3 1 n (cellsA (lst E2 n))]) (s := (fun _ => .bot)) (nx := 1) (gh_le ⟨le_nil _, le_hupd (by first | exact congrArg some (arrA_ren _ _ _) | rfl) (cl_arr _) (le_h0 _ _)⟩) (rg0 rfl)
end Go.Proofs.YtenkgipcblfocaaGreat
namespace Go.Proofs.YtenkgipcblfocaaGreat
open Go Go.RowKit Go.Proofs Go.Shelf Go.Ab
def Same (D E : Nat → Int) (n : Nat) : Prop := ∀ z, InI E 0 n z ↔ InI D 0 n z
theorem Same.refl (D : Nat → Int) (n : Nat) : Same D D n := fun _ => Iff.rfl
theorem Same.step {w : Int → Int} {D E F : Nat → Int} {n a b : Nat} (s : Same D E n) (r : Res w E F a b) (hb : b ≤ n) : Same D F n := fun z => by
  rw [← s z]
  constructor
  · rintro ⟨p, _, p2, rfl⟩
    by_cases h : a ≤ p ∧ p < b
    · obtain ⟨q, q1, q2, q3⟩ := (r.ins _).1 ⟨p, h.1, h.2, rfl⟩
      exact ⟨q, Nat.zero_le _, by omega, q3⟩
    · exact ⟨p, Nat.zero_le _, p2, (r.out p (by omega)).symm⟩
  · rintro ⟨p, _, p2, rfl⟩
    by_cases h : a ≤ p ∧ p < b
    · obtain ⟨q, q1, q2, q3⟩ := (r.ins _).2 ⟨p, h.1, h.2, rfl⟩
      exact ⟨q, Nat.zero_le _, by omega, q3⟩
    · exact ⟨p, Nat.zero_le _, p2, r.out p (by omega)⟩
theorem Res.at_ {w : Int → Int} {D E : Nat → Int} {a b : Nat} (r : Res w D E a b) {p : Nat} (h1 : a ≤ p) (h2 : p < b) : ∃ q, a ≤ q ∧ q < b ∧ E p = D q := by
  obtain ⟨q, q1, q2, q3⟩ := (r.ins _).1 ⟨p, h1, h2, rfl⟩
  exact ⟨q, q1, q2, q3.symm⟩
structure PSt (w : Int → Int) (E : Nat → Int) (n B : Nat) : Prop where
  x : ∀ i j, i < j → j < n → i / B ≠ j / B → E i < E j
  s : ∀ i j, i < j → j < n → i / B = j / B → befW w (E i) (E j)
structure Pass (w : Int → Int) (E : Nat → Int) (n B C a : Nat) : Prop where
  al : a % C = 0
  X : ∀ i j, i < j → j < n → i / C ≠ j / C → E i < E j
  lo : ∀ i j, i < j → j < n → j < a → i / C = j / C → befW w (E i) (E j)
  hs : ∀ i j, a ≤ i → i < j → j < n → i / B = j / B → befW w (E i) (E j)
  hx : ∀ i j, a ≤ i → i < j → j < n → i / B ≠ j / B → E i < E j
theorem pass_start1 {w : Int → Int} {E : Nat → Int} {n : Nat} (s : PSt w E n 1) : Pass w E n 1 20 0 :=
  ⟨by omega, fun i j h1 h2 h3 => s.x i j h1 h2 (by omega), fun i j _ _ h => absurd h (Nat.not_lt_zero _), fun i j _ h1 h2 h3 => s.s i j h1 h2 h3, fun i j _ h1 h2 h3 => s.x i j h1 h2 h3⟩
theorem pass_x1 {w : Int → Int} {E F : Nat → Int} {n a c : Nat} (q : Pass w E n 1 20 a) (hc : c ≤ a + 20) (_hcn : c ≤ n) (r : Res w E F a c) : ∀ i j, i < j → j < n → i / 20 ≠ j / 20 → F i < F j := fun i j h1 h2 h3 => by
  have ha := q.al
  by_cases hi : a ≤ i ∧ i < c
  · obtain ⟨i', e1, e2, e3⟩ := r.at_ hi.1 hi.2
    rw [e3, r.out j (by omega)]; exact q.X i' j (by omega) h2 (by omega)
  · by_cases hj : a ≤ j ∧ j < c
    · obtain ⟨j', e1, e2, e3⟩ := r.at_ hj.1 hj.2
      rw [e3, r.out i (by omega)]; exact q.X i j' (by omega) (by omega) (by omega)
    · rw [r.out i (by omega), r.out j (by omega)]; exact q.X i j h1 h2 h3
theorem pass_step1 {w : Int → Int} {E F : Nat → Int} {n a : Nat} (q : Pass w E n 1 20 a) (h : a + 20 ≤ n) (r : Res w E F a (a + 20)) : Pass w F n 1 20 (a + 20) := by
  have ha := q.al
  refine ⟨by omega, pass_x1 q (Nat.le_refl _) h r, fun i j h1 h2 h3 h4 => ?_, fun i j h1 h2 h3 h4 => ?_, fun i j h1 h2 h3 h4 => ?_⟩
  · by_cases hj : j < a
    · rw [r.out i (by omega), r.out j (by omega)]; exact q.lo i j h1 h2 hj h4
    · exact r.srt i j (by omega) h1 h3
  · rw [r.out i (by omega), r.out j (by omega)]; exact q.hs i j (by omega) h2 h3 h4
  · rw [r.out i (by omega), r.out j (by omega)]; exact q.hx i j (by omega) h2 h3 h4
theorem pass_end1 {w : Int → Int} {E F : Nat → Int} {n a : Nat} (q : Pass w E n 1 20 a) (h : n < a + 20) (hn : a ≤ n) (r : Res w E F a n) : PSt w F n 20 := by
  have ha := q.al
  refine ⟨pass_x1 q (by omega) (Nat.le_refl _) r, fun i j h1 h2 h3 => ?_⟩
  by_cases hj : j < a
  · rw [r.out i (by omega), r.out j (by omega)]; exact q.lo i j h1 h2 hj h3
  · exact r.srt i j (by omega) h1 h2
theorem pass_start20 {w : Int → Int} {E : Nat → Int} {n : Nat} (s : PSt w E n 20) : Pass w E n 20 40 0 :=
  ⟨by omega, fun i j h1 h2 h3 => s.x i j h1 h2 (by omega), fun i j _ _ h => absurd h (Nat.not_lt_zero _), fun i j _ h1 h2 h3 => s.s i j h1 h2 h3, fun i j _ h1 h2 h3 => s.x i j h1 h2 h3⟩
theorem pass_mrg20 {w : Int → Int} {E : Nat → Int} {n a c : Nat} (q : Pass w E n 20 40 a) (h1 : a + 20 < c) (h2 : c ≤ a + 40) (h3 : c ≤ n) : Mrg w E a (a + 20) c := by
  have ha := q.al
  exact ⟨fun i j p1 p2 p3 => q.hs i j p1 p2 (by omega) (by omega), fun i j p1 p2 p3 => q.hs i j (by omega) p2 (by omega) (by omega), fun i j p1 p2 p3 p4 => q.hx i j p1 (by omega) (by omega) (by omega)⟩
theorem pass_x20 {w : Int → Int} {E F : Nat → Int} {n a c : Nat} (q : Pass w E n 20 40 a) (hc : c ≤ a + 40) (_hcn : c ≤ n) (r : Res w E F a c) : ∀ i j, i < j → j < n → i / 40 ≠ j / 40 → F i < F j := fun i j h1 h2 h3 => by
  have ha := q.al
  by_cases hi : a ≤ i ∧ i < c
  · obtain ⟨i', e1, e2, e3⟩ := r.at_ hi.1 hi.2
    rw [e3, r.out j (by omega)]; exact q.X i' j (by omega) h2 (by omega)
  · by_cases hj : a ≤ j ∧ j < c
    · obtain ⟨j', e1, e2, e3⟩ := r.at_ hj.1 hj.2
      rw [e3, r.out i (by omega)]; exact q.X i j' (by omega) (by omega) (by omega)
    · rw [r.out i (by omega), r.out j (by omega)]; exact q.X i j h1 h2 h3
theorem pass_step20 {w : Int → Int} {E F : Nat → Int} {n a : Nat} (q : Pass w E n 20 40 a) (h : a + 40 ≤ n) (r : Res w E F a (a + 40)) : Pass w F n 20 40 (a + 40) := by
  have ha := q.al
  refine ⟨by omega, pass_x20 q (Nat.le_refl _) h r, fun i j h1 h2 h3 h4 => ?_, fun i j h1 h2 h3 h4 => ?_, fun i j h1 h2 h3 h4 => ?_⟩
  · by_cases hj : j < a
    · rw [r.out i (by omega), r.out j (by omega)]; exact q.lo i j h1 h2 hj h4
    · exact r.srt i j (by omega) h1 h3
  · rw [r.out i (by omega), r.out j (by omega)]; exact q.hs i j (by omega) h2 h3 h4
  · rw [r.out i (by omega), r.out j (by omega)]; exact q.hx i j (by omega) h2 h3 h4
theorem pass_end20 {w : Int → Int} {E F : Nat → Int} {n a : Nat} (q : Pass w E n 20 40 a) (h : n < a + 40) (hn : a ≤ n) (r : Res w E F a n) : PSt w F n 40 := by
  have ha := q.al
  refine ⟨pass_x20 q (by omega) (Nat.le_refl _) r, fun i j h1 h2 h3 => ?_⟩
  by_cases hj : j < a
  · rw [r.out i (by omega), r.out j (by omega)]; exact q.lo i j h1 h2 hj h3
  · exact r.srt i j (by omega) h1 h2
theorem pass_skip20 {w : Int → Int} {E : Nat → Int} {n a : Nat} (q : Pass w E n 20 40 a) (h : n ≤ a + 20) (_hn : a ≤ n) : PSt w E n 40 := by
  have ha := q.al
  refine ⟨q.X, fun i j h1 h2 h3 => ?_⟩
  by_cases hj : j < a
  · exact q.lo i j h1 h2 hj h3
  · exact q.hs i j (by omega) h1 h2 (by omega)
theorem pass_start40 {w : Int → Int} {E : Nat → Int} {n : Nat} (s : PSt w E n 40) : Pass w E n 40 80 0 :=
  ⟨by omega, fun i j h1 h2 h3 => s.x i j h1 h2 (by omega), fun i j _ _ h => absurd h (Nat.not_lt_zero _), fun i j _ h1 h2 h3 => s.s i j h1 h2 h3, fun i j _ h1 h2 h3 => s.x i j h1 h2 h3⟩
theorem pass_mrg40 {w : Int → Int} {E : Nat → Int} {n a c : Nat} (q : Pass w E n 40 80 a) (h1 : a + 40 < c) (h2 : c ≤ a + 80) (h3 : c ≤ n) : Mrg w E a (a + 40) c := by
  have ha := q.al
  exact ⟨fun i j p1 p2 p3 => q.hs i j p1 p2 (by omega) (by omega), fun i j p1 p2 p3 => q.hs i j (by omega) p2 (by omega) (by omega), fun i j p1 p2 p3 p4 => q.hx i j p1 (by omega) (by omega) (by omega)⟩
theorem pass_x40 {w : Int → Int} {E F : Nat → Int} {n a c : Nat} (q : Pass w E n 40 80 a) (hc : c ≤ a + 80) (_hcn : c ≤ n) (r : Res w E F a c) : ∀ i j, i < j → j < n → i / 80 ≠ j / 80 → F i < F j := fun i j h1 h2 h3 => by
  have ha := q.al
  by_cases hi : a ≤ i ∧ i < c
  · obtain ⟨i', e1, e2, e3⟩ := r.at_ hi.1 hi.2
    rw [e3, r.out j (by omega)]; exact q.X i' j (by omega) h2 (by omega)
  · by_cases hj : a ≤ j ∧ j < c
    · obtain ⟨j', e1, e2, e3⟩ := r.at_ hj.1 hj.2
      rw [e3, r.out i (by omega)]; exact q.X i j' (by omega) (by omega) (by omega)
    · rw [r.out i (by omega), r.out j (by omega)]; exact q.X i j h1 h2 h3
theorem pass_step40 {w : Int → Int} {E F : Nat → Int} {n a : Nat} (q : Pass w E n 40 80 a) (h : a + 80 ≤ n) (r : Res w E F a (a + 80)) : Pass w F n 40 80 (a + 80) := by
  have ha := q.al
  refine ⟨by omega, pass_x40 q (Nat.le_refl _) h r, fun i j h1 h2 h3 h4 => ?_, fun i j h1 h2 h3 h4 => ?_, fun i j h1 h2 h3 h4 => ?_⟩
  · by_cases hj : j < a
    · rw [r.out i (by omega), r.out j (by omega)]; exact q.lo i j h1 h2 hj h4
    · exact r.srt i j (by omega) h1 h3
  · rw [r.out i (by omega), r.out j (by omega)]; exact q.hs i j (by omega) h2 h3 h4
  · rw [r.out i (by omega), r.out j (by omega)]; exact q.hx i j (by omega) h2 h3 h4
theorem pass_end40 {w : Int → Int} {E F : Nat → Int} {n a : Nat} (q : Pass w E n 40 80 a) (h : n < a + 80) (hn : a ≤ n) (r : Res w E F a n) : PSt w F n 80 := by
  have ha := q.al
  refine ⟨pass_x40 q (by omega) (Nat.le_refl _) r, fun i j h1 h2 h3 => ?_⟩
  by_cases hj : j < a
  · rw [r.out i (by omega), r.out j (by omega)]; exact q.lo i j h1 h2 hj h3
  · exact r.srt i j (by omega) h1 h2
theorem pass_skip40 {w : Int → Int} {E : Nat → Int} {n a : Nat} (q : Pass w E n 40 80 a) (h : n ≤ a + 40) (_hn : a ≤ n) : PSt w E n 80 := by
  have ha := q.al
  refine ⟨q.X, fun i j h1 h2 h3 => ?_⟩
  by_cases hj : j < a
  · exact q.lo i j h1 h2 hj h3
  · exact q.hs i j (by omega) h1 h2 (by omega)
theorem pass_start80 {w : Int → Int} {E : Nat → Int} {n : Nat} (s : PSt w E n 80) : Pass w E n 80 160 0 :=
  ⟨by omega, fun i j h1 h2 h3 => s.x i j h1 h2 (by omega), fun i j _ _ h => absurd h (Nat.not_lt_zero _), fun i j _ h1 h2 h3 => s.s i j h1 h2 h3, fun i j _ h1 h2 h3 => s.x i j h1 h2 h3⟩
theorem pass_mrg80 {w : Int → Int} {E : Nat → Int} {n a c : Nat} (q : Pass w E n 80 160 a) (h1 : a + 80 < c) (h2 : c ≤ a + 160) (h3 : c ≤ n) : Mrg w E a (a + 80) c := by
  have ha := q.al
  exact ⟨fun i j p1 p2 p3 => q.hs i j p1 p2 (by omega) (by omega), fun i j p1 p2 p3 => q.hs i j (by omega) p2 (by omega) (by omega), fun i j p1 p2 p3 p4 => q.hx i j p1 (by omega) (by omega) (by omega)⟩
theorem pass_x80 {w : Int → Int} {E F : Nat → Int} {n a c : Nat} (q : Pass w E n 80 160 a) (hc : c ≤ a + 160) (_hcn : c ≤ n) (r : Res w E F a c) : ∀ i j, i < j → j < n → i / 160 ≠ j / 160 → F i < F j := fun i j h1 h2 h3 => by
  have ha := q.al
  by_cases hi : a ≤ i ∧ i < c
  · obtain ⟨i', e1, e2, e3⟩ := r.at_ hi.1 hi.2
    rw [e3, r.out j (by omega)]; exact q.X i' j (by omega) h2 (by omega)
  · by_cases hj : a ≤ j ∧ j < c
    · obtain ⟨j', e1, e2, e3⟩ := r.at_ hj.1 hj.2
      rw [e3, r.out i (by omega)]; exact q.X i j' (by omega) (by omega) (by omega)
    · rw [r.out i (by omega), r.out j (by omega)]; exact q.X i j h1 h2 h3
theorem pass_step80 {w : Int → Int} {E F : Nat → Int} {n a : Nat} (q : Pass w E n 80 160 a) (h : a + 160 ≤ n) (r : Res w E F a (a + 160)) : Pass w F n 80 160 (a + 160) := by
  have ha := q.al
  refine ⟨by omega, pass_x80 q (Nat.le_refl _) h r, fun i j h1 h2 h3 h4 => ?_, fun i j h1 h2 h3 h4 => ?_, fun i j h1 h2 h3 h4 => ?_⟩
  · by_cases hj : j < a
    · rw [r.out i (by omega), r.out j (by omega)]; exact q.lo i j h1 h2 hj h4
    · exact r.srt i j (by omega) h1 h3
  · rw [r.out i (by omega), r.out j (by omega)]; exact q.hs i j (by omega) h2 h3 h4
  · rw [r.out i (by omega), r.out j (by omega)]; exact q.hx i j (by omega) h2 h3 h4
theorem pass_end80 {w : Int → Int} {E F : Nat → Int} {n a : Nat} (q : Pass w E n 80 160 a) (h : n < a + 160) (hn : a ≤ n) (r : Res w E F a n) : PSt w F n 160 := by
  have ha := q.al
  refine ⟨pass_x80 q (by omega) (Nat.le_refl _) r, fun i j h1 h2 h3 => ?_⟩
  by_cases hj : j < a
  · rw [r.out i (by omega), r.out j (by omega)]; exact q.lo i j h1 h2 hj h3
  · exact r.srt i j (by omega) h1 h2
theorem pass_skip80 {w : Int → Int} {E : Nat → Int} {n a : Nat} (q : Pass w E n 80 160 a) (h : n ≤ a + 80) (_hn : a ≤ n) : PSt w E n 160 := by
  have ha := q.al
  refine ⟨q.X, fun i j h1 h2 h3 => ?_⟩
  by_cases hj : j < a
  · exact q.lo i j h1 h2 hj h3
  · exact q.hs i j (by omega) h1 h2 (by omega)
theorem st_asc {w : Int → Int} {E : Nat → Int} {n : Nat} (h : ∀ i j, i < j → j < n → E i < E j) : PSt w E n 1 := ⟨fun i j h1 h2 _ => h i j h1 h2, fun i j h1 h2 h3 => by omega⟩
theorem st_all {w : Int → Int} {E : Nat → Int} {n B : Nat} (s : PSt w E n B) (h : n ≤ B) : SrtI w E 0 n := fun i j _ h1 h2 => s.s i j h1 h2 (by rw [Nat.div_eq_of_lt (by omega), Nat.div_eq_of_lt (by omega)])
end Go.Proofs.YtenkgipcblfocaaGreat
namespace Go.Proofs.YtenkgipcblfocaaGreat
open Go Go.RowKit Go.Proofs Go.Shelf Go.Ab
theorem sym_all (mm : List Int) (n : Nat) (hn : n ≤ 1000) : ∀ (d : Nat) (D : Nat → Int) (a m b : Nat), b - a ≤ d → a < m → m < b → b ≤ n → Mrg (wI mm) D a m b → (∀ p, a ≤ p → p < b → 0 ≤ D p ∧ D p < mm.length) → symC mm n D a m b
  | 0, D, a, m, b, h, h1, h2, _, _, _ => absurd h (by omega)
  | d + 1, D, a, m, b, h, h1, h2, h3, MG, hr => by
    by_cases c1 : m = a + 1
    · subst c1; exact sym_one mm n hn D a b h2 h3 MG hr
    · by_cases c2 : b = m + 1
      · subst c2; exact sym_last mm n hn D a m (by omega) h3 MG hr
      · exact sym_gen mm n hn D a m b (by omega) (by omega) h3 MG hr fun D' a' m' b' k k1 k2 k3 k4 k5 => sym_all mm n hn d D' a' m' b' (by omega) k1 k2 k3 k4 k5
theorem lst_parts (D : Nat → Int) (a s t : Nat) : lst D (a + (s + t)) = lst D a ++ ((List.range s).map (fun i => D (a + i)) ++ (List.range t).map (fun i => D (a + (s + i)))) := by
  simp [lst, List.range_add, List.map_append, List.map_map, Function.comp_def]
theorem insF (mm : List Int) (n : Nat) (hn : n ≤ 1000) (D : Nat → Int) (a b : Nat) (hab : a ≤ b) (hb : b ≤ n) (asc : ∀ i j, a ≤ i → i < j → j < b → D i < D j) (hr : ∀ p, a ≤ p → p < b → 0 ≤ D p ∧ D p < mm.length) : ∃ E, Res (wI mm) D E a b ∧ SummG Tryz.prog GG 183 [.arr 3 1 n (cellsA (lst D n))] [.ow 0, .f (iv ((a : Nat) : Int)), .f (iv ((b : Nat) : Int)), .f (.fn 115 [.pt [.sl mm.length (intsF mm)] 0])] (.f (.tup [])) [.arr 3 1 n (cellsA (lst E n))] := by
  obtain ⟨s, rfl⟩ : ∃ s, b = a + s := ⟨b - a, by omega⟩
  obtain ⟨t, rfl⟩ : ∃ t, n = a + (s + t) := ⟨n - a - s, by omega⟩
  obtain ⟨seg, hseg⟩ : ∃ seg, seg = (List.range s).map fun i => D (a + i) := ⟨_, rfl⟩
  have hsl : seg.length = s := by rw [hseg]; simp
  have hsm : ∀ z, z ∈ seg ↔ InI D a (a + s) z := fun z => by
    rw [hseg, List.mem_map]
    constructor
    · rintro ⟨i, hi, rfl⟩
      rw [List.mem_range] at hi
      exact ⟨a + i, by omega, by omega, rfl⟩
    · rintro ⟨q, q1, q2, rfl⟩
      exact ⟨q - a, List.mem_range.2 (by omega), by congr 1; omega⟩
  have hpw : seg.Pairwise (· < ·) := by
    rw [hseg]
    exact List.pairwise_map.2 (List.pairwise_lt_range.imp_of_mem fun {x y} hx hy hxy => asc _ _ (by omega) (by omega) (by have := List.mem_range.1 hy; omega))
  have hnd : seg.Nodup := hpw.imp fun h e => by omega
  have hso : (sortO (wI mm) seg).length = s := by rw [sortO_len, hsl]
  have hsr := sortO_sorted (w := (wI mm)) hnd
  have K := insertion_g mm (lst D a) seg ((List.range t).map fun i => D (a + (s + i))) (a + (s + t)) (by rw [lst_len, hsl]; simp; omega) hn hpw (fun z hz => by
    obtain ⟨q, q1, q2, rfl⟩ := (hsm z).1 hz
    exact hr q q1 q2)
  rw [lst_len, hsl] at K
  refine ⟨fun q => if a ≤ q ∧ q < a + s then (sortO (wI mm) seg).getD (q - a) default else D q, ⟨fun i j h1 h2 h3 => ?_, fun q hq => if_neg (by omega), fun z => ?_⟩, ?_⟩
  · try simp only
    rw [if_pos ⟨h1, by omega⟩, if_pos ⟨by omega, h3⟩, getD_at (show i - a < (sortO (wI mm) seg).length by omega), getD_at (show j - a < (sortO (wI mm) seg).length by omega)]
    exact List.pairwise_iff_getElem.1 hsr (i - a) (j - a) (by omega) (by omega) (by omega)
  · rw [← hsm z, ← (sortO_perm (w := (wI mm)) seg).mem_iff]
    constructor
    · rintro ⟨q, q1, q2, rfl⟩
      try simp only
      rw [if_pos ⟨q1, q2⟩, getD_at (show q - a < (sortO (wI mm) seg).length by omega)]
      exact List.getElem_mem _
    · intro hz
      obtain ⟨i, hi, rfl⟩ := List.getElem_of_mem hz
      refine ⟨a + i, by omega, by omega, ?_⟩
      try simp only
      rw [if_pos ⟨by omega, by omega⟩, Nat.add_sub_cancel_left, getD_at hi]
  · have e1 : lst (fun q => if a ≤ q ∧ q < a + s then (sortO (wI mm) seg).getD (q - a) default else D q) (a + (s + t)) = lst D a ++ (sortO (wI mm) seg ++ (List.range t).map fun i => D (a + (s + i))) := by
      rw [lst_parts]
      congr 1
      · unfold lst
        refine List.map_congr_left fun i hi => if_neg (by have := List.mem_range.1 hi; omega)
      · congr 1
        · refine List.ext_getElem (by simp [hso]) fun i h1 h2 => ?_
          have hi : i < s := by simpa using h1
          rw [List.getElem_map, List.getElem_range, if_pos ⟨by omega, by omega⟩, Nat.add_sub_cancel_left, getD_at h2]
        · refine List.map_congr_left fun i _ => if_neg (by omega)
    rw [e1]
    have e2 : lst D (a + (s + t)) = lst D a ++ (seg ++ (List.range t).map fun i => D (a + (s + i))) := by rw [lst_parts, hseg]
    rw [e2]
    exact K
set_option maxRecDepth 100000 in
set_option maxHeartbeats 12800000 in
theorem stable_f (mm : List Int) (n : Nat) (hn : n ≤ 1000) (D : Nat → Int) (h160 : n ≤ 160) (asc : ∀ i j, i < j → j < n → D i < D j) (hr : ∀ p, p < n → 0 ≤ D p ∧ D p < mm.length) (T : List Int) (hT : ∀ E, SrtI (wI mm) E 0 n → Same D E n → lst E n = T) : SummG Tryz.prog GG 160 [.arr 3 1 n (cellsA (lst D n))] [.ow 0, .f (iv ((n : Nat) : Int)), .f (.fn 115 [.pt [.sl mm.length (intsF mm)] 0])] (.f (.tup [])) [.arr 3 1 n (cellsA T)] := by
  refine summG_of Tryz.func160 rfl rfl 63 rfl (by simp) (by simp) (fun i B B' h1 h2 => by
    match i, h1, h2 with
    | 0, h1, h2 => cases h1; cases h2; rfl
    | _ + 1, h1, _ => simp at h1) (fun M X J => ?_)
  repeat (first
    | (apply s_a TY; exact rfl)
    | apply w_seq
    | apply w_region
    | apply s_nil
    | apply t_norm
    | apply w_block)
  apply w_loop (fun q : (Nat → Int) × Nat => ⟨(Ab.upd (Ab.upd (Ab.upd (Ab.upd (Ab.upd (Ab.upd (fun _ => .bot) 0 (.ow 0)) 1 (.f (iv ((n : Nat) : Int)))) 2 (.f (.fn 115 [.pt [.sl mm.length (intsF mm)] 0]))) 6 (.f (iv 20))) 7 (.f (iv ((q.2 : Nat) : Int)))) 8 (.f (iv (((q.2 + 20) : Nat) : Int)))), (Ab.upd (fun _ => none) 0 (some (.arr 3 1 n (cellsA (lst q.1 n))))), 1⟩) (fun q => Pass (wI mm) q.1 n 1 20 q.2 ∧ Same D q.1 n ∧ q.2 ≤ n) (fun q => n - q.2) (D, 0) (⟨pass_start1 (st_asc asc), Same.refl _ _, Nat.zero_le _⟩) (gh_le ⟨le_upd rfl trivial (le_upd rfl trivial (le_upd rfl trivial (le_upd rfl trivial (le_upd rfl trivial (le_upd rfl rfl (le_nil _)))))), le_hupd rfl (cl_arr _) (le_h0 _ _)⟩)
  rintro ⟨E, a⟩ ⟨hp, hsm, ha⟩
  change Pass (wI mm) E n 1 20 a at hp
  change Same D E n at hsm
  change a ≤ n at ha
  change W _ _ _ _ (⟨(Ab.upd (Ab.upd (Ab.upd (Ab.upd (Ab.upd (Ab.upd (fun _ => .bot) 0 (.ow 0)) 1 (.f (iv ((n : Nat) : Int)))) 2 (.f (.fn 115 [.pt [.sl mm.length (intsF mm)] 0]))) 6 (.f (iv 20))) 7 (.f (iv ((a : Nat) : Int)))) 8 (.f (iv (((a + 20) : Nat) : Int)))), (Ab.upd (fun _ => none) 0 (some (.arr 3 1 n (cellsA (lst E n))))), 1⟩)
  have hrE : ∀ p, p < n → 0 ≤ E p ∧ E p < mm.length := fun p hq => by
    obtain ⟨q, q1, q2, q3⟩ := (hsm _).1 ⟨p, Nat.zero_le _, hq, rfl⟩
    rw [← q3]; exact hr q q2
  by_cases hc : a + 20 ≤ n
  · obtain ⟨E2, r, K⟩ := insF mm n hn E a (a + 20) (by omega) hc (fun i j h1 h2 h3 => hp.hx i j h1 h2 (by omega) (by omega)) (fun p _ h2 => hrE p (by omega))
    repeat (first
    | (apply s_callG [0] K; exact rfl; exact rfl; exact rfl; (first | exact ⟨congrArg some (arrA_ren _ _ _).symm, trivial⟩ | exact ⟨congrArg some ((arrA_ren _ _ _).trans (arrA_ren _ _ _).symm), trivial⟩); exact rfl; exact ⟨rfl, rfl⟩)
    | (apply s_a TY; exact rfl)
    | (apply s_t; exact rfl; (first | assumption | omega))
    | apply w_seq
    | apply w_region
    | apply s_nil
    | apply t_norm
    | apply k_norm
    | apply w_block
    | apply w_skip
    | (apply w_condT; exact rfl; exact rfl)
    | (apply s_c TY; exact rfl; omega))
    exact ⟨(E2, a + 20), ⟨pass_step1 hp hc r, hsm.step r hc, hc⟩, by show n - (a + 20) < n - a; omega, gh_le ⟨le_upd (congrArg (fun z : Int => AV.f (iv z)) (by omega)) trivial (le_upd rfl trivial (le_upd rfl trivial (le_upd rfl trivial (le_upd rfl trivial (le_upd rfl rfl (le_nil _)))))), le_hupd (congrArg some (arrA_ren _ _ _)) (cl_arr _) (le_h0 _ _)⟩⟩
  · obtain ⟨E2, r, K⟩ := insF mm n hn E a n ha (Nat.le_refl _) (fun i j h1 h2 h3 => hp.hx i j h1 h2 (by omega) (by omega)) (fun p _ h2 => hrE p h2)
    have hs := pass_end1 hp (by omega) ha r
    have hsm2 := hsm.step r (Nat.le_refl _)
    repeat (first
    | (apply s_callG [0] K; exact rfl; exact rfl; exact rfl; (first | exact ⟨congrArg some (arrA_ren _ _ _).symm, trivial⟩ | exact ⟨congrArg some ((arrA_ren _ _ _).trans (arrA_ren _ _ _).symm), trivial⟩); exact rfl; exact ⟨rfl, rfl⟩)
    | (apply s_a TY; exact rfl)
    | (apply s_f; exact rfl; (first | assumption | omega))
    | apply w_seq
    | apply w_region
    | apply s_nil
    | apply t_norm
    | apply t_exit
    | apply k_hit
    | apply w_block
    | apply w_exit
    | (apply w_condF; exact rfl; exact rfl))
    apply w_loop (fun q : (Nat → Int) × Nat => ⟨(Ab.upd (Ab.upd (Ab.upd (Ab.upd (fun _ => .bot) 0 (.ow 0)) 1 (.f (iv ((n : Nat) : Int)))) 2 (.f (.fn 115 [.pt [.sl mm.length (intsF mm)] 0]))) 6 (.f (iv ((q.2 : Nat) : Int)))), (Ab.upd (fun _ => none) 0 (some (.arr 3 1 n (cellsA (lst q.1 n))))), 1⟩) (fun q => (q.2 = 20 ∨ q.2 = 40 ∨ q.2 = 80 ∨ q.2 = 160) ∧ PSt (wI mm) q.1 n q.2 ∧ Same D q.1 n) (fun q => 200 - q.2) (E2, 20) (⟨.inl rfl, hs, hsm2⟩) (gh_le ⟨le_upd rfl trivial (le_upd rfl trivial (le_upd rfl trivial (le_upd rfl rfl (le_nil _)))), le_hupd (congrArg some (arrA_ren _ _ _)) (cl_arr _) (le_h0 _ _)⟩)
    clear hp hsm ha hrE hc r K hs hsm2 E E2
    rintro ⟨E, b⟩ ⟨hb, hs, hsm⟩
    change b = 20 ∨ b = 40 ∨ b = 80 ∨ b = 160 at hb
    change PSt (wI mm) E n b at hs
    change Same D E n at hsm
    change W _ _ _ _ (⟨(Ab.upd (Ab.upd (Ab.upd (Ab.upd (fun _ => .bot) 0 (.ow 0)) 1 (.f (iv ((n : Nat) : Int)))) 2 (.f (.fn 115 [.pt [.sl mm.length (intsF mm)] 0]))) 6 (.f (iv ((b : Nat) : Int)))), (Ab.upd (fun _ => none) 0 (some (.arr 3 1 n (cellsA (lst E n))))), 1⟩)
    by_cases hbn : b < n
    · rcases hb with rfl | rfl | rfl | rfl
      · repeat (first
    | (apply s_a TY; exact rfl)
    | (apply s_t; exact rfl; (first | assumption | omega))
    | apply w_seq
    | apply w_region
    | apply s_nil
    | apply t_norm
    | apply w_block
    | apply w_skip
    | (apply w_condT; exact rfl; exact rfl)
    | (apply s_c TY; exact rfl; omega))
        apply w_loop (fun q : (Nat → Int) × Nat => ⟨(Ab.upd (Ab.upd (Ab.upd (Ab.upd (Ab.upd (Ab.upd (fun _ => .bot) 0 (.ow 0)) 1 (.f (iv ((n : Nat) : Int)))) 2 (.f (.fn 115 [.pt [.sl mm.length (intsF mm)] 0]))) 6 (.f (iv ((20 : Nat) : Int)))) 7 (.f (iv ((q.2 : Nat) : Int)))) 8 (.f (iv (((q.2 + 40) : Nat) : Int)))), (Ab.upd (fun _ => none) 0 (some (.arr 3 1 n (cellsA (lst q.1 n))))), 1⟩) (fun q => Pass (wI mm) q.1 n 20 40 q.2 ∧ Same D q.1 n ∧ q.2 ≤ n) (fun q => n - q.2) (E, 0) (⟨pass_start20 hs, hsm, Nat.zero_le _⟩) (gh_le ⟨le_upd rfl trivial (le_upd rfl trivial (le_upd rfl trivial (le_upd rfl trivial (le_upd rfl trivial (le_upd rfl rfl (le_nil _)))))), le_hupd rfl (cl_arr _) (le_h0 _ _)⟩)
        rintro ⟨E, a⟩ ⟨hp, hsm, ha⟩
        change Pass (wI mm) E n 20 40 a at hp
        change Same D E n at hsm
        change a ≤ n at ha
        change W _ _ _ _ (⟨(Ab.upd (Ab.upd (Ab.upd (Ab.upd (Ab.upd (Ab.upd (fun _ => .bot) 0 (.ow 0)) 1 (.f (iv ((n : Nat) : Int)))) 2 (.f (.fn 115 [.pt [.sl mm.length (intsF mm)] 0]))) 6 (.f (iv ((20 : Nat) : Int)))) 7 (.f (iv ((a : Nat) : Int)))) 8 (.f (iv (((a + 40) : Nat) : Int)))), (Ab.upd (fun _ => none) 0 (some (.arr 3 1 n (cellsA (lst E n))))), 1⟩)
        have hrE : ∀ p, p < n → 0 ≤ E p ∧ E p < mm.length := fun p hq => by
          obtain ⟨q, q1, q2, q3⟩ := (hsm _).1 ⟨p, Nat.zero_le _, hq, rfl⟩
          rw [← q3]; exact hr q q2
        by_cases hc : a + 40 ≤ n
        · obtain ⟨E2, r, K⟩ := sym_all mm n hn 40 E a (a + 20) (a + 40) (by omega) (by omega) (by omega) hc (pass_mrg20 hp (by omega) (Nat.le_refl _) hc) (fun p _ h2 => hrE p (by omega))
          rw [show ((a + 20 : Nat) : Int) = ((a : Nat) : Int) + ((20 : Nat) : Int) from rfl] at K
          repeat (first
    | (apply s_callG [0] K; exact rfl; exact rfl; exact rfl; (first | exact ⟨congrArg some (arrA_ren _ _ _).symm, trivial⟩ | exact ⟨congrArg some ((arrA_ren _ _ _).trans (arrA_ren _ _ _).symm), trivial⟩); exact rfl; exact ⟨rfl, rfl⟩)
    | (apply s_a TY; exact rfl)
    | (apply s_t; exact rfl; (first | assumption | omega))
    | apply w_seq
    | apply w_region
    | apply s_nil
    | apply t_norm
    | apply k_norm
    | apply w_block
    | apply w_skip
    | (apply w_condT; exact rfl; exact rfl)
    | (apply s_c TY; exact rfl; omega))
          exact ⟨(E2, a + 40), ⟨pass_step20 hp hc r, hsm.step r hc, hc⟩, by show n - (a + 40) < n - a; omega, gh_le ⟨le_upd (congrArg (fun z : Int => AV.f (iv z)) (by omega)) trivial (le_upd rfl trivial (le_upd rfl trivial (le_upd rfl trivial (le_upd rfl trivial (le_upd rfl rfl (le_nil _)))))), le_hupd (congrArg some (arrA_ren _ _ _)) (cl_arr _) (le_h0 _ _)⟩⟩
        · by_cases hm : a + 20 < n
          · obtain ⟨E2, r, K⟩ := sym_all mm n hn 40 E a (a + 20) n (by omega) (by omega) hm (Nat.le_refl _) (pass_mrg20 hp hm (by omega) (Nat.le_refl _)) (fun p _ h2 => hrE p h2)
            rw [show ((a + 20 : Nat) : Int) = ((a : Nat) : Int) + ((20 : Nat) : Int) from rfl] at K
            repeat (first
    | (apply s_callG [0] K; exact rfl; exact rfl; exact rfl; (first | exact ⟨congrArg some (arrA_ren _ _ _).symm, trivial⟩ | exact ⟨congrArg some ((arrA_ren _ _ _).trans (arrA_ren _ _ _).symm), trivial⟩); exact rfl; exact ⟨rfl, rfl⟩)
    | (apply s_a TY; exact rfl)
    | (apply s_t; exact rfl; (first | assumption | omega))
    | (apply s_f; exact rfl; (first | assumption | omega))
    | apply w_seq
    | apply w_region
    | apply s_nil
    | apply t_norm
    | apply t_exit
    | apply k_hit
    | apply k_norm
    | apply w_exit
    | (apply w_condT; exact rfl; exact rfl)
    | (apply w_condF; exact rfl; exact rfl)
    | (apply s_c TY; exact rfl; omega))
            exact ⟨(E2, 40), ⟨by show 40 = 20 ∨ 40 = 40 ∨ 40 = 80 ∨ 40 = 160; omega, pass_end20 hp (by omega) ha r, hsm.step r (Nat.le_refl _)⟩, by show 200 - 40 < 200 - 20; omega, gh_le ⟨le_upd (congrArg (fun z : Int => AV.f (iv z)) (by omega)) trivial (le_upd rfl trivial (le_upd rfl trivial (le_upd rfl rfl (le_nil _)))), le_hupd (congrArg some (arrA_ren _ _ _)) (cl_arr _) (le_h0 _ _)⟩⟩
          · repeat (first
    | (apply s_a TY; exact rfl)
    | (apply s_f; exact rfl; (first | assumption | omega))
    | apply w_seq
    | apply w_region
    | apply s_nil
    | apply t_norm
    | apply t_exit
    | apply k_hit
    | apply k_norm
    | apply w_exit
    | apply w_skip
    | (apply w_condF; exact rfl; exact rfl)
    | (apply s_c TY; exact rfl; omega))
            exact ⟨(E, 40), ⟨by show 40 = 20 ∨ 40 = 40 ∨ 40 = 80 ∨ 40 = 160; omega, pass_skip20 hp (by omega) ha, hsm⟩, by show 200 - 40 < 200 - 20; omega, gh_le ⟨le_upd (congrArg (fun z : Int => AV.f (iv z)) (by omega)) trivial (le_upd rfl trivial (le_upd rfl trivial (le_upd rfl rfl (le_nil _)))), le_hupd rfl (cl_arr _) (le_h0 _ _)⟩⟩
      · repeat (first
    | (apply s_a TY; exact rfl)
    | (apply s_t; exact rfl; (first | assumption | omega))
    | apply w_seq
    | apply w_region
    | apply s_nil
    | apply t_norm
    | apply w_block
    | apply w_skip
    | (apply w_condT; exact rfl; exact rfl)
    | (apply s_c TY; exact rfl; omega))
        apply w_loop (fun q : (Nat → Int) × Nat => ⟨(Ab.upd (Ab.upd (Ab.upd (Ab.upd (Ab.upd (Ab.upd (fun _ => .bot) 0 (.ow 0)) 1 (.f (iv ((n : Nat) : Int)))) 2 (.f (.fn 115 [.pt [.sl mm.length (intsF mm)] 0]))) 6 (.f (iv ((40 : Nat) : Int)))) 7 (.f (iv ((q.2 : Nat) : Int)))) 8 (.f (iv (((q.2 + 80) : Nat) : Int)))), (Ab.upd (fun _ => none) 0 (some (.arr 3 1 n (cellsA (lst q.1 n))))), 1⟩) (fun q => Pass (wI mm) q.1 n 40 80 q.2 ∧ Same D q.1 n ∧ q.2 ≤ n) (fun q => n - q.2) (E, 0) (⟨pass_start40 hs, hsm, Nat.zero_le _⟩) (gh_le ⟨le_upd rfl trivial (le_upd rfl trivial (le_upd rfl trivial (le_upd rfl trivial (le_upd rfl trivial (le_upd rfl rfl (le_nil _)))))), le_hupd rfl (cl_arr _) (le_h0 _ _)⟩)
        rintro ⟨E, a⟩ ⟨hp, hsm, ha⟩
        change Pass (wI mm) E n 40 80 a at hp
        change Same D E n at hsm
        change a ≤ n at ha
        change W _ _ _ _ (⟨(Ab.upd (Ab.upd (Ab.upd (Ab.upd (Ab.upd (Ab.upd (fun _ => .bot) 0 (.ow 0)) 1 (.f (iv ((n : Nat) : Int)))) 2 (.f (.fn 115 [.pt [.sl mm.length (intsF mm)] 0]))) 6 (.f (iv ((40 : Nat) : Int)))) 7 (.f (iv ((a : Nat) : Int)))) 8 (.f (iv (((a + 80) : Nat) : Int)))), (Ab.upd (fun _ => none) 0 (some (.arr 3 1 n (cellsA (lst E n))))), 1⟩)
        have hrE : ∀ p, p < n → 0 ≤ E p ∧ E p < mm.length := fun p hq => by
          obtain ⟨q, q1, q2, q3⟩ := (hsm _).1 ⟨p, Nat.zero_le _, hq, rfl⟩
          rw [← q3]; exact hr q q2
        by_cases hc : a + 80 ≤ n
        · obtain ⟨E2, r, K⟩ := sym_all mm n hn 80 E a (a + 40) (a + 80) (by omega) (by omega) (by omega) hc (pass_mrg40 hp (by omega) (Nat.le_refl _) hc) (fun p _ h2 => hrE p (by omega))
          rw [show ((a + 40 : Nat) : Int) = ((a : Nat) : Int) + ((40 : Nat) : Int) from rfl] at K
          repeat (first
    | (apply s_callG [0] K; exact rfl; exact rfl; exact rfl; (first | exact ⟨congrArg some (arrA_ren _ _ _).symm, trivial⟩ | exact ⟨congrArg some ((arrA_ren _ _ _).trans (arrA_ren _ _ _).symm), trivial⟩); exact rfl; exact ⟨rfl, rfl⟩)
    | (apply s_a TY; exact rfl)
    | (apply s_t; exact rfl; (first | assumption | omega))
    | apply w_seq
    | apply w_region
    | apply s_nil
    | apply t_norm
    | apply k_norm
    | apply w_block
    | apply w_skip
    | (apply w_condT; exact rfl; exact rfl)
    | (apply s_c TY; exact rfl; omega))
          exact ⟨(E2, a + 80), ⟨pass_step40 hp hc r, hsm.step r hc, hc⟩, by show n - (a + 80) < n - a; omega, gh_le ⟨le_upd (congrArg (fun z : Int => AV.f (iv z)) (by omega)) trivial (le_upd rfl trivial (le_upd rfl trivial (le_upd rfl trivial (le_upd rfl trivial (le_upd rfl rfl (le_nil _)))))), le_hupd (congrArg some (arrA_ren _ _ _)) (cl_arr _) (le_h0 _ _)⟩⟩
        · by_cases hm : a + 40 < n
          · obtain ⟨E2, r, K⟩ := sym_all mm n hn 80 E a (a + 40) n (by omega) (by omega) hm (Nat.le_refl _) (pass_mrg40 hp hm (by omega) (Nat.le_refl _)) (fun p _ h2 => hrE p h2)
            rw [show ((a + 40 : Nat) : Int) = ((a : Nat) : Int) + ((40 : Nat) : Int) from rfl] at K
            repeat (first
    | (apply s_callG [0] K; exact rfl; exact rfl; exact rfl; (first | exact ⟨congrArg some (arrA_ren _ _ _).symm, trivial⟩ | exact ⟨congrArg some ((arrA_ren _ _ _).trans (arrA_ren _ _ _).symm), trivial⟩); exact rfl; exact ⟨rfl, rfl⟩)
    | (apply s_a TY; exact rfl)
    | (apply s_t; exact rfl; (first | assumption | omega))
    | (apply s_f; exact rfl; (first | assumption | omega))
    | apply w_seq
    | apply w_region
    | apply s_nil
    | apply t_norm
    | apply t_exit
    | apply k_hit
    | apply k_norm
    | apply w_exit
    | (apply w_condT; exact rfl; exact rfl)
    | (apply w_condF; exact rfl; exact rfl)
    | (apply s_c TY; exact rfl; omega))
            exact ⟨(E2, 80), ⟨by show 80 = 20 ∨ 80 = 40 ∨ 80 = 80 ∨ 80 = 160; omega, pass_end40 hp (by omega) ha r, hsm.step r (Nat.le_refl _)⟩, by show 200 - 80 < 200 - 40; omega, gh_le ⟨le_upd (congrArg (fun z : Int => AV.f (iv z)) (by omega)) trivial (le_upd rfl trivial (le_upd rfl trivial (le_upd rfl rfl (le_nil _)))), le_hupd (congrArg some (arrA_ren _ _ _)) (cl_arr _) (le_h0 _ _)⟩⟩
          · repeat (first
    | (apply s_a TY; exact rfl)
    | (apply s_f; exact rfl; (first | assumption | omega))
    | apply w_seq
    | apply w_region
    | apply s_nil
    | apply t_norm
    | apply t_exit
    | apply k_hit
    | apply k_norm
    | apply w_exit
    | apply w_skip
    | (apply w_condF; exact rfl; exact rfl)
    | (apply s_c TY; exact rfl; omega))
            exact ⟨(E, 80), ⟨by show 80 = 20 ∨ 80 = 40 ∨ 80 = 80 ∨ 80 = 160; omega, pass_skip40 hp (by omega) ha, hsm⟩, by show 200 - 80 < 200 - 40; omega, gh_le ⟨le_upd (congrArg (fun z : Int => AV.f (iv z)) (by omega)) trivial (le_upd rfl trivial (le_upd rfl trivial (le_upd rfl rfl (le_nil _)))), le_hupd rfl (cl_arr _) (le_h0 _ _)⟩⟩
      · repeat (first
    | (apply s_a TY; exact rfl)
    | (apply s_t; exact rfl; (first | assumption | omega))
    | apply w_seq
    | apply w_region
    | apply s_nil
    | apply t_norm
    | apply w_block
    | apply w_skip
    | (apply w_condT; exact rfl; exact rfl)
    | (apply s_c TY; exact rfl; omega))
        apply w_loop (fun q : (Nat → Int) × Nat => ⟨(Ab.upd (Ab.upd (Ab.upd (Ab.upd (Ab.upd (Ab.upd (fun _ => .bot) 0 (.ow 0)) 1 (.f (iv ((n : Nat) : Int)))) 2 (.f (.fn 115 [.pt [.sl mm.length (intsF mm)] 0]))) 6 (.f (iv ((80 : Nat) : Int)))) 7 (.f (iv ((q.2 : Nat) : Int)))) 8 (.f (iv (((q.2 + 160) : Nat) : Int)))), (Ab.upd (fun _ => none) 0 (some (.arr 3 1 n (cellsA (lst q.1 n))))), 1⟩) (fun q => Pass (wI mm) q.1 n 80 160 q.2 ∧ Same D q.1 n ∧ q.2 ≤ n) (fun q => n - q.2) (E, 0) (⟨pass_start80 hs, hsm, Nat.zero_le _⟩) (gh_le ⟨le_upd rfl trivial (le_upd rfl trivial (le_upd rfl trivial (le_upd rfl trivial (le_upd rfl trivial (le_upd rfl rfl (le_nil _)))))), le_hupd rfl (cl_arr _) (le_h0 _ _)⟩)
        rintro ⟨E, a⟩ ⟨hp, hsm, ha⟩
        change Pass (wI mm) E n 80 160 a at hp
        change Same D E n at hsm
        change a ≤ n at ha
        change W _ _ _ _ (⟨(Ab.upd (Ab.upd (Ab.upd (Ab.upd (Ab.upd (Ab.upd (fun _ => .bot) 0 (.ow 0)) 1 (.f (iv ((n : Nat) : Int)))) 2 (.f (.fn 115 [.pt [.sl mm.length (intsF mm)] 0]))) 6 (.f (iv ((80 : Nat) : Int)))) 7 (.f (iv ((a : Nat) : Int)))) 8 (.f (iv (((a + 160) : Nat) : Int)))), (Ab.upd (fun _ => none) 0 (some (.arr 3 1 n (cellsA (lst E n))))), 1⟩)
        have hrE : ∀ p, p < n → 0 ≤ E p ∧ E p < mm.length := fun p hq => by
          obtain ⟨q, q1, q2, q3⟩ := (hsm _).1 ⟨p, Nat.zero_le _, hq, rfl⟩
          rw [← q3]; exact hr q q2
        by_cases hc : a + 160 ≤ n
        · obtain ⟨E2, r, K⟩ := sym_all mm n hn 160 E a (a + 80) (a + 160) (by omega) (by omega) (by omega) hc (pass_mrg80 hp (by omega) (Nat.le_refl _) hc) (fun p _ h2 => hrE p (by omega))
          rw [show ((a + 80 : Nat) : Int) = ((a : Nat) : Int) + ((80 : Nat) : Int) from rfl] at K
          repeat (first
    | (apply s_callG [0] K; exact rfl; exact rfl; exact rfl; (first | exact ⟨congrArg some (arrA_ren _ _ _).symm, trivial⟩ | exact ⟨congrArg some ((arrA_ren _ _ _).trans (arrA_ren _ _ _).symm), trivial⟩); exact rfl; exact ⟨rfl, rfl⟩)
    | (apply s_a TY; exact rfl)
    | (apply s_t; exact rfl; (first | assumption | omega))
    | apply w_seq
    | apply w_region
    | apply s_nil
    | apply t_norm
    | apply k_norm
    | apply w_block
    | apply w_skip
    | (apply w_condT; exact rfl; exact rfl)
    | (apply s_c TY; exact rfl; omega))
          exact ⟨(E2, a + 160), ⟨pass_step80 hp hc r, hsm.step r hc, hc⟩, by show n - (a + 160) < n - a; omega, gh_le ⟨le_upd (congrArg (fun z : Int => AV.f (iv z)) (by omega)) trivial (le_upd rfl trivial (le_upd rfl trivial (le_upd rfl trivial (le_upd rfl trivial (le_upd rfl rfl (le_nil _)))))), le_hupd (congrArg some (arrA_ren _ _ _)) (cl_arr _) (le_h0 _ _)⟩⟩
        · by_cases hm : a + 80 < n
          · obtain ⟨E2, r, K⟩ := sym_all mm n hn 160 E a (a + 80) n (by omega) (by omega) hm (Nat.le_refl _) (pass_mrg80 hp hm (by omega) (Nat.le_refl _)) (fun p _ h2 => hrE p h2)
            rw [show ((a + 80 : Nat) : Int) = ((a : Nat) : Int) + ((80 : Nat) : Int) from rfl] at K
            repeat (first
    | (apply s_callG [0] K; exact rfl; exact rfl; exact rfl; (first | exact ⟨congrArg some (arrA_ren _ _ _).symm, trivial⟩ | exact ⟨congrArg some ((arrA_ren _ _ _).trans (arrA_ren _ _ _).symm), trivial⟩); exact rfl; exact ⟨rfl, rfl⟩)
    | (apply s_a TY; exact rfl)
    | (apply s_t; exact rfl; (first | assumption | omega))
    | (apply s_f; exact rfl; (first | assumption | omega))
    | apply w_seq
    | apply w_region
    | apply s_nil
    | apply t_norm
    | apply t_exit
    | apply k_hit
    | apply k_norm
    | apply w_exit
    | (apply w_condT; exact rfl; exact rfl)
    | (apply w_condF; exact rfl; exact rfl)
    | (apply s_c TY; exact rfl; omega))
            exact ⟨(E2, 160), ⟨by show 160 = 20 ∨ 160 = 40 ∨ 160 = 80 ∨ 160 = 160; omega, pass_end80 hp (by omega) ha r, hsm.step r (Nat.le_refl _)⟩, by show 200 - 160 < 200 - 80; omega, gh_le ⟨le_upd (congrArg (fun z : Int => AV.f (iv z)) (by omega)) trivial (le_upd rfl trivial (le_upd rfl trivial (le_upd rfl rfl (le_nil _)))), le_hupd (congrArg some (arrA_ren _ _ _)) (cl_arr _) (le_h0 _ _)⟩⟩
          · repeat (first
    | (apply s_a TY; exact rfl)
    | (apply s_f; exact rfl; (first | assumption | omega))
    | apply w_seq
    | apply w_region
    | apply s_nil
    | apply t_norm
    | apply t_exit
    | apply k_hit
    | apply k_norm
    | apply w_exit
    | apply w_skip
    | (apply w_condF; exact rfl; exact rfl)
    | (apply s_c TY; exact rfl; omega))
            exact ⟨(E, 160), ⟨by show 160 = 20 ∨ 160 = 40 ∨ 160 = 80 ∨ 160 = 160; omega, pass_skip80 hp (by omega) ha, hsm⟩, by show 200 - 160 < 200 - 80; omega, gh_le ⟨le_upd (congrArg (fun z : Int => AV.f (iv z)) (by omega)) trivial (le_upd rfl trivial (le_upd rfl trivial (le_upd rfl rfl (le_nil _)))), le_hupd rfl (cl_arr _) (le_h0 _ _)⟩⟩
      · omega
    · have hE := hT E (st_all hs (by omega)) hsm
      repeat (first
    | (apply s_a TY; exact rfl)
    | (apply s_f; exact rfl; (first | assumption | omega))
    | apply w_seq
    | apply w_region
    | apply s_nil
    | apply t_norm
    | apply t_exit
    | apply k_hit
    | apply w_exit
    | (apply w_condF; exact rfl; exact rfl))
      exact lvG_norm (L' := [.arr 3 1 n (cellsA T)]) (s := (fun _ => .bot)) (nx := 1) (gh_le ⟨le_nil _, le_hupd (arrEq (by rw [hE])) (cl_arr _) (le_h0 _ _)⟩) (rg0 rfl)
theorem stable_g (mm L : List Int) (hl : L.length ≤ 160) (ha : L.Pairwise (· < ·)) (hm : ∀ z, z ∈ L → 0 ≤ z ∧ z < mm.length) : SummG Tryz.prog GG 160 [.arr 3 1 L.length (cellsA L)] [.ow 0, .f (iv (L.length : Nat)), .f (.fn 115 [.pt [.sl mm.length (intsF mm)] 0])] (.f (.tup [])) [.arr 3 1 L.length (cellsA (sortO (wI mm) L))] := by
  have hnd : L.Nodup := ha.imp fun h e => by omega
  have h := stable_f mm L.length (by omega) (fun q => L.getD q default) hl (fun i j h1 h2 => by
    rw [getD_at (show i < L.length by omega), getD_at h2]
    exact List.pairwise_iff_getElem.1 ha i j (by omega) h2 h1) (fun q hq => by rw [getD_at hq]; exact hm _ (List.getElem_mem hq)) (sortO (wI mm) L) (fun E hE hs => (sortO_of hnd (by
    unfold lst
    exact List.pairwise_map.2 (List.pairwise_lt_range.imp_of_mem fun {x y} hx hy hxy => hE x y (Nat.zero_le _) hxy (List.mem_range.1 hy))) (fun z => by
    have e : z ∈ lst E L.length ↔ InI E 0 L.length z := by
      unfold lst
      rw [List.mem_map]
      exact ⟨fun ⟨i, h1, h2⟩ => ⟨i, Nat.zero_le _, List.mem_range.1 h1, h2⟩, fun ⟨i, _, h1, h2⟩ => ⟨i, List.mem_range.2 h1, h2⟩⟩
    have e2 : z ∈ L ↔ InI (fun q => L.getD q default) 0 L.length z := by
      constructor
      · intro hz
        obtain ⟨i, hi, rfl⟩ := List.getElem_of_mem hz
        exact ⟨i, Nat.zero_le _, hi, getD_at hi⟩
      · rintro ⟨i, _, hi, rfl⟩
        show L.getD i default ∈ L
        rw [getD_at hi]; exact List.getElem_mem hi
    rw [e, hs z, e2])).symm)
  rwa [lst_of] at h
theorem stab_all {m : List Int} (h : m.length ≤ 160) : StabOk m := sortStable_of m (idxL m.length) (stable_g m _ (by rw [idxL_len]; exact h) (idxL_asc _) (fun z hz => idxL_mem.1 hz))
end Go.Proofs.YtenkgipcblfocaaGreat
namespace Go.Ab
open Go Go.RowKit Go.Shelf Go.Proofs
end Go.Ab
namespace Go.Ab
open Go Go.RowKit Go.Shelf Go.Proofs
def pin0 (J : Nat → Value) (i : Nat) : Option Value := bif Nat.beq i 0 then some (J 0) else none
def cxH (P : Program) (G : Nat → Option (List FV)) (M X : Nat → Prop) (J : Nat → Value) : Ctx := ⟨P, G, M, X, none, pin0 J⟩
theorem pin0_some {J : Nat → Value} {i : Nat} {p : Value} (e : pin0 J i = some p) : i = 0 ∧ p = J 0 := by
  unfold pin0 at e
  cases hi : Nat.beq i 0 with
  | false => rw [hi] at e; cases e
  | true => rw [hi] at e; cases e; exact ⟨Nat.eq_of_beq_eq_true hi, rfl⟩
structure SummH (P : Program) (G : Nat → Option (List FV)) (g : Nat) (h : Nat → Option Blk) (args : List AV) (ret : AV) (h' : Nat → Option Blk) : Prop where
  enters : Enters P g
  one : ∃ B B', h 0 = some B ∧ B.stays = true ∧ h' 0 = some B' ∧ B'.stays = true
  cl : ∀ i B, h i = some B → closedB h B
  call : ∀ (w : World) (M X : Nat → Prop) (us : List Value) (J : Nat → Value), (∀ b, X b ↔ ownM h J b) → (∀ b, M b → b < w.heap.size ∧ ¬ X b) → (∀ k, G k = none) →
    RepAs (cxH P G M X J) w h J us args → (∀ i B, h i = some B → RepB (cxH P G M X J) w w.heap.size h J (J i) B) → (∀ i j b, (h i).isSome = true → (h j).isSome = true → bk (J i) = some b → bk (J j) = some b → i = j) →
    Calls P g us.toArray w fun en w' => ∃ v J', en = .returned v ∧ RepA (cxH P G M X J) w' h' J' v ret ∧ (∀ i B, h' i = some B → RepB (cxH P G M X J) w' w.heap.size h' J' (J' i) B) ∧ (∀ i j b, (h' i).isSome = true → (h' j).isSome = true → bk (J' i) = some b → bk (J' j) = some b → i = j) ∧ Grew X w w' ∧ J' 0 = J 0
def RetH (C : Ctx) (N : Nat) (fn : Func) (ret : AV) (h' : Nat → Option Blk) (st : St) : Prop := ∃ s nx, Gh C N st ⟨s, h', nx⟩ ∧ ResG C N fn ret ⟨s, h', nx⟩
def LeavesH (C : Ctx) (N : Nat) (fn : Func) (ret : AV) (h' : Nat → Option Blk) : Exit → St → Prop
  | .normal, st => RetH C N fn ret h' st
  | .ret, st => RetH C N fn ret h' st
  | _, _ => False
def stH (h : Nat → Option Blk) (nx : Nat) (args : List AV) : St := ⟨fun t => match args[t]? with | some x => x | none => .bot, h, nx⟩
theorem summH_of {P : Program} {G : Nat → Option (List FV)} {f : Nat} {fn : Func} {c : Code} {h h' : Nat → Option Blk} {args : List AV} {ret : AV} (nx : Nat) (hf : P.funcs[f]? = some fn) (hb : fn.body = some c) (hname : (fn.name == "runtime.NumGoroutine") = false) (N : Nat) (hn : fn.ntmps = N) (hl : args.length ≤ N)
    (h1 : ∃ B B', h 0 = some B ∧ B.stays = true ∧ h' 0 = some B' ∧ B'.stays = true) (hcl : ∀ i B, h i = some B → closedB h B)
    (hw : ∀ (M X : Nat → Prop) (J : Nat → Value), W (cxH P G M X J) N c (LeavesH (cxH P G M X J) N fn ret h') (stH h nx args)) : SummH P G f h args ret h' := by
  refine ⟨enters_of hf hname hb, h1, hcl, fun w M X us J hX hM hG R hB hA => ?_⟩
  refine calls_of_wp_marks hf hb (wpIn_wide.1 ((hw M X J).out w _ w _ ⟨J, Grew.refl _ _, ?_, ⟨trivial, fun _ => rfl⟩, fun t => ?_, hB, hA, hM, fun g cs hg => (by have h0 : G g = none := hG g; have h1 : G g = some cs := hg; rw [h0] at h1; cases h1), fun i p B hp _ _ => (by obtain ⟨rfl, rfl⟩ := pin0_some hp; rfl)⟩ ?_))
  · have := R.1; simp [hn]; omega
  · show RepA _ w _ _ ((us.toArray ++ Array.replicate (fn.ntmps - us.toArray.size) undef).getD t undef) (match args[t]? with | some x => x | none => .bot)
    cases ha : args[t]? with
    | none => trivial
    | some x =>
      have ht : t < us.length := by rw [R.1]; exact (List.getElem?_eq_some_iff.1 ha).1
      have : (us.toArray ++ Array.replicate (fn.ntmps - us.toArray.size) undef).getD t undef = us[t] := by
        rw [Array.getD_eq_getD_getElem?, Array.getElem?_append_left (by simpa using ht)]
        simp [ht]
      rw [this]
      exact R.2 t _ x (List.getElem?_eq_getElem ht) ha
  · intro en st' a' w' q S'
    obtain ⟨B1, B1', -, -, hB1', hs1'⟩ := h1
    have fin : RetH (cxH P G M X J) N fn ret h' st' → ∀ W', KeepsP Obj.stays w.heap.size w' W' → ∃ v, (results fn a'.tmps).run P W' = .ok v W' ∧ ∃ v' J', Ending.returned v = .returned v' ∧ RepA (cxH P G M X J) W' h' J' v' ret ∧ (∀ i B, h' i = some B → RepB (cxH P G M X J) W' w.heap.size h' J' (J' i) B) ∧ (∀ i j b, (h' i).isSome = true → (h' j).isSome = true → bk (J' i) = some b → bk (J' j) = some b → i = j) ∧ Grew X w W' ∧ J' 0 = J 0 := fun ⟨s, nx, g, q⟩ W' hkp => by
      obtain ⟨J1, S1⟩ := S'
      have S2 := S1.keeps0 hkp (Nat.le_refl _) (ds := []) ⟨trivial, fun _ => rfl⟩
      obtain ⟨J2, S3⟩ := g w { a' with defers := [] } W' ⟨J1, S2⟩
      obtain ⟨v, h1, h2⟩ := q w { a' with defers := [] } W' J2 S3
      exact ⟨v, h1, v, J2, rfl, h2, S3.blk, S3.apart, S3.ext, S3.fix 0 (J 0) B1' rfl hB1' hs1'⟩
    have hm : Marks w.heap.size w' a'.defers := let ⟨_, S2⟩ := S'; S2.defs.1
    cases en with
    | normal => exact bodyPostM_marksP (s := Obj.stays) (fun _ => rfl) _ hm (fin q)
    | ret => exact bodyPostM_marksP (s := Obj.stays) (fun _ => rfl) _ hm (fin q)
    | _ => exact q.elim
def keepC (h : Nat → Option Blk) : Cap → Option Cap
  | .f x => some (.f x)
  | .bx i off => bif Nat.beq i 0 || (h i).isNone then some (.bx i off) else none
  | .ow i => bif Nat.beq i 0 || (h i).isNone then some (.ow i) else none
  | .sv i off n => bif Nat.beq i 0 || (h i).isNone then some (.sv i off n) else none
def keepA (h : Nat → Option Blk) : AV → AV := AV.tr (keepC h)
def joinH (h h' h0 : Nat → Option Blk) (i : Nat) : Option Blk := match h' i with
  | some B => some B
  | none => match h i with
    | some _ => none
    | none => (h0 i).map (Blk.mapA (keepA h))
theorem RepB.convC {C C' : Ctx} {w : World} {base base' : Nat} {h h' : Nat → Option Blk} {J : Nat → Value} {v : Value} {B : Blk} (r : RepB C w base h J v B) (hc : closedB h' B) (hb : ∀ b, bk v = some b → (base' ≤ b ∨ C'.X b)) (conv : ∀ v x, RepA C w h J v x → closedA h' x → RepA C' w h' J v x) (hF : ∀ v x, RepF w (Mb C h J) v x → RepF w (Mb C' h' J) v x) : RepB C' w base' h' J v B := by
  cases B with
  | box cells =>
    obtain ⟨b, T, us, q1, q2, q3, q4, q5, q6⟩ := r
    exact ⟨b, T, us, q1, hb b (by rw [q1]; rfl), q3, q4, q5, fun k u x h1 h2 => conv _ _ (q6 k u x h1 h2) (hc x (List.mem_of_getElem? h2))⟩
  | row E sz m cells =>
    obtain ⟨xs, q1, q0, q2, q3⟩ := r
    exact ⟨xs, q1, fun b h => hb b h, q2, q3.1, fun k u x h1 h2 => hF _ _ (q3.2 k u x h1 h2)⟩
  | rowA E sz m cells =>
    obtain ⟨xs, q1, q0, q2, q3, q4⟩ := r
    exact ⟨xs, q1, fun b h => hb b h, q2, q3, fun k u x h1 h2 => conv _ _ (q4 k u x h1 h2) (hc x (List.mem_of_getElem? h2))⟩
  | arr E sz m cells =>
    obtain ⟨xs, q1, q0, q2, q3, q4⟩ := r
    exact ⟨xs, q1, fun b h => hb b h, q2, q3, fun k u x h1 h2 => conv _ _ (q4 k u x h1 h2) (hc x (List.mem_of_getElem? h2))⟩
  | map G =>
    obtain ⟨b, o, e, q1, q2, q3, q4⟩ := r
    exact ⟨b, o, e, hb b (by rw [e]; rfl), q2, q3, q4⟩
def closedL (h : Nat → Option Blk) : List AV → Prop
  | [] => True
  | x :: l => closedA h x ∧ closedL h l
theorem closedL_mem {h : Nat → Option Blk} : ∀ {l : List AV}, closedL h l → ∀ x ∈ l, closedA h x
  | [], _, x, hx => by simp at hx
  | y :: l, hl, x, hx => by
    rcases List.mem_cons.1 hx with rfl | hx
    · exact hl.1
    · exact closedL_mem hl.2 x hx
section
variable {C : Ctx} {N : Nat} {st : St}
theorem e_callH {o : Oper} {f : Operand} {args : Array Operand} {ts : Array TypeId} {g : Nat} {h h' : Nat → Option Blk} {ags caps : List AV} {ret : AV} (Kh : SummH C.P C.G g h ags ret h') (hG : ∀ k, C.G k = none) (ho : o.op = .call { callee := .value f, args := args, argTypes := ts }) (hd : dstB N o.dst = true) (hf : fnCaps (st.ev C f) = some (g, caps))
    (has : args.toList.map (st.ev C) ++ caps = ags) (hac : closedL h ags) (hh : ∀ i B, h i = some B → st.h i = some B) (hnew : ∀ i, h i = none → (h' i).isSome = true → st.h i = none) (hp : ∀ i p, C.J0 i = some p → i = 0) : EffOp C N o st (St.put ⟨fun t => keepA h (st.s t), joinH h h' st.h, st.nx⟩ o.dst ret) := by
  intro w0 a w ⟨J, S⟩ K1 Q hK
  obtain ⟨us, hv, hcap⟩ := fnCaps_rep (S.eval f) hf
  have hrun := callEnter (w := w) Kh.enters ho hv
  refine op_enter hrun ?_
  have hargs := RepAs.append (evs_rep S args.toList) hcap
  rw [has] at hargs
  obtain ⟨B0, B0', h0, s0, h0', s0'⟩ := Kh.one
  have live : ∀ i, (h i).isSome = true → (st.h i).isSome = true := fun i hi => by
    obtain ⟨B, hB⟩ := Option.isSome_iff_exists.1 hi
    rw [hh i B hB]; rfl
  let M : Nat → Prop := fun b => C.M0 b ∨ ∃ i, h i = none ∧ (st.h i).isSome = true ∧ bk (J i) = some b
  let X : Nat → Prop := ownM h J
  have hM : ∀ b, M b → b < w.heap.size ∧ ¬ X b := fun b hb => by
    rcases hb with hb | ⟨i, h1, h2, h3⟩
    · exact ⟨Nat.lt_of_lt_of_le (S.old b hb).1 S.ext.le, fun ⟨i, hi, hbi⟩ => m0_not S (live i hi) hbi hb⟩
    · refine ⟨(S.own_at h2 h3).2, fun ⟨j, hj, hbj⟩ => ?_⟩
      have := S.apart i j b h2 (live j hj) h3 hbj
      subst this; rw [h1] at hj; cases hj
  have mb1 : ∀ b, Mb (cxH C.P C.G M X J) h J b ↔ Mb C st.h J b := fun b => by
    constructor
    · rintro ((h1 | ⟨i, _, h2, h3⟩) | ⟨i, h1, h2⟩)
      · exact .inl h1
      · exact .inr ⟨i, h2, h3⟩
      · exact .inr ⟨i, live i h1, h2⟩
    · rintro (h1 | ⟨i, h1, h2⟩)
      · exact .inl (.inl h1)
      · cases hi : h i with
        | none => exact .inl (.inr ⟨i, hi, h1, h2⟩)
        | some B => exact .inr ⟨i, by rw [hi]; rfl, h2⟩
  have inF : ∀ u x, RepF w (Mb C st.h J) u x → RepF w (Mb (cxH C.P C.G M X J) h J) u x := fun u x q => RepF.ext q (Ext.refl _) (fun b _ hb => (mb1 b).1 hb)
  have inA : ∀ u x, RepA C w st.h J u x → closedA h x → RepA (cxH C.P C.G M X J) w h J u x := fun u x q hc => by
    refine q.sameP fun u c hm q => ?_
    have hcc := closed_parts hc c hm
    cases c with
    | f x => exact inF _ _ q
    | bx i off => exact ⟨hcc, q.2⟩
    | ow i => exact ⟨hcc, q.2⟩
    | sv i off n => exact ⟨hcc, q.2⟩
  refine Calls.mono (Kh.call w M X _ J (fun b => Iff.rfl) hM hG ⟨hargs.1, fun k u x h1 h2 => inA _ _ (hargs.2 k u x h1 h2) (closedL_mem hac x (List.mem_of_getElem? h2))⟩ (fun i B hB => (S.blk i B (hh i B hB)).convC (Kh.cl i B hB) (fun b hb => .inr ⟨i, by rw [hB]; rfl, hb⟩) inA inF) (fun i j b hi hj => S.apart i j b (live i hi) (live j hj))) ?_
  rintro en w' ⟨v, J', rfl, hret, hblk, hap, hg, hpin⟩
  let J2 : Nat → Value := fun i => match h' i with | some _ => J' i | none => J i
  have J2l : ∀ i, (h' i).isSome = true → J2 i = J' i := fun i hi => by
    obtain ⟨B, hB⟩ := Option.isSome_iff_exists.1 hi
    show (match h' i with | some _ => J' i | none => J i) = _; rw [hB]
  have J2f : ∀ i, h' i = none → J2 i = J i := fun i hi => by
    show (match h' i with | some _ => J' i | none => J i) = _; rw [hi]
  have jl : ∀ i, (h' i).isSome = true → joinH h h' st.h i = h' i := fun i hi => by
    obtain ⟨B, hB⟩ := Option.isSome_iff_exists.1 hi
    unfold joinH; rw [hB]
  have jf : ∀ i, h' i = none → h i = none → joinH h h' st.h i = (st.h i).map (Blk.mapA (keepA h)) := fun i h1 h2 => by unfold joinH; rw [h1, h2]
  have jd : ∀ i, h' i = none → (h i).isSome = true → joinH h h' st.h i = none := fun i h1 h2 => by
    obtain ⟨B, hB⟩ := Option.isSome_iff_exists.1 h2
    unfold joinH; rw [h1, hB]
  have jcase : ∀ i, (joinH h h' st.h i).isSome = true → ((h' i).isSome = true ∧ J2 i = J' i) ∨ (h' i = none ∧ h i = none ∧ (st.h i).isSome = true ∧ J2 i = J i) := fun i hi => by
    cases h1 : h' i with
    | some B => exact .inl ⟨rfl, J2l i (by rw [h1]; rfl)⟩
    | none =>
      cases h2 : h i with
      | some B => rw [jd i h1 (by rw [h2]; rfl)] at hi; cases hi
      | none =>
        rw [jf i h1 h2] at hi
        exact .inr ⟨rfl, rfl, by simpa using hi, J2f i h1⟩
  have mb2 : ∀ b, Mb C (joinH h h' st.h) J2 b → Mb (cxH C.P C.G M X J) h' J' b := fun b hb => by
    rcases hb with hb | ⟨i, hi, hbi⟩
    · exact .inl (.inl hb)
    · rcases jcase i hi with ⟨h1, h2⟩ | ⟨h1, h2, h3, h4⟩
      · rw [h2] at hbi; exact .inr ⟨i, h1, hbi⟩
      · rw [h4] at hbi; exact .inl (.inr ⟨i, h2, h3, hbi⟩)
  have hx : ∀ b, w.heap.size ≤ b ∨ X b → w0.heap.size ≤ b ∨ C.X b := fun b hb => by
    rcases hb with hb | ⟨i, hi, hbi⟩
    · exact .inl (Nat.le_trans S.ext.le hb)
    · exact (S.own_at (live i hi) hbi).1
  have mb3 : ∀ b, b < w.heap.size → Mb C (joinH h h' st.h) J2 b → Mb C st.h J b := fun b hb hm => by
    rcases hm with h0 | ⟨i, hi, hbi⟩
    · exact .inl h0
    · rcases jcase i hi with ⟨h1, h2⟩ | ⟨h1, h2, h3, h4⟩
      · rw [h2] at hbi
        obtain ⟨B, hB⟩ := Option.isSome_iff_exists.1 h1
        rcases ((hblk i B hB).ge hbi).1 with h5 | h5
        · omega
        · obtain ⟨j, hj, hbj⟩ := h5
          exact .inr ⟨j, live j hj, hbj⟩
      · rw [h4] at hbi; exact .inr ⟨i, h3, hbi⟩
  have same : ∀ b, b < w.heap.size → ¬ X b → w'.heap[b]? = w.heap[b]? := fun b hb hm => hg.block b hb hm
  have outF : ∀ u x, RepF w (Mb C st.h J) u x → RepF w' (Mb C (joinH h h' st.h) J2) u x := fun u x q => RepF.mono q (fun b hb hm => same b hb fun ⟨i, hi, hbi⟩ => hm (.inr ⟨i, live i hi, hbi⟩)) hg.le mb3
  have J20 : J2 0 = J 0 := by rw [J2l 0 (by rw [h0']; rfl)]; exact hpin
  have at_ : ∀ i, (Nat.beq i 0 || (h i).isNone) = true → (st.h i).isSome = true → (joinH h h' st.h i).isSome = true ∧ J2 i = J i := fun i hk hl => by
    by_cases e : i = 0
    · subst e; exact ⟨by rw [jl 0 (by rw [h0']; rfl), h0']; rfl, J20⟩
    · have hb0 : Nat.beq i 0 = false := by cases hb : Nat.beq i 0; rfl; exact absurd (Nat.eq_of_beq_eq_true hb) e
      rw [hb0, Bool.false_or] at hk
      have hn : h i = none := by simpa using hk
      cases h1 : h' i with
      | some B => rw [hnew i hn (by rw [h1]; rfl)] at hl; cases hl
      | none => exact ⟨by rw [jf i h1 hn]; simpa using hl, J2f i h1⟩
  have conv : ∀ (u : Value) (x : AV), RepA C w st.h J u x → RepA C w' (joinH h h' st.h) J2 u (keepA h x) := fun u x q => by
    refine q.tr fun u c c' e q => ?_
    cases c with
    | f x => simp only [keepC, Option.some.injEq] at e; subst e; exact outF _ _ q
    | bx i off =>
      cases hi : (Nat.beq i 0 || (h i).isNone) with
      | false => simp only [keepC, hi, cond_false] at e; cases e
      | true =>
        simp only [keepC, hi, cond_true, Option.some.injEq] at e; subst e
        obtain ⟨h1, h2⟩ := at_ i hi q.1
        exact ⟨h1, by rw [h2]; exact q.2⟩
    | ow i =>
      cases hi : (Nat.beq i 0 || (h i).isNone) with
      | false => simp only [keepC, hi, cond_false] at e; cases e
      | true =>
        simp only [keepC, hi, cond_true, Option.some.injEq] at e; subst e
        obtain ⟨h1, h2⟩ := at_ i hi q.1
        exact ⟨h1, by rw [h2]; exact q.2⟩
    | sv i off n =>
      cases hi : (Nat.beq i 0 || (h i).isNone) with
      | false => simp only [keepC, hi, cond_false] at e; cases e
      | true =>
        simp only [keepC, hi, cond_true, Option.some.injEq] at e; subst e
        obtain ⟨h1, h2⟩ := at_ i hi q.1
        exact ⟨h1, by rw [h2]; exact q.2⟩
  have backF : ∀ u x, RepF w' (Mb (cxH C.P C.G M X J) h' J') u x → RepF w' (Mb C (joinH h h' st.h) J2) u x := fun u x q => RepF.ext q (Ext.refl _) (fun b _ hb => mb2 b hb)
  have backA : ∀ u x, RepA (cxH C.P C.G M X J) w' h' J' u x → RepA C w' (joinH h h' st.h) J2 u x := fun u x q => q.same fun _ _ q => q.conv (fun i hi => ⟨by rw [jl i hi]; exact hi, J2l i hi⟩) backF
  refine hK v w' ⟨J2, Sim.put (st := ⟨fun t => keepA h (st.s t), joinH h h' st.h, st.nx⟩) ⟨⟨hg.os.trans S.ext.os, hg.tape.trans S.ext.tape, hg.output.trans S.ext.output, Nat.le_trans S.ext.le hg.le, fun k hk hX => ?_⟩, S.size, ⟨?_, S.defs.2⟩, fun t => conv _ _ (S.slot t), fun i B hB => ?_, fun i j b hi hj hbi hbj => ?_, S.old, fun gl cs hgl => (by rw [hG gl] at hgl; cases hgl), fun i p B hpi hB hs => ?_⟩ hd (backA _ _ hret)⟩
  · refine (hg.block k (Nat.lt_of_lt_of_le hk S.ext.le) (fun ho => ?_)).trans (S.ext.block k hk hX)
    rcases hx k (.inr ho) with h1 | h1
    · omega
    · exact hX h1
  · exact S.defs.1.keeps fun D hm hD => (hg.block D (Marks.lt S.defs.1 D hm) (fun ⟨i, hi, hbi⟩ => by
      obtain ⟨o, h2, h3⟩ := S.ownCells ⟨i, live i hi, hbi⟩
      rw [hD] at h2; cases h2; cases h3)).trans hD
  · have hs : (joinH h h' st.h i).isSome = true := by rw [show joinH h h' st.h i = some B from hB]; rfl
    rcases jcase i hs with ⟨h1, h2⟩ | ⟨h1, h2, h3, h4⟩
    · have hB' : h' i = some B := by rw [← jl i h1]; exact hB
      rw [h2]
      exact (hblk i B hB').conv0 (fun _ _ => rfl) (fun b _ h => hx b h) backA backF
    · have hB' : (st.h i).map (Blk.mapA (keepA h)) = some B := by rw [← jf i h1 h2]; exact hB
      obtain ⟨B1, hB1, rfl⟩ := Option.map_eq_some_iff.1 hB'
      rw [h4]
      refine (S.blk i B1 hB1).conv (keepA h) (fun b hb => same b (S.own_at h3 hb).2 (fun ⟨j, hj, hbj⟩ => ?_)) (fun _ _ h => h) conv outF
      have := S.apart i j b h3 (live j hj) hb hbj
      subst this; rw [h2] at hj; cases hj
  · rcases jcase i hi with ⟨h1, h2⟩ | ⟨h1, h2, h3, h4⟩ <;> rcases jcase j hj with ⟨k1, k2⟩ | ⟨k1, k2, k3, k4⟩
    · rw [h2] at hbi; rw [k2] at hbj; exact hap i j b h1 k1 hbi hbj
    · rw [h2] at hbi; rw [k4] at hbj
      obtain ⟨B, hB⟩ := Option.isSome_iff_exists.1 h1
      rcases ((hblk i B hB).ge hbi).1 with h5 | ⟨l, hl, hbl⟩
      · have := (S.own_at k3 hbj).2; omega
      · have := S.apart l j b (live l hl) k3 hbl hbj
        subst this; rw [k2] at hl; cases hl
    · rw [h4] at hbi; rw [k2] at hbj
      obtain ⟨B, hB⟩ := Option.isSome_iff_exists.1 k1
      rcases ((hblk j B hB).ge hbj).1 with h5 | ⟨l, hl, hbl⟩
      · have := (S.own_at h3 hbi).2; omega
      · have := S.apart l i b (live l hl) h3 hbl hbi
        subst this; rw [h2] at hl; cases hl
    · rw [h4] at hbi; rw [k4] at hbj; exact S.apart i j b h3 k3 hbi hbj
  · have e0 := hp i p hpi
    subst e0
    rw [J20]
    exact S.fix 0 p B0 hpi (hh 0 B0 h0) s0
variable {ops : Array Oper} {K : St → Prop} {rest : List Oper} {d : Option Tmp} {T0 : TypeId} {pos : String} {af : Array Edge}
theorem s_callH {f : Operand} {args : Array Operand} {ts : Array TypeId} {g : Nat} {h h' : Nat → Option Blk} {ags caps : List AV} {ret : AV} (Kh : SummH C.P C.G g h ags ret h') (hG : ∀ k, C.G k = none) (hp : ∀ i p, C.J0 i = some p → i = 0) (hd : dstB N d = true) (hf : fnCaps (st.ev C f) = some (g, caps))
    (has : args.toList.map (st.ev C) ++ caps = ags) (hac : closedL h ags) (hh : ∀ i B, h i = some B → st.h i = some B) (hnew : ∀ i, h i = none → (h' i).isSome = true → st.h i = none) (k : R C N ops false K rest (St.put ⟨fun t => keepA h (st.s t), joinH h h' st.h, st.nx⟩ d ret)) : R C N ops false K (⟨d, .call { callee := .value f, args := args, argTypes := ts }, T0, pos, af, none⟩ :: rest) st :=
  ⟨r_eff rfl (e_callH Kh hG rfl hd hf has hac hh hnew hp) k.out⟩
theorem lvH_ret {fn : Func} {ret : AV} {h' : Nat → Option Blk} {s : Nat → AV} {nx : Nat} (g : Gh C N st ⟨s, h', nx⟩) (h : ResG C N fn ret ⟨s, h', nx⟩) : LeavesH C N fn ret h' .ret st := ⟨s, nx, g, h⟩
theorem gh_eq {s : Nat → AV} {h h' : Nat → Option Blk} {n : Nat} (e : h = h') : Gh C N ⟨s, h, n⟩ ⟨s, h', n⟩ := by subst e; exact gh_refl _
theorem sees_arr {i e sz n : Nat} {cells : List AV} {ys : List FV} (hi : st.h i = some (.arr e sz n cells)) (hc : SeesL C N st cells ys) : Sees C N st (.ow i) (.sl n ys) := fun st' H w0 a w J S v r => by
  obtain ⟨hl, rfl⟩ := r
  obtain ⟨xs, q1, _, q2, q3, q4⟩ := H.blk S hi hl
  exact sees_own S hl q1 q2 ⟨by rw [q3, hc.len], fun k u x h1 h2 => by
    have hk : k < cells.length := by rw [hc.len]; exact (List.getElem?_eq_some_iff.1 h2).1
    exact hc.at_ k _ x (List.getElem?_eq_getElem hk) h2 st' H w0 a w J S u (q4 k u _ h1 (List.getElem?_eq_getElem hk))⟩
theorem gh_mvU (i j : Nat) {B : Blk} (hij : i ≠ j) (hi : st.h i = some B) (hj : st.h j = none) (hJi : C.J0 i = none) (hJj : C.J0 j = none) : Gh C N st (st.mv i j B) := fun w0 a w ⟨J, S⟩ => by
  refine ⟨upd J j (J i), ?_⟩
  have hji : Nat.beq j i = false := killA_ne (Ne.symm hij)
  have hat : (st.mv i j B).h j = some (B.mapA (mvA i j)) := by simp [St.mv, hji]
  have hgone : (st.mv i j B).h i = none := by simp [St.mv]
  have hoth : ∀ k, k ≠ i → k ≠ j → (st.mv i j B).h k = (st.h k).map (Blk.mapA (mvA i j)) := fun k h1 h2 => by simp [St.mv, killA_ne h1, killA_ne h2]
  have nj : ∀ k, (st.h k).isSome = true → k ≠ j := fun k h e => by subst e; rw [hj] at h; cases h
  have back : ∀ k b, ((st.mv i j B).h k).isSome = true → bk (upd J j (J i) k) = some b → ∃ k', (st.h k').isSome = true ∧ bk (J k') = some b ∧ (k' = i ↔ k = j) ∧ (k' ≠ i → k' = k) := fun k b h1 h2 => by
    by_cases e : k = j
    · subst e; rw [upd_same] at h2; exact ⟨i, by rw [hi]; rfl, h2, by simp, fun h => absurd rfl h⟩
    · rw [upd_other _ _ e] at h2
      have e2 : k ≠ i := fun e2 => by subst e2; rw [hgone] at h1; cases h1
      rw [hoth k e2 e] at h1
      exact ⟨k, by simpa using h1, h2, by simp [e, e2], fun _ => rfl⟩
  have hM : ∀ b, b < w.heap.size → Mb C (st.mv i j B).h (upd J j (J i)) b → Mb C st.h J b := by
    rintro b _ (h0 | ⟨k, hk, hb⟩)
    · exact .inl h0
    · obtain ⟨k', h1, h2, _⟩ := back k b hk hb
      exact .inr ⟨k', h1, h2⟩
  have conv : ∀ (v : Value) (x : AV), RepA C w st.h J v x → RepA C w (st.mv i j B).h (upd J j (J i)) v (mvA i j x) := fun v x q => by
    refine q.tr fun v c c' e q => ?_
    have h1 : ∀ k, (st.h k).isSome = true → k ≠ i → ((st.mv i j B).h k).isSome = true ∧ upd J j (J i) k = J k := fun k hk e => ⟨by rw [hoth k e (nj k hk)]; simpa using hk, by rw [upd_other _ _ (nj k hk)]⟩
    have h2 : ((st.mv i j B).h j).isSome = true ∧ upd J j (J i) j = J i := ⟨by rw [hat]; rfl, by rw [upd_same]⟩
    cases c with
    | f x => simp only [mvC, Option.some.injEq] at e; subst e; exact RepF.ext q (Ext.refl _) hM
    | bx k off =>
      by_cases ek : k = i
      · subst ek; simp only [mvC, Nat.beq_refl, cond_true, Option.some.injEq] at e; subst e; exact ⟨h2.1, by rw [h2.2]; exact q.2⟩
      · simp only [mvC, killA_ne ek, cond_false, Option.some.injEq] at e; subst e; exact ⟨(h1 k q.1 ek).1, by rw [(h1 k q.1 ek).2]; exact q.2⟩
    | ow k =>
      by_cases ek : k = i
      · subst ek; simp only [mvC, Nat.beq_refl, cond_true, Option.some.injEq] at e; subst e; exact ⟨h2.1, by rw [h2.2]; exact q.2⟩
      · simp only [mvC, killA_ne ek, cond_false, Option.some.injEq] at e; subst e; exact ⟨(h1 k q.1 ek).1, by rw [(h1 k q.1 ek).2]; exact q.2⟩
    | sv k off n =>
      by_cases ek : k = i
      · subst ek; simp only [mvC, Nat.beq_refl, cond_true, Option.some.injEq] at e; subst e; exact ⟨h2.1, by rw [h2.2]; exact q.2⟩
      · simp only [mvC, killA_ne ek, cond_false, Option.some.injEq] at e; subst e; exact ⟨(h1 k q.1 ek).1, by rw [(h1 k q.1 ek).2]; exact q.2⟩
  have cB : ∀ {v : Value} {D : Blk}, RepB C w w0.heap.size st.h J v D → RepB C w w0.heap.size (st.mv i j B).h (upd J j (J i)) v (D.mapA (mvA i j)) := fun q => q.conv (mvA i j) (fun _ _ => rfl) (fun _ _ h => h) conv (fun _ _ q => RepF.ext q (Ext.refl _) hM)
  refine ⟨S.ext, S.size, S.defs, fun t => conv _ _ (S.slot t), fun k D hD => ?_, fun k l b hk hl hkb hlb => ?_, S.old, fun g cs hg => RepF.ext (S.glob g cs hg) (Ext.refl _) hM, fun k p cells hp hc hs => ?_⟩
  · by_cases e : k = j
    · subst e; rw [hat] at hD; cases hD; rw [upd_same]; exact cB (S.blk i B hi)
    · have e2 : k ≠ i := fun e2 => by subst e2; rw [hgone] at hD; cases hD
      rw [hoth k e2 e, Option.map_eq_some_iff] at hD
      obtain ⟨B0, hB0, rfl⟩ := hD
      rw [upd_other _ _ e]; exact cB (S.blk k B0 hB0)
  · obtain ⟨k', p1, p2, p3, p4⟩ := back k b hk hkb
    obtain ⟨l', r1, r2, r3, r4⟩ := back l b hl hlb
    have e := S.apart k' l' b p1 r1 p2 r2
    by_cases ek : k' = i
    · rw [p3.1 ek, r3.1 (e ▸ ek)]
    · rw [← p4 ek, ← r4 (e ▸ ek), e]
  · by_cases e : k = j
    · subst e; rw [hJj] at hp; cases hp
    · have e2 : k ≠ i := fun e2 => by subst e2; rw [hgone] at hc; cases hc
      rw [hoth k e2 e, Option.map_eq_some_iff] at hc
      obtain ⟨B0, hB0, rfl⟩ := hc
      rw [upd_other _ _ e]
      exact S.fix k p B0 hp hB0 (by cases B0 <;> exact hs)
theorem seesL_f (ys : List FV) : SeesL C N st (ys.map .f) ys := by
  induction ys with
  | nil => trivial
  | cons y ys ih => exact ⟨sees_f y, ih⟩
end
end Go.Ab
namespace Go.Ab
open Go Go.RowKit Go.Shelf Go.Proofs
theorem row_frozen {w : World} {M : Nat → Prop} {base e sz n : Nat} {v : Value} {xs : List Value} {cs : List FV} (q1 : w.ownsRow base e sz v n xs) (q2 : ∀ u ∈ xs, u.oneCell' = true) (q3 : RepL w M xs cs) (hM : ∀ b, bk v = some b → ¬ M b) : RepF w M v (.sl n cs) := by
  have lies : ∀ b, bk v = some b → Lies w M b 0 xs := fun b hb =>
    ⟨by
      have hb' := hb
      rw [row_bk q1] at hb'
      exact (q1.lt b hb').2, hM b hb, fun k hk => by
      rw [Nat.zero_add]
      rw [row_bk q1] at hb
      obtain ⟨ad, c, e1⟩ := q1.isSlice
      have := q1.cells hb k xs[k] (List.getElem?_eq_getElem hk)
      rw [addr_add, Nat.zero_add] at this
      rw [this, List.getElem?_eq_getElem hk]⟩
  rcases q1.2 with ⟨e1, e2⟩ | ⟨g, cap, cur, e1, h1, h2, h3, h4, h5, h6⟩
  · rw [e1]
    have hx : xs = [] := List.eq_nil_of_length_eq_zero (by rw [q1.1, e2]; simp)
    subst hx
    subst e2
    exact RepF.sl none 0 0 cs [] (Nat.le_refl _) q3.1 q2 (fun h => absurd rfl h) (fun k u x h => by simp at h)
  · have hL := lies g (by rw [e1]; rfl)
    rw [e1]
    exact RepF.sl _ n cap cs xs h3 q3.1 q2 (fun _ => ⟨g, 0, rfl, hL⟩) (fun k u x a b => q3.2 k u x a b)
section
variable {C : Ctx} {N : Nat} {st : St}
theorem v_callNwF {o : Oper} {f : Operand} {args : Array Operand} {ts : Array TypeId} {g e sz n : Nat} {caps : List AV} {ys cs : List FV} (K : SummG C.P C.G g [] (ys.map .f) (.ow 0) [.row e sz n cs]) (hG : ∀ k, C.G k = none) (ho : o.op = .call { callee := .value f, args := args, argTypes := ts }) (hd : dstB N o.dst = true) (hf : fnCaps (st.ev C f) = some (g, caps))
    (hys : SeesL C N st (args.toList.map (st.ev C) ++ caps) ys) (hv : ∃ vs : List Value, cs = vs.map .v) : ValOp C N o st (.f (.sl n cs)) := by
  intro w0 a w st' hA ⟨J, S⟩ K1 Q hK
  have hfe : st'.ev C f = st.ev C f := hA.ev f (by simp [ho, Op.operands, Call.operands])
  have hae : args.toList.map (st'.ev C) = args.toList.map (st.ev C) := List.map_congr_left fun x hx => hA.ev x (by simp [ho, Op.operands, Call.operands]; exact .inr (by simpa using hx))
  obtain ⟨us, hfv, hcap⟩ := fnCaps_rep (S.eval f) (by rw [hfe]; exact hf)
  have hrun := callEnter (w := w) K.enters ho hfv
  refine op_enter hrun ?_
  have hargs := RepAs.append (evs_rep S args.toList) hcap
  rw [hae] at hargs
  have hm : ∀ b, C.M0 b → b < w.heap.size ∧ ¬ (fun _ : Nat => False) b := fun b hb => ⟨Nat.lt_of_lt_of_le (S.old b hb).1 S.ext.le, id⟩
  have hX : ∀ b, (fun _ : Nat => False) b ↔ lentX ([] : List Blk).length J b := fun b => ⟨False.elim, fun ⟨i, hi, _⟩ => absurd hi (Nat.not_lt_zero i)⟩
  have hR : RepAs (cxG C.P C.G C.M0 (fun _ => False) [] J) w (blkL []) J (args.toList.map a.eval ++ us) (ys.map .f) := ⟨by rw [hargs.1, hys.len]; simp, fun k u y h1 h2 => by
    rw [List.getElem?_map] at h2
    cases hk : ys[k]? with
    | none => rw [hk] at h2; cases h2
    | some z =>
      rw [hk] at h2; cases h2
      have hk2 : k < (args.toList.map (st.ev C) ++ caps).length := by rw [hys.len]; exact (List.getElem?_eq_some_iff.1 hk).1
      have := hys.at_ k _ z (List.getElem?_eq_getElem hk2) hk st' hA.hp w0 a w J S u (hargs.2 k u _ h1 (List.getElem?_eq_getElem hk2))
      exact RepF.ext this (Ext.refl _) (fun b _ hb => by
        rcases hb with h | ⟨i, hi, _⟩
        · exact h
        · rw [blkL_eq] at hi; simp at hi)⟩
  refine Calls.mono (K.call w C.M0 (fun _ => False) _ J hX hm (fun gl cs hg => by rw [hG gl] at hg; cases hg) hR ⟨fun i B h => by simp at h, fun i j b hi => absurd hi (Nat.not_lt_zero i)⟩) ?_
  rintro en w' ⟨v, J', rfl, hret, hL, hg, -⟩
  have he : Ext w w' := hg.toExt
  obtain ⟨-, rfl⟩ := hret
  obtain ⟨xs, q1, q0, q2, q3⟩ := hL.blk 0 _ rfl
  have hfresh : ∀ c, bk (J' 0) = some c → w.heap.size ≤ c := fun c hc => (q0 c hc).resolve_right id
  obtain ⟨vs, rfl⟩ := hv
  refine hK _ _ ⟨J, (S.toExt he).put hd (row_frozen q1 q2 ⟨by simpa using q3.1, fun k u x h1 h2 => ?_⟩ fun b hb hmb => ?_)⟩
  · rw [List.getElem?_map] at h2
    cases hk : vs[k]? with
    | none => rw [hk] at h2; cases h2
    | some z =>
      rw [hk] at h2; cases h2
      have := q3.2 k u (.v z) h1 (by rw [List.getElem?_map, hk]; rfl)
      rw [repV this]; exact RepF.v z
  · have h1 := hfresh b hb
    rcases hmb with h2 | ⟨i, hi, hbi⟩
    · have := (hm b h2).1; omega
    · have := (S.own_at hi hbi).2; omega
theorem v_callWF {o : Oper} {f : Operand} {args : Array Operand} {ts : Array TypeId} {g e sz n : Nat} {caps ags : List AV} {vs : List Value} (hent : Enters C.P g) (ho : o.op = .call { callee := .value f, args := args, argTypes := ts }) (hd : dstB N o.dst = true) (hf : fnCaps (st.ev C f) = some (g, caps))
    (hag : args.toList.map (st.ev C) ++ caps = ags) (hone : ∀ v ∈ vs, v.oneCell' = true) (hc : ∀ st', Hp st st' → ∀ w0 a w J, Sim C w0 N st' a w J → ∀ us, RepAs C w st'.h J us ags → Calls C.P g us.toArray w fun en w' => ∃ v, en = .returned v ∧ w'.ownsRow w.heap.size e sz v n vs ∧ Ext w w') : ValOp C N o st (.f (.sl n (vs.map .v))) := by
  intro w0 a w st' hA ⟨J, S⟩ K1 Q hK
  have hfe : st'.ev C f = st.ev C f := hA.ev f (by simp [ho, Op.operands, Call.operands])
  have hae : args.toList.map (st'.ev C) = args.toList.map (st.ev C) := List.map_congr_left fun x hx => hA.ev x (by simp [ho, Op.operands, Call.operands]; exact .inr (by simpa using hx))
  obtain ⟨us, hfv, hcap⟩ := fnCaps_rep (S.eval f) (by rw [hfe]; exact hf)
  have hrun := callEnter (w := w) hent ho hfv
  refine op_enter hrun ?_
  have hargs := RepAs.append (evs_rep S args.toList) hcap
  rw [hae, hag] at hargs
  refine Calls.mono (hc st' hA.hp w0 a w J S _ hargs) ?_
  rintro en w' ⟨v, rfl, q1, he⟩
  refine hK _ _ ⟨J, (S.toExt he).put hd (row_frozen q1 hone ⟨by simp, fun k u x h1 h2 => ?_⟩ fun b hb hmb => ?_)⟩
  · rw [List.getElem?_map, h1] at h2
    cases h2; exact RepF.v _
  · have hb' := hb
    rw [row_bk q1] at hb'
    have h1 := (q1.lt b hb').1
    rcases hmb with h2 | ⟨i, hi, hbi⟩
    · have := (S.old b h2).1; have := S.ext.le; omega
    · have := (S.own_at hi hbi).2; omega
variable {ops : Array Oper} {pr : Bool} {K : St → Prop} {rest : List Oper} {d : Option Tmp} {T0 : TypeId} {pos : String} {af : Array Edge} {gd : Option (Nat × Bool)}
theorem s_callNwF {f : Operand} {args : Array Operand} {ts : Array TypeId} {g e sz n : Nat} {caps : List AV} {ys cs : List FV} (Kg : SummG C.P C.G g [] (ys.map .f) (.ow 0) [.row e sz n cs]) (hG : ∀ k, C.G k = none) (hv : ∃ vs : List Value, cs = vs.map .v) (hw : wantB st ops ⟨d, .call { callee := .value f, args := args, argTypes := ts }, T0, pos, af, gd⟩ = some true) (hd : dstB N d = true) (hf : fnCaps (st.ev C f) = some (g, caps))
    (hys : SeesL C N st (args.toList.map (st.ev C) ++ caps) ys) (k : R C N ops pr K rest (st.put d (.f (.sl n cs)))) : R C N ops pr K (⟨d, .call { callee := .value f, args := args, argTypes := ts }, T0, pos, af, gd⟩ :: rest) st :=
  ⟨r_val hw (v_callNwF Kg hG rfl hd hf hys hv) k.out⟩
theorem s_callWF {f : Operand} {args : Array Operand} {ts : Array TypeId} {g e sz n : Nat} {caps ags : List AV} {vs : List Value} (hent : Enters C.P g) (hone : ∀ v ∈ vs, v.oneCell' = true) (hw : wantB st ops ⟨d, .call { callee := .value f, args := args, argTypes := ts }, T0, pos, af, gd⟩ = some true) (hd : dstB N d = true) (hf : fnCaps (st.ev C f) = some (g, caps))
    (hag : args.toList.map (st.ev C) ++ caps = ags) (hc : ∀ st', Hp st st' → ∀ w0 a w J, Sim C w0 N st' a w J → ∀ us, RepAs C w st'.h J us ags → Calls C.P g us.toArray w fun en w' => ∃ v, en = .returned v ∧ w'.ownsRow w.heap.size e sz v n vs ∧ Ext w w') (k : R C N ops pr K rest (st.put d (.f (.sl n (vs.map .v))))) : R C N ops pr K (⟨d, .call { callee := .value f, args := args, argTypes := ts }, T0, pos, af, gd⟩ :: rest) st :=
  ⟨r_val hw (v_callWF hent rfl hd hf hag hone hc) k.out⟩
end
theorem gh_boxW {C : Ctx} {N : Nat} {st : St} (i : Nat) {cs cs' : List AV} (hi : st.h i = some (.box cs)) (hl : cs'.length = cs.length) (hc : ∀ (k : Nat) (x x' : AV), cs[k]? = some x → cs'[k]? = some x' → ∀ (w : World) (J : Nat → Value) (v : Value), RepA C w st.h J v x → RepA C w st.h J v x') : Gh C N st { st with h := upd st.h i (some (.box cs')) } := fun w0 a w ⟨J, S⟩ => ⟨J, S.swap (fun j => by
    by_cases e : j = i
    · subst e; rw [upd_same, hi]; rfl
    · rw [upd_other _ _ e]) (fun j B hB => by
    by_cases e : j = i
    · subst e
      rw [upd_same] at hB; cases hB
      obtain ⟨b, T, us, q1, q2, q3, q4, q5, q6⟩ := S.blk j _ hi
      refine ⟨b, T, us, q1, q2, q3, by rw [q4, hl], q5, fun k u x h1 h2 => ?_⟩
      have hk : k < cs.length := by rw [← hl]; exact (List.getElem?_eq_some_iff.1 h2).1
      exact hc k _ x (List.getElem?_eq_getElem hk) h2 w J u (q6 k u _ h1 (List.getElem?_eq_getElem hk))
    · rw [upd_other _ _ e] at hB; exact S.blk j B hB) (fun j B hc hs => by
    by_cases e : j = i
    · subst e; exact ⟨_, hi, rfl⟩
    · rw [upd_other _ _ e] at hc; exact ⟨B, hc, hs⟩)⟩
theorem afterG_h1 {st : St} {σ : List Nat} {L L' : List Blk} {d : Option Tmp} {ret : AV} {i e : Nat} {B : Blk} (h0 : moved σ L = [e]) (h1 : i ∉ σ) (h2 : i < st.nx) (h : st.h i = some B) (hk : killsB [e] B = B) : (st.afterG σ L L' d ret).h i = some B := by
  show laidB (killH (moved σ L) st.h) _ _ L' i = _
  rw [laidB_other (fun hm => by
    rcases List.mem_append.1 hm with h | h
    · exact h1 h
    · obtain ⟨r, _, e⟩ := List.mem_map.1 h; omega), h0]
  show (st.h i).map (killsB [e]) = _
  rw [h, Option.map_some, hk]
theorem afterG_h {st : St} {σ : List Nat} {L L' : List Blk} {d : Option Tmp} {ret : AV} {i : Nat} (h0 : moved σ L = []) (h1 : i ∉ σ) (h2 : i < st.nx) : (st.afterG σ L L' d ret).h i = st.h i := by
  show laidB (killH (moved σ L) st.h) _ _ L' i = _
  rw [laidB_other (fun hm => by
    rcases List.mem_append.1 hm with h | h
    · exact h1 h
    · obtain ⟨r, _, e⟩ := List.mem_map.1 h; omega), h0]
  rfl
theorem le_base {h h' : Nat → Option Blk} (hcl : ∀ i B, h' i = some B → closedB h' B) (heq : ∀ i B, h' i = some B → h i = some B) : ∀ i, h' i = none ∨ ∃ B, h' i = some B ∧ h i = some B ∧ closedB h' B := fun i => by
  cases hi : h' i with
  | none => exact .inl rfl
  | some B => exact .inr ⟨B, rfl, heq i B hi, hcl i B hi⟩
end Go.Ab
namespace Go.Ab
open Go Go.RowKit Go.Shelf Go.Proofs
section
variable {C : Ctx} {N : Nat} {st : St}
theorem res_sees {t : Nat} {x : AV} {y : FV} (h : st.s t = x) (H : Sees C N st x y) : ResOk C N st (.tmp t) y := fun w0 a w ⟨J, S⟩ => by
  have h1 := S.slot t
  rw [h] at h1
  exact ⟨_, rfl, H st (fun i B hi => .inr ⟨B, hi, .inl rfl⟩) w0 a w J S _ h1⟩
theorem ret4 {fn : Func} {r1 r2 r3 r4 : ResultVar} {x y z t : FV} (h : fn.results = #[r1, r2, r3, r4]) (h1 : ResOk C N st r1 x) (h2 : ResOk C N st r2 y) (h3 : ResOk C N st r3 z) (h4 : ResOk C N st r4 t) : RetOk C N fn (.tup [x, y, z, t]) st := fun w0 a w S => by
  obtain ⟨v, q1, q2⟩ := h1 w0 a w S
  obtain ⟨u, p1, p2⟩ := h2 w0 a w S
  obtain ⟨s, o1, o2⟩ := h3 w0 a w S
  obtain ⟨r, n1, n2⟩ := h4 w0 a w S
  refine ⟨.tuple #[v, u, s, r], by rw [results_eq, h]; simp [q1, p1, o1, n1], RepF.tup _ [v, u, s, r] rfl (fun k u' x' a b => ?_)⟩
  match k, a, b with
  | 0, a, b => cases a; cases b; exact q2
  | 1, a, b => cases a; cases b; exact p2
  | 2, a, b => cases a; cases b; exact o2
  | 3, a, b => cases a; cases b; exact n2
  | _ + 4, a, _ => simp at a
end
theorem closedC_mono {h h' : Nat → Option Blk} (hl : ∀ i, (h i).isSome = true → (h' i).isSome = true) {c : Cap} (hc : closedC h c = true) : closedC h' c = true := by
  cases c with
  | f x => rfl
  | bx i off => exact hl i hc
  | ow i => exact hl i hc
  | sv i off n => exact hl i hc
theorem closedA_mono {h h' : Nat → Option Blk} (hl : ∀ i, (h i).isSome = true → (h' i).isSome = true) {x : AV} (hc : closedA h x) : closedA h' x := by
  have key : ∀ l : List Cap, l.all (closedC h) = true → l.all (closedC h') = true := fun l hc => List.all_eq_true.2 fun c hm => closedC_mono hl (List.all_eq_true.1 hc c hm)
  cases x with
  | f x => trivial
  | bot => trivial
  | bx i off => exact hl i hc
  | ow i => exact hl i hc
  | sv i off n => exact hl i hc
  | ag l => exact key l hc
  | tp l => exact key l hc
  | fb f l => exact key l hc
theorem closedB_mono {h h' : Nat → Option Blk} (hl : ∀ i, (h i).isSome = true → (h' i).isSome = true) {B : Blk} (hc : closedB h B) : closedB h' B := by
  cases B with
  | box cs => exact fun x hx => closedA_mono hl (hc x hx)
  | row e sz n cs => trivial
  | rowA e sz n cs => exact fun x hx => closedA_mono hl (hc x hx)
  | arr e sz n cs => exact fun x hx => closedA_mono hl (hc x hx)
  | map G => trivial
theorem le_baseO {h h' : Nat → Option Blk} {k : Nat} {B0 : Blk} (hn : h' k = none) (hk : h k = some B0) (hc0 : closedB (upd h' k (some B0)) B0) (H : ∀ i, h' i = none ∨ ∃ B, h' i = some B ∧ h i = some B ∧ closedB h' B) : ∀ i, upd h' k (some B0) i = none ∨ ∃ B, upd h' k (some B0) i = some B ∧ h i = some B ∧ closedB (upd h' k (some B0)) B := fun i => by
  by_cases e : i = k
  · subst e; exact .inr ⟨B0, upd_same _ _ _, hk, hc0⟩
  · rw [upd_other _ _ e]
    rcases H i with h1 | ⟨B, h1, h2, h3⟩
    · exact .inl h1
    · refine .inr ⟨B, h1, h2, closedB_mono (fun j hj => ?_) h3⟩
      by_cases e2 : j = k
      · subst e2; rw [hn] at hj; cases hj
      · rw [upd_other _ _ e2]; exact hj
end Go.Ab
namespace Go.Ab
open Go Go.RowKit Go.Shelf Go.Proofs Go.Sort
theorem deleteG {α : Type} [Inhabited α] {P : Program} {G : Nat → Option (List FV)} {f : Nat} {enc : α → Value} (h1 : ∀ x, (enc x).oneCell' = true) (zr : α) (hent : Enters P f)
    (hD : ∀ (blk off cap i j : Nat) (d : Array α) (w : World), Holds enc w blk off d → d.size ≤ cap → cap ≤ 9223372036854775807 → i ≤ j → j ≤ d.size → Calls P f #[.slice (some ⟨blk, off, none⟩) d.size cap, .int .i64 i, .int .i64 j] w fun e w' => e = .returned (.slice (some ⟨blk, off, none⟩) (d.size - (j - i)) cap) ∧ ∃ q, w' = putRow enc (Sort.ahead w q) blk off (d.toList.take i ++ d.toList.drop j ++ List.replicate (j - i) zr).toArray)
    (d : List α) (hne : 0 < d.length) (T : TypeId) {n m i j : Nat} (hn : n = d.length) (hij : i ≤ j) (hj : j ≤ d.length) (hm : m = d.length - (j - i)) {cs cs' : List FV} (hcs : (d.map enc).map FV.v = cs) (hcs' : ((d.take i ++ d.drop j).map enc).map FV.v = cs') :
    SummG P G f [.row T 1 n cs] [.ow 0, .f (.v (.int .i64 i)), .f (.v (.int .i64 j))] (.ow 0) [.row T 1 m cs'] := by
  subst hn; subst hcs; subst hcs'; subst hm
  refine ⟨hent, Nat.le_refl _, fun i B B' h1 h2 => by
    rcases i with _ | i
    · cases h1; cases h2; rfl
    · simp at h1, fun w M X us J hX hM hG hA hL => ?_⟩
  obtain ⟨v0, v1, v2, rfl⟩ : ∃ v0 v1 v2, us = [v0, v1, v2] := by
    obtain ⟨e, _⟩ := hA
    match us, e with
    | [a, b, c], _ => exact ⟨a, b, c, rfl⟩
  obtain ⟨-, hv0⟩ : _ ∧ v0 = J 0 := hA.2 0 v0 (.ow 0) rfl rfl
  have hv1 : v1 = .int .i64 i := repV (hA.2 1 v1 _ rfl rfl)
  have hv2 : v2 = .int .i64 j := repV (hA.2 2 v2 _ rfl rfl)
  subst hv0; subst hv1; subst hv2
  obtain ⟨xs, hrow, hbk, hone, hrep⟩ := hL.blk 0 _ rfl
  have exs := repL_v0 hrep
  subst exs
  obtain ⟨-, ⟨ev, en⟩ | ⟨b, cap, cur, ev, -, hb, hcap, hmax, hsz, htk⟩⟩ := hrow
  · omega
  · have hXb : X b := (hX b).2 ⟨0, by simp, by rw [ev]; rfl⟩
    have hbw : b < w.heap.size := (Array.getElem?_eq_some_iff.1 hb).1
    rw [Nat.mul_one] at hsz htk
    have hH : Holds enc w b 0 d.toArray := by
      intro j hj
      have hj' : j < d.length := by simpa using hj
      have hc : cur[j]? = some (enc d[j]) := by
        have h2 : (cur.toList.take d.length)[j]? = (d.map enc)[j]? := by rw [htk]
        rw [List.getElem?_take, if_pos hj'] at h2
        rw [← Array.getElem?_toList, h2, List.getElem?_map, List.getElem?_eq_getElem hj']; rfl
      rw [getElem!_pos _ j hj]
      refine ⟨?_, ?_⟩
      · unfold World.cell?
        simp only [hb]
        simpa using hc
      · unfold World.frozen?
        simp only [hb]
        simp
    rw [ev]
    have hcall := hD b 0 cap i j d.toArray w hH (by simpa using hcap) (by unfold maxLen at hmax; omega) hij (by simpa using hj)
    simp only [List.size_toArray] at hcall
    refine hcall.mono ?_
    rintro e w' ⟨rfl, q, rfl⟩
    obtain ⟨F, hF⟩ : ∃ F, F = (d.take i ++ d.drop j ++ List.replicate (j - i) zr).toArray := ⟨_, rfl⟩
    have hFs : F.size = d.length := by rw [hF]; simp; omega
    rw [← hF]
    have hsize : (putRow enc (Sort.ahead w q) b 0 F).heap.size = w.heap.size := by simp [putRow, mapBlock, Sort.ahead]
    have hat : ∀ i, i < w.heap.size → (putRow enc (Sort.ahead w q) b 0 F).heap[i]? = if b = i then (w.heap[i]?).map (onCells (putCells enc 0 F)) else w.heap[i]? := fun i hi => by
      simp only [putRow, mapBlock, Sort.ahead, Array.getElem?_modify]
    have hnew : (putRow enc (Sort.ahead w q) b 0 F).heap[b]? = some (.cells (putCells enc 0 F cur) T (0, 0)) := by
      rw [hat b hbw, if_pos rfl, hb]; rfl
    have hml : (d.take i ++ d.drop j).length = d.length - (j - i) := by simp; omega
    have hpc : (putCells enc 0 F cur).toList.take ((d.length - (j - i)) * 1) = (d.take i ++ d.drop j).map enc := by
      rw [Nat.mul_one]
      apply List.ext_getElem?
      intro k
      rw [List.getElem?_take]
      by_cases hk : k < d.length - (j - i)
      · rw [if_pos hk, Array.getElem?_toList, putCells, Array.getElem?_mapIdx, List.getElem?_map]
        have hcu : k < cur.size := by rw [hsz]; omega
        have hk2 : k < F.size := by rw [hFs]; omega
        rw [Array.getElem?_eq_getElem hcu]
        have hFk : F[k]? = (d.take i ++ d.drop j)[k]? := by
          rw [hF, List.getElem?_toArray, List.getElem?_append_left (by rw [hml]; exact hk)]
        rw [← hFk, Array.getElem?_eq_getElem hk2]
        simp [hk2]
      · rw [if_neg hk, List.getElem?_eq_none (by rw [List.length_map, hml]; omega)]
    refine ⟨_, fun _ => .slice (some ⟨b, 0, none⟩) (d.length - (j - i)) cap, rfl, ⟨rfl, rfl⟩, ⟨fun k B hB => ?_, fun k l _ hk hl _ _ => by simp at hk hl; omega⟩, ⟨rfl, rfl, rfl, ?_, fun k hk hx => ?_⟩, fun k B hB hs => by
      rcases k with _ | k
      · cases hB; cases hs
      · cases hB⟩
    · rcases k with _ | k
      · cases hB
        refine ⟨(d.take i ++ d.drop j).map enc, ⟨by rw [List.length_map, hml, Nat.mul_one], .inr ⟨b, cap, putCells enc 0 F cur, rfl, Nat.zero_le _, hnew, by omega, hmax, by simp [putCells, hsz], hpc⟩⟩, fun c hc => ?_, fun u hu => ?_, ?_⟩
        · have : b = c := by simpa [bk] using hc
          subst this
          exact .inr hXb
        · obtain ⟨x, _, rfl⟩ := List.mem_map.1 hu
          exact h1 x
        · exact repL_of0 _
      · cases hB
    · rw [hsize]; exact Nat.le_refl _
    · rw [hat k hk, if_neg (fun (e : b = k) => hx (e ▸ hXb))]
end Go.Ab
namespace Go.Ab
open Go Go.RowKit Go.Shelf Go.Proofs
section
variable {C : Ctx} {N : Nat} {st : St}
theorem gh_one (i r : Nat) {e sz n : Nat} {cs : List FV} (hs : st.s r = .ow i) (hi : st.h i = some (.row e sz n cs)) : Gh C N st ⟨upd (fun _ => .bot) r (.ow 0), blkL [.row e sz n cs], 1⟩ := fun w0 a w ⟨J, S⟩ => ⟨fun _ => J i, by
  have live : ∀ j, (blkL [Blk.row e sz n cs] j).isSome = true → j = 0 := fun j hj => by
    have := blkL_live.1 hj; simp at this; exact this
  have hM : ∀ b, b < w.heap.size → Mb C (blkL [Blk.row e sz n cs]) (fun _ => J i) b → Mb C st.h J b := fun b _ q => q.imp id fun ⟨j, _, hb⟩ => ⟨i, by rw [hi]; rfl, hb⟩
  refine ⟨S.ext, S.size, S.defs, fun t => ?_, fun j D hD => ?_, fun j k b hj hk _ _ => by rw [live j hj, live k hk], S.old, fun g cs hg => RepF.ext (S.glob g cs hg) (Ext.refl _) hM, fun j p B hp hc hst => ?_⟩
  · by_cases e : t = r
    · subst e
      show RepA C w _ _ _ (upd (fun _ => AV.bot) t (.ow 0) t)
      rw [upd_same]
      have := S.slot t
      rw [hs] at this
      exact ⟨rfl, this.2⟩
    · show RepA C w _ _ _ (upd (fun _ => AV.bot) r (.ow 0) t)
      rw [upd_other _ _ e]; trivial
  · have hj := live j (by show (blkL _ j).isSome = true; rw [show blkL [Blk.row e sz n cs] j = some D from hD]; rfl)
    subst hj
    have : D = .row e sz n cs := by have h : blkL [Blk.row e sz n cs] 0 = some D := hD; rw [blkL_eq] at h; simp at h; exact h.symm
    subst this
    obtain ⟨xs, q1, q0, q2, q3⟩ := S.blk i _ hi
    exact ⟨xs, q1, q0, q2, q3.1, fun k u x h1 h2 => RepF.ext (q3.2 k u x h1 h2) (Ext.refl _) hM⟩
  · have hj := live j (by show (blkL _ j).isSome = true; rw [show blkL [Blk.row e sz n cs] j = some B from hc]; rfl)
    subst hj
    have h : blkL [Blk.row e sz n cs] 0 = some B := hc
    rw [blkL_eq] at h; simp at h; subst h; cases hst⟩
end
end Go.Ab
namespace Go.Proofs.YtenkgipcblfocaaGreat
open Go Go.RowKit Go.Proofs Go.Shelf Go.Ab
theorem strSz (s : Nm) : (⟨s.toArray⟩ : ByteArray).size = s.length := by simp [ByteArray.size]
theorem eqs_run (x y : Operand) (a b : Nm) (w : World) : (do eqGuard .eql 9 x y (.string ⟨a.toArray⟩) (.string ⟨b.toArray⟩); binOp .eql 9 (.string ⟨a.toArray⟩) (.string ⟨b.toArray⟩) : Sem Value).run Tryz.prog w = .ok (.bool (decide (a = b))) w := by
  simp [eqGuard, binOp, Op.stringOp]
  exact Bool.eq_iff_iff.2 (by rw [beq_iff_eq, decide_eq_true_eq])
theorem nes_run (x y : Operand) (a b : Nm) (w : World) : (do eqGuard .neq 9 x y (.string ⟨a.toArray⟩) (.string ⟨b.toArray⟩); binOp .neq 9 (.string ⟨a.toArray⟩) (.string ⟨b.toArray⟩) : Sem Value).run Tryz.prog w = .ok (.bool (!decide (a = b))) w := by
  simp [eqGuard, binOp, Op.stringOp]
  exact Bool.eq_iff_iff.2 (by rw [beq_iff_eq, decide_eq_true_eq])
theorem eqs_t {x y : Operand} {a b : Nm} (h : a = b) (w : World) : (do eqGuard .eql 9 x y (.string ⟨a.toArray⟩) (.string ⟨b.toArray⟩); binOp .eql 9 (.string ⟨a.toArray⟩) (.string ⟨b.toArray⟩) : Sem Value).run Tryz.prog w = .ok (.bool true) w := by
  rw [eqs_run, decide_eq_true h]
theorem eqs_f {x y : Operand} {a b : Nm} (h : ¬ a = b) (w : World) : (do eqGuard .eql 9 x y (.string ⟨a.toArray⟩) (.string ⟨b.toArray⟩); binOp .eql 9 (.string ⟨a.toArray⟩) (.string ⟨b.toArray⟩) : Sem Value).run Tryz.prog w = .ok (.bool false) w := by
  rw [eqs_run, decide_eq_false h]
theorem nes_t {x y : Operand} {a b : Nm} (h : ¬ a = b) (w : World) : (do eqGuard .neq 9 x y (.string ⟨a.toArray⟩) (.string ⟨b.toArray⟩); binOp .neq 9 (.string ⟨a.toArray⟩) (.string ⟨b.toArray⟩) : Sem Value).run Tryz.prog w = .ok (.bool true) w := by
  rw [nes_run, decide_eq_false h]; rfl
theorem nes_f {x y : Operand} {a b : Nm} (h : a = b) (w : World) : (do eqGuard .neq 9 x y (.string ⟨a.toArray⟩) (.string ⟨b.toArray⟩); binOp .neq 9 (.string ⟨a.toArray⟩) (.string ⟨b.toArray⟩) : Sem Value).run Tryz.prog w = .ok (.bool false) w := by
  rw [nes_run, decide_eq_true h]; rfl
def hasS (l : List Nm) (n : Nm) (i : Nat) : Bool := decide (l.getD i default = n)
theorem anyS_has (l : List Nm) (n : Nm) : anyP l.length (hasS l n) = l.contains n := by
  rw [Bool.eq_iff_iff, anyP_iff]
  unfold hasS
  simp only [decide_eq_true_eq, List.contains_eq_mem]
  constructor
  · rintro ⟨i, hi, rfl⟩; rw [getD_at hi]; exact List.getElem_mem hi
  · intro h
    obtain ⟨i, hi, rfl⟩ := List.getElem_of_mem h
    exact ⟨i, hi, getD_at hi⟩
set_option maxRecDepth 100000 in
theorem IndexS_s (l : List Nm) (n : Nm) (hl : l.length ≤ 1000000) : Summ Tryz.prog GG 178 [.sl l.length (strsF l), sv n] (iv (idxP l.length (hasS l n))) := by
  rcases idxP_cases l.length (hasS l n) with ⟨he, hz⟩ | ⟨q, hq, hz, hp, he⟩
  · rw [he]
    refine summW Tryz.func178 rfl rfl 19 rfl (by simp) (fun M0 => ?_)
    repeat (first
    | (apply s_a TY; exact rfl)
    | apply w_seq
    | apply w_region
    | apply s_nil
    | apply t_norm
    | apply w_block)
    apply w_loop (fun k : Nat => ⟨(Ab.upd (Ab.upd (Ab.upd (Ab.upd (fun _ => .bot) 0 (.f (.sl l.length (strsF l)))) 1 (.f (sv n))) 7 (.f (iv l.length))) 8 (.f (iv ((k : Nat) : Int)))), (fun _ => none), 0⟩) (fun k => k ≤ l.length) (fun k => l.length - k) 0 (Nat.zero_le _) (gh_le ⟨le_upd rfl trivial (le_upd rfl trivial (le_upd rfl trivial (le_upd rfl trivial (le_nil _)))), le_h0 _ _⟩)
    intro k hk
    by_cases hc : k < l.length
    · have hne : ¬ l[k] = n := by have := hz k hc; unfold hasS at this; rw [getD_at hc] at this; simpa using this
      repeat (first
    | (apply s_bind; exact rfl; exact rfl; exact rfl; exact rfl; exact rfl; exact rfl; exact eqs_f (by first | assumption | exact fun e => absurd e.symm (by assumption)))
    | (apply s_a TY; exact rfl)
    | (apply s_t; exact rfl; (first | assumption | omega))
    | apply w_seq
    | apply w_region
    | apply s_nil
    | apply t_norm
    | apply k_norm
    | apply w_block
    | apply w_skip
    | (apply w_condT; exact rfl; exact rfl)
    | (apply w_condF; exact rfl; exact rfl)
    | (apply s_c TY; exact rfl; (first | omega | exact ⟨by omega, by (first | with_reducible assumption | ((with_reducible apply strsF_ne); omega) | assumption)⟩))
    | (apply s_l TY; exact rfl; (first | exact rfl | with_reducible assumption | ((with_reducible apply strsF_at); omega) | assumption)))
      exact ⟨k + 1, by omega, by omega, gh_le ⟨le_upd rfl trivial (le_upd rfl trivial (le_upd rfl trivial (le_upd rfl trivial (le_nil _)))), le_h0 _ _⟩⟩
    · repeat (first
    | (apply s_a TY; exact rfl)
    | (apply s_f; exact rfl; (first | assumption | omega))
    | apply w_seq
    | apply w_region
    | apply s_nil
    | apply t_norm
    | apply t_exit
    | apply k_hit
    | apply w_exit
    | apply w_ret
    | (apply w_condF; exact rfl; exact rfl))
      exact lv_ret (ret1 rfl (res_tmp rfl))
  · rw [he]
    refine summW Tryz.func178 rfl rfl 19 rfl (by simp) (fun M0 => ?_)
    repeat (first
    | (apply s_a TY; exact rfl)
    | apply w_seq
    | apply w_region
    | apply s_nil
    | apply t_norm
    | apply w_block)
    apply w_loop (fun k : Nat => ⟨(Ab.upd (Ab.upd (Ab.upd (Ab.upd (fun _ => .bot) 0 (.f (.sl l.length (strsF l)))) 1 (.f (sv n))) 7 (.f (iv l.length))) 8 (.f (iv ((k : Nat) : Int)))), (fun _ => none), 0⟩) (fun k => k ≤ q) (fun k => q - k) 0 (Nat.zero_le _) (gh_le ⟨le_upd rfl trivial (le_upd rfl trivial (le_upd rfl trivial (le_upd rfl trivial (le_nil _)))), le_h0 _ _⟩)
    intro k hk
    have hc : k < l.length := by omega
    by_cases hkq : k = q
    · have he2 : l[k] = n := by have := hp; unfold hasS at this; rw [← hkq, getD_at hc] at this; simpa using this
      subst hkq
      repeat (first
    | (apply s_bind; exact rfl; exact rfl; exact rfl; exact rfl; exact rfl; exact rfl; exact eqs_t (by first | assumption | exact Eq.symm (by assumption)))
    | (apply s_a TY; exact rfl)
    | (apply s_t; exact rfl; (first | assumption | omega))
    | apply w_seq
    | apply w_region
    | apply s_nil
    | apply t_norm
    | apply t_ret
    | apply k_ret
    | apply w_block
    | apply w_ret
    | apply w_skip
    | (apply w_condT; exact rfl; exact rfl)
    | (apply s_c TY; exact rfl; (first | omega | exact ⟨by omega, by (first | with_reducible assumption | ((with_reducible apply strsF_ne); omega) | assumption)⟩))
    | (apply s_l TY; exact rfl; (first | exact rfl | with_reducible assumption | ((with_reducible apply strsF_at); omega) | assumption)))
      exact lv_ret (ret1 rfl (res_tmp rfl))
    · have hne : ¬ l[k] = n := by have := hz k (by omega); unfold hasS at this; rw [getD_at hc] at this; simpa using this
      repeat (first
    | (apply s_bind; exact rfl; exact rfl; exact rfl; exact rfl; exact rfl; exact rfl; exact eqs_f (by first | assumption | exact fun e => absurd e.symm (by assumption)))
    | (apply s_a TY; exact rfl)
    | (apply s_t; exact rfl; (first | assumption | omega))
    | apply w_seq
    | apply w_region
    | apply s_nil
    | apply t_norm
    | apply k_norm
    | apply w_block
    | apply w_skip
    | (apply w_condT; exact rfl; exact rfl)
    | (apply w_condF; exact rfl; exact rfl)
    | (apply s_c TY; exact rfl; (first | omega | exact ⟨by omega, by (first | with_reducible assumption | ((with_reducible apply strsF_ne); omega) | assumption)⟩))
    | (apply s_l TY; exact rfl; (first | exact rfl | with_reducible assumption | ((with_reducible apply strsF_at); omega) | assumption)))
      exact ⟨k + 1, by omega, by omega, gh_le ⟨le_upd rfl trivial (le_upd rfl trivial (le_upd rfl trivial (le_upd rfl trivial (le_nil _)))), le_h0 _ _⟩⟩
set_option maxRecDepth 100000 in
set_option maxHeartbeats 1600000 in
theorem Texts_s (a b : List Nm) (ha : a.length ≤ 1000000) (_hb : b.length ≤ 1000000) : Summ Tryz.prog GG 39 [.sl a.length (strsF a), .sl b.length (strsF b)] (bv (decide (a = b))) := by
  by_cases hl : a.length = b.length
  · refine summW Tryz.func39 rfl rfl 26 rfl (by simp) (fun M0 => ?_)
    repeat (first
    | (apply s_a TY; exact rfl)
    | (apply s_t; exact rfl; (first | assumption | omega))
    | apply w_seq
    | apply w_region
    | apply s_nil
    | apply t_norm
    | apply w_block
    | apply w_skip
    | (apply w_condF; exact rfl; exact rfl))
    apply w_loop (fun k : Nat => ⟨(Ab.upd (Ab.upd (Ab.upd (fun _ => .bot) 0 (.f (.sl a.length (strsF a)))) 1 (.f (.sl b.length (strsF b)))) 5 (.f (iv (k : Nat)))), (fun _ => none), 0⟩) (fun k => k ≤ a.length ∧ a.take k = b.take k) (fun k => a.length - k) 0 (⟨Nat.zero_le _, by simp⟩) (gh_le ⟨le_upd rfl trivial (le_upd rfl trivial (le_upd rfl trivial (le_nil _))), le_h0 _ _⟩)
    intro k ⟨hk, ht⟩
    by_cases hc : k < a.length
    · have hcb : k < b.length := by omega
      by_cases he : a[k] = b[k]
      · have hd : decide (a[k] = b[k]) = !false := by simp [he]
        repeat (first
    | (apply s_bind; exact rfl; exact rfl; exact rfl; exact rfl; exact rfl; exact rfl; exact nes_f he)
    | (apply s_a TY; exact rfl)
    | (apply s_t; exact rfl; (first | assumption | omega))
    | apply w_seq
    | apply w_region
    | (apply w_draw (id := 6) 8 rfl (by kernel_rfl))
    | apply s_nil
    | apply t_norm
    | apply k_norm
    | apply w_block
    | apply w_skip
    | (apply w_condT; exact rfl; exact rfl)
    | (apply w_condF; exact rfl; exact rfl)
    | (apply s_c TY; exact rfl; (first | omega | exact ⟨by omega, by (first | with_reducible assumption | ((with_reducible apply strsF_ne); omega) | assumption)⟩))
    | (apply s_l TY; exact rfl; (first | exact rfl | with_reducible assumption | ((with_reducible apply strsF_at); omega) | assumption)))
        exact ⟨k + 1, ⟨by omega, take_eq_succ hc hcb ht he⟩, by omega, gh_le ⟨le_upd rfl trivial (le_upd rfl trivial (le_upd rfl trivial (le_nil _))), le_h0 _ _⟩⟩
      · have hd : decide (a[k] = b[k]) = !true := by simp [he]
        have hne : ¬ a = b := fun e => he (by simp [e])
        rw [decide_eq_false hne]
        repeat (first
    | (apply s_bind; exact rfl; exact rfl; exact rfl; exact rfl; exact rfl; exact rfl; exact nes_t he)
    | (apply s_a TY; exact rfl)
    | (apply s_t; exact rfl; (first | assumption | omega))
    | apply w_seq
    | apply w_region
    | (apply w_draw (id := 6) 8 rfl (by kernel_rfl))
    | apply s_nil
    | apply t_norm
    | apply t_ret
    | apply k_ret
    | apply w_block
    | apply w_ret
    | apply w_skip
    | (apply w_condT; exact rfl; exact rfl)
    | (apply s_c TY; exact rfl; (first | omega | exact ⟨by omega, by (first | with_reducible assumption | ((with_reducible apply strsF_ne); omega) | assumption)⟩))
    | (apply s_l TY; exact rfl; (first | exact rfl | with_reducible assumption | ((with_reducible apply strsF_at); omega) | assumption)))
        exact lv_ret (ret1 rfl (res_tmp rfl))
    · rw [decide_eq_true (take_all_eq hl (by omega) ht)]
      repeat (first
    | (apply s_a TY; exact rfl)
    | (apply s_f; exact rfl; (first | assumption | omega))
    | apply w_seq
    | apply w_region
    | apply s_nil
    | apply t_norm
    | apply t_exit
    | apply k_hit
    | apply w_exit
    | apply w_ret
    | (apply w_condF; exact rfl; exact rfl))
      exact lv_ret (ret1 rfl (res_tmp rfl))
  · have hne : ¬ a = b := fun e => hl (by rw [e])
    rw [decide_eq_false hne]
    refine summW Tryz.func39 rfl rfl 26 rfl (by simp) (fun M0 => ?_)
    repeat (first
    | (apply s_a TY; exact rfl)
    | (apply s_f; exact rfl; (first | assumption | omega))
    | apply w_seq
    | apply w_region
    | apply s_nil
    | apply t_norm
    | apply t_ret
    | apply w_ret
    | (apply w_condT; exact rfl; exact rfl))
    exact lv_ret (ret1 rfl (res_tmp rfl))
def hasCB (k : Int) : Bool := decide (k = 2) || decide (k = 3)
theorem hasCells_s (k : Int) : Summ Tryz.prog GG 177 [iv k] (bv (hasCB k)) := by
  by_cases h2 : k = 2
  · rw [show hasCB k = true by simp [hasCB, h2]]
    refine summW Tryz.func177 rfl rfl 9 rfl (by simp) (fun M0 => ?_)
    repeat (first
    | (apply s_a TY; exact rfl)
    | (apply s_t; exact rfl; (first | assumption | omega))
    | apply w_seq
    | apply w_region
    | apply s_nil
    | apply t_norm
    | apply w_ret
    | (apply s_s; exact rfl))
    exact lv_ret (ret1 rfl (res_tmp rfl))
  by_cases h3 : k = 3
  · rw [show hasCB k = true by simp [hasCB, h3]]
    refine summW Tryz.func177 rfl rfl 9 rfl (by simp) (fun M0 => ?_)
    repeat (first
    | (apply s_a TY; exact rfl)
    | (apply s_t; exact rfl; (first | assumption | omega))
    | (apply s_f; exact rfl; (first | assumption | omega))
    | apply w_seq
    | apply w_region
    | apply s_nil
    | apply t_norm
    | apply w_ret)
    exact lv_ret (ret1 rfl (res_tmp rfl))
  · rw [show hasCB k = false by simp [hasCB, h2, h3]]
    refine summW Tryz.func177 rfl rfl 9 rfl (by simp) (fun M0 => ?_)
    repeat (first
    | (apply s_a TY; exact rfl)
    | (apply s_f; exact rfl; (first | assumption | omega))
    | apply w_seq
    | apply w_region
    | apply s_nil
    | apply t_norm
    | apply w_ret)
    exact lv_ret (ret1 rfl (res_tmp rfl))
def orN (n : Nat) : Nat := n ||| 32
theorem orN_iff : ∀ n, n < 256 → ((97 ≤ orN n ∧ orN n ≤ 122) ↔ ((97 ≤ n ∧ n ≤ 122) ∨ (65 ≤ n ∧ n ≤ 90))) ∧ orN n < 256 := by decide +kernel
theorem or_run {x y : Operand} {T : TypeId} {n : Nat} (h : n < 256) (w : World) : (do eqGuard .or T x y (.int .u8 (n : Int)) (.int .u8 32); binOp .or T (.int .u8 (n : Int)) (.int .u8 32) : Sem Value).run Tryz.prog w = .ok (.int .u8 (orN n : Nat)) w := by
  have e : (BitVec.ofInt 8 (n : Int) ||| BitVec.ofInt 8 (32 : Int)).toNat = orN n := by
    rw [BitVec.ofInt_natCast, BitVec.toNat_or, BitVec.toNat_ofNat, Nat.mod_eq_of_lt (by omega)]
    rfl
  have hw : ∀ m : Nat, m < 256 → IntKind.u8.wrap ((m : Nat) : Int) = m := by decide +kernel
  simp only [eqGuard, binOp, Op.intBits]
  simp
  show IntKind.u8.wrap ((BitVec.ofInt 8 (n : Int) ||| BitVec.ofInt 8 (32 : Int)).toNat : Int) = _
  rw [e]; exact hw _ (orN_iff n h).2
theorem conv_run {n : Nat} (h : n < 256) (w : World) : (convert 5 3 (.int .u8 (n : Int))).run Tryz.prog w = .ok (.int .i64 (n : Nat)) w := by
  have e : IntKind.i64.wrap ((n : Nat) : Int) = n := wrapN (by omega)
  simp [convert, run_underlying Tryz.underlying5, run_underlying Tryz.underlying3, Conv.intToInt, e]
def badC (n i : Nat) : Bool := !(decide (97 ≤ n ∧ n ≤ 122) || decide (65 ≤ n ∧ n ≤ 90)) && (decide (i = 0) || !(decide (n = 45) || decide (48 ≤ n ∧ n ≤ 57)))
theorem badC_t {n i : Nat} : badC n i = true ↔ ¬ ((97 ≤ n ∧ n ≤ 122) ∨ (65 ≤ n ∧ n ≤ 90)) ∧ (i = 0 ∨ ¬ (n = 45 ∨ (48 ≤ n ∧ n ≤ 57))) := by
  unfold badC
  simp only [Bool.and_eq_true, Bool.or_eq_true, Bool.not_eq_true', Bool.or_eq_false_iff, decide_eq_true_eq, decide_eq_false_iff_not]
  omega
theorem badC_f {n i : Nat} : badC n i = false ↔ ((97 ≤ n ∧ n ≤ 122) ∨ (65 ≤ n ∧ n ≤ 90)) ∨ (i ≠ 0 ∧ (n = 45 ∨ (48 ≤ n ∧ n ≤ 57))) := by
  rw [Bool.eq_false_iff, ne_eq, badC_t]
  omega
def badS (s : Nm) (i : Nat) : Bool := badC (s.getD i default).toNat i
def nameB (s : Nm) : Bool := decide (1 ≤ s.length ∧ s.length ≤ 12) && !anyP s.length (badS s)
theorem nameB_ok {s : Nm} (h : ∀ i, i < s.length → badS s i = false) : nameB s = withinB s.length 1 12 := by
  have : anyP s.length (badS s) = false := Bool.eq_false_iff.2 fun hh => by
    obtain ⟨i, h1, h2⟩ := anyP_iff.1 hh
    rw [h i h1] at h2; cases h2
  unfold nameB withinB
  rw [this, Bool.not_false, Bool.and_true, Bool.eq_iff_iff]
  simp only [decide_eq_true_eq, Bool.and_eq_true]
  omega
theorem nameB_bad {s : Nm} {i : Nat} (hi : i < s.length) (h : badS s i = true) : nameB s = false := by
  unfold nameB
  rw [anyP_iff.2 ⟨i, hi, h⟩]; simp
theorem nameB_len {s : Nm} (h : ¬ (1 ≤ s.length ∧ s.length ≤ 12)) : nameB s = false := by
  unfold nameB; rw [decide_eq_false h]; rfl
theorem badS_of {s : Nm} {i n : Nat} (hi : i < s.length) (hn : s[i].toNat = n) {b : Bool} (h : badC n i = b) : badS s i = b := by
  unfold badS; rw [getD_at hi, hn]; exact h
set_option maxRecDepth 100000 in
set_option maxHeartbeats 3200000 in
theorem isName_s (s : Nm) (hl : s.length ≤ 1000000) : Summ Tryz.prog GG 176 [sv s] (bv (nameB s)) := by
  have hsz := strSz s
  refine summW Tryz.func176 rfl rfl 38 rfl (by simp) (fun M0 => ?_)
  repeat (first
    | (apply s_bytes Tryz.underlying9 Tryz.underlying251 Tryz.underlying5; exact rfl; exact rfl; exact rfl)
    | (apply s_a TY; exact rfl)
    | apply w_seq
    | apply w_region
    | apply s_nil
    | apply t_norm
    | apply w_block)
  apply w_loop (fun k : Nat => ⟨(Ab.upd (Ab.upd (Ab.upd (Ab.upd (fun _ => .bot) 0 (.f (sv s))) 7 (.f (.sl s.length (bytesF s)))) 8 (.f (iv s.length))) 9 (.f (iv (k : Nat)))), (fun _ => none), 0⟩) (fun k => k ≤ s.length ∧ ∀ i, i < k → badS s i = false) (fun k => s.length - k) 0 (⟨Nat.zero_le _, fun i h => absurd h (Nat.not_lt_zero i)⟩) (gh_le ⟨le_upd rfl trivial (le_upd rfl trivial (le_upd rfl trivial (le_upd rfl trivial (le_nil _)))), le_h0 _ _⟩)
  intro k ⟨hk, hz⟩
  by_cases hc : k < s.length
  · have hby := bytesF_at hc
    have hbn := bytesF_ne hc
    have hlt : s[k].toNat < 256 := s[k].toNat_lt
    generalize hn : s[k].toNat = n at hby hlt
    have hon := orN_iff n hlt
    have hor := hon.2
    have hoi := hon.1
    by_cases hL : (97 ≤ n ∧ n ≤ 122) ∨ (65 ≤ n ∧ n ≤ 90)
    · have hbad : badS s k = false := badS_of hc hn (badC_f.2 (by omega))
      repeat (first
    | (apply s_bind; exact rfl; exact rfl; exact rfl; exact rfl; exact rfl; exact rfl; exact or_run hlt)
    | (apply s_convW; exact rfl; exact rfl; exact rfl; first | exact conv_run hor | exact conv_run hlt)
    | (apply s_l TY; exact rfl; exact hby)
    | (apply s_c TY; exact rfl; exact ⟨by omega, hbn⟩)
    | (apply s_a TY; exact rfl)
    | (apply s_t; exact rfl; (first | assumption | omega))
    | apply w_seq
    | apply w_region
    | apply s_nil
    | apply t_norm
    | apply k_norm
    | apply w_block
    | apply w_skip
    | (apply w_condT; exact rfl; exact rfl)
    | (apply w_condF; exact rfl; exact rfl)
    | (apply s_k1 (within_T _ _ _); exact rfl; (first | assumption | omega | decide))
    | (apply s_s; exact rfl)
    | (apply s_c TY; exact rfl; (first | omega | exact ⟨by omega, by (first | with_reducible assumption | ((with_reducible apply bytesF_ne); omega) | assumption)⟩)))
      exact ⟨k + 1, ⟨by omega, fun i hi => by
        by_cases e : i = k
        · subst e; exact hbad
        · exact hz i (by omega)⟩, by omega, gh_le ⟨le_upd rfl trivial (le_upd rfl trivial (le_upd rfl trivial (le_upd rfl trivial (le_nil _)))), le_h0 _ _⟩⟩
    · by_cases h0 : k = 0
      · have hbad : badS s k = true := badS_of hc hn (badC_t.2 (by omega))
        rw [nameB_bad hc hbad]
        repeat (first
    | (apply s_bind; exact rfl; exact rfl; exact rfl; exact rfl; exact rfl; exact rfl; exact or_run hlt)
    | (apply s_convW; exact rfl; exact rfl; exact rfl; first | exact conv_run hor | exact conv_run hlt)
    | (apply s_l TY; exact rfl; exact hby)
    | (apply s_c TY; exact rfl; exact ⟨by omega, hbn⟩)
    | (apply s_a TY; exact rfl)
    | (apply s_t; exact rfl; (first | assumption | omega))
    | apply w_seq
    | apply w_region
    | apply s_nil
    | apply t_norm
    | apply t_ret
    | apply k_ret
    | apply w_block
    | apply w_ret
    | apply w_skip
    | (apply w_condT; exact rfl; exact rfl)
    | (apply s_k1 (within_F _ _ _); exact rfl; (first | assumption | omega | decide))
    | (apply s_s; exact rfl))
        exact lv_ret (ret1 rfl (res_tmp rfl))
      · by_cases h45 : n = 45
        · have hbad : badS s k = false := badS_of hc hn (badC_f.2 (by omega))
          repeat (first
    | (apply s_bind; exact rfl; exact rfl; exact rfl; exact rfl; exact rfl; exact rfl; exact or_run hlt)
    | (apply s_convW; exact rfl; exact rfl; exact rfl; first | exact conv_run hor | exact conv_run hlt)
    | (apply s_l TY; exact rfl; exact hby)
    | (apply s_c TY; exact rfl; exact ⟨by omega, hbn⟩)
    | (apply s_a TY; exact rfl)
    | (apply s_t; exact rfl; (first | assumption | omega))
    | (apply s_f; exact rfl; (first | assumption | omega))
    | apply w_seq
    | apply w_region
    | apply s_nil
    | apply t_norm
    | apply k_norm
    | apply w_block
    | apply w_skip
    | (apply w_condT; exact rfl; exact rfl)
    | (apply w_condF; exact rfl; exact rfl)
    | (apply s_k1 (within_F _ _ _); exact rfl; (first | assumption | omega | decide))
    | (apply s_s; exact rfl)
    | (apply s_c TY; exact rfl; (first | omega | exact ⟨by omega, by (first | with_reducible assumption | ((with_reducible apply bytesF_ne); omega) | assumption)⟩)))
          exact ⟨k + 1, ⟨by omega, fun i hi => by
            by_cases e : i = k
            · subst e; exact hbad
            · exact hz i (by omega)⟩, by omega, gh_le ⟨le_upd rfl trivial (le_upd rfl trivial (le_upd rfl trivial (le_upd rfl trivial (le_nil _)))), le_h0 _ _⟩⟩
        · by_cases hd : 48 ≤ n ∧ n ≤ 57
          · have hbad : badS s k = false := badS_of hc hn (badC_f.2 (by omega))
            repeat (first
    | (apply s_bind; exact rfl; exact rfl; exact rfl; exact rfl; exact rfl; exact rfl; exact or_run hlt)
    | (apply s_convW; exact rfl; exact rfl; exact rfl; first | exact conv_run hor | exact conv_run hlt)
    | (apply s_l TY; exact rfl; exact hby)
    | (apply s_c TY; exact rfl; exact ⟨by omega, hbn⟩)
    | (apply s_a TY; exact rfl)
    | (apply s_t; exact rfl; (first | assumption | omega))
    | (apply s_f; exact rfl; (first | assumption | omega))
    | apply w_seq
    | apply w_region
    | apply s_nil
    | apply t_norm
    | apply k_norm
    | apply w_block
    | apply w_skip
    | (apply w_condT; exact rfl; exact rfl)
    | (apply w_condF; exact rfl; exact rfl)
    | (apply s_k1 (within_T _ _ _); exact rfl; (first | assumption | omega | decide))
    | (apply s_k1 (within_F _ _ _); exact rfl; (first | assumption | omega | decide))
    | (apply s_c TY; exact rfl; (first | omega | exact ⟨by omega, by (first | with_reducible assumption | ((with_reducible apply bytesF_ne); omega) | assumption)⟩)))
            exact ⟨k + 1, ⟨by omega, fun i hi => by
              by_cases e : i = k
              · subst e; exact hbad
              · exact hz i (by omega)⟩, by omega, gh_le ⟨le_upd rfl trivial (le_upd rfl trivial (le_upd rfl trivial (le_upd rfl trivial (le_nil _)))), le_h0 _ _⟩⟩
          · have hbad : badS s k = true := badS_of hc hn (badC_t.2 (by omega))
            rw [nameB_bad hc hbad]
            repeat (first
    | (apply s_bind; exact rfl; exact rfl; exact rfl; exact rfl; exact rfl; exact rfl; exact or_run hlt)
    | (apply s_convW; exact rfl; exact rfl; exact rfl; first | exact conv_run hor | exact conv_run hlt)
    | (apply s_l TY; exact rfl; exact hby)
    | (apply s_c TY; exact rfl; exact ⟨by omega, hbn⟩)
    | (apply s_a TY; exact rfl)
    | (apply s_t; exact rfl; (first | assumption | omega))
    | (apply s_f; exact rfl; (first | assumption | omega))
    | apply w_seq
    | apply w_region
    | apply s_nil
    | apply t_norm
    | apply t_ret
    | apply k_ret
    | apply w_block
    | apply w_ret
    | apply w_skip
    | (apply w_condT; exact rfl; exact rfl)
    | (apply s_k1 (within_F _ _ _); exact rfl; (first | assumption | omega | decide)))
            exact lv_ret (ret1 rfl (res_tmp rfl))
  · rw [nameB_ok fun i hi => hz i (by omega)]
    by_cases h12 : 1 ≤ (s.length : Int) ∧ (s.length : Int) ≤ 12
    · rw [show withinB (s.length : Int) 1 12 = true by simp [withinB]; omega]
      repeat (first
    | (apply s_a TY; exact rfl)
    | (apply s_f; exact rfl; (first | assumption | omega))
    | apply w_seq
    | apply w_region
    | apply s_nil
    | apply t_norm
    | apply t_exit
    | apply k_hit
    | apply w_exit
    | apply w_ret
    | (apply w_condF; exact rfl; exact rfl)
    | (apply s_k1 (within_T _ _ _); exact rfl; (first | assumption | omega | decide)))
      exact lv_ret (ret1 rfl (res_tmp rfl))
    · rw [show withinB (s.length : Int) 1 12 = false by simp [withinB]; omega]
      repeat (first
    | (apply s_a TY; exact rfl)
    | (apply s_f; exact rfl; (first | assumption | omega))
    | apply w_seq
    | apply w_region
    | apply s_nil
    | apply t_norm
    | apply t_exit
    | apply k_hit
    | apply w_exit
    | apply w_ret
    | (apply w_condF; exact rfl; exact rfl)
    | (apply s_k1 (within_F _ _ _); exact rfl; (first | assumption | omega | decide)))
      exact lv_ret (ret1 rfl (res_tmp rfl))
end Go.Proofs.YtenkgipcblfocaaGreat
namespace Go.Proofs.YtenkgipcblfocaaGreat
open Go.Proofs Go.Shelf
def sortS_ren : Go.Shelf.Ren := ⟨fun | 54 => 157 | 64 => 163 | 65 => 182 | 78 => 194 | 79 => 195 | 80 => 203 | 81 => 204 | 82 => 205 | 83 => 206 | 84 => 207 | 85 => 208 | 61 => 209 | 86 => 210 | 87 => 211 | 93 => 220 | 89 => 214 | 90 => 215 | 94 => 221 | 95 => 222 | 69 => 223 | 97 => 226 | n => n, fun | 25 => 47 | 26 => 9 | 3 => 3 | 51 => 228 | 0 => 0 | 67 => 245 | 69 => 247 | 4 => 4 | 61 => 239 | 60 => 238 | 44 => 52 | 5 => 5 | 9 => 9 | 75 => 259 | 79 => 263 | 83 => 267 | 84 => 61 | n => n, fun | n => n⟩
theorem sortS : Go.Proofs.SlLaysN.n54 Tryz.prog sortS_ren := {
  mixed := by kernel_rfl
  f54 := ⟨Tryz.f157.name, by decide, Tryz.func157.trans (congrArg some (by kernel_rfl))⟩
  f61 := ⟨Tryz.f209.name, by decide, Tryz.func209.trans (congrArg some (by kernel_rfl))⟩
  f64 := Tryz.func163.trans (congrArg some (by kernel_rfl))
  f65 := ⟨Tryz.f182.name, by decide, Tryz.func182.trans (congrArg some (by kernel_rfl))⟩
  f69 := ⟨Tryz.f223.name, by decide, Tryz.func223.trans (congrArg some (by kernel_rfl))⟩
  f78 := Tryz.func194.trans (congrArg some (by kernel_rfl))
  f79 := Tryz.func195.trans (congrArg some (by kernel_rfl))
  f80 := ⟨Tryz.f203.name, by decide, Tryz.func203.trans (congrArg some (by kernel_rfl))⟩
  f81 := ⟨Tryz.f204.name, by decide, Tryz.func204.trans (congrArg some (by kernel_rfl))⟩
  f82 := ⟨Tryz.f205.name, by decide, Tryz.func205.trans (congrArg some (by kernel_rfl))⟩
  f83 := ⟨Tryz.f206.name, by decide, Tryz.func206.trans (congrArg some (by kernel_rfl))⟩
  f84 := ⟨Tryz.f207.name, by decide, Tryz.func207.trans (congrArg some (by kernel_rfl))⟩
  f85 := ⟨Tryz.f208.name, by decide, Tryz.func208.trans (congrArg some (by kernel_rfl))⟩
  f86 := ⟨Tryz.f210.name, by decide, Tryz.func210.trans (congrArg some (by kernel_rfl))⟩
  f87 := ⟨Tryz.f211.name, by decide, Tryz.func211.trans (congrArg some (by kernel_rfl))⟩
  f89 := Tryz.func214.trans (congrArg some (by kernel_rfl))
  f90 := Tryz.func215.trans (congrArg some (by kernel_rfl))
  f93 := ⟨Tryz.f220.name, by decide, Tryz.func220.trans (congrArg some (by kernel_rfl))⟩
  f94 := ⟨Tryz.f221.name, by decide, Tryz.func221.trans (congrArg some (by kernel_rfl))⟩
  f95 := ⟨Tryz.f222.name, by decide, Tryz.func222.trans (congrArg some (by kernel_rfl))⟩
  f97 := ⟨Tryz.f226.name, by decide, Tryz.func226.trans (congrArg some (by kernel_rfl))⟩
  t0 := Tryz.underlying0
  a0 := Tryz.isAgg0
  z0 := Tryz.sizeOf0
  v0 := Tryz.zeroValue0
  t3 := Tryz.underlying3
  a3 := Tryz.isAgg3
  z3 := Tryz.sizeOf3
  v3 := Tryz.zeroValue3
  t4 := Tryz.underlying4
  a4 := Tryz.isAgg4
  z4 := Tryz.sizeOf4
  v4 := Tryz.zeroValue4
  t5 := Tryz.underlying5
  a5 := Tryz.isAgg5
  z5 := Tryz.sizeOf5
  v5 := Tryz.zeroValue5
  t9 := Tryz.underlying9
  a9 := Tryz.isAgg9
  z9 := Tryz.sizeOf9
  v9 := Tryz.zeroValue9
  t25 := Tryz.underlying47
  a25 := Tryz.isAgg47
  z25 := Tryz.sizeOf47
  v25 := Tryz.zeroValue47
  t26 := Tryz.underlying9
  a26 := Tryz.isAgg9
  z26 := Tryz.sizeOf9
  v26 := Tryz.zeroValue9
  t44 := Tryz.underlying52
  a44 := Tryz.isAgg52
  z44 := Tryz.sizeOf52
  v44 := Tryz.zeroValue52
  t51 := Tryz.underlying228
  a51 := Tryz.isAgg228
  z51 := Tryz.sizeOf228
  v51 := Tryz.zeroValue228
  t60 := Tryz.underlying238
  a60 := Tryz.isAgg238
  z60 := Tryz.sizeOf238
  v60 := Tryz.zeroValue238
  t61 := Tryz.underlying239
  a61 := Tryz.isAgg239
  z61 := Tryz.sizeOf239
  v61 := Tryz.zeroValue239
  t67 := Tryz.underlying245
  a67 := Tryz.isAgg245
  z67 := Tryz.sizeOf245
  v67 := Tryz.zeroValue245
  t69 := Tryz.underlying247
  a69 := Tryz.isAgg247
  z69 := Tryz.sizeOf247
  v69 := Tryz.zeroValue247
  t75 := Tryz.underlying259
  a75 := Tryz.isAgg259
  z75 := Tryz.sizeOf259
  v75 := Tryz.zeroValue259
  t79 := Tryz.underlying263
  a79 := Tryz.isAgg263
  z79 := Tryz.sizeOf263
  v79 := Tryz.zeroValue263
  t83 := Tryz.underlying267
  a83 := Tryz.isAgg267
  z83 := Tryz.sizeOf267
  v83 := Tryz.zeroValue267
  t84 := Tryz.underlying61
  a84 := Tryz.isAgg61
  z84 := Tryz.sizeOf61
  v84 := Tryz.zeroValue61 }
open Go Go.RowKit Go.Proofs Go.Shelf Go.Ab
attribute [local go_sem] Oper.semAt_some
def encNm (s : Nm) : Array Value := #[.string ⟨s.toArray⟩]
structure ValRd (Bx ox : Nat) (la : Option Addr) (lc : Nat) (L : List Nm) (w : World) : Prop where
  c0 : w.cell? ⟨Bx, ox, none⟩ = some (.slice la L.length lc)
  at_ : ∀ (j : Nat) (hj : j < L.length), ∃ b o, la = some ⟨b, o, none⟩ ∧ w.cell? ⟨b, o + j, none⟩ = some (.string ⟨L[j].toArray⟩)
set_option maxRecDepth 100000 in
set_option maxHeartbeats 2000000 in
theorem values_seqN (Bx ox : Nat) (la : Option Addr) (lc : Nat) (L : List Nm) (h60 : L.length < 1000000) : SeqL Tryz.prog 219 #[.pointer (some ⟨Bx, ox, none⟩)] encNm L (ValRd Bx ox la lc L) := by
  intro l J Jx W hJ hJx hRd hY h0
  have HJ := Lib.hid hJ
  have HY := Lib.hid hY
  have HRD := Lib.hid hRd
  have H0 := Lib.hid h0
  have c0 := (hRd 0 W h0).c0
  clear hJ hJx hY hRd h0
  refine callsIn_of_wp Tryz.func219 rfl trivial ?_ rfl
  simp only [Tryz.ntmps219, List.size_toArray, List.length_cons, List.length_nil, Nat.reduceAdd, Nat.reduceSub, Array.replicate_succ, Array.replicate_zero, List.push_toArray, List.append_toArray, List.nil_append, List.cons_append]
  gi_wp2
  clear c0
  gi_loopw [7] (fun i wr => ∃ k : Nat, k ≤ L.length ∧ i = .int .i64 k ∧ Hid (J k wr)) (fun i _ => L.length - (intOf i).toNat)
  case atStart => exact ⟨0, Nat.zero_le _, rfl, H0⟩
  case round =>
    obtain ⟨k, hk, rfl, Hj⟩ := hrel
    by_cases hlt : k < L.length
    · obtain ⟨b, o, rfl, e0⟩ := (HRD.out _ wr Hj.out).at_ k hlt
      have HYk := HY.out _ hlt _ Hj.out
      rw [encNm] at HYk
      obtain ⟨fn, tmps, assign, body, hy, hR⟩ := HYk
      replace hR := Lib.hid hR
      gi_wp2
      refine hR.out.mono ?_
      rintro e W' (⟨rfl, hJ'⟩ | ⟨rfl, hJx'⟩)
      · have Hj3 := Lib.hid hJ'
        clear hJ' hy
        gi_wp2
        go_roundw
        case rel => exact ⟨k + 1, by omega, by go_num, Hj3⟩
        case measure => simp [intOf]; omega
      · have Hx3 := Lib.hid hJx'
        clear hJx' hy
        gi_wp2
        refine bodyPost_ret (results_none rfl _ _ _) rfl ?_
        exact ⟨⟨_, rfl⟩, .inr ⟨_, hlt, Hx3.out⟩⟩
    · have HE : Hid (J L.length wr) := Lib.hid (by have := Hj.out; rwa [show k = L.length by omega] at this)
      gi_wp2
      refine bodyPost_end (results_none rfl _ _ _) rfl ?_
      exact ⟨⟨_, rfl⟩, .inl HE.out⟩
theorem lies_cell {w : World} {M : Nat → Prop} {b off k : Nat} {us : List Value} {v : Value} (h : Lies w M b off us) (hv : us[k]? = some v) : w.cell? ⟨b, off + k, none⟩ = some v := (h.at_ k (List.getElem?_eq_some_iff.1 hv).1).trans hv
theorem strsF_enc (L : List Nm) : (L.map encStr).map FV.v = strsF L := by unfold strsF sv; rw [List.map_map]; rfl
theorem values_SN (L : List Nm) (h60 : L.length < 1000000) : SeqS Tryz.prog GG 219 [.pt [.sl L.length (strsF L)] 0] encNm L := by
  refine ⟨enters_of Tryz.func219 (by kernel_rfl) rfl, fun w M us hM hG R => ?_⟩
  obtain ⟨u2, us2, rfl, r2, R2⟩ := R.head
  have := R2.end; subst this
  cases r2 with
  | pt Bx ox _ _ gv g1 g2 g3 g4 =>
  obtain ⟨v0, rfl⟩ : ∃ v0, gv = [v0] := by
    match gv, g1 with
    | [a], _ => exact ⟨a, rfl⟩
  have r0 := g4 0 v0 (.sl L.length (strsF L)) rfl rfl
  cases r0 with
  | sl a n c cs us q1 q2 q3 q4 q5 =>
  have eu : us = L.map encStr := repL_v0 (w := w) (M := M) (by rw [strsF_enc]; exact ⟨q2, q5⟩)
  intro l J Jx W hJ hJx hRd hY h0
  refine values_seqN Bx ox a c L h60 l J Jx W hJ hJx (fun k A hA => ?_) hY h0
  obtain ⟨hs, hk⟩ := hRd k A hA
  have lg := g3.mono (M' := M) hk hs (fun _ _ h => h)
  refine ⟨lies_cell (k := 0) lg rfl, fun j hj => ?_⟩
  obtain ⟨b, o, ea, li⟩ := q4 (by intro e; rw [eu] at e; have := congrArg List.length e; simp at this; subst this; simp at hj)
  have lb := li.mono (M' := M) hk hs (fun _ _ h => h)
  exact ⟨b, o, ea, lies_cell lb (by rw [eu, List.getElem?_map, List.getElem?_eq_getElem hj]; rfl)⟩
theorem nm_en (p : Nm) (w : World) (M : Nat → Prop) : RepL w M (encNm p).toList [sv p] := RepL.cons (RepF.v _) (RepL.nil _ _)
theorem row_tkNm {L : List Nm} {k : Nat} (h : k < L.length) : some (Blk.row 9 1 ((L.take k).length + 1) (strsF (L.take k) ++ [sv L[k]])) = some (Blk.row 9 1 (L.take (k + 1)).length (strsF (L.take (k + 1)))) := by
  rw [List.take_succ_eq_append_getElem h, strsF_snoc, List.length_append]; rfl
set_option maxRecDepth 100000 in
set_option maxHeartbeats 1600000 in
theorem appendSeq_g (L : List Nm) (h60 : L.length < 1000000) : SummG Tryz.prog GG 181 [] [.f (.v (.slice none 0 0)), .f (.fn 219 [.pt [.sl L.length (strsF L)] 0])] (.ow 0) [.row 9 1 L.length (strsF L)] := by
  refine summG_of Tryz.func181 rfl rfl 13 rfl (by simp) (by simp) (fun i B B' h1 h2 => by simp at h1) (fun M X J => ?_)
  repeat (first
    | (apply s_boxw; exact rfl; exact rfl; exact rfl; exact rfl)
    | (apply s_a TY; exact rfl)
    | apply w_seq
    | apply w_region
    | apply s_nil
    | apply t_norm
    | apply w_block)
  apply w_gh (gh_ownB 0 0 9 1 rfl rfl rfl)
  refine w_range (s := (Ab.upd (Ab.upd (fun _ => .bot) 2 (.bx 0 0)) 6 (.f (.fn 219 [.pt [.sl L.length (strsF L)] 0])))) ((values_SN L h60)) (fun k => (Ab.upd (Ab.upd (fun _ => none) 0 (some (.box [.ow 1]))) 1 (some (.row 9 1 (L.take k).length (strsF (L.take k)))))) (fun (k : Nat) (p : Nm) => (Ab.upd (Ab.upd (fun _ => none) 0 (some (.box [.ow 1]))) 1 (some (.row 9 1 (L.take k).length (strsF (L.take k)))))) (fun (k : Nat) (p : Nm) => (Ab.upd (Ab.upd (Ab.upd (fun _ => .bot) 2 (.bx 0 0)) 6 (.f (.fn 219 [.pt [.sl L.length (strsF L)] 0]))) 5 (.f (sv p)))) 2 2 (fun i => i = 0) (fun p => [sv p]) (fun _ => True) (trivial) rfl (fun _ => rfl) (gh_le ⟨le_upd rfl trivial (le_upd rfl rfl (le_nil _)), le_hupd rfl trivial (le_hupd rfl (fun y hy => by simp at hy; subst hy; first | trivial | rfl) (le_h0 _ _))⟩) rfl (fun _ => rfl) (fun _ => rfl) (fun q hq => by simp at hq; subst hq; rfl) nm_en (kept_f (kept_x rfl (by simp) (kept_nil _ _))) (by rintro k i (rfl) <;> exact ⟨_, rfl, rfl⟩) (fun k p => ⟨le_nil _, le_hupd rfl trivial (le_hupd rfl (fun y hy => by simp at hy; subst hy; first | trivial | rfl) (le_h0 _ _))⟩) (fun k p => ⟨mo_upd rfl (mo_upd rfl (mo_nil)), mo_upd rfl (mo_upd rfl (mo_nil))⟩) ?_ ?_ ?_
  · intro k hkL X l p
    repeat (first
    | (apply s_a TY; exact rfl)
    | apply w_region
    | apply s_nil
    | apply t_norm)
    exact gh_le ⟨le_upd rfl trivial (le_upd rfl trivial (le_upd rfl rfl (le_nil _))), le_hupd rfl trivial (le_hupd rfl (fun y hy => by simp at hy; subst hy; first | trivial | rfl) (le_h0 _ _))⟩
  · intro k hkL _ X l p
    have hlt : (L.take k).length = k := by rw [List.length_take]; omega
    repeat (first
    | (apply s_a TY; exact rfl)
    | apply w_region
    | apply s_nil
    | apply k_norm
    | apply w_block
    | (apply s_store TY; exact rfl; exact rfl; exact rfl; exact rfl; exact rfl; exact rfl)
    | (apply s_append TY; exact rfl; exact rfl; exact rfl; exact rfl; exact rfl; exact rfl; exact rfl; exact rfl; exact rfl; (unfold maxLen; omega); omega))
    exact ⟨trivial, gh_le ⟨le_nil _, le_hupd (row_tkNm hkL) trivial (le_hupd rfl (fun y hy => by simp at hy; subst hy; first | trivial | rfl) (le_h0 _ _))⟩⟩
  intro _
  rw [List.take_length]
  repeat (first
    | (apply s_a TY; exact rfl)
    | apply w_seq
    | apply w_region
    | apply s_nil
    | apply t_norm
    | apply k_norm
    | apply w_ret)
  exact lvG_ret (gh_one 1 4 rfl rfl) (rg1 rfl (rv_tmp rfl))
set_option maxRecDepth 100000 in
theorem collect_g (L : List Nm) (h60 : L.length < 1000000) : SummG Tryz.prog GG 156 [] [.f (.fn 219 [.pt [.sl L.length (strsF L)] 0])] (.ow 0) [.row 9 1 L.length (strsF L)] := by
  refine summG_of Tryz.func156 rfl rfl 5 rfl (by simp) (by simp) (fun i B B' h1 h2 => by simp at h1) (fun M X J => ?_)
  repeat (first
    | (apply s_a TY; exact rfl)
    | apply w_seq
    | apply w_region
    | apply s_nil
    | apply t_norm
    | apply w_ret
    | (apply s_callG [] (appendSeq_g L h60); exact rfl; exact rfl; exact rfl; exact trivial; exact rfl; (first | exact ⟨rfl, rfl⟩ | exact ⟨⟨rfl, rfl⟩, ⟨rfl, rfl⟩⟩ | exact ⟨⟨rfl, rfl⟩, ⟨rfl, rfl⟩, ⟨rfl, rfl⟩⟩)))
  exact lvG_ret (gh_one 0 2 rfl rfl) (rg1 rfl (rv_tmp rfl))
def ascN (L : List Nm) : List Nm := L.mergeSort fun x y => decide (x ≤ y)
theorem ascN_len (L : List Nm) : (ascN L).length = L.length := (List.mergeSort_perm L _).length_eq
theorem sortS_g (L : List Nm) (n : Nat) (hn : n = L.length) (hl : L.length ≤ 1000000) : SummG Tryz.prog GG 157 [.arr 9 1 n ((strsF L).map .f)] [.ow 0] (.f (.tup [])) [.arr 9 1 n ((strsF (ascN L)).map .f)] :=
  sortOrdG (f := 157) (enc := encStr) ascN ascN_len (fun _ => rfl) (enters_of Tryz.func157 (by kernel_rfl) rfl) (fun blk off cap d w h1 h2 h3 => AnyG.slices_Sort_string sortS blk off cap d w h1 h2 h3) (fun p cap w => AnyG.slices_Sort_string_none sortS p cap w) L (by omega) 9 hn (strsF_enc L) (strsF_enc _)
set_option maxRecDepth 100000 in
set_option maxHeartbeats 1600000 in
theorem sortedV_g (L : List Nm) (h60 : L.length < 1000000) : SummG Tryz.prog GG 105 [] [.f (.fn 219 [.pt [.sl L.length (strsF L)] 0])] (.ow 0) [.row 9 1 L.length (strsF (ascN L))] := by
  refine summG_of Tryz.func105 rfl rfl 9 rfl (by simp) (by simp) (fun i B B' h1 h2 => by simp at h1) (fun M X J => ?_)
  repeat (first
    | (refine s_ghost rfl (gh_arr 0 (cs := strsF L) rfl rfl) ?_)
    | (apply s_callG [0] (sortS_g L _ rfl (by omega)); exact rfl; exact rfl; exact rfl; exact ⟨congrArg some (arr_ren0 _ _ _ _ _).symm, trivial⟩; exact rfl; exact ⟨rfl, rfl⟩)
    | (apply s_a TY; exact rfl)
    | apply w_seq
    | apply w_region
    | apply s_nil
    | apply t_norm
    | apply w_ret
    | (apply s_callG [] (collect_g L h60); exact rfl; exact rfl; exact rfl; exact trivial; exact rfl; (first | exact ⟨rfl, rfl⟩ | exact ⟨⟨rfl, rfl⟩, ⟨rfl, rfl⟩⟩ | exact ⟨⟨rfl, rfl⟩, ⟨rfl, rfl⟩, ⟨rfl, rfl⟩⟩)))
  refine lvG_ret (gh_trans (gh_unarr 0 (e := 9) (sz := 1) (n := L.length) (cs := strsF (ascN L)) (congrArg some (arr_ren0 _ _ _ _ _))) (gh_one 0 2 rfl rfl)) (rg1 rfl (rv_tmp rfl))
end Go.Proofs.YtenkgipcblfocaaGreat
namespace Go.Proofs.YtenkgipcblfocaaGreat
open Go.Proofs Go.Shelf
def sortedS_ren : Go.Shelf.Ren := ⟨fun | 6 => 105 | 8 => 156 | 9 => 157 | 11 => 181 | 13 => 163 | 12 => 182 | 23 => 194 | 24 => 195 | 14 => 203 | 15 => 204 | 16 => 205 | 17 => 206 | 18 => 207 | 19 => 208 | 20 => 209 | 21 => 210 | 22 => 211 | 25 => 220 | 26 => 214 | 27 => 215 | 28 => 221 | 29 => 222 | 30 => 223 | 31 => 226 | n => n, fun | 26 => 9 | 28 => 179 | 24 => 47 | 0 => 0 | 3 => 3 | 37 => 228 | 48 => 245 | 50 => 247 | 4 => 4 | 40 => 239 | 39 => 238 | 45 => 52 | 5 => 5 | 9 => 9 | 51 => 259 | 55 => 263 | 57 => 267 | 58 => 61 | 33 => 223 | n => n, fun | n => n⟩
theorem sortedS : Go.Proofs.SlLaysZ.n6 Tryz.prog sortedS_ren := {
  mixed := by kernel_rfl
  f6 := ⟨Tryz.f105.name, by decide, Tryz.func105.trans (congrArg some (by kernel_rfl))⟩
  f8 := ⟨Tryz.f156.name, by decide, Tryz.func156.trans (congrArg some (by kernel_rfl))⟩
  f11 := ⟨Tryz.f181.name, by decide, Tryz.func181.trans (congrArg some (by kernel_rfl))⟩
  t0 := Tryz.underlying0
  a0 := Tryz.isAgg0
  z0 := Tryz.sizeOf0
  v0 := Tryz.zeroValue0
  t24 := Tryz.underlying47
  a24 := Tryz.isAgg47
  z24 := Tryz.sizeOf47
  v24 := Tryz.zeroValue47
  t26 := Tryz.underlying9
  a26 := Tryz.isAgg9
  z26 := Tryz.sizeOf9
  v26 := Tryz.zeroValue9
  t28 := Tryz.underlying179
  a28 := Tryz.isAgg179
  z28 := Tryz.sizeOf179
  v28 := Tryz.zeroValue179
  i26 := by kernel_rfl }
def keysS_ren : Go.Shelf.Ren := ⟨fun | 7 => 106 | 10 => 158 | n => n, fun | 23 => 168 | 26 => 9 | 3 => 3 | 28 => 179 | 0 => 0 | 27 => 178 | 33 => 223 | 4 => 4 | n => n, fun | n => n⟩
theorem keysS : Go.Proofs.SlLaysZ.n7 Tryz.prog keysS_ren := {
  mixed := by kernel_rfl
  f7 := ⟨Tryz.f106.name, by decide, Tryz.func106.trans (congrArg some (by kernel_rfl))⟩
  f10 := ⟨Tryz.f158.name, by decide, Tryz.func158.trans (congrArg some (by kernel_rfl))⟩
  t0 := Tryz.underlying0
  a0 := Tryz.isAgg0
  z0 := Tryz.sizeOf0
  v0 := Tryz.zeroValue0
  t4 := Tryz.underlying4
  a4 := Tryz.isAgg4
  z4 := Tryz.sizeOf4
  v4 := Tryz.zeroValue4
  t23 := Tryz.underlying168
  a23 := Tryz.isAgg168
  z23 := Tryz.sizeOf168
  v23 := Tryz.zeroValue168
  t26 := Tryz.underlying9
  a26 := Tryz.isAgg9
  z26 := Tryz.sizeOf9
  v26 := Tryz.zeroValue9
  t27 := Tryz.underlying178
  a27 := Tryz.isAgg178
  z27 := Tryz.sizeOf178
  v27 := Tryz.zeroValue178
  t28 := Tryz.underlying179
  a28 := Tryz.isAgg179
  z28 := Tryz.sizeOf179
  v28 := Tryz.zeroValue179
  t33 := Tryz.underlying223
  a33 := Tryz.isAgg223
  z33 := Tryz.sizeOf223
  v33 := Tryz.zeroValue223 }
open Go Go.RowKit Go.Proofs Go.Shelf Go.Ab
open Go.Maps Go.Sort Go.ChangeMaps Go.MapKept
def encS (s : Nm) : Value := .string ⟨s.toArray⟩
def encV (z : Int) : Value := .int .i64 z
theorem beqS (a b : Nm) : ((⟨a.toArray⟩ : ByteArray) == (⟨b.toArray⟩ : ByteArray)) = decide (a = b) := by
  show (a.toArray == b.toArray) = decide (a = b)
  rw [Bool.eq_iff_iff, beq_iff_eq, decide_eq_true_eq]
  constructor
  · intro h; have := congrArg Array.toList h; simpa using this
  · rintro rfl; rfl
theorem keyS : KeyOk Tryz.prog 9 encS := by
  refine ⟨fun {β} val D c W => ?_, fun em c W => ?_, fun c => ?_⟩
  · have now : ∀ (D : List (Nm × β × Nat)) (i : Nat), Instr.findNow .string (encS c) (D.map (entG encS val)) i = some (lookG val c D i) := by
      intro D
      induction D with
      | nil => intro i; rfl
      | cons d D ih =>
        intro i
        rw [List.map_cons, Instr.findNow, lookG]
        have e : Instr.sameNow .string (encS c) (entG encS val d).key = some (decide (c = d.1)) := by
          show some ((⟨c.toArray⟩ : ByteArray) == (⟨d.1.toArray⟩ : ByteArray)) = _
          rw [beqS]
        rw [e]
        by_cases h : c = d.1
        · rw [decide_eq_true h, if_pos h]; rfl
        · rw [decide_eq_false h, if_neg h]; exact ih (i + 1)
    unfold Instr.findKey
    simp only [Sem.run_bind, run_underlying Tryz.underlying9, Result.andThen_ok, now]
    rfl
  · have h : ∀ d, (Instr.checkKey em (d + 1) 9 (encS c)).run Tryz.prog W = .ok () W := fun d => by
      unfold encS
      simp [Instr.checkKey, run_underlying Tryz.underlying9]
    exact h 9999
  · show ((⟨c.toArray⟩ : ByteArray) == (⟨c.toArray⟩ : ByteArray)) = true
    rw [beqS, decide_eq_true rfl]
def mpG (f : Nm → Option Int) : Obj → Prop := mapFn encS encV f
def updM (f : Nm → Option Int) (c : Nm) (z : Int) : Nm → Option Int := fun k => if k = c then some z else f k
theorem mp_upd {f : Nm → Option Int} {c : Nm} {z : Int} (ob : Obj) (r : Nat) (w : World) (hg : mpG f ob) (hr : w.heap[r]? = some ob) : ∃ ob', (Instr.mapUpdate 168 (.map (some r)) (encS c) (.int .i64 z)).run Tryz.prog w = .ok () (w.putObj r ob') ∧ mpG (updM f c z) ob' ∧ ob'.isMap = true := by
  obtain ⟨o', h1, h2⟩ := mapFn_update keyS Tryz.underlying168 hg hr c z
  exact ⟨o', h1, h2, h2.isM⟩
structure KeysAre (f : Nm → Option Int) (ks : List Nm) : Prop where
  nd : ks.Nodup
  mem : ∀ c, c ∈ ks ↔ (f c).isSome = true
def readT : Value → Option (DataW Unit × List MemPlace) := fun _ => some (.lit (.bool true), [])
theorem owns_of {f : Nm → Option Int} {ks : List Nm} (hk : KeysAre f ks) (hl : ks.length ≤ 1000) (hb : ∀ c, c ∈ ks → c.length ≤ 1000) {o : Obj} {r : Nat} {w : World} (hg : mpG f o) (hr : w.heap[r]? = some o) : ∃ D : DataW Unit, w.ownsMap Tryz.prog 9 readT r 1000 D ∧ (strKeys D).Perm ks ∧ Maps.size D = ks.length := by
  obtain ⟨E, clock, rfl, h1, h2, h3, h4⟩ := hg
  have hperm : (E.map (·.1)).Perm ks := (List.perm_ext_iff_of_nodup h2 hk.nd).2 fun c => by
    rw [hk.mem, ← h4 c]
    constructor
    · intro hc
      cases hv : valG E c with
      | some v => rfl
      | none => exact absurd hc (valG_none.1 hv)
    · intro hc
      refine Classical.byContradiction fun hn => ?_
      rw [valG_none.2 hn] at hc; cases hc
  have hlen : E.length = ks.length := by rw [← hperm.length_eq]; simp
  have hsz : ∀ d ∈ E, d.1.length ≤ 1000 := fun d hd => hb _ (hperm.mem_iff.1 (List.mem_map_of_mem hd))
  have hrd : ∀ d ∈ E, Go.WideElems.rd Tryz.prog 9 readT (entG encS encV d) = some (.string d.1, .lit (.bool true)) := fun d hd => by
    have hkey : keyOf Tryz.prog 9 (encS d.1) = some (.string d.1) := by
      have h0 : (⟨d.1.toArray⟩ : ByteArray).size ≤ maxLen := by rw [strSz]; have := hsz d hd; unfold maxLen; omega
      simp [keyOf, mapKey, Tryz.underlying9, encS, h0]
    exact Go.WideElems.rd_mk (kl := .string d.1) (yv := (.lit (.bool true), [])) hkey rfl
  refine ⟨_, ⟨(E.map (entG encS encV)).toArray, clock, hr, ⟨?_, ?_, ?_⟩, ?_, rfl⟩, ?_, ?_⟩
  · simp; unfold maxLen; omega
  · refine ⟨fun x hx => ?_, ?_, ?_⟩
    · obtain ⟨d, hd, rfl⟩ := List.mem_map.1 hx
      exact h1 d hd
    · rw [show ((E.map (entG encS encV)).toArray.toList.map (·.born)) = E.map (·.2.2) by simp [List.map_map, Function.comp_def, entG]]
      exact h3
    · rw [show ((E.map (entG encS encV)).toArray.toList.map (·.key)) = (E.map (·.1)).map encS by simp [List.map_map, Function.comp_def, entG]]
      exact List.pairwise_map.2 (h2.imp fun hne e => hne (by unfold encS at e; simpa using e))
  · intro x hx
    obtain ⟨d, hd, rfl⟩ := List.mem_map.1 hx
    exact ⟨_, hrd d hd⟩
  · simp; omega
  · refine List.Perm.trans ?_ hperm
    show (((_ : List _).foldr DataW.insert []).map fun q => strOf q.1).Perm _
    refine ((Go.WideShapes.sorted_perm _).map _).trans ?_
    rw [List.map_map, show (E.map (entG encS encV)).toArray.toList = E.map (entG encS encV) by simp, List.map_map]
    refine List.Perm.of_eq (List.map_congr_left fun d hd => ?_)
    simp only [Function.comp_apply]
    rw [Go.WideElems.rg_of (hrd d hd)]
    simp only [strOf]
  · rw [Maps.size_eq, length_sorted, List.length_map]
    simp [hlen]
theorem sortsW (m : Nat) : AnyZ.SortsIn Tryz.prog sortedS_ren Fence.wide m :=
  ⟨fun blk off cap ss W hH hblk hsz => callsIn_wide.2 (AnyG.slices_Sort_string sortS blk off cap ss W hH hblk hsz),
   fun pp cap W => callsIn_wide.2 (AnyG.slices_Sort_string_none sortS pp cap W)⟩
set_option maxHeartbeats 1000000 in
theorem sortedK_w {f : Nm → Option Int} {ks : List Nm} (hk : KeysAre f ks) (hl : ks.length ≤ 1000) (hb : ∀ c, c ∈ ks → c.length ≤ 1000) {o : Obj} {r B : Nat} {w : World} (hg : mpG f o) (hr : w.heap[r]? = some o) (hB : w.cell? ⟨B, 0, none⟩ = some (.map (some r))) :
    Calls Tryz.prog 105 #[.func (.func 158) #[] #[.pointer (some ⟨B, 0, none⟩)]] w fun e w' => ∃ v, e = .returned v ∧ w'.ownsRow w.heap.size 9 1 v ks.length ((ascN ks).map encStr) ∧ Ext w w' := by
  obtain ⟨D, hown, hperm, hsz⟩ := owns_of hk hl hb hg hr
  refine (callsIn_wide (n := 6)).1 ?_
  have hBl : B < w.heap.size := by
    refine Classical.byContradiction fun h => ?_
    unfold World.cell? at hB
    rw [Array.getElem?_eq_none (by simpa using h)] at hB
    simp at hB
  have hseq : SeqGives Fence.wide 3 Tryz.prog 158 #[.pointer (some ⟨B, 0, none⟩)] encStr (fun ss => ss.Perm (strKeys D)) (Maps.size D) w :=
    AnyZ.keys_gives (ρ := keysS_ren) { keysS with } Fence.wide _ trivial rfl (by omega) B r 1000 D w hBl hB hown
  have cS := AnyZ.sorted_in sortedS Fence.wide 6 trivial trivial trivial trivial rfl (by omega) (sortsW _) (enters_of Tryz.func157 (by kernel_rfl) rfl) 158 #[.pointer (some ⟨B, 0, none⟩)] trivial (enters_of Tryz.func158 (by kernel_rfl) rfl) _ _ (by rw [hsz]; unfold maxLen; omega) (by rw [hsz]; omega) w hseq
  change CallsIn _ _ Tryz.prog 105 _ _ _ at cS
  refine cS.mono ?_
  rintro e w' ⟨v, ss, rfl, hS, hrow, hnil, hbel⟩
  have hp : ss.Perm ks := hS.trans hperm
  have e1 : ss.mergeSort (fun x y => decide (x ≤ y)) = ascN ks := mergeSort_of_perm hp
  rw [e1, hp.length_eq] at hrow
  exact ⟨v, rfl, hrow, ⟨hbel.os, hbel.tape, hbel.output, hbel.size, fun k hk => hbel.block k hk⟩⟩
end Go.Proofs.YtenkgipcblfocaaGreat
namespace Go.Proofs.YtenkgipcblfocaaGreat
open Go Go.RowKit Go.Proofs Go.Shelf Go.Ab
structure Alt where
  nm : Nm
  ver : Int
  cells : List Int
  gone : Bool
  had : Nm → Option Int
  kys : List Nm
instance : Inhabited Alt := ⟨⟨[], 0, [], false, fun _ => none, []⟩⟩
def altC (a : Alt) : List FV := [sv a.nm, iv a.ver, .sl a.cells.length (intsF a.cells), bv a.gone, .v (.slice none 0 0), .mp (mpG a.had)]
def altF (a : Alt) : FV := .pt (altC a) 0
def altsF (l : List Alt) : List FV := l.map altF
theorem altsF_len (l : List Alt) : (altsF l).length = l.length * 1 := by simp [altsF]
theorem altsF_ne {l : List Alt} {k : Nat} (h : k < l.length) : altsF l ≠ [] := map_ne h
theorem altsF_at {l : List Alt} {k : Nat} (h : k < l.length) : (altsF l)[k * 1]? = some (.pt (altC l[k]) 0) := map_at h
def nmA (l : List Alt) (n : Nm) (i : Nat) : Bool := decide ((l.getD i default).nm = n)
set_option maxRecDepth 100000 in
theorem isAlt_s (a : Alt) (n : Nm) : Summ Tryz.prog GG 154 [.pt (altC a) 0, .pt [sv n] 0] (bv (decide (a.nm = n))) := by
  by_cases h : a.nm = n
  · rw [decide_eq_true h]
    refine summW Tryz.func154 rfl rfl 11 rfl (by simp) (fun M0 => ?_)
    repeat (first
    | (apply s_nilCheckF; exact rfl; exact rfl; exact rfl)
    | (apply s_bind; exact rfl; exact rfl; exact rfl; exact rfl; exact rfl; exact rfl; exact eqs_t (by assumption))
    | (apply s_a TY; exact rfl)
    | apply w_seq
    | apply w_region
    | (apply w_draw (id := 1) 6 rfl (by kernel_rfl))
    | apply s_nil
    | apply t_norm
    | apply w_ret)
    exact lv_ret (ret1 rfl (res_tmp rfl))
  · rw [decide_eq_false h]
    refine summW Tryz.func154 rfl rfl 11 rfl (by simp) (fun M0 => ?_)
    repeat (first
    | (apply s_nilCheckF; exact rfl; exact rfl; exact rfl)
    | (apply s_bind; exact rfl; exact rfl; exact rfl; exact rfl; exact rfl; exact rfl; exact eqs_f (by assumption))
    | (apply s_a TY; exact rfl)
    | apply w_seq
    | apply w_region
    | (apply w_draw (id := 1) 6 rfl (by kernel_rfl))
    | apply s_nil
    | apply t_norm
    | apply w_ret)
    exact lv_ret (ret1 rfl (res_tmp rfl))
set_option maxRecDepth 100000 in
theorem idxAlt_s (l : List Alt) (n : Nm) (hl : l.length ≤ 1000000) : Summ Tryz.prog GG 153 [.sl l.length (altsF l), .fn 154 [.pt [sv n] 0]] (iv (idxP l.length (nmA l n))) := by
  refine summW Tryz.func153 rfl rfl 19 rfl (by simp) (fun M0 => ?_)
  repeat (first
    | (apply s_a TY; exact rfl)
    | apply w_seq
    | apply w_region
    | apply s_nil
    | apply t_norm
    | apply w_block)
  apply w_loop (fun k : Nat => ⟨(Ab.upd (Ab.upd (Ab.upd (Ab.upd (fun _ => .bot) 0 (.f (.sl l.length (altsF l)))) 1 (.f (.fn 154 [.pt [sv n] 0]))) 7 (.f (iv l.length))) 8 (.f (iv (k : Nat)))), (fun _ => none), 0⟩) (fun k => k ≤ l.length ∧ ∀ i, i < k → nmA l n i = false) (fun k => l.length - k) 0 (⟨Nat.zero_le _, fun j h => absurd h (Nat.not_lt_zero j)⟩) (gh_le ⟨le_upd rfl trivial (le_upd rfl trivial (le_upd rfl trivial (le_upd rfl trivial (le_nil _)))), le_h0 _ _⟩)
  intro k ⟨hk, hz⟩
  by_cases hc : k < l.length
  · have Hc := isAlt_s l[k] n
    have hpe : nmA l n k = decide (l[k].nm = n) := by unfold nmA; rw [getD_at hc]
    rw [← hpe] at Hc
    cases hp : nmA l n k with
    | true =>
      rw [hp] at Hc
      rw [idxP_at hc hz hp]
      repeat (first
    | (apply s_a TY; exact rfl)
    | (apply s_t; exact rfl; (first | assumption | omega))
    | apply w_seq
    | apply w_region
    | apply s_nil
    | apply t_norm
    | apply t_ret
    | apply k_ret
    | apply w_block
    | apply w_ret
    | apply w_skip
    | (apply w_condT; exact rfl; exact rfl)
    | (apply s_k (Hc); exact rfl)
    | (apply s_c TY; exact rfl; (first | omega | exact ⟨by omega, by (first | with_reducible assumption | ((with_reducible apply altsF_ne); omega) | assumption)⟩))
    | (apply s_l TY; exact rfl; (first | exact rfl | with_reducible assumption | ((with_reducible apply altsF_at); omega) | assumption)))
      exact lv_ret (ret1 rfl (res_tmp rfl))
    | false =>
      rw [hp] at Hc
      repeat (first
    | (apply s_a TY; exact rfl)
    | (apply s_t; exact rfl; (first | assumption | omega))
    | apply w_seq
    | apply w_region
    | apply s_nil
    | apply t_norm
    | apply k_norm
    | apply w_block
    | apply w_skip
    | (apply w_condT; exact rfl; exact rfl)
    | (apply w_condF; exact rfl; exact rfl)
    | (apply s_k (Hc); exact rfl)
    | (apply s_c TY; exact rfl; (first | omega | exact ⟨by omega, by (first | with_reducible assumption | ((with_reducible apply altsF_ne); omega) | assumption)⟩))
    | (apply s_l TY; exact rfl; (first | exact rfl | with_reducible assumption | ((with_reducible apply altsF_at); omega) | assumption)))
      exact ⟨k + 1, ⟨by omega, fun i hi => by
        by_cases e : i = k
        · subst e; exact hp
        · exact hz i (by omega)⟩, by omega, gh_le ⟨le_upd rfl trivial (le_upd rfl trivial (le_upd rfl trivial (le_upd rfl trivial (le_nil _)))), le_h0 _ _⟩⟩
  · rw [idxP_no fun i hi => hz i (by omega)]
    repeat (first
    | (apply s_a TY; exact rfl)
    | (apply s_f; exact rfl; (first | assumption | omega))
    | apply w_seq
    | apply w_region
    | apply s_nil
    | apply t_norm
    | apply t_exit
    | apply k_hit
    | apply w_exit
    | apply w_ret
    | (apply w_condF; exact rfl; exact rfl))
    exact lv_ret (ret1 rfl (res_tmp rfl))
end Go.Proofs.YtenkgipcblfocaaGreat
namespace Go.Proofs.YtenkgipcblfocaaGreat
open Go Go.RowKit Go.Proofs Go.Shelf Go.Ab
def bxC (j : Nat) (a : Alt) : List AV := [.f (sv a.nm), .f (iv a.ver), .f (.sl a.cells.length (intsF a.cells)), .f (bv a.gone), .f (.v (.slice none 0 0)), .ow j]
def HX (al : List Alt) (q : Nat) (i : Nat) : Option Blk := bif Nat.blt i 1000 && Nat.ble 5 i && !(Nat.beq ((i - 5) / 2) q) then (match al[(i - 5) / 2]? with
  | none => none
  | some a => bif Nat.beq ((i - 5) % 2) 0 then some (.map (mpG a.had)) else some (.box (bxC (i - 1) a))) else none
def PT (al : List Alt) (q : Nat) : List AV := (List.range al.length).map fun j => bif Nat.beq j q then .bx 4 0 else .bx (2 * j + 6) 0
def HP (cs : List Cel) (ppl : List Nm) (al : List Alt) (q : Nat) : Nat → Option Blk := Ab.upd (Ab.upd (Ab.upd (HX al q) 0 (some (.box [.f (xF cs), .ow 1, .ow 2]))) 1 (some (.row 9 1 ppl.length (strsF ppl)))) 2 (some (.rowA 166 1 al.length (PT al q)))
def HB (cs : List Cel) (ppl : List Nm) (al : List Alt) : Nat → Option Blk := HP cs ppl al 1000
def HO (cs : List Cel) (ppl : List Nm) (al : List Alt) (k : Nat) (a : Alt) : Nat → Option Blk := Ab.upd (Ab.upd (HP cs ppl al k) 3 (some (.map (mpG a.had)))) 4 (some (.box (bxC 3 a)))
theorem upd_if {α : Type} (s : Nat → α) (k : Nat) (a : α) (t : Nat) : Ab.upd s k a t = if t = k then a else s t := by
  by_cases h : t = k
  · subst h; rw [Ab.upd_same, if_pos rfl]
  · rw [Ab.upd_other _ _ h, if_neg h]
theorem HX_lo (al : List Alt) (q : Nat) {i : Nat} (h : i < 5) : HX al q i = none := by
  unfold HX
  have : Nat.ble 5 i = false := by rw [Bool.eq_false_iff]; intro e; have := Nat.le_of_ble_eq_true e; omega
  simp [this]
theorem HX_hi (al : List Alt) (q : Nat) {i : Nat} (h : 1000 ≤ i) : HX al q i = none := by
  unfold HX
  have : Nat.blt i 1000 = false := by rw [Bool.eq_false_iff]; intro e; have := Nat.le_of_ble_eq_true e; omega
  simp [this]
theorem beqF {a b : Nat} (h : a ≠ b) : Nat.beq a b = false := by
  cases e : Nat.beq a b
  · rfl
  · exact absurd (Nat.eq_of_beq_eq_true e) h
theorem beqT {a b : Nat} (h : a = b) : Nat.beq a b = true := by subst h; exact Nat.beq_refl _
theorem HX_mid (al : List Alt) (q : Nat) {i : Nat} (h : 5 ≤ i ∧ i < 1000) : HX al q i = if (i - 5) / 2 = q then none else (match al[(i - 5) / 2]? with
  | none => none
  | some a => if (i - 5) % 2 = 0 then some (.map (mpG a.had)) else some (.box (bxC (i - 1) a))) := by
  unfold HX
  have h1 : Nat.ble 5 i = true := Nat.ble_eq_true_of_le h.1
  have h2 : Nat.blt i 1000 = true := Nat.ble_eq_true_of_le h.2
  rw [h1, h2, Bool.true_and, Bool.true_and]
  by_cases hq : (i - 5) / 2 = q
  · rw [beqT hq, if_pos hq]; rfl
  · rw [beqF hq, if_neg hq]
    show (match al[(i - 5) / 2]? with | none => none | some a => _) = _
    cases al[(i - 5) / 2]? with
    | none => rfl
    | some a =>
      by_cases hm : (i - 5) % 2 = 0
      · simp only [beqT hm, if_pos hm, cond_true]
      · simp only [beqF hm, if_neg hm, cond_false]
theorem HX_map {al : List Alt} {q j : Nat} {a : Alt} (ha : al[j]? = some a) (hq : j ≠ q) (hj : j < 400) : HX al q (2 * j + 5) = some (.map (mpG a.had)) := by
  rw [HX_mid al q (by omega), show (2 * j + 5 - 5) / 2 = j by omega, if_neg hq, ha]
  exact if_pos (by omega)
theorem HX_box {al : List Alt} {q j : Nat} {a : Alt} (ha : al[j]? = some a) (hq : j ≠ q) (hj : j < 400) : HX al q (2 * j + 6) = some (.box (bxC (2 * j + 5) a)) := by
  rw [HX_mid al q (by omega), show (2 * j + 6 - 5) / 2 = j by omega, if_neg hq, ha]
  exact (if_neg (by omega)).trans rfl
theorem HX_some {al : List Alt} {q i : Nat} {B : Blk} (h : HX al q i = some B) : ∃ j a, al[j]? = some a ∧ j ≠ q ∧ j < 500 ∧ ((i = 2 * j + 5 ∧ B = .map (mpG a.had)) ∨ (i = 2 * j + 6 ∧ B = .box (bxC (2 * j + 5) a))) := by
  by_cases h1 : i < 5
  · rw [HX_lo al q h1] at h; cases h
  by_cases h2 : 1000 ≤ i
  · rw [HX_hi al q h2] at h; cases h
  rw [HX_mid al q (by omega)] at h
  split at h
  · cases h
  rename_i hq
  cases ha : al[(i - 5) / 2]? with
  | none => rw [ha] at h; cases h
  | some a =>
    rw [ha] at h
    refine ⟨(i - 5) / 2, a, ha, hq, by omega, ?_⟩
    change (if (i - 5) % 2 = 0 then some (Blk.map (mpG a.had)) else some (.box (bxC (i - 1) a))) = some B at h
    split at h
    · cases h; exact .inl ⟨by omega, rfl⟩
    · cases h; exact .inr ⟨by omega, by rw [show i - 1 = 2 * ((i - 5) / 2) + 5 by omega]⟩
theorem HX_q (al : List Alt) {q i : Nat} (h : (i - 5) / 2 = q) : HX al q i = none := by
  by_cases h1 : i < 5
  · exact HX_lo al q h1
  by_cases h2 : 1000 ≤ i
  · exact HX_hi al q h2
  rw [HX_mid al q (by omega), if_pos h]
theorem HX_ne (al : List Alt) {q q' i : Nat} (h : (i - 5) / 2 ≠ q) (h' : (i - 5) / 2 ≠ q') : HX al q i = HX al q' i := by
  by_cases h1 : i < 5
  · rw [HX_lo al q h1, HX_lo al q' h1]
  by_cases h2 : 1000 ≤ i
  · rw [HX_hi al q h2, HX_hi al q' h2]
  rw [HX_mid al q (by omega), HX_mid al q' (by omega), if_neg h, if_neg h']
theorem HX_set (al : List Alt) (q : Nat) (a : Alt) : HX (al.set q a) q = HX al q := by
  funext i
  by_cases h1 : i < 5
  · rw [HX_lo _ q h1, HX_lo al q h1]
  by_cases h2 : 1000 ≤ i
  · rw [HX_hi _ q h2, HX_hi al q h2]
  rw [HX_mid _ q (by omega), HX_mid al q (by omega)]
  by_cases h : (i - 5) / 2 = q
  · rw [if_pos h, if_pos h]
  · rw [if_neg h, if_neg h, List.getElem?_set_ne (Ne.symm h)]
theorem PT_len (al : List Alt) (q : Nat) : (PT al q).length = al.length := by simp [PT]
theorem PT_set (al : List Alt) (q k : Nat) (a : Alt) : PT (al.set k a) q = PT al q := by simp [PT]
theorem PT_at {al : List Alt} {q j : Nat} (h : j < al.length) (hq : j ≠ q) : (PT al q)[j]? = some (.bx (2 * j + 6) 0) := by
  unfold PT
  rw [List.getElem?_map, List.getElem?_range h, Option.map_some, beqF hq]; rfl
theorem PT_mem {al : List Alt} {q : Nat} {x : AV} (h : x ∈ PT al q) : (x = .bx 4 0 ∧ q < al.length) ∨ ∃ j, j < al.length ∧ j ≠ q ∧ x = .bx (2 * j + 6) 0 := by
  unfold PT at h
  obtain ⟨j, hj, rfl⟩ := List.mem_map.1 h
  rw [List.mem_range] at hj
  by_cases e : j = q
  · subst e; rw [beqT rfl]; exact .inl ⟨rfl, hj⟩
  · rw [beqF e]; exact .inr ⟨j, hj, e, rfl⟩
theorem HP_x (cs : List Cel) (ppl : List Nm) (al : List Alt) (q : Nat) {i : Nat} (h : 3 ≤ i) : HP cs ppl al q i = HX al q i := by
  unfold HP
  rw [upd_if, if_neg (by omega), upd_if, if_neg (by omega), upd_if, if_neg (by omega)]
theorem HO_x (cs : List Cel) (ppl : List Nm) (al : List Alt) (k : Nat) (a : Alt) {i : Nat} (h : 5 ≤ i) : HO cs ppl al k a i = HX al k i := by
  unfold HO
  rw [upd_if, if_neg (by omega), upd_if, if_neg (by omega), HP_x _ _ _ _ (by omega)]
theorem bx_closed {h : Nat → Option Blk} {j : Nat} (a : Alt) (hj : (h j).isSome = true) : closedB h (.box (bxC j a)) := fun x hx => by
  unfold bxC at hx
  simp only [List.mem_cons, List.not_mem_nil, or_false] at hx
  rcases hx with rfl | rfl | rfl | rfl | rfl | rfl <;> first | trivial | exact hj
theorem HB_cl (cs : List Cel) (ppl : List Nm) (al : List Alt) (hl : al.length ≤ 400) : ∀ i B, HB cs ppl al i = some B → closedB (HB cs ppl al) B := fun i B h => by
  by_cases h0 : i = 0
  · subst h0
    have : B = .box [.f (xF cs), .ow 1, .ow 2] := (Option.some.inj h).symm
    subst this
    intro x hx
    simp only [List.mem_cons, List.not_mem_nil, or_false] at hx
    rcases hx with rfl | rfl | rfl <;> first | trivial | exact rfl
  by_cases h1 : i = 1
  · subst h1; cases h; trivial
  by_cases h2 : i = 2
  · subst h2; cases h
    intro x hx
    rcases PT_mem hx with ⟨_, hq⟩ | ⟨j, hj, hq, rfl⟩
    · omega
    · show (HB cs ppl al (2 * j + 6)).isSome = true
      unfold HB; rw [HP_x _ _ _ _ (by omega), HX_box (List.getElem?_eq_getElem hj) hq (by omega)]; rfl
  unfold HB at h
  rw [HP_x _ _ _ _ (by omega)] at h
  obtain ⟨j, a, ha, hq, hj, ⟨rfl, rfl⟩ | ⟨rfl, rfl⟩⟩ := HX_some h
  · trivial
  · have hj2 := (List.getElem?_eq_some_iff.1 ha).1
    refine bx_closed a ?_
    unfold HB; rw [HP_x _ _ _ _ (by omega), HX_map ha hq (by omega)]; rfl
theorem HO_cl (cs : List Cel) (ppl : List Nm) (al : List Alt) (k : Nat) (a : Alt) (hl : al.length ≤ 400) : ∀ i B, HO cs ppl al k a i = some B → closedB (HO cs ppl al k a) B := fun i B h => by
  by_cases h0 : i = 0
  · subst h0
    have : B = .box [.f (xF cs), .ow 1, .ow 2] := (Option.some.inj h).symm
    subst this
    intro x hx
    simp only [List.mem_cons, List.not_mem_nil, or_false] at hx
    rcases hx with rfl | rfl | rfl <;> first | trivial | exact rfl
  by_cases h1 : i = 1
  · subst h1; cases h; trivial
  by_cases h2 : i = 2
  · subst h2; cases h
    intro x hx
    rcases PT_mem hx with ⟨rfl, hq⟩ | ⟨j, hj, hq, rfl⟩
    · exact rfl
    · show (HO cs ppl al k a (2 * j + 6)).isSome = true
      rw [HO_x _ _ _ _ _ (by omega), HX_box (List.getElem?_eq_getElem hj) hq (by omega)]; rfl
  by_cases h3 : i = 3
  · subst h3; cases h; trivial
  by_cases h4 : i = 4
  · subst h4; cases h; exact bx_closed a rfl
  rw [HO_x _ _ _ _ _ (by omega)] at h
  obtain ⟨j, a', ha, hq, hj, ⟨rfl, rfl⟩ | ⟨rfl, rfl⟩⟩ := HX_some h
  · trivial
  · have hj2 := (List.getElem?_eq_some_iff.1 ha).1
    refine bx_closed a' ?_
    rw [HO_x _ _ _ _ _ (by omega), HX_map ha hq (by omega)]; rfl
theorem mv_h (st : St) (i j : Nat) (B : Blk) (x : Nat) : (st.mv i j B).h x = if x = i then none else if x = j then some (B.mapA (mvA i j)) else (st.h x).map (Blk.mapA (mvA i j)) := by
  show (bif Nat.beq x i then none else bif Nat.beq x j then some (B.mapA (mvA i j)) else (st.h x).map (Blk.mapA (mvA i j))) = _
  by_cases h : x = i
  · rw [beqT h, if_pos h]; rfl
  · rw [beqF h, if_neg h]
    by_cases h2 : x = j
    · rw [beqT h2, if_pos h2]; rfl
    · rw [beqF h2, if_neg h2]; rfl
theorem mvA_f (i j : Nat) (x : FV) : mvA i j (.f x) = .f x := rfl
theorem mvA_ow (i j k : Nat) : mvA i j (.ow k) = .ow (if k = i then j else k) := by
  show AV.ofC (bif Nat.beq k i then some (Cap.ow j) else some (Cap.ow k)) = _
  by_cases h : k = i
  · rw [beqT h, if_pos h]; rfl
  · rw [beqF h, if_neg h]; rfl
theorem mvA_bx (i j k o : Nat) : mvA i j (.bx k o) = .bx (if k = i then j else k) o := by
  show AV.ofC (bif Nat.beq k i then some (Cap.bx j o) else some (Cap.bx k o)) = _
  by_cases h : k = i
  · rw [beqT h, if_pos h]; rfl
  · rw [beqF h, if_neg h]; rfl
theorem bxC_mv (i j k : Nat) (a : Alt) : (bxC k a).map (mvA i j) = bxC (if k = i then j else k) a := by
  simp only [bxC, List.map_cons, List.map_nil, mvA_f, mvA_ow]
theorem PT_open (al : List Alt) {k : Nat} (hk : k < 400) : ((PT al 1000).map (mvA (2 * k + 5) 3)).map (mvA (2 * k + 6) 4) = (PT al k) ∨ 400 < al.length := by
  by_cases hl : al.length ≤ 400
  · refine .inl ?_
    unfold PT
    rw [List.map_map, List.map_map]
    refine List.map_congr_left fun j hj => ?_
    rw [List.mem_range] at hj
    simp only [Function.comp_apply]
    rw [beqF (show j ≠ 1000 by omega), cond_false, mvA_bx, if_neg (by omega), mvA_bx]
    by_cases e : j = k
    · subst e; rw [if_pos rfl, beqT rfl]; rfl
    · rw [if_neg (by omega), beqF e]; rfl
  · exact .inr (by omega)
theorem PT_close (al : List Alt) {k : Nat} (hk : k < 400) (hl : al.length ≤ 400) : ((PT al k).map (mvA 3 (2 * k + 5))).map (mvA 4 (2 * k + 6)) = PT al 1000 := by
  unfold PT
  rw [List.map_map, List.map_map]
  refine List.map_congr_left fun j hj => ?_
  rw [List.mem_range] at hj
  simp only [Function.comp_apply]
  rw [beqF (show j ≠ 1000 by omega), cond_false]
  by_cases e : j = k
  · subst e; rw [beqT rfl, cond_true, mvA_bx, if_neg (by omega), mvA_bx, if_pos rfl]
  · rw [beqF e, cond_false, mvA_bx, if_neg (by omega), mvA_bx, if_neg (by omega)]
section
variable {C : Ctx} {N : Nat} {s : Nat → AV} {cs : List Cel} {ppl : List Nm} {al : List Alt} {k nx : Nat}
set_option maxHeartbeats 1000000 in
theorem gh_open (hk : k < al.length) (hl : al.length ≤ 400) (hJ : ∀ i, i ≠ 0 → C.J0 i = none) : Gh C N ⟨s, HB cs ppl al, nx⟩ ⟨fun t => mvA (2 * k + 6) 4 (mvA (2 * k + 5) 3 (s t)), HO cs ppl al k al[k], nx⟩ := by
  have hg := List.getElem?_eq_getElem hk
  have hx : ∀ i, 3 ≤ i → HB cs ppl al i = HX al 1000 i := fun i h1 => HP_x _ _ _ _ h1
  have e1 : (⟨s, HB cs ppl al, nx⟩ : St).h (2 * k + 5) = some (.map (mpG al[k].had)) := by
    exact (hx (2 * k + 5) (by omega)).trans (HX_map hg (by omega) (by omega))
  have e2 : (⟨s, HB cs ppl al, nx⟩ : St).h 3 = none := (hx 3 (by omega)).trans (HX_lo _ _ (by omega))
  refine gh_trans (gh_mvU (2 * k + 5) 3 (by omega) e1 e2 (hJ _ (by omega)) (hJ _ (by omega))) ?_
  have e3 : (St.mv ⟨s, HB cs ppl al, nx⟩ (2 * k + 5) 3 (.map (mpG al[k].had))).h (2 * k + 6) = some (.box (bxC 3 al[k])) := by
    rw [mv_h, if_neg (by omega), if_neg (by omega)]
    refine (congrArg (Option.map _) ((hx (2 * k + 6) (by omega)).trans (HX_box hg (by omega) (by omega)))).trans ?_
    rw [Option.map_some, Blk.mapA, bxC_mv, if_pos rfl]
  have e4 : (St.mv ⟨s, HB cs ppl al, nx⟩ (2 * k + 5) 3 (.map (mpG al[k].had))).h 4 = none := by
    rw [mv_h, if_neg (by omega), if_neg (by omega)]
    exact congrArg (Option.map _) ((hx 4 (by omega)).trans (HX_lo _ _ (by omega)))
  refine gh_trans (gh_mvU (2 * k + 6) 4 (by omega) e3 e4 (hJ _ (by omega)) (hJ _ (by omega))) ?_
  refine gh_eq (funext fun i => ?_)
  show (St.mv (St.mv ⟨s, HB cs ppl al, nx⟩ (2 * k + 5) 3 (.map (mpG al[k].had))) (2 * k + 6) 4 (.box (bxC 3 al[k]))).h i = _
  rw [mv_h, mv_h]
  by_cases c6 : i = 2 * k + 6
  · rw [if_pos c6, HO_x _ _ _ _ _ (by omega), HX_q _ (by omega)]
  rw [if_neg c6]
  by_cases c4 : i = 4
  · subst c4
    rw [if_pos rfl, Blk.mapA, bxC_mv, if_neg (by omega)]; rfl
  rw [if_neg c4]
  by_cases c5 : i = 2 * k + 5
  · rw [if_pos c5, HO_x _ _ _ _ _ (by omega), HX_q _ (by omega)]; rfl
  rw [if_neg c5]
  by_cases c3 : i = 3
  · subst c3; rw [if_pos rfl]; rfl
  rw [if_neg c3]
  show Option.map _ (Option.map _ (HB cs ppl al i)) = _
  by_cases c0 : i = 0
  · subst c0
    show some (Blk.box [_, mvA _ _ (mvA _ _ (.ow 1)), mvA _ _ (mvA _ _ (.ow 2))]) = _
    rw [mvA_ow, if_neg (by omega), mvA_ow, if_neg (by omega), mvA_ow, if_neg (by omega), mvA_ow, if_neg (by omega)]; rfl
  by_cases c1 : i = 1
  · subst c1; rfl
  by_cases c2 : i = 2
  · subst c2
    show some (Blk.rowA _ _ _ (((PT al 1000).map _).map _)) = some (Blk.rowA _ _ _ (PT al k))
    rw [(PT_open al (show k < 400 by omega)).resolve_right (by omega)]
  rw [HO_x _ _ _ _ _ (by omega)]
  show Option.map _ (Option.map _ (HP cs ppl al 1000 i)) = _
  rw [HP_x _ _ _ _ (by omega)]
  cases hh : HX al 1000 i with
  | none =>
    by_cases ck : (i - 5) / 2 = k
    · rw [HX_q al ck]; rfl
    · by_cases ck2 : (i - 5) / 2 = 1000
      · rw [HX_hi al k (by omega)]; rfl
      · rw [HX_ne al ck ck2, hh]; rfl
  | some B =>
    obtain ⟨j, a, ha, hq, hj, hB⟩ := HX_some hh
    have hj2 := (List.getElem?_eq_some_iff.1 ha).1
    rw [HX_ne al (q := k) (q' := 1000) (by omega) (by omega), hh]
    rcases hB with ⟨hi, rfl⟩ | ⟨hi, rfl⟩
    · rfl
    · rw [Option.map_some, Option.map_some, Blk.mapA, Blk.mapA, bxC_mv, if_neg (by omega), bxC_mv, if_neg (by omega)]
set_option maxHeartbeats 1000000 in
theorem gh_close {a : Alt} (hk : k < al.length) (hl : al.length ≤ 400) (hJ : ∀ i, i ≠ 0 → C.J0 i = none) : Gh C N ⟨s, HO cs ppl al k a, nx⟩ ⟨fun t => mvA 4 (2 * k + 6) (mvA 3 (2 * k + 5) (s t)), HB cs ppl (al.set k a), nx⟩ := by
  have hg : (al.set k a)[k]? = some a := by rw [List.getElem?_set_self hk]
  have hls : (al.set k a).length = al.length := List.length_set
  have e1 : (⟨s, HO cs ppl al k a, nx⟩ : St).h 3 = some (.map (mpG a.had)) := rfl
  have e2 : (⟨s, HO cs ppl al k a, nx⟩ : St).h (2 * k + 5) = none := (HO_x cs ppl al k a (i := 2 * k + 5) (by omega)).trans (HX_q al (by omega))
  refine gh_trans (gh_mvU 3 (2 * k + 5) (by omega) e1 e2 (hJ _ (by omega)) (hJ _ (by omega))) ?_
  have e3 : (St.mv ⟨s, HO cs ppl al k a, nx⟩ 3 (2 * k + 5) (.map (mpG a.had))).h 4 = some (.box (bxC (2 * k + 5) a)) := by
    rw [mv_h, if_neg (by omega), if_neg (by omega)]
    show (some (Blk.box (bxC 3 a))).map _ = _
    rw [Option.map_some, Blk.mapA, bxC_mv, if_pos rfl]
  have e4 : (St.mv ⟨s, HO cs ppl al k a, nx⟩ 3 (2 * k + 5) (.map (mpG a.had))).h (2 * k + 6) = none := by
    rw [mv_h, if_neg (by omega), if_neg (by omega)]
    exact congrArg (Option.map _) ((HO_x cs ppl al k a (i := 2 * k + 6) (by omega)).trans (HX_q al (by omega)))
  refine gh_trans (gh_mvU 4 (2 * k + 6) (by omega) e3 e4 (hJ _ (by omega)) (hJ _ (by omega))) ?_
  refine gh_eq (funext fun i => ?_)
  show (St.mv (St.mv ⟨s, HO cs ppl al k a, nx⟩ 3 (2 * k + 5) (.map (mpG a.had))) 4 (2 * k + 6) (.box (bxC (2 * k + 5) a))).h i = _
  rw [mv_h, mv_h]
  show _ = HP cs ppl (al.set k a) 1000 i
  by_cases c4 : i = 4
  · subst c4
    rw [if_pos rfl, HP_x _ _ _ _ (by omega), HX_lo _ _ (by omega)]
  rw [if_neg c4]
  by_cases c6 : i = 2 * k + 6
  · subst c6
    rw [if_pos rfl, Blk.mapA, bxC_mv, if_neg (by omega), HP_x _ _ _ _ (by omega), HX_box hg (by omega) (by omega)]
  rw [if_neg c6]
  by_cases c3 : i = 3
  · subst c3
    rw [if_pos rfl, HP_x _ _ _ _ (by omega), HX_lo _ _ (by omega)]; rfl
  rw [if_neg c3]
  by_cases c5 : i = 2 * k + 5
  · subst c5
    rw [if_pos rfl, HP_x _ _ _ _ (by omega), HX_map hg (by omega) (by omega)]; rfl
  rw [if_neg c5]
  show Option.map _ (Option.map _ (HO cs ppl al k a i)) = _
  by_cases c0 : i = 0
  · subst c0
    show some (Blk.box [_, mvA _ _ (mvA _ _ (.ow 1)), mvA _ _ (mvA _ _ (.ow 2))]) = _
    rw [mvA_ow, if_neg (by omega), mvA_ow, if_neg (by omega), mvA_ow, if_neg (by omega), mvA_ow, if_neg (by omega)]; rfl
  by_cases c1 : i = 1
  · subst c1; rfl
  by_cases c2 : i = 2
  · subst c2
    show some (Blk.rowA _ _ _ (((PT al k).map _).map _)) = some (Blk.rowA _ _ (al.set k a).length (PT (al.set k a) 1000))
    rw [PT_close al (show k < 400 by omega) hl, PT_set, hls]
  rw [HO_x _ _ _ _ _ (by omega), HP_x _ _ _ _ (by omega)]
  rw [← HX_set al k a]
  cases hh : HX (al.set k a) 1000 i with
  | none =>
    by_cases ck : (i - 5) / 2 = k
    · rw [HX_q _ ck]; rfl
    · by_cases ck2 : (i - 5) / 2 = 1000
      · rw [HX_hi _ k (by omega)]; rfl
      · rw [HX_ne _ ck ck2, hh]; rfl
  | some B =>
    obtain ⟨j, a', ha, hq, hj, hB⟩ := HX_some hh
    have hj2 := (List.getElem?_eq_some_iff.1 ha).1
    rw [hls] at hj2
    rw [HX_ne _ (q := k) (q' := 1000) (by omega) (by omega), hh]
    rcases hB with ⟨hi, rfl⟩ | ⟨hi, rfl⟩
    · rfl
    · rw [Option.map_some, Option.map_some, Blk.mapA, Blk.mapA, bxC_mv, if_neg (by omega), bxC_mv, if_neg (by omega)]
theorem PT_new (al : List Alt) (a : Alt) (hl : al.length ≤ 400) : PT al 1000 ++ [.bx 4 0] = PT (al ++ [a]) al.length := by
  unfold PT
  rw [List.length_append, List.length_singleton, List.range_succ, List.map_append, List.map_cons, List.map_nil, beqT rfl, cond_true]
  congr 1
  refine List.map_congr_left fun j hj => ?_
  rw [List.mem_range] at hj
  rw [beqF (show j ≠ 1000 by omega), beqF (show j ≠ al.length by omega)]
theorem HX_new (al : List Alt) (a : Alt) (_hl : al.length ≤ 400) : HX (al ++ [a]) al.length = HX al 1000 := by
  funext i
  by_cases h1 : i < 5
  · rw [HX_lo _ _ h1, HX_lo _ _ h1]
  by_cases h2 : 1000 ≤ i
  · rw [HX_hi _ _ h2, HX_hi _ _ h2]
  rw [HX_mid _ _ (by omega), HX_mid _ _ (by omega), if_neg (show ¬ (i - 5) / 2 = 1000 by omega)]
  by_cases h : (i - 5) / 2 < al.length
  · rw [if_neg (by omega), List.getElem?_append_left h]
  · rw [List.getElem?_eq_none (l := al) (by omega)]
    by_cases h3 : (i - 5) / 2 = al.length
    · rw [if_pos h3]
    · rw [if_neg h3, List.getElem?_eq_none (by simp; omega)]
end
end Go.Proofs.YtenkgipcblfocaaGreat
namespace Go.Proofs.YtenkgipcblfocaaGreat
open Go Go.RowKit Go.Proofs Go.Shelf Go.Ab
theorem HB_lt {cs : List Cel} {ppl : List Nm} {al : List Alt} {i : Nat} {B : Blk} (h : HB cs ppl al i = some B) : i < 1000 := by
  refine Classical.byContradiction fun hn => ?_
  unfold HB at h
  rw [HP_x _ _ _ _ (by omega), HX_hi _ _ (by omega)] at h; cases h
theorem HO_lt {cs : List Cel} {ppl : List Nm} {al : List Alt} {k i : Nat} {a : Alt} {B : Blk} (h : HO cs ppl al k a i = some B) : i < 1000 := by
  refine Classical.byContradiction fun hn => ?_
  rw [HO_x _ _ _ _ _ (by omega), HX_hi _ _ (by omega)] at h; cases h
section
variable {C : Ctx} {N : Nat} {st : St}
theorem sees_alts {al : List Alt} (hl : al.length ≤ 400) (hx : ∀ i B, HX al 1000 i = some B → st.h i = some B) : SeesL C N st (PT al 1000) (altsF al) := by
  refine SeesL.of (by rw [PT_len, altsF_len, Nat.mul_one]) fun j x y h1 h2 => ?_
  have hj : j < al.length := by have := (List.getElem?_eq_some_iff.1 h1).1; rwa [PT_len] at this
  rw [PT_at hj (by omega)] at h1
  cases h1
  have := altsF_at hj
  rw [Nat.mul_one] at this
  rw [this] at h2
  cases h2
  have hg := List.getElem?_eq_getElem hj
  exact sees_bx (hx _ _ (HX_box hg (by omega) (by omega))) ⟨sees_f _, sees_f _, sees_f _, sees_f _, sees_f _, sees_map (hx _ _ (HX_map hg (by omega) (by omega))), trivial⟩
end
theorem HX_HB {cs : List Cel} {ppl : List Nm} {al : List Alt} {i : Nat} {B : Blk} (h : HX al 1000 i = some B) : HB cs ppl al i = some B := by
  obtain ⟨j, a, ha, hq, hj, hB⟩ := HX_some h
  unfold HB
  rw [HP_x _ _ _ _ (by rcases hB with h | h <;> omega)]
  exact h
set_option maxRecDepth 100000 in
set_option maxHeartbeats 1600000 in
theorem find_no (cs : List Cel) (ppl : List Nm) (al : List Alt) (n : Nm) (hl : al.length ≤ 400) (hz : ∀ i, i < al.length → nmA al n i = false) : SummH Tryz.prog GG 103 (HB cs ppl al) [.bx 0 0, .f (sv n)] (.f (.v (.pointer none))) (HB cs ppl al) := by
  have HI := idxAlt_s al n (by omega)
  rw [idxP_no hz] at HI
  refine summH_of 1000 Tryz.func103 rfl rfl 21 rfl (by simp) ⟨_, _, rfl, rfl, rfl, rfl⟩ (HB_cl _ _ _ (by omega)) (fun M X J => ?_)
  repeat (first
    | (apply s_nilCheck; exact rfl; exact rfl; exact rfl)
    | (refine s_callS HI (fun _ => rfl) rfl rfl rfl ⟨sees_rowA rfl (sees_alts (by omega) fun i B h => HX_HB h), sees_f _, trivial⟩ ?_)
    | (apply s_o TY; exact rfl)
    | (apply s_makefbC; exact rfl; exact rfl; exact rfl)
    | (apply s_a TY; exact rfl)
    | (apply s_t; exact rfl; (first | assumption | omega))
    | apply w_seq
    | apply w_region
    | apply s_nil
    | apply t_norm
    | apply t_ret
    | apply w_ret
    | (apply w_condT; exact rfl; exact rfl))
  refine lvH_ret (s := Ab.upd (fun _ => .bot) 4 (.f (.v (.pointer none)))) (nx := 1000) ?_ ?_
  · exact gh_le ⟨le_upd rfl trivial (le_nil _), (le_base (HB_cl cs ppl al (by omega)) fun i B h => h)⟩
  · exact rg1 rfl (rv_tmp rfl)
set_option maxRecDepth 100000 in
set_option maxHeartbeats 1600000 in
theorem find_at (cs : List Cel) (ppl : List Nm) (al : List Alt) (n : Nm) (hl : al.length ≤ 400) (k : Nat) (hk : k < al.length) (hz : ∀ i, i < k → nmA al n i = false) (hn : nmA al n k = true) : SummH Tryz.prog GG 103 (HB cs ppl al) [.bx 0 0, .f (sv n)] (.bx (2 * k + 6) 0) (HB cs ppl al) := by
  have HI := idxAlt_s al n (by omega)
  rw [idxP_at hk hz hn] at HI
  have hc : (PT al 1000)[((k : Nat) : Int).toNat * 1]? = some (.bx (2 * k + 6) 0) := by rw [Int.toNat_natCast, Nat.mul_one]; exact PT_at hk (by omega)
  have hg : (HB cs ppl al (2 * k + 6)).isSome = true := by rw [HX_HB (HX_box (List.getElem?_eq_getElem hk) (by omega) (by omega))]; rfl
  refine summH_of 1000 Tryz.func103 rfl rfl 21 rfl (by simp) ⟨_, _, rfl, rfl, rfl, rfl⟩ (HB_cl _ _ _ (by omega)) (fun M X J => ?_)
  repeat (first
    | (apply s_nilCheck; exact rfl; exact rfl; exact rfl)
    | (refine s_callS HI (fun _ => rfl) rfl rfl rfl ⟨sees_rowA rfl (sees_alts (by omega) fun i B h => HX_HB h), sees_f _, trivial⟩ ?_)
    | (apply s_o TY; exact rfl)
    | (apply s_makefbC; exact rfl; exact rfl; exact rfl)
    | (apply s_idxOA TY; exact rfl; exact rfl; exact rfl; exact rfl; exact rfl; exact rfl; omega; omega)
    | (apply s_ldA TY; exact rfl; exact rfl; exact rfl; exact rfl; exact rfl; exact hc)
    | (apply s_a TY; exact rfl)
    | (apply s_f; exact rfl; (first | assumption | omega))
    | apply w_seq
    | apply w_region
    | apply s_nil
    | apply t_norm
    | apply w_ret
    | apply w_skip
    | (apply w_condF; exact rfl; exact rfl))
  refine lvH_ret (s := Ab.upd (fun _ => .bot) 4 (.bx (2 * k + 6) 0)) (nx := 1000) ?_ ?_
  · exact gh_le ⟨le_upd rfl (show closedA (HB cs ppl al) _ from hg) (le_nil _), (le_base (HB_cl cs ppl al (by omega)) fun i B h => h)⟩
  · exact rg1 rfl (rv_tmp rfl)
end Go.Proofs.YtenkgipcblfocaaGreat
