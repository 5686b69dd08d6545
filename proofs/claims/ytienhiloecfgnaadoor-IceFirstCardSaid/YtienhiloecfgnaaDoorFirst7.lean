/- Laws on which the proofs of this seat stand. No condition. -/
import Derived.Test.YtienhiloecfgnaaDoorFirst6
namespace Go.Proofs.YtienhiloecfgnaaDoor
open Go Go.RowKit Go.Proofs Go.Shelf Go.Ab
theorem timesM_shape {x : Grid} (v : Valid x) (fr : Cel) : ShapeOk x (timesM x fr) := by
  have := v.r1
  constructor
  · simp only [timesM, List.length_map, List.length_range]; omega
  · intro r hr
    simp only [timesM, List.mem_map, List.mem_range] at hr
    obtain ⟨q, _, rfl⟩ := hr
    simp
theorem tab_timesM {x : Grid} {fr c : Cel} (hc : InG x c) : tab (timesM x fr) c = distOf x fr c := by
  obtain ⟨⟨c0, c1⟩, r0, r1⟩ := hc
  have h1 : c.row.toNat < x.rows.toNat := by omega
  have h2 : c.col.toNat < x.tilt.length := by omega
  have e : (⟨((c.col.toNat : Nat) : Int), ((c.row.toNat : Nat) : Int)⟩ : Cel) = c := by
    cases c
    simp only [Cel.mk.injEq] at *
    omega
  unfold tab timesM
  simp only [List.getD_eq_getElem?_getD, List.getElem?_map, List.getElem?_range h1, List.getElem?_range h2, Option.map_some, Option.getD_some, e]
theorem shape_ext {x : Grid} {T T' : List (List Int)} (sh : ShapeOk x T) (sh' : ShapeOk x T') (h : ∀ c, InG x c → tab T c = tab T' c) : T = T' := by
  have l1 := sh.len
  have l2 := sh'.len
  refine List.ext_getElem (by omega) fun r h1 h2 => ?_
  have e1 := sh.row _ (List.getElem_mem h1)
  have e2 := sh'.row _ (List.getElem_mem h2)
  refine List.ext_getElem (by omega) fun c g1 g2 => ?_
  have := h ⟨(c : Nat), (r : Nat)⟩ ⟨⟨Int.natCast_nonneg _, by simp only; omega⟩, Int.natCast_nonneg _, by simp only; omega⟩
  simpa [tab, List.getD_eq_getElem?_getD, List.getElem?_eq_getElem h1, List.getElem?_eq_getElem h2, List.getElem?_eq_getElem g1, List.getElem?_eq_getElem g2] using this
theorem chkT_times {x : Grid} (v : Valid x) {fr : Cel} (hf : InG x fr) (hi : iceErrE x = 0) (T : List (List Int)) : (chkT x fr T).2 = 0 ↔ T = timesM x fr := by
  obtain ⟨d1, d2⟩ := distOf_all v hf
  have sm := timesM_shape v fr
  constructor
  · intro h
    have hh : headE x fr T = 0 := by
      refine Classical.byContradiction fun hn => ?_
      unfold chkT at h
      rw [if_neg hn] at h
      exact hn h
    have sh : ShapeOk x T := by
      unfold headE at hh
      rw [if_neg (fun h => h hi), if_neg (fun h => h ((cellE_in v).2 hf))] at hh
      by_cases q : (T.length : Int) = x.rows ∧ evenB x T = true
      · exact ⟨q.1, (even_spec x T).1 q.2⟩
      · rw [if_neg q] at hh; exact absurd hh (by decide)
    obtain ⟨hd, _⟩ := (chkT_zero v hf sh hi).1 h
    exact shape_ext sh sm fun c hc => by rw [tab_timesM hc]; exact hd.unique v d1 hc
  · rintro rfl
    have tm := fun c (hc : InG x c) => tab_timesM (fr := fr) hc
    refine (chkT_zero v hf sm hi).2 ⟨⟨?_, fun c hc => ?_, fun c n hc hn => ?_, fun c hc hne => ?_⟩, fun c hc => ?_⟩
    · rw [tm fr hf]; exact d1.zero
    · rw [tm c hc]; exact d1.nonneg c hc
    · rw [tm c hc, tm n (nbrs_in v hn)]; exact d1.le c n hc hn
    · obtain ⟨n, hn, e⟩ := d1.tight c hc hne
      exact ⟨n, hn, by rw [tm c hc, tm n (nbrs_in v hn)]; exact e⟩
    · rw [tm c hc]; exact d2 c hc
end Go.Proofs.YtienhiloecfgnaaDoor
namespace Go.Proofs.YtienhiloecfgnaaDoor
open Go Go.RowKit Go.Proofs Go.Shelf Go.Ab
theorem celsF_len (l : List Cel) : (celsF l).length = l.length * 2 := by
  induction l with
  | nil => rfl
  | cons y l ih => simp only [celsF, List.flatMap_cons, List.length_append, List.length_cons] at *; rw [ih]; simp [celF]; omega
set_option maxRecDepth 100000 in
theorem CopyWay_s (l : List Cel) (hl : l.length ≤ 1000000) : Summ Tryd.prog GG 72 [.sl l.length (celsF l)] (.sl l.length (celsF l)) := by
  have h1 := celsF_len l
  refine summW Tryd.func72 rfl rfl 6 rfl (by simp) (fun M0 => ?_)
  repeat (first
    | (apply s_bslice_clip TY; exact rfl; exact rfl; exact rfl; exact rfl; exact rfl; exact rfl)
    | (apply s_append_copy TY; exact rfl; exact rfl; exact rfl; exact rfl; exact rfl; exact rfl; exact rfl; assumption; (unfold maxLen; omega); omega)
    | (apply s_a TY; exact rfl)
    | apply w_seq
    | apply w_region
    | apply s_nil
    | apply t_norm
    | apply t_exit
    | apply t_ret
    | apply k_hit
    | (apply k_miss; exact rfl)
    | apply k_norm
    | apply k_ret
    | apply w_block
    | apply w_exit
    | apply w_ret
    | apply w_skip
    | (apply w_condT; exact rfl; exact rfl)
    | (apply w_condF; exact rfl; exact rfl)
    | (apply s_append TY; exact rfl; exact rfl; exact rfl; exact rfl; exact rfl; exact rfl; exact rfl; exact rfl; exact rfl; (unfold maxLen; omega); omega))
  exact lv_ret (ret1 rfl (res_tmp rfl))
def chkV (x : Grid) (way : List Cel) : Int × Int := if iceErrE x = 0 then wayV x way else (0, iceErrE x)
set_option maxRecDepth 100000 in
theorem CheckWay_s (x : Grid) (way : List Cel) (b : SmallG x) (hw : way.length ≤ 1000000) : Summ Tryd.prog GG 71 [gridF x, .sl way.length (celsF way)] (.tup [iv (chkV x way).1, iv (chkV x way).2]) := by
  unfold chkV
  have IE := iceErr_s x b
  refine summW Tryd.func71 rfl rfl 17 rfl (by simp) (fun M0 => ?_)
  by_cases h : iceErrE x = 0
  · rw [if_pos h]
    have WE := wayErr_s x way ((checkIce_zero x).1 h) hw
    repeat (first
    | (apply s_a TY; exact rfl)
    | (apply s_t; exact rfl; (first | assumption | omega))
    | (apply s_f; exact rfl; (first | assumption | omega))
    | apply w_seq
    | apply w_region
    | apply s_nil
    | apply t_norm
    | apply t_exit
    | apply t_ret
    | apply k_hit
    | (apply k_miss; exact rfl)
    | apply k_norm
    | apply k_ret
    | apply w_block
    | apply w_exit
    | apply w_ret
    | apply w_skip
    | (apply w_condT; exact rfl; exact rfl)
    | (apply w_condF; exact rfl; exact rfl)
    | (apply s_k (IE); exact rfl)
    | (apply s_k (WE); exact rfl)
    | (apply s_l TY; exact rfl; (first | exact rfl | with_reducible assumption | assumption))
    | (apply s_m TY; exact rfl; (first | with_reducible assumption | exact rfl); exact rfl)
    | (apply s_r TY; exact rfl; (first | exact rfl | with_reducible assumption | assumption)))
    exact lv_ret (ret2 rfl (res_tmp rfl) (res_tmp rfl))
  · rw [if_neg h]
    repeat (first
    | (apply s_a TY; exact rfl)
    | (apply s_t; exact rfl; (first | assumption | omega))
    | (apply s_f; exact rfl; (first | assumption | omega))
    | apply w_seq
    | apply w_region
    | apply s_nil
    | apply t_norm
    | apply t_exit
    | apply t_ret
    | apply k_hit
    | (apply k_miss; exact rfl)
    | apply k_norm
    | apply k_ret
    | apply w_block
    | apply w_exit
    | apply w_ret
    | apply w_skip
    | (apply w_condT; exact rfl; exact rfl)
    | (apply w_condF; exact rfl; exact rfl)
    | (apply s_k (IE); exact rfl)
    | (apply s_l TY; exact rfl; (first | exact rfl | with_reducible assumption | assumption))
    | (apply s_m TY; exact rfl; (first | with_reducible assumption | exact rfl); exact rfl)
    | (apply s_r TY; exact rfl; (first | exact rfl | with_reducible assumption | assumption)))
    exact lv_ret (ret2 rfl (res_tmp rfl) (res_tmp rfl))
set_option maxRecDepth 100000 in
set_option maxHeartbeats 1000000 in
theorem WayErr_s (x : Grid) (way : List Cel) (v : Valid x) : Summ Tryd.prog GG 74 [gridF x, .sl way.length (celsF way)] (iv (wayErrE x way)) := by
  refine summW Tryd.func74 rfl rfl 43 rfl (by simp) (fun M0 => ?_)
  by_cases h0 : way.length = 0
  · rw [wayE_none h0]
    repeat (first
    | (apply s_a TY; exact rfl)
    | (apply s_t; exact rfl; (first | assumption | omega))
    | (apply s_f; exact rfl; (first | assumption | omega))
    | apply w_seq
    | apply w_region
    | (apply w_draw (id := 8) 5 rfl (by kernel_rfl))
    | (apply w_draw (id := 11) 12 rfl (by kernel_rfl))
    | apply s_nil
    | apply t_norm
    | apply t_exit
    | apply t_ret
    | apply k_hit
    | (apply k_miss; exact rfl)
    | apply k_norm
    | apply k_ret
    | apply w_block
    | apply w_exit
    | apply w_ret
    | apply w_skip
    | (apply w_condT; exact rfl; exact rfl)
    | (apply w_condF; exact rfl; exact rfl)
    | (apply s_k1 (CellErr_s _ _); exact rfl; (first | assumption | omega | decide))
    | (apply s_s; exact rfl)
    | (apply s_c TY; exact rfl; (first | omega | exact ⟨by omega, by (first | with_reducible assumption | ((with_reducible apply celsF_ne); omega) | assumption)⟩))
    | (apply s_z TY; exact rfl; (first | omega | exact ⟨by omega, by (first | with_reducible assumption | ((with_reducible apply celsF_ne); omega) | assumption)⟩))
    | (apply s_l TY; exact rfl; (first | exact rfl | with_reducible assumption | assumption))
    | (apply s_m TY; exact rfl; (first | with_reducible assumption | ((with_reducible apply celsF_sub); omega) | exact rfl); exact rfl)
    | (apply s_r TY; exact rfl; (first | exact rfl | with_reducible assumption | assumption)))
    exact lv_ret (ret1 rfl (res_tmp rfl))
  by_cases h1 : 41 < way.length
  · rw [wayE_many h1]
    repeat (first
    | (apply s_a TY; exact rfl)
    | (apply s_t; exact rfl; (first | assumption | omega))
    | (apply s_f; exact rfl; (first | assumption | omega))
    | apply w_seq
    | apply w_region
    | (apply w_draw (id := 8) 5 rfl (by kernel_rfl))
    | (apply w_draw (id := 11) 12 rfl (by kernel_rfl))
    | apply s_nil
    | apply t_norm
    | apply t_exit
    | apply t_ret
    | apply k_hit
    | (apply k_miss; exact rfl)
    | apply k_norm
    | apply k_ret
    | apply w_block
    | apply w_exit
    | apply w_ret
    | apply w_skip
    | (apply w_condT; exact rfl; exact rfl)
    | (apply w_condF; exact rfl; exact rfl)
    | (apply s_k1 (CellErr_s _ _); exact rfl; (first | assumption | omega | decide))
    | (apply s_s; exact rfl)
    | (apply s_c TY; exact rfl; (first | omega | exact ⟨by omega, by (first | with_reducible assumption | ((with_reducible apply celsF_ne); omega) | assumption)⟩))
    | (apply s_z TY; exact rfl; (first | omega | exact ⟨by omega, by (first | with_reducible assumption | ((with_reducible apply celsF_ne); omega) | assumption)⟩))
    | (apply s_l TY; exact rfl; (first | exact rfl | with_reducible assumption | assumption))
    | (apply s_m TY; exact rfl; (first | with_reducible assumption | ((with_reducible apply celsF_sub); omega) | exact rfl); exact rfl)
    | (apply s_r TY; exact rfl; (first | exact rfl | with_reducible assumption | assumption)))
    exact lv_ret (ret1 rfl (res_tmp rfl))
  repeat (first
    | (apply s_a TY; exact rfl)
    | (apply s_t; exact rfl; (first | assumption | omega))
    | (apply s_f; exact rfl; (first | assumption | omega))
    | apply w_seq
    | apply w_region
    | (apply w_draw (id := 8) 5 rfl (by kernel_rfl))
    | (apply w_draw (id := 11) 12 rfl (by kernel_rfl))
    | apply s_nil
    | apply t_norm
    | apply t_exit
    | apply t_ret
    | apply k_hit
    | (apply k_miss; exact rfl)
    | apply k_norm
    | apply k_ret
    | apply w_block
    | apply w_exit
    | apply w_ret
    | apply w_skip
    | (apply w_condT; exact rfl; exact rfl)
    | (apply w_condF; exact rfl; exact rfl)
    | (apply s_k1 (CellErr_s _ _); exact rfl; (first | assumption | omega | decide))
    | (apply s_s; exact rfl)
    | (apply s_c TY; exact rfl; (first | omega | exact ⟨by omega, by (first | with_reducible assumption | ((with_reducible apply celsF_ne); omega) | assumption)⟩))
    | (apply s_z TY; exact rfl; (first | omega | exact ⟨by omega, by (first | with_reducible assumption | ((with_reducible apply celsF_ne); omega) | assumption)⟩))
    | (apply s_l TY; exact rfl; (first | exact rfl | with_reducible assumption | assumption))
    | (apply s_m TY; exact rfl; (first | with_reducible assumption | ((with_reducible apply celsF_sub); omega) | exact rfl); exact rfl)
    | (apply s_r TY; exact rfl; (first | exact rfl | with_reducible assumption | assumption)))
  apply w_loop (fun k : Nat => ⟨(Ab.upd (Ab.upd (Ab.upd (fun _ => .bot) 1 (.f (.sl way.length (celsF way)))) 2 (.f (.pt (gridL x) 0))) 5 (.f (iv (k : Nat)))), (fun _ => none), 0⟩) (fun k => k ≤ way.length ∧ ∀ j, j < k → wayAt x way j = 0) (fun k => way.length - k) 0 (⟨Nat.zero_le _, fun j h => absurd h (Nat.not_lt_zero j)⟩) (gh_le ⟨le_upd rfl trivial (le_upd rfl trivial (le_upd rfl trivial (le_nil _))), le_h0 _ _⟩)
  intro k ⟨hk, hall⟩
  by_cases hkc : k < way.length
  case neg =>
    rw [wayE_ok (by omega) (by omega) (fun j hj => hall j (by omega))]
    repeat (first
    | (apply s_a TY; exact rfl)
    | (apply s_t; exact rfl; (first | assumption | omega))
    | (apply s_f; exact rfl; (first | assumption | omega))
    | apply w_seq
    | apply w_region
    | (apply w_draw (id := 8) 5 rfl (by kernel_rfl))
    | (apply w_draw (id := 11) 12 rfl (by kernel_rfl))
    | apply s_nil
    | apply t_norm
    | apply t_exit
    | apply t_ret
    | apply k_hit
    | (apply k_miss; exact rfl)
    | apply k_norm
    | apply k_ret
    | apply w_block
    | apply w_exit
    | apply w_ret
    | apply w_skip
    | (apply w_condT; exact rfl; exact rfl)
    | (apply w_condF; exact rfl; exact rfl)
    | (apply s_k1 (CellErr_s _ _); exact rfl; (first | assumption | omega | decide))
    | (apply s_s; exact rfl)
    | (apply s_c TY; exact rfl; (first | omega | exact ⟨by omega, by (first | with_reducible assumption | ((with_reducible apply celsF_ne); omega) | assumption)⟩))
    | (apply s_z TY; exact rfl; (first | omega | exact ⟨by omega, by (first | with_reducible assumption | ((with_reducible apply celsF_ne); omega) | assumption)⟩))
    | (apply s_l TY; exact rfl; (first | exact rfl | with_reducible assumption | assumption))
    | (apply s_m TY; exact rfl; (first | with_reducible assumption | ((with_reducible apply celsF_sub); omega) | exact rfl); exact rfl)
    | (apply s_r TY; exact rfl; (first | exact rfl | with_reducible assumption | assumption)))
    exact lv_ret (ret1 rfl (res_tmp rfl))
  have CE := CellErr_s x way[k] v
  by_cases he : cellErrE x way[k] = 0
  case neg =>
    rw [wayE_bad (by omega) (by omega) hkc hall (by rw [wayAt_out hkc he]; decide), wayAt_out hkc he]
    rw [cellE_six he] at CE
    repeat (first
    | (apply s_a TY; exact rfl)
    | (apply s_t; exact rfl; (first | assumption | omega))
    | (apply s_f; exact rfl; (first | assumption | omega))
    | apply w_seq
    | apply w_region
    | (apply w_draw (id := 8) 5 rfl (by kernel_rfl))
    | (apply w_draw (id := 11) 12 rfl (by kernel_rfl))
    | apply s_nil
    | apply t_norm
    | apply t_exit
    | apply t_ret
    | apply k_hit
    | (apply k_miss; exact rfl)
    | apply k_norm
    | apply k_ret
    | apply w_block
    | apply w_exit
    | apply w_ret
    | apply w_skip
    | (apply w_condT; exact rfl; exact rfl)
    | (apply w_condF; exact rfl; exact rfl)
    | (apply s_k (CE); exact rfl)
    | (apply s_k1 (CellErr_s _ _); exact rfl; (first | assumption | omega | decide))
    | (apply s_s; exact rfl)
    | (apply s_c TY; exact rfl; (first | omega | exact ⟨by omega, by (first | with_reducible assumption | ((with_reducible apply celsF_ne); omega) | assumption)⟩))
    | (apply s_z TY; exact rfl; (first | omega | exact ⟨by omega, by (first | with_reducible assumption | ((with_reducible apply celsF_ne); omega) | assumption)⟩))
    | (apply s_l TY; exact rfl; (first | exact rfl | with_reducible assumption | assumption))
    | (apply s_m TY; exact rfl; (first | with_reducible assumption | ((with_reducible apply celsF_sub); omega) | exact rfl); exact rfl)
    | (apply s_r TY; exact rfl; (first | exact rfl | with_reducible assumption | assumption)))
    exact lv_ret (ret1 rfl (res_tmp rfl))
  rw [he] at CE
  cases k with
  | zero =>
    repeat (first
    | (apply s_a TY; exact rfl)
    | (apply s_t; exact rfl; (first | assumption | omega))
    | (apply s_f; exact rfl; (first | assumption | omega))
    | apply w_seq
    | apply w_region
    | (apply w_draw (id := 8) 5 rfl (by kernel_rfl))
    | (apply w_draw (id := 11) 12 rfl (by kernel_rfl))
    | apply s_nil
    | apply t_norm
    | apply t_exit
    | apply t_ret
    | apply k_hit
    | (apply k_miss; exact rfl)
    | apply k_norm
    | apply k_ret
    | apply w_block
    | apply w_exit
    | apply w_ret
    | apply w_skip
    | (apply w_condT; exact rfl; exact rfl)
    | (apply w_condF; exact rfl; exact rfl)
    | (apply s_k (CE); exact rfl)
    | (apply s_k1 (CellErr_s _ _); exact rfl; (first | assumption | omega | decide))
    | (apply s_s; exact rfl)
    | (apply s_c TY; exact rfl; (first | omega | exact ⟨by omega, by (first | with_reducible assumption | ((with_reducible apply celsF_ne); omega) | assumption)⟩))
    | (apply s_z TY; exact rfl; (first | omega | exact ⟨by omega, by (first | with_reducible assumption | ((with_reducible apply celsF_ne); omega) | assumption)⟩))
    | (apply s_l TY; exact rfl; (first | exact rfl | with_reducible assumption | assumption))
    | (apply s_m TY; exact rfl; (first | with_reducible assumption | ((with_reducible apply celsF_sub); omega) | exact rfl); exact rfl)
    | (apply s_r TY; exact rfl; (first | exact rfl | with_reducible assumption | assumption)))
    exact ⟨0 + 1, ⟨by omega, fun j hj => by rw [show j = 0 by omega]; exact wayAt_ok0 hkc he⟩, by omega, gh_le ⟨le_upd rfl trivial (le_upd rfl trivial (le_upd rfl trivial (le_nil _))), le_h0 _ _⟩⟩
  | succ j =>
  have hjl : j < way.length := by omega
  have hin : InG x way[j + 1] := (cellE_in v).1 he
  have hpr : InG x way[j] := (cellE_in v).1 (wayAt_in hjl (hall j (by omega)))
  have hz : (((j + 1 : Nat) : Int) - 1).toNat = j := by omega
  have hsb : ((celsF way).drop ((((j + 1 : Nat) : Int) - 1).toNat * 2)).take 2 = celF way[j] := by rw [hz]; exact celsF_sub hjl
  by_cases ha : adjE way[j] way[j + 1] = 1
  · have AN := AreNeighbours_t x v _ _ hpr hin ha
    repeat (first
    | (apply s_a TY; exact rfl)
    | (apply s_t; exact rfl; (first | assumption | omega))
    | (apply s_f; exact rfl; (first | assumption | omega))
    | apply w_seq
    | apply w_region
    | (apply w_draw (id := 8) 5 rfl (by kernel_rfl))
    | (apply w_draw (id := 11) 12 rfl (by kernel_rfl))
    | apply s_nil
    | apply t_norm
    | apply t_exit
    | apply t_ret
    | apply k_hit
    | (apply k_miss; exact rfl)
    | apply k_norm
    | apply k_ret
    | apply w_block
    | apply w_exit
    | apply w_ret
    | apply w_skip
    | (apply w_condT; exact rfl; exact rfl)
    | (apply w_condF; exact rfl; exact rfl)
    | (apply s_k (CE); exact rfl)
    | (apply s_k (AN); exact rfl)
    | (apply s_k1 (CellErr_s _ _); exact rfl; (first | assumption | omega | decide))
    | (apply s_s; exact rfl)
    | (apply s_c TY; exact rfl; (first | omega | exact ⟨by omega, by (first | with_reducible assumption | ((with_reducible apply celsF_ne); omega) | assumption)⟩))
    | (apply s_z TY; exact rfl; (first | omega | exact ⟨by omega, by (first | with_reducible assumption | ((with_reducible apply celsF_ne); omega) | assumption)⟩))
    | (apply s_l TY; exact rfl; (first | exact rfl | with_reducible assumption | assumption))
    | (apply s_m TY; exact rfl; (first | with_reducible assumption | ((with_reducible apply celsF_sub); omega) | exact rfl); exact rfl)
    | (apply s_r TY; exact rfl; (first | exact rfl | with_reducible assumption | assumption)))
    exact ⟨j + 1 + 1, ⟨by omega, fun i hi => by
      by_cases e : i = j + 1
      · subst e; exact wayAt_ok hkc he ha
      · exact hall i (by omega)⟩, by omega, gh_le ⟨le_upd rfl trivial (le_upd rfl trivial (le_upd rfl trivial (le_nil _))), le_h0 _ _⟩⟩
  · rw [wayE_bad (by omega) (by omega) hkc hall (by rw [wayAt_gap hkc he ha]; decide), wayAt_gap hkc he ha]
    have AN := AreNeighbours_f x v _ _ hpr hin ha
    repeat (first
    | (apply s_a TY; exact rfl)
    | (apply s_t; exact rfl; (first | assumption | omega))
    | (apply s_f; exact rfl; (first | assumption | omega))
    | apply w_seq
    | apply w_region
    | (apply w_draw (id := 8) 5 rfl (by kernel_rfl))
    | (apply w_draw (id := 11) 12 rfl (by kernel_rfl))
    | apply s_nil
    | apply t_norm
    | apply t_exit
    | apply t_ret
    | apply k_hit
    | (apply k_miss; exact rfl)
    | apply k_norm
    | apply k_ret
    | apply w_block
    | apply w_exit
    | apply w_ret
    | apply w_skip
    | (apply w_condT; exact rfl; exact rfl)
    | (apply w_condF; exact rfl; exact rfl)
    | (apply s_k (CE); exact rfl)
    | (apply s_k (AN); exact rfl)
    | (apply s_k1 (CellErr_s _ _); exact rfl; (first | assumption | omega | decide))
    | (apply s_s; exact rfl)
    | (apply s_c TY; exact rfl; (first | omega | exact ⟨by omega, by (first | with_reducible assumption | ((with_reducible apply celsF_ne); omega) | assumption)⟩))
    | (apply s_z TY; exact rfl; (first | omega | exact ⟨by omega, by (first | with_reducible assumption | ((with_reducible apply celsF_ne); omega) | assumption)⟩))
    | (apply s_l TY; exact rfl; (first | exact rfl | with_reducible assumption | assumption))
    | (apply s_m TY; exact rfl; (first | with_reducible assumption | ((with_reducible apply celsF_sub); omega) | exact rfl); exact rfl)
    | (apply s_r TY; exact rfl; (first | exact rfl | with_reducible assumption | assumption)))
    exact lv_ret (ret1 rfl (res_tmp rfl))
structure WayOk (x : Grid) (way : List Cel) : Prop where
  v : Valid x
  n1 : 1 ≤ way.length
  n41 : way.length ≤ 41
  inn : ∀ k (h : k < way.length), InG x way[k]
theorem wayOk {x : Grid} {way : List Cel} (v : Valid x) (h : wayErrE x way = 0) : WayOk x way := by
  have h0 : ¬ way.length = 0 := fun e => by rw [wayE_none e] at h; cases h
  have h1 : ¬ 41 < way.length := fun e => by rw [wayE_many e] at h; cases h
  refine ⟨v, by omega, by omega, fun k hk => ?_⟩
  have all : ∀ n, ∀ k, k < n → k < way.length → wayAt x way k = 0 := fun n => by
    induction n with
    | zero => intro k hk; omega
    | succ n ih =>
      intro k hk hkl
      refine Classical.byContradiction fun hc => ?_
      have e := wayE_bad (by omega) (by omega) hkl (fun j hj => ih j (by omega) (by omega)) hc
      rw [h] at e; exact hc e.symm
  exact (cellE_in v).1 (wayAt_in hk (all _ k (Nat.lt_succ_self k) hk))
end Go.Proofs.YtienhiloecfgnaaDoor
namespace Go.Proofs.YtienhiloecfgnaaDoor
open Go Go.RowKit Go.Proofs Go.Shelf Go.Ab
theorem dist_tri {x : Grid} (v : Valid x) {c n : Cel} (hc : InG x c) (hn : n ∈ nbrs x c) : ∀ (k : Nat) (y : Cel), InG x y → (distOf x n y).toNat ≤ k → distOf x c y ≤ stepI x c n + distOf x n y := by
  have hin := nbrs_in v hn
  obtain ⟨d1, _⟩ := distOf_all v hc
  obtain ⟨d2, _⟩ := distOf_all v hin
  intro k
  induction k using Nat.strongRecOn with
  | _ k ih =>
    intro y hy hk
    by_cases e : y = n
    · subst e
      have := d1.le c y hc hn
      rw [d1.zero] at this
      rw [d2.zero]; omega
    · obtain ⟨m, hm, q⟩ := d2.tight y hy e
      have hmi := nbrs_in v hm
      have s := stepI_bd v m y
      have p := d2.nonneg m hmi
      have h1 := ih (distOf x n m).toNat (by omega) m hmi (Nat.le_refl _)
      have h2 := d1.le m y hmi (nbrs_symm v hy hm)
      omega
theorem dist_back {x : Grid} (v : Valid x) {fr : Cel} (hf : InG x fr) : ∀ (k : Nat) (c : Cel), InG x c → (distOf x fr c).toNat ≤ k → distOf x c fr ≤ distOf x fr c := by
  obtain ⟨d1, _⟩ := distOf_all v hf
  intro k
  induction k using Nat.strongRecOn with
  | _ k ih =>
    intro c hc hk
    by_cases e : c = fr
    · subst e; exact Int.le_refl _
    · obtain ⟨n, hn, q⟩ := d1.tight c hc e
      have hin := nbrs_in v hn
      have s := stepI_bd v n c
      have p := d1.nonneg n hin
      have h1 := ih (distOf x fr n).toNat (by omega) n hin (Nat.le_refl _)
      have h2 := dist_tri v hc hn _ fr hf (Nat.le_refl _)
      rw [stepI_symm x c n] at h2
      omega
theorem dist_symm {x : Grid} (v : Valid x) {a b : Cel} (ha : InG x a) (hb : InG x b) : distOf x a b = distOf x b a :=
  Int.le_antisymm (dist_back v hb _ a ha (Nat.le_refl _)) (dist_back v ha _ b hb (Nat.le_refl _))
theorem way_all {x : Grid} {way : List Cel} (h : wayErrE x way = 0) : ∀ k, k < way.length → wayAt x way k = 0 := by
  have h0 : ¬ way.length = 0 := fun e => by rw [wayE_none e] at h; cases h
  have h1 : ¬ 41 < way.length := fun e => by rw [wayE_many e] at h; cases h
  unfold wayErrE at h
  rw [if_neg h0, if_neg h1, firstE_zero] at h
  exact fun k hk => h _ (List.mem_map.2 ⟨k, List.mem_range.2 hk, rfl⟩)
theorem way_adj {x : Grid} {way : List Cel} (h : wayErrE x way = 0) {k : Nat} (hk : k + 1 < way.length) : adjE (way[k]'(by omega)) way[k + 1] = 1 := by
  have h1 := way_all h (k + 1) hk
  unfold wayAt at h1
  rw [show k + 1 - 1 = k by omega, getC hk, getC (by omega)] at h1
  refine Classical.byContradiction fun hn => ?_
  by_cases e : cellErrE x way[k + 1] ≠ 0
  · rw [if_pos e] at h1; cases h1
  · rw [if_neg e, if_pos ⟨by omega, hn⟩] at h1; cases h1
theorem way_ge {x : Grid} {way : List Cel} (v : Valid x) (h : wayErrE x way = 0) : ∀ k (hk : k < way.length), distOf x (way[0]'(by omega)) way[k] ≤ delayTo x way (k + 1) := by
  have W := wayOk v h
  intro k
  induction k with
  | zero =>
    intro hk
    obtain ⟨d1, _⟩ := distOf_all v (W.inn 0 hk)
    rw [d1.zero]; exact (delayTo_bd v way 1).1
  | succ k ih =>
    intro hk
    have h1 := ih (by omega)
    obtain ⟨d1, _⟩ := distOf_all v (W.inn 0 (by omega))
    have h2 := d1.le _ _ (W.inn k (by omega)) ((adj_nbrs v (W.inn (k + 1) hk)).2 (way_adj h hk))
    rw [delayTo_succ hk]
    omega
end Go.Proofs.YtienhiloecfgnaaDoor
namespace Go.Proofs.YtienhiloecfgnaaDoor
open Go Go.RowKit Go.Proofs Go.Shelf Go.Ab
structure Down (x : Grid) (to : Cel) (w : List Cel) : Prop where
  inn : ∀ k (h : k < w.length), InG x w[k]
  step : ∀ k (h : k + 1 < w.length), adjE (w[k]'(by omega)) w[k + 1] = 1 ∧ distOf x to w[k + 1] + stepI x (w[k]'(by omega)) w[k + 1] = distOf x to (w[k]'(by omega))
  last : ∀ (h : w.length - 1 < w.length), w[w.length - 1] = to
theorem down_go {x : Grid} (v : Valid x) {to : Cel} (ht : InG x to) : ∀ (k : Nat) (c : Cel), InG x c → (distOf x to c).toNat ≤ k → Down x to (c :: wayGo x to (distOf x to c).toNat c) := by
  obtain ⟨hd, _⟩ := distOf_all v ht
  intro k
  induction k using Nat.strongRecOn with
  | _ k ih =>
    intro c hc hk
    by_cases e : c = to
    · subst e
      rw [wayGo_end]
      exact ⟨fun k h => by simp at h; subst h; exact hc, fun k h => by simp at h, fun h => rfl⟩
    · obtain ⟨n, q1, q2, q3, q4, q5⟩ := nextC_some v hd hc e
      have hm : n ∈ nbrs x c := List.mem_of_find?_eq_some q1
      rw [wayGo_step v hd hc e q1]
      have D := ih (distOf x to n).toNat (by omega) n q2 (Nat.le_refl _)
      refine ⟨fun k h => ?_, fun k h => ?_, fun h => ?_⟩
      · cases k with
        | zero => exact hc
        | succ k => exact D.inn k (by simpa using h)
      · cases k with
        | zero => exact ⟨(adj_nbrs v q2).1 hm, q3⟩
        | succ k => exact D.step k (by simpa using h)
      · exact D.last (by simp)
theorem down_delay {x : Grid} {to : Cel} {w : List Cel} (D : Down x to w) : ∀ k (h : k < w.length), delayTo x w (k + 1) + distOf x to w[k] = distOf x to (w[0]'(by omega)) := by
  intro k
  induction k with
  | zero => intro h; simp [delayTo]
  | succ k ih =>
    intro h
    have h1 := ih (by omega)
    have h2 := (D.step k h).2
    rw [delayTo_succ h]
    omega
theorem wayM_down {x : Grid} (v : Valid x) {fr to : Cel} (hf : InG x fr) (ht : InG x to) : Down x to (wayM x fr to) := down_go v ht _ fr hf (Nat.le_refl _)
theorem wayM_delay {x : Grid} (v : Valid x) {fr to : Cel} (hf : InG x fr) (ht : InG x to) : delayTo x (wayM x fr to) (wayM x fr to).length = distOf x to fr := by
  have D := wayM_down v hf ht
  obtain ⟨hd, _⟩ := distOf_all v ht
  have hl : (wayM x fr to).length - 1 < (wayM x fr to).length := by simp [wayM]
  have h1 := down_delay D _ hl
  rw [D.last hl, hd.zero, show (wayM x fr to).length - 1 + 1 = (wayM x fr to).length by omega] at h1
  have h2 : (wayM x fr to)[0]'(by omega) = fr := rfl
  rw [h2] at h1
  omega
theorem wayM_ok {x : Grid} (v : Valid x) {fr to : Cel} (hf : InG x fr) (ht : InG x to) (hl : (wayM x fr to).length ≤ 41) : wayErrE x (wayM x fr to) = 0 := by
  have D := wayM_down v hf ht
  refine wayE_ok (by simp [wayM]) (by omega) fun k hk => ?_
  unfold wayAt
  rw [getC hk, if_neg (fun h => h ((cellE_in v).2 (D.inn k hk)))]
  refine if_neg ?_
  rintro ⟨h0, h1⟩
  obtain ⟨j, rfl⟩ : ∃ j, k = j + 1 := ⟨k - 1, by omega⟩
  rw [show j + 1 - 1 = j by omega, getC (by omega)] at h1
  exact h1 (D.step j hk).1
end Go.Proofs.YtienhiloecfgnaaDoor
namespace Go.Proofs.YtienhiloecfgnaaDoor
open Go Go.RowKit Go.Proofs Go.Shelf Go.Ab
theorem nodup_leC {α : Type} [DecidableEq α] : ∀ (w L : List α), w.Nodup → (∀ a ∈ w, a ∈ L) → w.length ≤ L.length
  | [], _, _, _ => Nat.zero_le _
  | a :: w, L, hn, hs => by
    have ha : a ∈ L := hs a (by simp)
    rw [List.nodup_cons] at hn
    have h1 := nodup_leC w (L.erase a) hn.2 (fun b hb => (List.mem_erase_of_ne (fun (e : b = a) => hn.1 (e ▸ hb))).2 (hs b (by simp [hb])))
    rw [List.length_erase_of_mem ha] at h1
    have : 0 < L.length := List.length_pos_of_mem ha
    simp only [List.length_cons]
    omega
theorem down_lt {x : Grid} (v : Valid x) {to : Cel} {w : List Cel} (D : Down x to w) {i : Nat} : ∀ j (hj : j < w.length) (hij : i < j), distOf x to w[j] < distOf x to (w[i]'(by omega)) := by
  intro j
  induction j with
  | zero => intro _ h; omega
  | succ j ih =>
    intro hj hij
    have h1 := (D.step j hj).2
    have h2 := stepI_bd v (w[j]'(by omega)) w[j + 1]
    by_cases e : i = j
    · subst e; omega
    · have := ih (by omega) (by omega)
      omega
theorem wayM_len {x : Grid} (v : Valid x) {fr to : Cel} (hf : InG x fr) (ht : InG x to) : (wayM x fr to).length ≤ 96 := by
  have D := wayM_down v hf ht
  have hn : (wayM x fr to).Nodup := by
    unfold List.Nodup
    rw [List.pairwise_iff_getElem]
    intro i j hi hj hij e
    have := down_lt v D j hj hij
    rw [e] at this
    exact absurd this (Int.lt_irrefl _)
  have h1 := nodup_leC _ (cellsL x) hn (fun c hc => by
    obtain ⟨k, hk, rfl⟩ := List.mem_iff_getElem.1 hc
    have hi := D.inn k hk
    generalize (wayM x fr to)[k] = c at hi
    obtain ⟨⟨c0, c1⟩, r0, r1⟩ := hi
    simp only [cellsL, List.mem_flatMap, List.mem_map, List.mem_range]
    exact ⟨c.row.toNat, by omega, c.col.toNat, by omega, by cases c; simp at *; omega⟩)
  rw [cellsL_len] at h1
  have a := v.r12
  have b := v.t8
  have : x.rows.toNat * x.tilt.length ≤ 12 * 8 := Nat.mul_le_mul (by omega) b
  omega
end Go.Proofs.YtienhiloecfgnaaDoor
namespace Go.Proofs.YtienhiloecfgnaaDoor
open Go Go.RowKit Go.Proofs Go.Shelf Go.Ab
set_option maxRecDepth 100000 in
theorem isShaped_s (x : Grid) (T : List (List Int)) (h1 : (T.length : Int) = x.rows) (h2 : ∀ r ∈ T, r.length = x.tilt.length) (h3 : x.rows ≤ 12) : Summ Tryd.prog GG 21 [gridF x, .sl T.length (matF T)] (bv true) := by
  refine summW Tryd.func21 rfl rfl 26 rfl (by simp) (fun M0 => ?_)
  repeat (first
    | (apply s_a TY; exact rfl)
    | (apply s_t; exact rfl; (first | assumption | omega))
    | (apply s_f; exact rfl; (first | assumption | omega))
    | apply w_seq
    | apply w_region
    | (apply w_draw (id := 6) 8 rfl (by kernel_rfl))
    | apply s_nil
    | apply t_norm
    | apply t_exit
    | apply t_ret
    | apply k_hit
    | (apply k_miss; exact rfl)
    | apply k_norm
    | apply k_ret
    | apply w_block
    | apply w_exit
    | apply w_ret
    | apply w_skip
    | (apply w_condT; exact rfl; exact rfl)
    | (apply w_condF; exact rfl; exact rfl)
    | (apply s_c TY; exact rfl; (first | omega | exact ⟨by omega, by (first | with_reducible assumption | ((with_reducible apply matF_ne); omega) | assumption)⟩))
    | (apply s_z TY; exact rfl; (first | omega | exact ⟨by omega, by (first | with_reducible assumption | ((with_reducible apply matF_ne); omega) | assumption)⟩))
    | (apply s_l TY; exact rfl; (first | exact rfl | with_reducible assumption | ((with_reducible apply matF_at); omega) | assumption))
    | (apply s_m TY; exact rfl; (first | with_reducible assumption | exact rfl); exact rfl)
    | (apply s_r TY; exact rfl; (first | exact rfl | with_reducible assumption | ((with_reducible apply matF_at); omega) | assumption)))
  apply w_loop (fun k : Nat => ⟨(Ab.upd (Ab.upd (Ab.upd (fun _ => .bot) 1 (.f (.sl T.length (matF T)))) 2 (.f (.pt (gridL x) 0))) 5 (.f (iv (k : Nat)))), (fun _ => none), 0⟩) (fun k => k ≤ T.length) (fun k => T.length - k) 0 (Nat.zero_le _) (gh_le ⟨le_upd rfl trivial (le_upd rfl trivial (le_upd rfl trivial (le_nil _))), le_h0 _ _⟩)
  intro k hk
  by_cases hkc : k < T.length
  · have hrk := h2 T[k] (List.getElem_mem hkc)
    repeat (first
    | (apply s_a TY; exact rfl)
    | (apply s_t; exact rfl; (first | assumption | omega))
    | (apply s_f; exact rfl; (first | assumption | omega))
    | apply w_seq
    | apply w_region
    | (apply w_draw (id := 6) 8 rfl (by kernel_rfl))
    | apply s_nil
    | apply t_norm
    | apply t_exit
    | apply t_ret
    | apply k_hit
    | (apply k_miss; exact rfl)
    | apply k_norm
    | apply k_ret
    | apply w_block
    | apply w_exit
    | apply w_ret
    | apply w_skip
    | (apply w_condT; exact rfl; exact rfl)
    | (apply w_condF; exact rfl; exact rfl)
    | (apply s_c TY; exact rfl; (first | omega | exact ⟨by omega, by (first | with_reducible assumption | ((with_reducible apply matF_ne); omega) | assumption)⟩))
    | (apply s_z TY; exact rfl; (first | omega | exact ⟨by omega, by (first | with_reducible assumption | ((with_reducible apply matF_ne); omega) | assumption)⟩))
    | (apply s_l TY; exact rfl; (first | exact rfl | with_reducible assumption | ((with_reducible apply matF_at); omega) | assumption))
    | (apply s_m TY; exact rfl; (first | with_reducible assumption | exact rfl); exact rfl)
    | (apply s_r TY; exact rfl; (first | exact rfl | with_reducible assumption | ((with_reducible apply matF_at); omega) | assumption)))
    exact ⟨k + 1, by omega, by omega, gh_le ⟨le_upd rfl trivial (le_upd rfl trivial (le_upd rfl trivial (le_nil _))), le_h0 _ _⟩⟩
  · repeat (first
    | (apply s_a TY; exact rfl)
    | (apply s_t; exact rfl; (first | assumption | omega))
    | (apply s_f; exact rfl; (first | assumption | omega))
    | apply w_seq
    | apply w_region
    | (apply w_draw (id := 6) 8 rfl (by kernel_rfl))
    | apply s_nil
    | apply t_norm
    | apply t_exit
    | apply t_ret
    | apply k_hit
    | (apply k_miss; exact rfl)
    | apply k_norm
    | apply k_ret
    | apply w_block
    | apply w_exit
    | apply w_ret
    | apply w_skip
    | (apply w_condT; exact rfl; exact rfl)
    | (apply w_condF; exact rfl; exact rfl)
    | (apply s_c TY; exact rfl; (first | omega | exact ⟨by omega, by (first | with_reducible assumption | ((with_reducible apply matF_ne); omega) | assumption)⟩))
    | (apply s_z TY; exact rfl; (first | omega | exact ⟨by omega, by (first | with_reducible assumption | ((with_reducible apply matF_ne); omega) | assumption)⟩))
    | (apply s_l TY; exact rfl; (first | exact rfl | with_reducible assumption | ((with_reducible apply matF_at); omega) | assumption))
    | (apply s_m TY; exact rfl; (first | with_reducible assumption | exact rfl); exact rfl)
    | (apply s_r TY; exact rfl; (first | exact rfl | with_reducible assumption | ((with_reducible apply matF_at); omega) | assumption)))
    exact lv_ret (ret1 rfl (res_tmp rfl))
end Go.Proofs.YtienhiloecfgnaaDoor
namespace Go.Proofs.YtienhiloecfgnaaDoor
open Go Go.RowKit Go.Proofs Go.Shelf Go.Ab
set_option maxRecDepth 100000 in
set_option maxHeartbeats 4000000 in
theorem IceFirst_early (x : Grid) (way : List Cel) (T : List (List Int)) (h : fewB x = false ∨ (fewB x = true ∧ (41 < way.length ∨ (way.length ≤ 41 ∧ (iceErrE x ≠ 0 ∨ (iceErrE x = 0 ∧ (wayErrE x way ≠ 0 ∨ (wayErrE x way = 0 ∧ 12 < T.length)))))))) : Summ Tryd.prog GG 14 [gridF x, .sl way.length (celsF way), .sl T.length (matF T)] (bv true) := by
  have F := Few_s x
  refine summW Tryd.func14 rfl rfl 238 rfl (by simp) (fun M0 => ?_)
  rcases h with h | ⟨h, h1⟩
  · rw [h] at F
    repeat (first
    | (apply s_a TY; exact rfl)
    | (apply s_t; exact rfl; (first | assumption | omega))
    | (apply s_f; exact rfl; (first | assumption | omega))
    | apply w_seq
    | apply w_region
    | (apply w_draw (id := 5) 12 rfl (by kernel_rfl))
    | (apply w_draw (id := 6) 8 rfl (by kernel_rfl))
    | (apply w_draw (id := 7) 8 rfl (by kernel_rfl))
    | (apply w_draw (id := 9) 54 rfl (by kernel_rfl))
    | (apply w_draw (id := 11) 9 rfl (by kernel_rfl))
    | (apply w_draw (id := 12) 27 rfl (by kernel_rfl))
    | (apply w_draw (id := 16) 13 rfl (by kernel_rfl))
    | (apply w_draw (id := 18) 11 rfl (by kernel_rfl))
    | (apply w_draw (id := 26) 11 rfl (by kernel_rfl))
    | apply s_nil
    | apply t_norm
    | apply t_exit
    | apply t_ret
    | apply k_hit
    | (apply k_miss; exact rfl)
    | apply k_norm
    | apply k_ret
    | apply w_block
    | apply w_exit
    | apply w_ret
    | apply w_skip
    | (apply w_condT; exact rfl; exact rfl)
    | (apply w_condF; exact rfl; exact rfl)
    | (apply s_k (F); exact rfl)
    | (apply s_k (awake_s); exact rfl)
    | (apply s_k (Few_s _); exact rfl)
    | (apply s_k (IceErr_s _); exact rfl)
    | (apply s_k2 (CopyIce_s _); exact rfl; (first | assumption | omega | decide); (first | assumption | omega | decide))
    | (apply s_s; exact rfl)
    | (apply s_c TY; exact rfl; (first | omega | exact ⟨by omega, by (first | with_reducible assumption | ((with_reducible apply intsF_ne); omega) | ((with_reducible apply matF_ne); omega) | ((with_reducible apply celsF_ne); omega) | assumption)⟩))
    | (apply s_z TY; exact rfl; (first | omega | exact ⟨by omega, by (first | with_reducible assumption | ((with_reducible apply intsF_ne); omega) | ((with_reducible apply matF_ne); omega) | ((with_reducible apply celsF_ne); omega) | assumption)⟩))
    | (apply s_l TY; exact rfl; (first | exact rfl | with_reducible assumption | ((with_reducible apply intsF_at); omega) | ((with_reducible apply matF_at); omega) | assumption))
    | (apply s_m TY; exact rfl; (first | with_reducible assumption | ((with_reducible apply celsF_sub); omega) | exact rfl); exact rfl)
    | (apply s_r TY; exact rfl; (first | exact rfl | with_reducible assumption | ((with_reducible apply intsF_at); omega) | ((with_reducible apply matF_at); omega) | assumption))
    | (apply s_alloc TY; exact rfl; exact rfl; exact rfl)
    | (apply s_store TY; exact rfl; exact rfl; exact rfl; exact rfl; exact rfl; exact rfl)
    | (apply s_storeR TY; exact rfl; exact rfl; exact rfl; exact rfl; exact rfl; (first | exact rfl | ((repeat apply le_set); (first | apply le_int | apply le_ini); show _ + 1 ≤ _; omega))))
    exact lv_ret (ret1 rfl (res_tmp rfl))
  rw [h] at F
  obtain ⟨f1, f2⟩ := fewB_true h
  have b : SmallG x := ⟨by omega, by omega⟩
  rcases h1 with h1 | ⟨h1, h2⟩
  · repeat (first
    | (apply s_a TY; exact rfl)
    | (apply s_t; exact rfl; (first | assumption | omega))
    | (apply s_f; exact rfl; (first | assumption | omega))
    | apply w_seq
    | apply w_region
    | (apply w_draw (id := 5) 12 rfl (by kernel_rfl))
    | (apply w_draw (id := 6) 8 rfl (by kernel_rfl))
    | (apply w_draw (id := 7) 8 rfl (by kernel_rfl))
    | (apply w_draw (id := 9) 54 rfl (by kernel_rfl))
    | (apply w_draw (id := 11) 9 rfl (by kernel_rfl))
    | (apply w_draw (id := 12) 27 rfl (by kernel_rfl))
    | (apply w_draw (id := 16) 13 rfl (by kernel_rfl))
    | (apply w_draw (id := 18) 11 rfl (by kernel_rfl))
    | (apply w_draw (id := 26) 11 rfl (by kernel_rfl))
    | apply s_nil
    | apply t_norm
    | apply t_exit
    | apply t_ret
    | apply k_hit
    | (apply k_miss; exact rfl)
    | apply k_norm
    | apply k_ret
    | apply w_block
    | apply w_exit
    | apply w_ret
    | apply w_skip
    | (apply w_condT; exact rfl; exact rfl)
    | (apply w_condF; exact rfl; exact rfl)
    | (apply s_k (F); exact rfl)
    | (apply s_k (awake_s); exact rfl)
    | (apply s_k (Few_s _); exact rfl)
    | (apply s_k (IceErr_s _); exact rfl)
    | (apply s_k2 (CopyIce_s _); exact rfl; (first | assumption | omega | decide); (first | assumption | omega | decide))
    | (apply s_s; exact rfl)
    | (apply s_c TY; exact rfl; (first | omega | exact ⟨by omega, by (first | with_reducible assumption | ((with_reducible apply intsF_ne); omega) | ((with_reducible apply matF_ne); omega) | ((with_reducible apply celsF_ne); omega) | assumption)⟩))
    | (apply s_z TY; exact rfl; (first | omega | exact ⟨by omega, by (first | with_reducible assumption | ((with_reducible apply intsF_ne); omega) | ((with_reducible apply matF_ne); omega) | ((with_reducible apply celsF_ne); omega) | assumption)⟩))
    | (apply s_l TY; exact rfl; (first | exact rfl | with_reducible assumption | ((with_reducible apply intsF_at); omega) | ((with_reducible apply matF_at); omega) | assumption))
    | (apply s_m TY; exact rfl; (first | with_reducible assumption | ((with_reducible apply celsF_sub); omega) | exact rfl); exact rfl)
    | (apply s_r TY; exact rfl; (first | exact rfl | with_reducible assumption | ((with_reducible apply intsF_at); omega) | ((with_reducible apply matF_at); omega) | assumption))
    | (apply s_alloc TY; exact rfl; exact rfl; exact rfl)
    | (apply s_store TY; exact rfl; exact rfl; exact rfl; exact rfl; exact rfl; exact rfl)
    | (apply s_storeR TY; exact rfl; exact rfl; exact rfl; exact rfl; exact rfl; (first | exact rfl | ((repeat apply le_set); (first | apply le_int | apply le_ini); show _ + 1 ≤ _; omega))))
    exact lv_ret (ret1 rfl (res_tmp rfl))
  have IE := IceErr_s x
  rcases h2 with h2 | ⟨h2, h3⟩
  · repeat (first
    | (apply s_a TY; exact rfl)
    | (apply s_t; exact rfl; (first | assumption | omega))
    | (apply s_f; exact rfl; (first | assumption | omega))
    | apply w_seq
    | apply w_region
    | (apply w_draw (id := 5) 12 rfl (by kernel_rfl))
    | (apply w_draw (id := 6) 8 rfl (by kernel_rfl))
    | (apply w_draw (id := 7) 8 rfl (by kernel_rfl))
    | (apply w_draw (id := 9) 54 rfl (by kernel_rfl))
    | (apply w_draw (id := 11) 9 rfl (by kernel_rfl))
    | (apply w_draw (id := 12) 27 rfl (by kernel_rfl))
    | (apply w_draw (id := 16) 13 rfl (by kernel_rfl))
    | (apply w_draw (id := 18) 11 rfl (by kernel_rfl))
    | (apply w_draw (id := 26) 11 rfl (by kernel_rfl))
    | apply s_nil
    | apply t_norm
    | apply t_exit
    | apply t_ret
    | apply k_hit
    | (apply k_miss; exact rfl)
    | apply k_norm
    | apply k_ret
    | apply w_block
    | apply w_exit
    | apply w_ret
    | apply w_skip
    | (apply w_condT; exact rfl; exact rfl)
    | (apply w_condF; exact rfl; exact rfl)
    | (apply s_k (F); exact rfl)
    | (apply s_k (IE); exact rfl)
    | (apply s_k (awake_s); exact rfl)
    | (apply s_k (Few_s _); exact rfl)
    | (apply s_k (IceErr_s _); exact rfl)
    | (apply s_k2 (CopyIce_s _); exact rfl; (first | assumption | omega | decide); (first | assumption | omega | decide))
    | (apply s_s; exact rfl)
    | (apply s_c TY; exact rfl; (first | omega | exact ⟨by omega, by (first | with_reducible assumption | ((with_reducible apply intsF_ne); omega) | ((with_reducible apply matF_ne); omega) | ((with_reducible apply celsF_ne); omega) | assumption)⟩))
    | (apply s_z TY; exact rfl; (first | omega | exact ⟨by omega, by (first | with_reducible assumption | ((with_reducible apply intsF_ne); omega) | ((with_reducible apply matF_ne); omega) | ((with_reducible apply celsF_ne); omega) | assumption)⟩))
    | (apply s_l TY; exact rfl; (first | exact rfl | with_reducible assumption | ((with_reducible apply intsF_at); omega) | ((with_reducible apply matF_at); omega) | assumption))
    | (apply s_m TY; exact rfl; (first | with_reducible assumption | ((with_reducible apply celsF_sub); omega) | exact rfl); exact rfl)
    | (apply s_r TY; exact rfl; (first | exact rfl | with_reducible assumption | ((with_reducible apply intsF_at); omega) | ((with_reducible apply matF_at); omega) | assumption))
    | (apply s_alloc TY; exact rfl; exact rfl; exact rfl)
    | (apply s_store TY; exact rfl; exact rfl; exact rfl; exact rfl; exact rfl; exact rfl)
    | (apply s_storeR TY; exact rfl; exact rfl; exact rfl; exact rfl; exact rfl; (first | exact rfl | ((repeat apply le_set); (first | apply le_int | apply le_ini); show _ + 1 ≤ _; omega))))
    exact lv_ret (ret1 rfl (res_tmp rfl))
  rw [h2] at IE
  have v : Valid x := (checkIce_zero x).1 h2
  have WE := WayErr_s x way v
  rcases h3 with h3 | ⟨h3, h4⟩
  · repeat (first
    | (apply s_a TY; exact rfl)
    | (apply s_t; exact rfl; (first | assumption | omega))
    | (apply s_f; exact rfl; (first | assumption | omega))
    | apply w_seq
    | apply w_region
    | (apply w_draw (id := 5) 12 rfl (by kernel_rfl))
    | (apply w_draw (id := 6) 8 rfl (by kernel_rfl))
    | (apply w_draw (id := 7) 8 rfl (by kernel_rfl))
    | (apply w_draw (id := 9) 54 rfl (by kernel_rfl))
    | (apply w_draw (id := 11) 9 rfl (by kernel_rfl))
    | (apply w_draw (id := 12) 27 rfl (by kernel_rfl))
    | (apply w_draw (id := 16) 13 rfl (by kernel_rfl))
    | (apply w_draw (id := 18) 11 rfl (by kernel_rfl))
    | (apply w_draw (id := 26) 11 rfl (by kernel_rfl))
    | apply s_nil
    | apply t_norm
    | apply t_exit
    | apply t_ret
    | apply k_hit
    | (apply k_miss; exact rfl)
    | apply k_norm
    | apply k_ret
    | apply w_block
    | apply w_exit
    | apply w_ret
    | apply w_skip
    | (apply w_condT; exact rfl; exact rfl)
    | (apply w_condF; exact rfl; exact rfl)
    | (apply s_k (F); exact rfl)
    | (apply s_k (IE); exact rfl)
    | (apply s_k (WE); exact rfl)
    | (apply s_k (awake_s); exact rfl)
    | (apply s_k (Few_s _); exact rfl)
    | (apply s_k (IceErr_s _); exact rfl)
    | (apply s_k2 (CopyIce_s _); exact rfl; (first | assumption | omega | decide); (first | assumption | omega | decide))
    | (apply s_s; exact rfl)
    | (apply s_c TY; exact rfl; (first | omega | exact ⟨by omega, by (first | with_reducible assumption | ((with_reducible apply intsF_ne); omega) | ((with_reducible apply matF_ne); omega) | ((with_reducible apply celsF_ne); omega) | assumption)⟩))
    | (apply s_z TY; exact rfl; (first | omega | exact ⟨by omega, by (first | with_reducible assumption | ((with_reducible apply intsF_ne); omega) | ((with_reducible apply matF_ne); omega) | ((with_reducible apply celsF_ne); omega) | assumption)⟩))
    | (apply s_l TY; exact rfl; (first | exact rfl | with_reducible assumption | ((with_reducible apply intsF_at); omega) | ((with_reducible apply matF_at); omega) | assumption))
    | (apply s_m TY; exact rfl; (first | with_reducible assumption | ((with_reducible apply celsF_sub); omega) | exact rfl); exact rfl)
    | (apply s_r TY; exact rfl; (first | exact rfl | with_reducible assumption | ((with_reducible apply intsF_at); omega) | ((with_reducible apply matF_at); omega) | assumption))
    | (apply s_alloc TY; exact rfl; exact rfl; exact rfl)
    | (apply s_store TY; exact rfl; exact rfl; exact rfl; exact rfl; exact rfl; exact rfl)
    | (apply s_storeR TY; exact rfl; exact rfl; exact rfl; exact rfl; exact rfl; (first | exact rfl | ((repeat apply le_set); (first | apply le_int | apply le_ini); show _ + 1 ≤ _; omega))))
    exact lv_ret (ret1 rfl (res_tmp rfl))
  rw [h3] at WE
  repeat (first
    | (apply s_a TY; exact rfl)
    | (apply s_t; exact rfl; (first | assumption | omega))
    | (apply s_f; exact rfl; (first | assumption | omega))
    | apply w_seq
    | apply w_region
    | (apply w_draw (id := 5) 12 rfl (by kernel_rfl))
    | (apply w_draw (id := 6) 8 rfl (by kernel_rfl))
    | (apply w_draw (id := 7) 8 rfl (by kernel_rfl))
    | (apply w_draw (id := 9) 54 rfl (by kernel_rfl))
    | (apply w_draw (id := 11) 9 rfl (by kernel_rfl))
    | (apply w_draw (id := 12) 27 rfl (by kernel_rfl))
    | (apply w_draw (id := 16) 13 rfl (by kernel_rfl))
    | (apply w_draw (id := 18) 11 rfl (by kernel_rfl))
    | (apply w_draw (id := 26) 11 rfl (by kernel_rfl))
    | apply s_nil
    | apply t_norm
    | apply t_exit
    | apply t_ret
    | apply k_hit
    | (apply k_miss; exact rfl)
    | apply k_norm
    | apply k_ret
    | apply w_block
    | apply w_exit
    | apply w_ret
    | apply w_skip
    | (apply w_condT; exact rfl; exact rfl)
    | (apply w_condF; exact rfl; exact rfl)
    | (apply s_k (F); exact rfl)
    | (apply s_k (IE); exact rfl)
    | (apply s_k (WE); exact rfl)
    | (apply s_k (awake_s); exact rfl)
    | (apply s_k (Few_s _); exact rfl)
    | (apply s_k (IceErr_s _); exact rfl)
    | (apply s_k2 (CopyIce_s _); exact rfl; (first | assumption | omega | decide); (first | assumption | omega | decide))
    | (apply s_s; exact rfl)
    | (apply s_c TY; exact rfl; (first | omega | exact ⟨by omega, by (first | with_reducible assumption | ((with_reducible apply intsF_ne); omega) | ((with_reducible apply matF_ne); omega) | ((with_reducible apply celsF_ne); omega) | assumption)⟩))
    | (apply s_z TY; exact rfl; (first | omega | exact ⟨by omega, by (first | with_reducible assumption | ((with_reducible apply intsF_ne); omega) | ((with_reducible apply matF_ne); omega) | ((with_reducible apply celsF_ne); omega) | assumption)⟩))
    | (apply s_l TY; exact rfl; (first | exact rfl | with_reducible assumption | ((with_reducible apply intsF_at); omega) | ((with_reducible apply matF_at); omega) | assumption))
    | (apply s_m TY; exact rfl; (first | with_reducible assumption | ((with_reducible apply celsF_sub); omega) | exact rfl); exact rfl)
    | (apply s_r TY; exact rfl; (first | exact rfl | with_reducible assumption | ((with_reducible apply intsF_at); omega) | ((with_reducible apply matF_at); omega) | assumption))
    | (apply s_alloc TY; exact rfl; exact rfl; exact rfl)
    | (apply s_store TY; exact rfl; exact rfl; exact rfl; exact rfl; exact rfl; exact rfl)
    | (apply s_storeR TY; exact rfl; exact rfl; exact rfl; exact rfl; exact rfl; (first | exact rfl | ((repeat apply le_set); (first | apply le_int | apply le_ini); show _ + 1 ≤ _; omega))))
  exact lv_ret (ret1 rfl (res_tmp rfl))
end Go.Proofs.YtienhiloecfgnaaDoor
namespace Go.Proofs.YtienhiloecfgnaaDoor
open Go Go.RowKit Go.Proofs Go.Shelf Go.Ab
theorem nec_f {x y : Operand} (a : Cel) : ∀ w, (do eqGuard .neq 27 x y (.agg #[.int .i64 a.col, .int .i64 a.row]) (.agg #[.int .i64 a.col, .int .i64 a.row]); binOp .neq 27 (.agg #[.int .i64 a.col, .int .i64 a.row]) (.agg #[.int .i64 a.col, .int .i64 a.row]) : Sem Value).run Tryd.prog w = .ok (.bool false) w := fun w => by
  have hg : Tryd.prog.eqGuardType Tryd.prog.depth 27 = false := by kernel_rfl
  have h := neq_cel a a w
  rw [decide_eq_true rfl] at h
  simp [eqGuard, hg, h]
set_option maxRecDepth 100000 in
set_option maxHeartbeats 8000000 in
theorem IceFirst_walk (x : Grid) (way w : List Cel) (fr to : Cel) (T t1 t2 : List (List Int)) (d0 d1 : Int) (b : SmallG x) (v : Valid x) (_f1 : x.layers.length ≤ 8) (f2 : x.tilt.length ≤ 10) (h4 : T.length ≤ 12) (n1 : 1 ≤ way.length) (n41 : way.length ≤ 41) (hf : InG x fr) (ht : InG x to)
    (F : Summ Tryd.prog GG 16 [gridF x] (bv true)) (IE : Summ Tryd.prog GG 17 [gridF x] (iv 0)) (WE : Summ Tryd.prog GG 74 [gridF x, .sl way.length (celsF way)] (iv 0))
    (z0 : ((celsF way).drop (Int.toNat 0 * 2)).take 2 = celF fr) (z1 : ((celsF way).drop (((way.length : Int) - 1).toNat * 2)).take 2 = celF to)
    (CI : Summ Tryd.prog GG 20 [gridF x] (gridF x)) (T1 : Summ Tryd.prog GG 19 [gridF x, .agg (celF fr)] (.tup [.sl t1.length (matF t1), iv 0])) (T2 : Summ Tryd.prog GG 19 [gridF x, .agg (celF to)] (.tup [.sl t2.length (matF t2), iv 0]))
    (CPW : Summ Tryd.prog GG 72 [.sl way.length (celsF way)] (.sl way.length (celsF way))) (CW : Summ Tryd.prog GG 71 [gridF x, .sl way.length (celsF way)] (.tup [iv d1, iv 0])) (hd : d0 ≤ d1)
    (sh1 : ShapeOk x t1) (sh2 : ShapeOk x t2) (e1 : tab t1 to = d0) (e2 : tab t2 fr = d0)
    (S1 : Summ Tryd.prog GG 21 [gridF x, .sl t1.length (matF t1)] (bv true)) (S2 : Summ Tryd.prog GG 21 [gridF x, .sl t2.length (matF t2)] (bv true))
    (WT : Summ Tryd.prog GG 60 [gridF x, .agg (celF fr), .agg (celF to)] (.tup [.sl w.length (celsF w), iv 0])) (w1 : 1 ≤ w.length) (w96 : w.length ≤ 96) (y0 : ((celsF w).drop (Int.toNat 0 * 2)).take 2 = celF fr) (y1 : ((celsF w).drop (((w.length : Int) - 1).toNat * 2)).take 2 = celF to)
    (hCW2 : w.length ≤ 41 → Summ Tryd.prog GG 71 [gridF x, .sl w.length (celsF w)] (.tup [iv d0, iv 0])) (hC : ∀ S : List (List Int), (chkT x fr S).2 = 0 ↔ S = t1) : Summ Tryd.prog GG 14 [gridF x, .sl way.length (celsF way), .sl T.length (matF T)] (bv true) := by
  have CPW2 := CopyWay_s w (by omega)
  have CT1 := CopyTimes_s t1 (by have := sh1.len; have := v.r12; omega) (fun r hr => by have := sh1.row r hr; omega)
  have CK1 := CheckTimes_s x fr t1 b (by have := sh1.len; have := v.r12; omega)
  have c1 : (chkT x fr t1).2 = 0 := (hC t1).2 rfl
  rw [c1] at CK1
  have l1 := sh1.len
  have l2 := sh2.len
  obtain ⟨q1, q2, qa⟩ := tab_at sh1 ht
  obtain ⟨p1, p2, pa⟩ := tab_at sh2 hf
  rw [e1] at qa
  rw [e2] at pa
  obtain ⟨⟨n0, n2⟩, n3, n4⟩ := ht
  obtain ⟨⟨m0, m2⟩, m3, m4⟩ := hf
  refine summW Tryd.func14 rfl rfl 238 rfl (by simp) (fun M0 => ?_)
  repeat (first
    | (apply w_draw1 (id := 5) 11 rfl (by kernel_rfl); exact rfl; kernel_rfl)
    | (apply s_allocB TY (d := some 7); exact rfl; exact rfl; exact rfl)
    | (apply s_sto TY; exact rfl; exact rfl; exact rfl; exact rfl; exact rfl; exact rfl; exact rfl)
    | (apply w_draw1 (id := 18) 10 rfl (by kernel_rfl); exact rfl; kernel_rfl)
    | (apply s_allocB TY (d := some 19); exact rfl; exact rfl; exact rfl)
    | (apply w_draw1 (id := 26) 10 rfl (by kernel_rfl); exact rfl; kernel_rfl)
    | (apply s_allocB TY (d := some 22); exact rfl; exact rfl; exact rfl)
    | (apply s_bind; exact rfl; exact rfl; exact rfl; exact rfl; exact rfl; exact rfl; exact nec_f _)
    | (apply s_bind; exact rfl; exact rfl; exact rfl; exact rfl; exact rfl; exact rfl; exact eqc_t (by assumption))
    | (apply s_bind; exact rfl; exact rfl; exact rfl; exact rfl; exact rfl; exact rfl; exact eqc_f (by assumption))
    | (apply s_eqb Tryd.underlying4; exact rfl; exact rfl; exact rfl; exact rfl)
    | (apply s_neb Tryd.underlying4; exact rfl; exact rfl; exact rfl; exact rfl)
    | (apply s_a TY; exact rfl)
    | (apply s_t; exact rfl; (first | assumption | omega))
    | (apply s_f; exact rfl; (first | assumption | omega))
    | apply w_seq
    | apply w_region
    | (apply w_draw (id := 5) 12 rfl (by kernel_rfl))
    | (apply w_draw (id := 6) 8 rfl (by kernel_rfl))
    | (apply w_draw (id := 7) 8 rfl (by kernel_rfl))
    | (apply w_draw (id := 9) 54 rfl (by kernel_rfl))
    | (apply w_draw (id := 11) 9 rfl (by kernel_rfl))
    | (apply w_draw (id := 12) 27 rfl (by kernel_rfl))
    | (apply w_draw (id := 16) 13 rfl (by kernel_rfl))
    | (apply w_draw (id := 18) 11 rfl (by kernel_rfl))
    | (apply w_draw (id := 26) 11 rfl (by kernel_rfl))
    | apply s_nil
    | apply t_norm
    | apply t_exit
    | apply t_ret
    | apply k_hit
    | (apply k_miss; exact rfl)
    | apply k_norm
    | apply k_ret
    | apply w_block
    | apply w_exit
    | apply w_ret
    | apply w_skip
    | (apply w_condT; exact rfl; exact rfl)
    | (apply w_condF; exact rfl; exact rfl)
    | (apply s_k (F); exact rfl)
    | (apply s_k (IE); exact rfl)
    | (apply s_k (WE); exact rfl)
    | (apply s_k (CI); exact rfl)
    | (apply s_k (T1); exact rfl)
    | (apply s_k (T2); exact rfl)
    | (apply s_k (CPW); exact rfl)
    | (apply s_k (CW); exact rfl)
    | (apply s_k (S1); exact rfl)
    | (apply s_k (S2); exact rfl)
    | (apply s_k (WT); exact rfl)
    | (apply s_k (awake_s); exact rfl)
    | (apply s_k (Few_s _); exact rfl)
    | (apply s_k (IceErr_s _); exact rfl)
    | (apply s_k2 (CopyIce_s _); exact rfl; (first | assumption | omega | decide); (first | assumption | omega | decide))
    | (apply s_s; exact rfl)
    | (apply s_c TY; exact rfl; (first | omega | exact ⟨by omega, by (first | with_reducible assumption | ((with_reducible apply intsF_ne); omega) | ((with_reducible apply matF_ne); omega) | ((with_reducible apply celsF_ne); omega) | assumption)⟩))
    | (apply s_z TY; exact rfl; (first | omega | exact ⟨by omega, by (first | with_reducible assumption | ((with_reducible apply intsF_ne); omega) | ((with_reducible apply matF_ne); omega) | ((with_reducible apply celsF_ne); omega) | assumption)⟩))
    | (apply s_l TY; exact rfl; (first | exact rfl | with_reducible assumption | ((with_reducible apply intsF_at); omega) | ((with_reducible apply matF_at); omega) | assumption))
    | (apply s_m TY; exact rfl; (first | with_reducible assumption | ((with_reducible apply celsF_sub); omega) | exact rfl); exact rfl)
    | (apply s_r TY; exact rfl; (first | exact rfl | with_reducible assumption | ((with_reducible apply intsF_at); omega) | ((with_reducible apply matF_at); omega) | assumption))
    | (apply s_alloc TY; exact rfl; exact rfl; exact rfl)
    | (apply s_store TY; exact rfl; exact rfl; exact rfl; exact rfl; exact rfl; exact rfl)
    | (apply s_storeR TY; exact rfl; exact rfl; exact rfl; exact rfl; exact rfl; (first | exact rfl | ((repeat apply le_set); (first | apply le_int | apply le_ini); show _ + 1 ≤ _; omega))))
  by_cases hw : w.length ≤ 41
  case' pos => have CW2 := hCW2 hw
  all_goals
    repeat (first
    | (apply w_draw1 (id := 5) 11 rfl (by kernel_rfl); exact rfl; kernel_rfl)
    | (apply s_allocB TY (d := some 7); exact rfl; exact rfl; exact rfl)
    | (apply s_sto TY; exact rfl; exact rfl; exact rfl; exact rfl; exact rfl; exact rfl; exact rfl)
    | (apply w_draw1 (id := 18) 10 rfl (by kernel_rfl); exact rfl; kernel_rfl)
    | (apply s_allocB TY (d := some 19); exact rfl; exact rfl; exact rfl)
    | (apply w_draw1 (id := 26) 10 rfl (by kernel_rfl); exact rfl; kernel_rfl)
    | (apply s_allocB TY (d := some 22); exact rfl; exact rfl; exact rfl)
    | (apply s_bind; exact rfl; exact rfl; exact rfl; exact rfl; exact rfl; exact rfl; exact nec_f _)
    | (apply s_bind; exact rfl; exact rfl; exact rfl; exact rfl; exact rfl; exact rfl; exact eqc_t (by assumption))
    | (apply s_bind; exact rfl; exact rfl; exact rfl; exact rfl; exact rfl; exact rfl; exact eqc_f (by assumption))
    | (apply s_eqb Tryd.underlying4; exact rfl; exact rfl; exact rfl; exact rfl)
    | (apply s_neb Tryd.underlying4; exact rfl; exact rfl; exact rfl; exact rfl)
    | (apply s_a TY; exact rfl)
    | (apply s_t; exact rfl; (first | assumption | omega))
    | (apply s_f; exact rfl; (first | assumption | omega))
    | apply w_seq
    | apply w_region
    | (apply w_draw (id := 5) 12 rfl (by kernel_rfl))
    | (apply w_draw (id := 6) 8 rfl (by kernel_rfl))
    | (apply w_draw (id := 7) 8 rfl (by kernel_rfl))
    | (apply w_draw (id := 9) 54 rfl (by kernel_rfl))
    | (apply w_draw (id := 11) 9 rfl (by kernel_rfl))
    | (apply w_draw (id := 12) 27 rfl (by kernel_rfl))
    | (apply w_draw (id := 16) 13 rfl (by kernel_rfl))
    | (apply w_draw (id := 18) 11 rfl (by kernel_rfl))
    | (apply w_draw (id := 26) 11 rfl (by kernel_rfl))
    | apply s_nil
    | apply t_norm
    | apply t_exit
    | apply t_ret
    | apply k_hit
    | (apply k_miss; exact rfl)
    | apply k_norm
    | apply k_ret
    | apply w_block
    | apply w_exit
    | apply w_ret
    | apply w_skip
    | (apply w_condT; exact rfl; exact rfl)
    | (apply w_condF; exact rfl; exact rfl)
    | (apply s_k (F); exact rfl)
    | (apply s_k (IE); exact rfl)
    | (apply s_k (WE); exact rfl)
    | (apply s_k (CI); exact rfl)
    | (apply s_k (T1); exact rfl)
    | (apply s_k (T2); exact rfl)
    | (apply s_k (CPW); exact rfl)
    | (apply s_k (CW); exact rfl)
    | (apply s_k (S1); exact rfl)
    | (apply s_k (S2); exact rfl)
    | (apply s_k (WT); exact rfl)
    | (apply s_k (CPW2); exact rfl)
    | (apply s_k (CW2); exact rfl)
    | (apply s_k (CT1); exact rfl)
    | (apply s_k (CK1); exact rfl)
    | (apply s_k (awake_s); exact rfl)
    | (apply s_k (Few_s _); exact rfl)
    | (apply s_k (IceErr_s _); exact rfl)
    | (apply s_k2 (CopyIce_s _); exact rfl; (first | assumption | omega | decide); (first | assumption | omega | decide))
    | (apply s_s; exact rfl)
    | (apply s_c TY; exact rfl; (first | omega | exact ⟨by omega, by (first | with_reducible assumption | ((with_reducible apply intsF_ne); omega) | ((with_reducible apply matF_ne); omega) | ((with_reducible apply celsF_ne); omega) | assumption)⟩))
    | (apply s_z TY; exact rfl; (first | omega | exact ⟨by omega, by (first | with_reducible assumption | ((with_reducible apply intsF_ne); omega) | ((with_reducible apply matF_ne); omega) | ((with_reducible apply celsF_ne); omega) | assumption)⟩))
    | (apply s_l TY; exact rfl; (first | exact rfl | with_reducible assumption | ((with_reducible apply intsF_at); omega) | ((with_reducible apply matF_at); omega) | assumption))
    | (apply s_m TY; exact rfl; (first | with_reducible assumption | ((with_reducible apply celsF_sub); omega) | exact rfl); exact rfl)
    | (apply s_r TY; exact rfl; (first | exact rfl | with_reducible assumption | ((with_reducible apply intsF_at); omega) | ((with_reducible apply matF_at); omega) | assumption))
    | (apply s_alloc TY; exact rfl; exact rfl; exact rfl)
    | (apply s_store TY; exact rfl; exact rfl; exact rfl; exact rfl; exact rfl; exact rfl)
    | (apply s_storeR TY; exact rfl; exact rfl; exact rfl; exact rfl; exact rfl; (first | exact rfl | ((repeat apply le_set); (first | apply le_int | apply le_ini); show _ + 1 ≤ _; omega))))
  all_goals
    apply w_loop (fun k : Nat => ⟨(Ab.upd (Ab.upd (Ab.upd (Ab.upd (Ab.upd (Ab.upd (Ab.upd (fun _ => .bot) 1 (.f (.sl way.length (celsF way)))) 2 (.f (.sl T.length (matF T)))) 3 (.f (.pt (gridL x) 0))) 6 (.f (bv false))) 7 (.bx 0 0)) 9 (.f (.sl t1.length (matF t1)))) 21 (.f (iv (k : Nat)))), (Ab.upd (fun _ => none) 0 (some (.box [.f (iv fr.col), .f (iv fr.row)]))), 1⟩) (fun k => k ≤ T.length ∧ ∀ j (h : j < T.length), j < k → T[j].length ≤ 8) (fun k => T.length - k) 0 (⟨Nat.zero_le _, fun j _ h => absurd h (Nat.not_lt_zero j)⟩) (gh_le ⟨le_upd rfl trivial (le_upd rfl trivial (le_upd rfl rfl (le_upd rfl trivial (le_upd rfl trivial (le_upd rfl trivial (le_upd rfl trivial (le_nil _))))))), le_hupd rfl (fun y hy => by simp at hy; rcases hy with rfl | rfl <;> first | trivial | rfl) (le_h0 _ _)⟩)
    intro k ⟨hk, hall⟩
    by_cases hkc : k < T.length
    · by_cases hlong : T[k].length ≤ 8
      · repeat (first
    | (apply s_a TY; exact rfl)
    | (apply s_t; exact rfl; (first | assumption | omega))
    | (apply s_f; exact rfl; (first | assumption | omega))
    | apply w_seq
    | apply w_region
    | (apply w_draw (id := 5) 12 rfl (by kernel_rfl))
    | (apply w_draw (id := 6) 8 rfl (by kernel_rfl))
    | (apply w_draw (id := 7) 8 rfl (by kernel_rfl))
    | (apply w_draw (id := 9) 54 rfl (by kernel_rfl))
    | (apply w_draw (id := 11) 9 rfl (by kernel_rfl))
    | (apply w_draw (id := 12) 27 rfl (by kernel_rfl))
    | (apply w_draw (id := 16) 13 rfl (by kernel_rfl))
    | (apply w_draw (id := 18) 11 rfl (by kernel_rfl))
    | (apply w_draw (id := 26) 11 rfl (by kernel_rfl))
    | apply s_nil
    | apply t_norm
    | apply t_exit
    | apply t_ret
    | apply k_hit
    | (apply k_miss; exact rfl)
    | apply k_norm
    | apply k_ret
    | apply w_block
    | apply w_exit
    | apply w_ret
    | apply w_skip
    | (apply w_condT; exact rfl; exact rfl)
    | (apply w_condF; exact rfl; exact rfl)
    | (apply s_k (awake_s); exact rfl)
    | (apply s_k (Few_s _); exact rfl)
    | (apply s_k (IceErr_s _); exact rfl)
    | (apply s_k2 (CopyIce_s _); exact rfl; (first | assumption | omega | decide); (first | assumption | omega | decide))
    | (apply s_s; exact rfl)
    | (apply s_c TY; exact rfl; (first | omega | exact ⟨by omega, by (first | with_reducible assumption | ((with_reducible apply intsF_ne); omega) | ((with_reducible apply matF_ne); omega) | ((with_reducible apply celsF_ne); omega) | assumption)⟩))
    | (apply s_z TY; exact rfl; (first | omega | exact ⟨by omega, by (first | with_reducible assumption | ((with_reducible apply intsF_ne); omega) | ((with_reducible apply matF_ne); omega) | ((with_reducible apply celsF_ne); omega) | assumption)⟩))
    | (apply s_l TY; exact rfl; (first | exact rfl | with_reducible assumption | ((with_reducible apply intsF_at); omega) | ((with_reducible apply matF_at); omega) | assumption))
    | (apply s_m TY; exact rfl; (first | with_reducible assumption | ((with_reducible apply celsF_sub); omega) | exact rfl); exact rfl)
    | (apply s_r TY; exact rfl; (first | exact rfl | with_reducible assumption | ((with_reducible apply intsF_at); omega) | ((with_reducible apply matF_at); omega) | assumption))
    | (apply s_alloc TY; exact rfl; exact rfl; exact rfl)
    | (apply s_store TY; exact rfl; exact rfl; exact rfl; exact rfl; exact rfl; exact rfl)
    | (apply s_storeR TY; exact rfl; exact rfl; exact rfl; exact rfl; exact rfl; (first | exact rfl | ((repeat apply le_set); (first | apply le_int | apply le_ini); show _ + 1 ≤ _; omega))))
        exact ⟨k + 1, ⟨by omega, fun j h hj => by
          by_cases e : j = k
          · subst e; exact hlong
          · exact hall j h (by omega)⟩, by omega, gh_le ⟨le_upd rfl trivial (le_upd rfl trivial (le_upd rfl rfl (le_upd rfl trivial (le_upd rfl trivial (le_upd rfl trivial (le_upd rfl trivial (le_nil _))))))), le_hupd rfl (fun y hy => by simp at hy; rcases hy with rfl | rfl <;> first | trivial | rfl) (le_h0 _ _)⟩⟩
      · repeat (first
    | (apply s_a TY; exact rfl)
    | (apply s_t; exact rfl; (first | assumption | omega))
    | (apply s_f; exact rfl; (first | assumption | omega))
    | apply w_seq
    | apply w_region
    | (apply w_draw (id := 5) 12 rfl (by kernel_rfl))
    | (apply w_draw (id := 6) 8 rfl (by kernel_rfl))
    | (apply w_draw (id := 7) 8 rfl (by kernel_rfl))
    | (apply w_draw (id := 9) 54 rfl (by kernel_rfl))
    | (apply w_draw (id := 11) 9 rfl (by kernel_rfl))
    | (apply w_draw (id := 12) 27 rfl (by kernel_rfl))
    | (apply w_draw (id := 16) 13 rfl (by kernel_rfl))
    | (apply w_draw (id := 18) 11 rfl (by kernel_rfl))
    | (apply w_draw (id := 26) 11 rfl (by kernel_rfl))
    | apply s_nil
    | apply t_norm
    | apply t_exit
    | apply t_ret
    | apply k_hit
    | (apply k_miss; exact rfl)
    | apply k_norm
    | apply k_ret
    | apply w_block
    | apply w_exit
    | apply w_ret
    | apply w_skip
    | (apply w_condT; exact rfl; exact rfl)
    | (apply w_condF; exact rfl; exact rfl)
    | (apply s_k (awake_s); exact rfl)
    | (apply s_k (Few_s _); exact rfl)
    | (apply s_k (IceErr_s _); exact rfl)
    | (apply s_k2 (CopyIce_s _); exact rfl; (first | assumption | omega | decide); (first | assumption | omega | decide))
    | (apply s_s; exact rfl)
    | (apply s_c TY; exact rfl; (first | omega | exact ⟨by omega, by (first | with_reducible assumption | ((with_reducible apply intsF_ne); omega) | ((with_reducible apply matF_ne); omega) | ((with_reducible apply celsF_ne); omega) | assumption)⟩))
    | (apply s_z TY; exact rfl; (first | omega | exact ⟨by omega, by (first | with_reducible assumption | ((with_reducible apply intsF_ne); omega) | ((with_reducible apply matF_ne); omega) | ((with_reducible apply celsF_ne); omega) | assumption)⟩))
    | (apply s_l TY; exact rfl; (first | exact rfl | with_reducible assumption | ((with_reducible apply intsF_at); omega) | ((with_reducible apply matF_at); omega) | assumption))
    | (apply s_m TY; exact rfl; (first | with_reducible assumption | ((with_reducible apply celsF_sub); omega) | exact rfl); exact rfl)
    | (apply s_r TY; exact rfl; (first | exact rfl | with_reducible assumption | ((with_reducible apply intsF_at); omega) | ((with_reducible apply matF_at); omega) | assumption))
    | (apply s_alloc TY; exact rfl; exact rfl; exact rfl)
    | (apply s_store TY; exact rfl; exact rfl; exact rfl; exact rfl; exact rfl; exact rfl)
    | (apply s_storeR TY; exact rfl; exact rfl; exact rfl; exact rfl; exact rfl; (first | exact rfl | ((repeat apply le_set); (first | apply le_int | apply le_ini); show _ + 1 ≤ _; omega))))
        exact lv_ret (ret1 rfl (res_tmp rfl))
    · have hke : k = T.length := by omega
      subst hke
      have hr8 : ∀ r ∈ T, r.length ≤ 8 := fun r hr => by
        obtain ⟨j, hj, rfl⟩ := List.mem_iff_getElem.1 hr
        exact hall j hj hj
      have CT := CopyTimes_s T (by omega) (fun r hr => by have := hr8 r hr; omega)
      have CK := CheckTimes_s x fr T b (by omega)
      have ST := SameTimes_s T t1 (by omega) (fun r hr => by have := hr8 r hr; omega)
      have hCT := hC T
      by_cases hT : T = t1
      · rw [decide_eq_true hT] at ST
        have c := hCT.2 hT
        repeat (first
    | (apply w_draw1 (id := 5) 11 rfl (by kernel_rfl); exact rfl; kernel_rfl)
    | (apply s_allocB TY (d := some 7); exact rfl; exact rfl; exact rfl)
    | (apply s_sto TY; exact rfl; exact rfl; exact rfl; exact rfl; exact rfl; exact rfl; exact rfl)
    | (apply w_draw1 (id := 18) 10 rfl (by kernel_rfl); exact rfl; kernel_rfl)
    | (apply s_allocB TY (d := some 19); exact rfl; exact rfl; exact rfl)
    | (apply w_draw1 (id := 26) 10 rfl (by kernel_rfl); exact rfl; kernel_rfl)
    | (apply s_allocB TY (d := some 22); exact rfl; exact rfl; exact rfl)
    | (apply s_bind; exact rfl; exact rfl; exact rfl; exact rfl; exact rfl; exact rfl; exact nec_f _)
    | (apply s_bind; exact rfl; exact rfl; exact rfl; exact rfl; exact rfl; exact rfl; exact eqc_t (by assumption))
    | (apply s_bind; exact rfl; exact rfl; exact rfl; exact rfl; exact rfl; exact rfl; exact eqc_f (by assumption))
    | (apply s_eqb Tryd.underlying4; exact rfl; exact rfl; exact rfl; exact rfl)
    | (apply s_neb Tryd.underlying4; exact rfl; exact rfl; exact rfl; exact rfl)
    | (apply s_a TY; exact rfl)
    | (apply s_t; exact rfl; (first | assumption | omega))
    | (apply s_f; exact rfl; (first | assumption | omega))
    | apply w_seq
    | apply w_region
    | (apply w_draw (id := 5) 12 rfl (by kernel_rfl))
    | (apply w_draw (id := 6) 8 rfl (by kernel_rfl))
    | (apply w_draw (id := 7) 8 rfl (by kernel_rfl))
    | (apply w_draw (id := 9) 54 rfl (by kernel_rfl))
    | (apply w_draw (id := 11) 9 rfl (by kernel_rfl))
    | (apply w_draw (id := 12) 27 rfl (by kernel_rfl))
    | (apply w_draw (id := 16) 13 rfl (by kernel_rfl))
    | (apply w_draw (id := 18) 11 rfl (by kernel_rfl))
    | (apply w_draw (id := 26) 11 rfl (by kernel_rfl))
    | apply s_nil
    | apply t_norm
    | apply t_exit
    | apply t_ret
    | apply k_hit
    | (apply k_miss; exact rfl)
    | apply k_norm
    | apply k_ret
    | apply w_block
    | apply w_exit
    | apply w_ret
    | apply w_skip
    | (apply w_condT; exact rfl; exact rfl)
    | (apply w_condF; exact rfl; exact rfl)
    | (apply s_k (F); exact rfl)
    | (apply s_k (CI); exact rfl)
    | (apply s_k (CT); exact rfl)
    | (apply s_k (CK); exact rfl)
    | (apply s_k (ST); exact rfl)
    | (apply s_k (awake_s); exact rfl)
    | (apply s_k (Few_s _); exact rfl)
    | (apply s_k (IceErr_s _); exact rfl)
    | (apply s_k2 (CopyIce_s _); exact rfl; (first | assumption | omega | decide); (first | assumption | omega | decide))
    | (apply s_s; exact rfl)
    | (apply s_c TY; exact rfl; (first | omega | exact ⟨by omega, by (first | with_reducible assumption | ((with_reducible apply intsF_ne); omega) | ((with_reducible apply matF_ne); omega) | ((with_reducible apply celsF_ne); omega) | assumption)⟩))
    | (apply s_z TY; exact rfl; (first | omega | exact ⟨by omega, by (first | with_reducible assumption | ((with_reducible apply intsF_ne); omega) | ((with_reducible apply matF_ne); omega) | ((with_reducible apply celsF_ne); omega) | assumption)⟩))
    | (apply s_l TY; exact rfl; (first | exact rfl | with_reducible assumption | ((with_reducible apply intsF_at); omega) | ((with_reducible apply matF_at); omega) | assumption))
    | (apply s_m TY; exact rfl; (first | with_reducible assumption | ((with_reducible apply celsF_sub); omega) | exact rfl); exact rfl)
    | (apply s_r TY; exact rfl; (first | exact rfl | with_reducible assumption | ((with_reducible apply intsF_at); omega) | ((with_reducible apply matF_at); omega) | assumption))
    | (apply s_alloc TY; exact rfl; exact rfl; exact rfl)
    | (apply s_store TY; exact rfl; exact rfl; exact rfl; exact rfl; exact rfl; exact rfl)
    | (apply s_storeR TY; exact rfl; exact rfl; exact rfl; exact rfl; exact rfl; (first | exact rfl | ((repeat apply le_set); (first | apply le_int | apply le_ini); show _ + 1 ≤ _; omega))))
        exact lv_ret (ret1 rfl (res_tmp rfl))
      · rw [decide_eq_false hT] at ST
        have c : ¬ (chkT x fr T).2 = 0 := fun h => hT (hCT.1 h)
        repeat (first
    | (apply w_draw1 (id := 5) 11 rfl (by kernel_rfl); exact rfl; kernel_rfl)
    | (apply s_allocB TY (d := some 7); exact rfl; exact rfl; exact rfl)
    | (apply s_sto TY; exact rfl; exact rfl; exact rfl; exact rfl; exact rfl; exact rfl; exact rfl)
    | (apply w_draw1 (id := 18) 10 rfl (by kernel_rfl); exact rfl; kernel_rfl)
    | (apply s_allocB TY (d := some 19); exact rfl; exact rfl; exact rfl)
    | (apply w_draw1 (id := 26) 10 rfl (by kernel_rfl); exact rfl; kernel_rfl)
    | (apply s_allocB TY (d := some 22); exact rfl; exact rfl; exact rfl)
    | (apply s_bind; exact rfl; exact rfl; exact rfl; exact rfl; exact rfl; exact rfl; exact nec_f _)
    | (apply s_bind; exact rfl; exact rfl; exact rfl; exact rfl; exact rfl; exact rfl; exact eqc_t (by assumption))
    | (apply s_bind; exact rfl; exact rfl; exact rfl; exact rfl; exact rfl; exact rfl; exact eqc_f (by assumption))
    | (apply s_eqb Tryd.underlying4; exact rfl; exact rfl; exact rfl; exact rfl)
    | (apply s_neb Tryd.underlying4; exact rfl; exact rfl; exact rfl; exact rfl)
    | (apply s_a TY; exact rfl)
    | (apply s_t; exact rfl; (first | assumption | omega))
    | (apply s_f; exact rfl; (first | assumption | omega))
    | apply w_seq
    | apply w_region
    | (apply w_draw (id := 5) 12 rfl (by kernel_rfl))
    | (apply w_draw (id := 6) 8 rfl (by kernel_rfl))
    | (apply w_draw (id := 7) 8 rfl (by kernel_rfl))
    | (apply w_draw (id := 9) 54 rfl (by kernel_rfl))
    | (apply w_draw (id := 11) 9 rfl (by kernel_rfl))
    | (apply w_draw (id := 12) 27 rfl (by kernel_rfl))
    | (apply w_draw (id := 16) 13 rfl (by kernel_rfl))
    | (apply w_draw (id := 18) 11 rfl (by kernel_rfl))
    | (apply w_draw (id := 26) 11 rfl (by kernel_rfl))
    | apply s_nil
    | apply t_norm
    | apply t_exit
    | apply t_ret
    | apply k_hit
    | (apply k_miss; exact rfl)
    | apply k_norm
    | apply k_ret
    | apply w_block
    | apply w_exit
    | apply w_ret
    | apply w_skip
    | (apply w_condT; exact rfl; exact rfl)
    | (apply w_condF; exact rfl; exact rfl)
    | (apply s_k (F); exact rfl)
    | (apply s_k (CI); exact rfl)
    | (apply s_k (CT); exact rfl)
    | (apply s_k (CK); exact rfl)
    | (apply s_k (ST); exact rfl)
    | (apply s_k (awake_s); exact rfl)
    | (apply s_k (Few_s _); exact rfl)
    | (apply s_k (IceErr_s _); exact rfl)
    | (apply s_k2 (CopyIce_s _); exact rfl; (first | assumption | omega | decide); (first | assumption | omega | decide))
    | (apply s_s; exact rfl)
    | (apply s_c TY; exact rfl; (first | omega | exact ⟨by omega, by (first | with_reducible assumption | ((with_reducible apply intsF_ne); omega) | ((with_reducible apply matF_ne); omega) | ((with_reducible apply celsF_ne); omega) | assumption)⟩))
    | (apply s_z TY; exact rfl; (first | omega | exact ⟨by omega, by (first | with_reducible assumption | ((with_reducible apply intsF_ne); omega) | ((with_reducible apply matF_ne); omega) | ((with_reducible apply celsF_ne); omega) | assumption)⟩))
    | (apply s_l TY; exact rfl; (first | exact rfl | with_reducible assumption | ((with_reducible apply intsF_at); omega) | ((with_reducible apply matF_at); omega) | assumption))
    | (apply s_m TY; exact rfl; (first | with_reducible assumption | ((with_reducible apply celsF_sub); omega) | exact rfl); exact rfl)
    | (apply s_r TY; exact rfl; (first | exact rfl | with_reducible assumption | ((with_reducible apply intsF_at); omega) | ((with_reducible apply matF_at); omega) | assumption))
    | (apply s_alloc TY; exact rfl; exact rfl; exact rfl)
    | (apply s_store TY; exact rfl; exact rfl; exact rfl; exact rfl; exact rfl; exact rfl)
    | (apply s_storeR TY; exact rfl; exact rfl; exact rfl; exact rfl; exact rfl; (first | exact rfl | ((repeat apply le_set); (first | apply le_int | apply le_ini); show _ + 1 ≤ _; omega))))
        exact lv_ret (ret1 rfl (res_tmp rfl))
theorem IceFirst_main (x : Grid) (way : List Cel) (T : List (List Int)) (h : fewB x = true) (h1 : way.length ≤ 41) (h2 : iceErrE x = 0) (h3 : wayErrE x way = 0) (h4 : T.length ≤ 12) : Summ Tryd.prog GG 14 [gridF x, .sl way.length (celsF way), .sl T.length (matF T)] (bv true) := by
  have F := Few_s x
  rw [h] at F
  obtain ⟨f1, f2⟩ := fewB_true h
  have b : SmallG x := ⟨by omega, by omega⟩
  have IE := IceErr_s x
  rw [h2] at IE
  have v : Valid x := (checkIce_zero x).1 h2
  have WE := WayErr_s x way v
  rw [h3] at WE
  have W := wayOk v h3
  have n1 := W.n1
  have hl : way.length - 1 < way.length := by omega
  have hf := W.inn 0 n1
  have ht := W.inn (way.length - 1) hl
  have z0 : ((celsF way).drop (Int.toNat 0 * 2)).take 2 = celF way[0] := celsF_sub n1
  have z1 : ((celsF way).drop (((way.length : Int) - 1).toNat * 2)).take 2 = celF way[way.length - 1] := by
    rw [show ((way.length : Int) - 1).toNat = way.length - 1 by omega]; exact celsF_sub hl
  have CI := CopyIce_s x (by omega) (by omega)
  have T1 := TimesFrom_s x way[0] b
  rw [show timesR x way[0] = (timesM x way[0], 0) by unfold timesR; rw [show fromE x way[0] = 0 from fromE_zero.2 ⟨v, hf⟩]; rfl] at T1
  have T2 := TimesFrom_s x way[way.length - 1] b
  rw [show timesR x way[way.length - 1] = (timesM x way[way.length - 1], 0) by unfold timesR; rw [show fromE x way[way.length - 1] = 0 from fromE_zero.2 ⟨v, ht⟩]; rfl] at T2
  have CW := CheckWay_s x way b (by omega)
  rw [show chkV x way = (delayTo x way way.length, 0) by unfold chkV wayV; rw [if_pos h2, if_pos h3]] at CW
  have WT := WayTo_s x way[0] way[way.length - 1] b
  rw [show wayR x way[0] way[way.length - 1] = (wayM x way[0] way[way.length - 1], 0) by unfold wayR; rw [show wayE x way[0] way[way.length - 1] = 0 from wayE_zero.2 ⟨v, hf, ht⟩]; rfl] at WT
  have D := wayM_down v hf ht
  have w1 : 1 ≤ (wayM x way[0] way[way.length - 1]).length := by simp [wayM]
  have hwl : (wayM x way[0] way[way.length - 1]).length - 1 < (wayM x way[0] way[way.length - 1]).length := by omega
  have y1 : ((celsF (wayM x way[0] way[way.length - 1])).drop ((((wayM x way[0] way[way.length - 1]).length : Int) - 1).toNat * 2)).take 2 = celF way[way.length - 1] := by
    rw [show (((wayM x way[0] way[way.length - 1]).length : Int) - 1).toNat = (wayM x way[0] way[way.length - 1]).length - 1 by omega]
    exact (celsF_sub hwl).trans (congrArg celF (D.last hwl))
  have hge := way_ge v h3 (way.length - 1) hl
  rw [show way.length - 1 + 1 = way.length by omega] at hge
  refine IceFirst_walk x way (wayM x way[0] way[way.length - 1]) way[0] way[way.length - 1] T (timesM x way[0]) (timesM x way[way.length - 1]) (distOf x way[0] way[way.length - 1]) (delayTo x way way.length) b v f1 f2 h4 n1 h1 hf ht F IE WE z0 z1 CI T1 T2 (CopyWay_s way (by omega)) CW hge (timesM_shape v _) (timesM_shape v _) (tab_timesM ht) ((tab_timesM hf).trans (dist_symm v ht hf))
    (isShaped_s x _ (timesM_shape v _).len (timesM_shape v _).row v.r12) (isShaped_s x _ (timesM_shape v _).len (timesM_shape v _).row v.r12) WT w1 (wayM_len v hf ht) (celsF_sub w1) y1 (fun hw => ?_) (fun S => chkT_times v hf h2 S)
  have CW2 := CheckWay_s x (wayM x way[0] way[way.length - 1]) b (by omega)
  rw [show chkV x (wayM x way[0] way[way.length - 1]) = (distOf x way[0] way[way.length - 1], 0) by unfold chkV wayV; rw [if_pos h2, if_pos (wayM_ok v hf ht hw), wayM_delay v hf ht, dist_symm v ht hf]] at CW2
  exact CW2
theorem IceFirst_s (x : Grid) (way : List Cel) (T : List (List Int)) : Summ Tryd.prog GG 14 [gridF x, .sl way.length (celsF way), .sl T.length (matF T)] (bv true) := by
  cases h : fewB x with
  | false => exact IceFirst_early x way T (.inl h)
  | true =>
    by_cases h1 : way.length ≤ 41
    case neg => exact IceFirst_early x way T (.inr ⟨h, .inl (by omega)⟩)
    by_cases h2 : iceErrE x = 0
    case neg => exact IceFirst_early x way T (.inr ⟨h, .inr ⟨h1, .inl h2⟩⟩)
    by_cases h3 : wayErrE x way = 0
    case neg => exact IceFirst_early x way T (.inr ⟨h, .inr ⟨h1, .inr ⟨h2, .inl h3⟩⟩⟩)
    by_cases h4 : T.length ≤ 12
    case neg => exact IceFirst_early x way T (.inr ⟨h, .inr ⟨h1, .inr ⟨h2, .inr ⟨h3, by omega⟩⟩⟩⟩)
    exact IceFirst_main x way T h h1 h2 h3 h4
end Go.Proofs.YtienhiloecfgnaaDoor
