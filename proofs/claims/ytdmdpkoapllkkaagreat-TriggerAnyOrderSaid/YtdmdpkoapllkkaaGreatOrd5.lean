/- Laws on which the proofs of this seat stand. No condition. -/
import Derived.Test.YtdmdpkoapllkkaaGreatOrd4
import Derived.Shelf.SlSortCmp.NoneTotal
import Derived.Lib.SliceRun
import Derived.OpenShut
import Derived.DataShut
import Derived.Test.YtdmdpkoapllkkaaGreatRows
import Derived.WalkKit
import Derived.ProofKit
import Derived.Stop.Joined
namespace Go.Proofs.YtdmdpkoapllkkaaGreat
open Go Go.RowKit Go.Proofs Go.Shelf Go.Ab Go.Sort
theorem eq_hit {x y : Operand} {a b : Hit} {c : Bool} (h : decide (a = b) = c) : ∀ w, (do eqGuard .eql 29 x y (.agg #[.int .i64 a.tm, .int .i64 a.line, .int .i64 a.sensor]) (.agg #[.int .i64 b.tm, .int .i64 b.line, .int .i64 b.sensor]); binOp .eql 29 (.agg #[.int .i64 a.tm, .int .i64 a.line, .int .i64 a.sensor]) (.agg #[.int .i64 b.tm, .int .i64 b.line, .int .i64 b.sensor]) : Sem Value).run Tryz.prog w = .ok (.bool c) w := fun w => by
  have h1 := equalIn_hit 9998 a b w
  rw [h] at h1
  first
  | (simp [eqGuard, run_eql_struct, h1]; done)
  | simp [eqGuard, guard_hit, run_eql_struct, h1]
theorem isNaN_w (n : Int) (W : World) : Calls Tryz.prog 175 #[.int .i64 n] W fun e w' => e = .returned (.bool false) ∧ W = w' := by
  go_enter Tryz.func175, Tryz.ntmps175
  go_wp2
  go_ret
  exact ⟨rfl, rfl⟩
theorem Compare_w (a b : Int) (W : World) : Calls Tryz.prog 157 #[.int .i64 a, .int .i64 b] W fun e w' => e = .returned (.int .i64 (cmpI a b)) ∧ W = w' := by
  unfold cmpI
  by_cases h1 : a < b
  · rw [if_pos h1]
    go_enter Tryz.func157, Tryz.ntmps157
    go_wp2_with (go_at_call 175; refine (isNaN_w _ _).mono ?_; rintro e w' ⟨rfl, rfl⟩)
    go_ret
    exact ⟨rfl, rfl⟩
  · rw [if_neg h1]
    by_cases h2 : b < a
    · rw [if_pos h2]
      go_enter Tryz.func157, Tryz.ntmps157
      go_wp2_with (go_at_call 175; refine (isNaN_w _ _).mono ?_; rintro e w' ⟨rfl, rfl⟩)
      go_ret
      exact ⟨rfl, rfl⟩
    · rw [if_neg h2]
      go_enter Tryz.func157, Tryz.ntmps157
      go_wp2_with (go_at_call 175; refine (isNaN_w _ _).mono ?_; rintro e w' ⟨rfl, rfl⟩)
      go_ret
      exact ⟨rfl, rfl⟩
theorem Or3_w (B : Nat) (a b c : Int) (W : World) (h0 : W.cell? ⟨B, 0, none⟩ = some (.int .i64 a)) (h1 : W.cell? ⟨B, 1, none⟩ = some (.int .i64 b)) (h2 : W.cell? ⟨B, 2, none⟩ = some (.int .i64 c)) : Calls Tryz.prog 156 #[.slice (some ⟨B, 0, none⟩) 3 3] W fun e w' => e = .returned (.int .i64 (firstE [a, b, c])) ∧ W = w' := by
  go_enter Tryz.func156, Tryz.ntmps156
  go_wp2
  go_loopw [8] (fun i wr => wr = W ∧ ((i = .int .i64 0) ∨ (i = .int .i64 1 ∧ a = 0) ∨ (i = .int .i64 2 ∧ a = 0 ∧ b = 0) ∨ (i = .int .i64 3 ∧ a = 0 ∧ b = 0 ∧ c = 0))) (fun i _ => 3 - (intOf i).toNat)
  case atStart => exact ⟨rfl, .inl rfl⟩
  case round =>
    obtain ⟨rfl, hr⟩ := hrel
    rcases hr with rfl | ⟨rfl, rfl⟩ | ⟨rfl, rfl, rfl⟩ | ⟨rfl, rfl, rfl, rfl⟩
    · by_cases he : a = 0
      · subst he
        go_wp2
        go_roundw
        case rel => simp
        case measure => simp [intOf]
      · go_wp2
        go_ret
        exact ⟨by simp [firstE, he], rfl⟩
    · by_cases he : b = 0
      · subst he
        go_wp2
        go_roundw
        case rel => simp
        case measure => simp [intOf]
      · go_wp2
        go_ret
        exact ⟨by simp [firstE, he], rfl⟩
    · by_cases he : c = 0
      · subst he
        go_wp2
        go_roundw
        case rel => simp
        case measure => simp [intOf]
      · go_wp2
        go_ret
        exact ⟨by simp [firstE, he], rfl⟩
    · go_wp2
      go_ret
      exact ⟨by simp [firstE], rfl⟩
def encH (x : Hit) : List Value := [.int .i64 x.tm, .int .i64 x.line, .int .i64 x.sensor]
theorem cellN (W : World) (a b : Obj) (n : Nat) (cs : Array Value) (T : TypeId) (k : Nat) (v : Value) (h : cs[k]? = some v) : ((((W.alloc a).alloc b).drewN n).alloc (Obj.cells cs T)).cell? ⟨W.heap.size + 1 + 1, k, none⟩ = some v := by
  rw [← h]
  show (match ((((W.heap.push a).push b).push (Obj.cells cs T)))[W.heap.size + 1 + 1]? with
    | some (.cells c _ _) => if (none : Option Nat).isSome then none else c[k]?
    | _ => none) = cs[k]?
  have e : (((W.heap.push a).push b).push (Obj.cells cs T))[W.heap.size + 1 + 1]? = some (Obj.cells cs T) := by
    have h1 := Array.getElem?_push_size (xs := (W.heap.push a).push b) (x := Obj.cells cs T)
    rwa [show ((W.heap.push a).push b).size = W.heap.size + 1 + 1 by simp] at h1
  rw [e]; rfl
set_option maxHeartbeats 1600000 in
theorem compare_w (x y : Hit) (W : World) : Calls Tryz.prog 122 #[.agg (encH x).toArray, .agg (encH y).toArray] W fun e w' => e = .returned (.int .i64 (cmpHit x y)) ∧ ∃ q os', w' = grow (W.drewN q) os' := by
  unfold encH cmpHit
  obtain ⟨x0, x1, x2⟩ := x
  obtain ⟨y0, y1, y2⟩ := y
  go_enter Tryz.func122, Tryz.ntmps122
  go_wp2
  refine wp_region_quiet_tail (fun w' => ∃ n, w' = World.drewN _ n) 15 (by kernel_rfl) (by kernel_rfl) ⟨1, rfl⟩ ?_
  repeat (quiet_step ((go_at_call 157; exact Calls.quiet_of_same ((Compare_w _ _ _).mono fun _ _ ⟨h1, h2⟩ => ⟨h1, h2.symm⟩))))
  refine wpQuiet_nil ?_
  intro w' hw'
  obtain ⟨nq, rfl⟩ := hw'
  go_wp2_with (go_at_call 156; refine (Or3_w _ (cmpI x0 y0) (cmpI x1 y1) (cmpI x2 y2) _ (cellN _ _ _ _ _ _ 0 _ rfl) (cellN _ _ _ _ _ _ 1 _ rfl) (cellN _ _ _ _ _ _ 2 _ rfl)).mono ?_; rintro e w' ⟨rfl, rfl⟩)
  go_ret
  exact ⟨rfl, nq, _, by rw [alloc_eq_grow, alloc_eq_grow, alloc_eq_grow, grow_grow]; show grow (grow (W.drewN nq) _) _ = _; rw [grow_grow]⟩
theorem ltH (x y : Hit) : ltOf cmpHit x y = decide (before x y) := by
  unfold ltOf
  exact decide_eq_decide.2 (cmpHit_neg x y)
theorem swoH : SWO (ltOf cmpHit) where
  irrefl x := by rw [ltH]; exact decide_eq_false before_irr
  trans x y z h1 h2 := by
    rw [ltH] at *
    exact decide_eq_true (before_trans (of_decide_eq_true h1) (of_decide_eq_true h2))
  ntrans x y z h1 h2 := by
    rw [ltH] at *
    have a := of_decide_eq_false h1
    have b := of_decide_eq_false h2
    refine decide_eq_false fun h => ?_
    rcases before_tot (a := x) (b := y) with q | q | q
    · exact a q
    · subst q; exact b h
    · rcases before_tot (a := y) (b := z) with r | r | r
      · exact b r
      · subst r; exact a h
      · exact before_irr (before_trans (before_trans r q) h)
def sortHits (l : List Hit) : List Hit := sortL cmpHit l
theorem sortHits_perm (l : List Hit) : (sortHits l).Perm l := sortL_perm swoH l
theorem sortHits_len (l : List Hit) : (sortHits l).length = l.length := sortL_len swoH l
theorem sortHits_weak (l : List Hit) : Weak (sortHits l) := (sortL_pw swoH l).imp fun {x y} h => fun hb => h ((cmpHit_neg y x).2 hb)
theorem encH_F (l : List Hit) : (l.flatMap encH).map FV.v = hitsF l := by
  induction l with
  | nil => rfl
  | cons r l ih => rw [List.flatMap_cons, List.map_append, ih]; simp [hitsF, hitF, iv, encH]
theorem sortFuncH_s (l : List Hit) (h60 : l.length < 1000000) : SummG Tryz.prog GG 121 [.arr 29 3 l.length ((hitsF l).map .f)] [.ow 0, .f (.fn 122 [])] (.f (.tup [])) [.arr 29 3 l.length ((hitsF (sortHits l)).map .f)] :=
  sortG (ρ := sortH_ren) sortH Tryz.isAgg29 Tryz.sizeOf29 (enc := encH) (k := 3) (fun _ => rfl) (by decide) (fun x v hv => by simp [encH] at hv; rcases hv with rfl | rfl | rfl <;> rfl) cmpHit swoH 122 (enters_of Tryz.func122 (by kernel_rfl) rfl) compare_w
    (fun pp cap fv w => AnyF.slices_SortFunc_none (P := Tryz.prog) (ρ := sortH_ren) { sortH with } pp cap fv w) (enters_of Tryz.func121 (by kernel_rfl) rfl) l (by omega) 29 rfl (encH_F l) (encH_F _)
theorem setAt_mid {α : Type} : ∀ (r b a c : List α), b.length = r.length → setAt (a ++ b ++ c) a.length r = a ++ r ++ c
  | [], [], _, _, _ => rfl
  | x :: r, y :: b, a, c, h => by
    have e : (a ++ y :: b ++ c).set a.length x = (a ++ [x]) ++ b ++ c := by
      rw [List.append_assoc, List.set_append_right _ _ (Nat.le_refl _), Nat.sub_self]; simp
    have ih := setAt_mid r b (a ++ [x]) c (by simpa using h)
    rw [List.length_append] at ih
    rw [setAt, e]
    exact ih.trans (by simp)
theorem flat_setAt (pre post : List Hit) (y x : Hit) {o : Nat} (ho : o = pre.length) : setAt (hitsF (pre ++ y :: post)) (o * 3) (hitF x) = hitsF (pre ++ x :: post) := by
  subst ho
  rw [hitsF_app, hitsF_app, show hitsF (y :: post) = hitF y ++ hitsF post from rfl, show hitsF (x :: post) = hitF x ++ hitsF post from rfl]
  rw [← hitsF_len pre, ← List.append_assoc, ← List.append_assoc]
  exact setAt_mid (hitF x) (hitF y) _ _ rfl
end Go.Proofs.YtdmdpkoapllkkaaGreat
namespace Go.Proofs.YtdmdpkoapllkkaaGreat
open Go Go.RowKit Go.Proofs Go.Shelf Go.Ab
theorem keep_sub (s : List Hit) (n i : Nat) (hn : (keepK s n).length ≤ i) (hi : i < s.length) : ((hitsF (keepK s n ++ s.drop (keepK s n).length)).drop (i * 3)).take 3 = hitF s[i] := by
  have hl : i < (keepK s n ++ s.drop (keepK s n).length).length := by rw [List.length_append, List.length_drop]; omega
  rw [hitsF_sub hl]
  congr 1
  rw [List.getElem_append_right hn, List.getElem_drop]
  congr 1; omega
theorem keep_len (s : List Hit) (n : Nat) (hn : (keepK s n).length ≤ s.length) : (hitsF (keepK s n ++ s.drop (keepK s n).length)).length = s.length * 3 := by
  rw [hitsF_len, List.length_append, List.length_drop]; congr 1; omega
theorem keep_store (s : List Hit) (n : Nat) (hn : n < s.length) (hm : (keepK s n).length ≤ n) (hne : n = 0 ∨ s.getD n default ≠ s.getD (n - 1) default) : setAt (hitsF (keepK s n ++ s.drop (keepK s n).length)) ((keepK s n).length * 3) (hitF s[n]) = hitsF (keepK s (n + 1) ++ s.drop (keepK s (n + 1)).length) := by
  rw [keepK_succ, if_pos hne, getD_eq hn, List.drop_eq_getElem_cons (show (keepK s n).length < s.length by omega), flat_setAt _ _ _ _ rfl]
  rw [List.length_append, List.length_singleton, List.append_assoc]; rfl
theorem rowK {n : Nat} {cs cs' : List FV} (h : cs = cs') : some (Blk.row 29 3 n cs) = some (Blk.row 29 3 n cs') := by rw [h]
theorem rowK2 {n m : Nat} {cs cs' : List FV} (hn : n = m) (h : cs = cs') : some (Blk.row 29 3 n cs) = some (Blk.row 29 3 m cs') := by rw [h, hn]
set_option maxRecDepth 100000 in
set_option maxHeartbeats 3200000 in
theorem compact_g (s : List Hit) (h60 : s.length ≤ 1000000) : SummG Tryz.prog GG 123 [.row 29 3 s.length (hitsF s)] [.ow 0] (.ow 0) [.row 29 3 (keepK s s.length).length (hitsF (keepK s s.length))] := by
  have hsl := hitsF_len s
  by_cases h2 : s.length < 2
  · have hk : (keepK s s.length) = s := by rw [keepK_take (Nat.le_refl _) (fun i h0 hi => by omega), List.take_length]
    rw [hk]
    refine summG_of Tryz.func123 rfl rfl 61 rfl (by simp) (by simp) (fun i B B' h1 h2 => by
        match i, h1, h2 with
    | 0, h1, h2 => cases h1; cases h2; rfl
    | _ + 1, h1, _ => simp at h1) (fun M X J => ?_)
    repeat (first
    | (apply s_a TY; exact rfl)
    | (apply s_t; exact rfl; (first | assumption | omega))
    | apply w_seq
    | apply w_region
    | apply s_nil
    | apply t_norm
    | apply t_ret
    | apply w_ret
    | (apply w_condT; exact rfl; exact rfl))
    exact lvG_ret (gh_one 0 2 rfl rfl) (rg1 rfl (rv_tmp rfl))
  · refine summG_of Tryz.func123 rfl rfl 61 rfl (by simp) (by simp) (fun i B B' h1 h2 => by
        match i, h1, h2 with
    | 0, h1, h2 => cases h1; cases h2; rfl
    | _ + 1, h1, _ => simp at h1) (fun M X J => ?_)
    repeat (first
    | (apply s_a TY; exact rfl)
    | (apply s_f; exact rfl; (first | assumption | omega))
    | apply w_seq
    | apply w_region
    | apply s_nil
    | apply t_norm
    | apply w_block
    | apply w_skip
    | (apply w_condF; exact rfl; exact rfl))
    apply w_loop (fun k : Nat => ⟨(Ab.upd (Ab.upd (fun _ => .bot) 0 (.ow 0)) 3 (.f (iv ((k : Nat) : Int)))), (Ab.upd (fun _ => none) 0 (some (.row 29 3 s.length (hitsF s)))), 1⟩) (fun k => 1 ≤ k ∧ k ≤ s.length ∧ ∀ i, 0 < i → i < k → s.getD i default ≠ s.getD (i - 1) default) (fun k => s.length - k) 1 (⟨by omega, by omega, fun i h0 hi => by omega⟩) (gh_le ⟨le_upd rfl trivial (le_upd rfl rfl (le_nil _)), le_hupd rfl trivial (le_h0 _ _)⟩)
    intro k ⟨hk1, hk, hd⟩
    by_cases hc : k < s.length
    · have e1 : ((hitsF s).drop (((k : Nat) : Int).toNat * 3)).take 3 = hitF s[k] := hitsF_sub hc
      have e2 : ((hitsF s).drop ((((k : Nat) : Int) - 1).toNat * 3)).take 3 = hitF s[k - 1] := by
        rw [show (((k : Nat) : Int) - 1).toNat = k - 1 by omega]; exact hitsF_sub (show k - 1 < s.length by omega)
      by_cases he : s[k] = s[k - 1]
      · have hkk : keepK s (k + 1) = s.take k := by
          rw [keepK_succ, if_neg (by rw [getD_eq hc, getD_eq (show k - 1 < s.length by omega)]; exact fun h => h.elim (by omega) (fun h => h he)), List.append_nil, keepK_take (by omega) hd]
        have hkl : (keepK s (k + 1)).length = k := by rw [hkk, List.length_take]; omega
        repeat (first
    | (apply s_bind; exact rfl; exact rfl; exact rfl; exact rfl; exact rfl; exact rfl; exact eq_hit (c := true) (by simp [he]))
    | (apply s_ldrs TY; exact rfl; exact rfl; exact rfl; exact rfl; exact rfl; assumption; exact rfl)
    | (apply s_slice_ow TY; exact rfl; exact rfl; exact rfl; exact rfl; exact rfl; omega; omega)
    | (apply s_a TY; exact rfl)
    | (apply s_t; exact rfl; (first | assumption | omega))
    | apply w_seq
    | apply w_region
    | (apply w_draw (id := 6) 9 rfl (by kernel_rfl))
    | apply s_nil
    | apply t_norm
    | apply w_block
    | apply w_skip
    | (apply w_condT; exact rfl; exact rfl)
    | (apply s_c TY; exact rfl; (first | omega | exact ⟨by omega, by (first | with_reducible assumption | ((with_reducible apply hitsF_ne); omega) | assumption)⟩))
    | (apply s_z TY; exact rfl; (first | omega | exact ⟨by omega, by (first | with_reducible assumption | ((with_reducible apply hitsF_ne); omega) | assumption)⟩)))
        apply w_loop (fun j : Nat => ⟨(Ab.upd (Ab.upd (Ab.upd (Ab.upd (fun _ => .bot) 0 (.ow 0)) 3 (.f (iv (((keepK s (k + j)).length : Nat) : Int)))) 4 (.sv 0 (((k : Nat) : Int).toNat * 3) (s.length - ((k : Nat) : Int).toNat))) 5 (.f (iv ((j : Nat) : Int)))), (Ab.upd (fun _ => none) 0 (some (.row 29 3 s.length (hitsF ((keepK s (k + j)) ++ s.drop (keepK s (k + j)).length))))), 1⟩) (fun j => 1 ≤ j ∧ k + j ≤ s.length ∧ (keepK s (k + j)).length + 1 ≤ k + j) (fun j => s.length - (k + j)) 1 (⟨Nat.le_refl _, by omega, by omega⟩) (gh_le ⟨le_upd rfl trivial (le_upd rfl rfl (le_upd (by rw [hkl]; rfl) trivial (le_upd rfl rfl (le_nil _)))), le_hupd (rowK (by rw [hkl, hkk, List.take_append_drop])) trivial (le_h0 _ _)⟩)
        intro j ⟨hj1, hj, hm⟩
        by_cases hjc : k + j < s.length
        · have f1 : ((hitsF ((keepK s (k + j)) ++ s.drop (keepK s (k + j)).length)).drop (((k : Nat) : Int).toNat * 3 + ((j : Nat) : Int).toNat * 3)).take 3 = hitF s[k + j] := by
            rw [show ((k : Nat) : Int).toNat * 3 + ((j : Nat) : Int).toNat * 3 = (k + j) * 3 by omega]; exact keep_sub s (k + j) (k + j) (by omega) hjc
          have f2 : ((hitsF ((keepK s (k + j)) ++ s.drop (keepK s (k + j)).length)).drop (((k : Nat) : Int).toNat * 3 + (((j : Nat) : Int) - 1).toNat * 3)).take 3 = hitF s[k + j - 1] := by
            rw [show ((k : Nat) : Int).toNat * 3 + (((j : Nat) : Int) - 1).toNat * 3 = (k + j - 1) * 3 by omega]; exact keep_sub s (k + j) (k + j - 1) (by omega) (by omega)
          by_cases he : s[k + j] = s[k + j - 1]
          · have hs : keepK s (k + (j + 1)) = (keepK s (k + j)) := by
              rw [show k + (j + 1) = (k + j) + 1 by omega, keepK_succ, if_neg (by rw [getD_eq hjc, getD_eq (show k + j - 1 < s.length by omega)]; exact fun h => h.elim (by omega) (fun h => h he)), List.append_nil]
            repeat (first
    | (apply s_bind; exact rfl; exact rfl; exact rfl; exact rfl; exact rfl; exact rfl; exact ne_hit (c := false) (by simp [he]))
    | (apply s_ldrs TY; exact rfl; exact rfl; exact rfl; exact rfl; exact rfl; assumption; exact rfl)
    | (apply s_len_sv TY; exact rfl; exact rfl; exact rfl)
    | (apply s_idx_sv TY; exact rfl; exact rfl; exact rfl; exact rfl; omega; omega)
    | (apply s_a TY; exact rfl)
    | (apply s_t; exact rfl; (first | assumption | omega))
    | apply w_seq
    | apply w_region
    | (apply w_draw (id := 11) 9 rfl (by kernel_rfl))
    | apply s_nil
    | apply t_norm
    | apply k_norm
    | apply w_block
    | apply w_skip
    | (apply w_condT; exact rfl; exact rfl)
    | (apply w_condF; exact rfl; exact rfl)
    | (apply s_c TY; exact rfl; (first | omega | exact ⟨by omega, by (first | with_reducible assumption | ((with_reducible apply hitsF_ne); omega) | assumption)⟩)))
            exact ⟨j + 1, ⟨by omega, by omega, by rw [hs]; omega⟩, by omega, gh_le ⟨le_upd rfl trivial (le_upd rfl rfl (le_upd (by rw [hs]; rfl) trivial (le_upd rfl rfl (le_nil _)))), le_hupd (rowK (by rw [hs])) trivial (le_h0 _ _)⟩⟩
          · have hne : k + j = 0 ∨ s.getD (k + j) default ≠ s.getD (k + j - 1) default := by rw [getD_eq hjc, getD_eq (show k + j - 1 < s.length by omega)]; exact .inr he
            have hs : (keepK s (k + (j + 1))).length = (keepK s (k + j)).length + 1 := by
              rw [show k + (j + 1) = (k + j) + 1 by omega, keepK_succ, if_pos hne, List.length_append]; rfl
            have hX := keep_len s (k + j) (by omega)
            have hst : (((keepK s (k + j)).length : Nat) : Int).toNat * 3 + (hitF s[k + j]).length ≤ (hitsF ((keepK s (k + j)) ++ s.drop (keepK s (k + j)).length)).length := by rw [hX]; show _ + 3 ≤ _; omega
            have hset := keep_store s (k + j) hjc (by omega) hne
            repeat (first
    | (apply s_bind; exact rfl; exact rfl; exact rfl; exact rfl; exact rfl; exact rfl; exact ne_hit (c := true) (by simp [he]))
    | (apply s_ldrs TY; exact rfl; exact rfl; exact rfl; exact rfl; exact rfl; assumption; exact rfl)
    | (apply s_storeR TY; exact rfl; exact rfl; exact rfl; exact rfl; exact rfl; exact hst)
    | (apply s_len_sv TY; exact rfl; exact rfl; exact rfl)
    | (apply s_idx_sv TY; exact rfl; exact rfl; exact rfl; exact rfl; omega; omega)
    | (apply s_a TY; exact rfl)
    | (apply s_t; exact rfl; (first | assumption | omega))
    | apply w_seq
    | apply w_region
    | (apply w_draw (id := 11) 9 rfl (by kernel_rfl))
    | apply s_nil
    | apply t_norm
    | apply k_norm
    | apply w_block
    | apply w_skip
    | (apply w_condT; exact rfl; exact rfl)
    | (apply s_c TY; exact rfl; (first | omega | exact ⟨by omega, by (first | with_reducible assumption | ((with_reducible apply hitsF_ne); omega) | assumption)⟩)))
            exact ⟨j + 1, ⟨by omega, by omega, by rw [hs]; omega⟩, by omega, gh_le ⟨le_upd rfl trivial (le_upd rfl rfl (le_upd (by rw [hs]; rfl) trivial (le_upd rfl rfl (le_nil _)))), le_hupd (rowK hset) trivial (le_h0 _ _)⟩⟩
        · have hje : k + j = s.length := by omega
          rw [hje] at hm
          have hX := keep_len s (k + j) (by rw [hje]; omega)
          rw [show s.length = k + j by omega] at hm
          repeat (first
    | (apply s_slice_ow TY; exact rfl; exact rfl; exact rfl; exact rfl; exact rfl; omega; omega)
    | (apply s_len_sv TY; exact rfl; exact rfl; exact rfl)
    | (apply s_clear_sv TY; exact rfl; exact rfl; exact rfl; exact rfl; exact rfl; (show _ + _ * 3 ≤ _; omega))
    | (apply s_slice_head TY; exact rfl; exact rfl; exact rfl; exact rfl; exact rfl; omega; omega; omega; exact rfl)
    | (apply s_a TY; exact rfl)
    | (apply s_f; exact rfl; (first | assumption | omega))
    | apply w_seq
    | apply w_region
    | apply s_nil
    | apply t_norm
    | apply t_exit
    | apply t_ret
    | apply k_hit
    | apply k_ret
    | apply w_exit
    | apply w_ret
    | (apply w_condF; exact rfl; exact rfl))
          exact lvG_ret (gh_one 0 2 rfl (rowK2 (by rw [hje]; omega) (by rw [take_setAt_ge _ _ _ _ (Nat.le_refl _), show (((keepK s (k + j)).length : Nat) : Int).toNat = (keepK s (k + j)).length by omega, hitsF_take, List.take_left, hje]))) (rg1 rfl (rv_tmp rfl))
      · repeat (first
    | (apply s_bind; exact rfl; exact rfl; exact rfl; exact rfl; exact rfl; exact rfl; exact eq_hit (c := false) (by simp [he]))
    | (apply s_ldrs TY; exact rfl; exact rfl; exact rfl; exact rfl; exact rfl; assumption; exact rfl)
    | (apply s_a TY; exact rfl)
    | (apply s_t; exact rfl; (first | assumption | omega))
    | apply w_seq
    | apply w_region
    | (apply w_draw (id := 6) 9 rfl (by kernel_rfl))
    | apply s_nil
    | apply t_norm
    | apply k_norm
    | apply w_block
    | apply w_skip
    | (apply w_condT; exact rfl; exact rfl)
    | (apply w_condF; exact rfl; exact rfl)
    | (apply s_c TY; exact rfl; (first | omega | exact ⟨by omega, by (first | with_reducible assumption | ((with_reducible apply hitsF_ne); omega) | assumption)⟩))
    | (apply s_z TY; exact rfl; (first | omega | exact ⟨by omega, by (first | with_reducible assumption | ((with_reducible apply hitsF_ne); omega) | assumption)⟩)))
        exact ⟨k + 1, ⟨by omega, by omega, fun i h0 hi => by
          by_cases e : i = k
          · subst e; rw [getD_eq hc, getD_eq (show i - 1 < s.length by omega)]; exact he
          · exact hd i h0 (by omega)⟩, by omega, gh_le ⟨le_upd rfl trivial (le_upd rfl rfl (le_nil _)), le_hupd rfl trivial (le_h0 _ _)⟩⟩
    · have hke : k = s.length := by omega
      have hk : (keepK s s.length) = s := by rw [keepK_take (Nat.le_refl _) (fun i h0 hi => hd i h0 (by omega)), List.take_length]
      rw [hk]
      repeat (first
    | (apply s_a TY; exact rfl)
    | (apply s_f; exact rfl; (first | assumption | omega))
    | apply w_seq
    | apply w_region
    | apply s_nil
    | apply t_norm
    | apply t_exit
    | apply k_hit
    | apply w_exit
    | apply w_ret
    | (apply w_condF; exact rfl; exact rfl))
      exact lvG_ret (gh_one 0 2 rfl rfl) (rg1 rfl (rv_tmp rfl))
theorem allH_succ {l : List Stm} {k : Nat} (hk : k < l.length) : allH (l.take (k + 1)) = allH (l.take k) ++ l[k].hits := by
  unfold allH; rw [List.take_succ_eq_append_getElem hk, List.flatMap_append]; simp
theorem allH_le {l : List Stm} {n : Nat} (h : ∀ i (hi : i < l.length), l[i].hits.length ≤ n) : ∀ k, k ≤ l.length → (allH (l.take k)).length ≤ k * n
  | 0, _ => by simp [allH]
  | k + 1, hk => by
    have := allH_le h k (by omega)
    have h2 := h k hk
    rw [allH_succ hk, List.length_append, Nat.add_mul]; omega
theorem merge_sorted (L : List Hit) : keepK (sortHits L) (sortHits L).length = mergeH L := keepK_merge (sortHits_weak L) (sortHits_perm L)
set_option maxRecDepth 100000 in
set_option maxHeartbeats 3200000 in
theorem mergedH_s (l : List Stm) (hl : l.length ≤ 10) (hn : ∀ i (hi : i < l.length), l[i].hits.length ≤ 50) : Summ Tryz.prog GG 62 [.sl l.length (stmsF l)] (.sl (mergeH (allH l)).length (hitsF (mergeH (allH l)))) := by
  have hall : (allH l).length ≤ 500 := by
    have := allH_le hn l.length (Nat.le_refl _)
    rw [List.take_length] at this
    have : l.length * 50 ≤ 10 * 50 := Nat.mul_le_mul_right _ hl
    omega
  have hso := sortHits_len (allH l)
  have HS := sortFuncH_s (allH l) (by omega)
  have HC := compact_g (sortHits (allH l)) (by omega)
  rw [merge_sorted] at HC
  refine summW Tryz.func62 rfl rfl 21 rfl (by simp) (fun M0 => ?_)
  repeat (first
    | (apply s_a TY; exact rfl)
    | apply w_seq
    | apply w_region
    | apply s_nil
    | apply t_norm
    | apply w_block)
  apply w_gh (gh_own 3 29 3 rfl rfl)
  apply w_loop (fun k : Nat => ⟨(Ab.upd (Ab.upd (Ab.upd (Ab.upd (fun _ => .bot) 3 (.ow 0)) 6 (.f (.sl l.length (stmsF l)))) 7 (.f (iv l.length))) 8 (.f (iv ((k : Nat) : Int)))), (Ab.upd (fun _ => none) 0 (some (.row 29 3 (allH (l.take k)).length (hitsF (allH (l.take k)))))), 1⟩) (fun k => k ≤ l.length) (fun k => l.length - k) 0 (Nat.zero_le _) (gh_le ⟨le_upd rfl trivial (le_upd rfl trivial (le_upd rfl trivial (le_upd rfl rfl (le_nil _)))), le_hupd rfl trivial (le_h0 _ _)⟩)
  intro k hk
  have hak : (allH (l.take k)).length ≤ 500 := by
    have := allH_le hn k hk
    have : k * 50 ≤ 10 * 50 := Nat.mul_le_mul_right _ (by omega)
    omega
  by_cases hc : k < l.length
  · have hlen : (hitsF l[k].hits).length = l[k].hits.length * 3 := hitsF_len _
    have hnk := hn k hc
    repeat (first
    | (apply s_append TY; exact rfl; exact rfl; exact rfl; exact rfl; exact rfl; exact rfl; exact rfl; exact rfl; exact hlen; (unfold maxLen; omega); omega)
    | (apply s_a TY; exact rfl)
    | (apply s_t; exact rfl; (first | assumption | omega))
    | apply w_seq
    | apply w_region
    | apply s_nil
    | apply t_norm
    | apply k_norm
    | apply w_block
    | apply w_skip
    | (apply w_condT; exact rfl; exact rfl)
    | (apply s_c TY; exact rfl; (first | omega | exact ⟨by omega, by (first | with_reducible assumption | ((with_reducible apply stmsF_ne); omega) | assumption)⟩))
    | (apply s_m TY; exact rfl; (first | with_reducible assumption | ((with_reducible apply stmsF_sub); omega) | exact rfl); exact rfl)
    | (apply s_alloc TY; exact rfl; exact rfl; exact rfl)
    | (apply s_store TY; exact rfl; exact rfl; exact rfl; exact rfl; exact rfl; exact rfl))
    exact ⟨k + 1, by omega, by omega, gh_le ⟨le_upd rfl trivial (le_upd rfl trivial (le_upd rfl trivial (le_upd rfl rfl (le_nil _)))), le_hupd (rowK2 (by rw [allH_succ hc, List.length_append]) (by rw [allH_succ hc, hitsF_app])) trivial (le_h0 _ _)⟩⟩
  · have hke : k = l.length := by omega
    subst hke
    rw [List.take_length]
    repeat (first
    | (apply s_a TY; exact rfl)
    | (apply s_f; exact rfl; (first | assumption | omega))
    | apply w_seq
    | apply w_region
    | apply s_nil
    | apply t_norm
    | apply t_exit
    | apply k_hit
    | apply w_exit
    | (apply w_condF; exact rfl; exact rfl))
    refine s_ghost rfl (gh_arr 0 (cs := hitsF (allH l)) rfl rfl) ?_
    repeat (first
    | (apply s_callG [0] HS; exact rfl; exact rfl; exact rfl; exact ⟨congrArg some (arr_ren _ _ _ _ _).symm, trivial⟩; exact rfl; exact ⟨rfl, rfl⟩)
    | (apply s_a TY; exact rfl)
    | apply w_seq
    | apply w_region
    | apply s_nil
    | apply t_norm)
    refine s_ghost rfl (gh_unarr 0 (e := 29) (sz := 3) (n := (allH l).length) (cs := hitsF (sortHits (allH l))) (congrArg some (arr_ren _ _ _ _ _))) ?_
    rw [← hso]
    repeat (first
    | (apply s_a TY; exact rfl)
    | apply s_nil
    | apply t_norm
    | apply w_ret
    | (apply s_callG [0] (HC); exact rfl; exact rfl; exact rfl; exact ⟨rfl, trivial⟩; exact rfl; (first | exact ⟨rfl, rfl⟩ | exact ⟨⟨rfl, rfl⟩, ⟨rfl, rfl⟩⟩ | exact ⟨⟨rfl, rfl⟩, ⟨rfl, rfl⟩, ⟨rfl, rfl⟩⟩)))
    exact lv_ret (ret_gh (gh_row 0 rfl) (ret1 rfl (res_tmp rfl)))
end Go.Proofs.YtdmdpkoapllkkaaGreat
namespace Go.Proofs.YtdmdpkoapllkkaaGreat
open Go Go.RowKit Go.Proofs Go.Shelf Go.Ab
def stmE (l : List Site) (x : Stm) : Int := firstE [(hitsChk l x.hits).2, unlessE (withinB x.mark 0 1000000000000) 2]
def stmsChk (l : List Site) (c : List Stm) : Nat × Int := if c.length = 0 then (0, 10) else if 6 < c.length then (0, 8) else eachE c.length fun i => stmE l (c.getD i default)
theorem stmE_ok {l : List Site} {x : Stm} : stmE l x = 0 ↔ (hitsChk l x.hits).2 = 0 ∧ 0 ≤ x.mark ∧ x.mark ≤ 1000000000000 := by
  unfold stmE
  by_cases h1 : (hitsChk l x.hits).2 = 0
  · by_cases h2 : 0 ≤ x.mark ∧ x.mark ≤ 1000000000000
    · simp [firstE, unlessE, withinB, h1, h2]
    · have : withinB x.mark 0 1000000000000 = false := by simp [withinB]; omega
      simp [firstE, unlessE, h1, this]; omega
  · simp [firstE, h1]
theorem stmsChk_ok {l : List Site} {c : List Stm} (h : (stmsChk l c).2 = 0) : 1 ≤ c.length ∧ c.length ≤ 6 ∧ ∀ i (hi : i < c.length), (hitsChk l c[i].hits).2 = 0 ∧ 0 ≤ c[i].mark ∧ c[i].mark ≤ 1000000000000 := by
  unfold stmsChk at h
  by_cases h1 : c.length = 0
  · rw [if_pos h1] at h; cases h
  · rw [if_neg h1] at h
    by_cases h2 : 6 < c.length
    · rw [if_pos h2] at h; cases h
    · rw [if_neg h2] at h
      refine ⟨by omega, by omega, fun i hi => ?_⟩
      have := eachE_ok0.1 h i hi
      rw [getD_at hi] at this
      exact stmE_ok.1 this
theorem stmsChk_of {l : List Site} {c : List Stm} (h1 : 1 ≤ c.length) (h2 : c.length ≤ 6) (h : ∀ i (hi : i < c.length), stmE l c[i] = 0) : stmsChk l c = (0, 0) := by
  unfold stmsChk
  rw [if_neg (by omega), if_neg (by omega)]
  exact eachE_fst (eachE_ok0.2 fun i hi => by rw [getD_at hi]; exact h i hi)
theorem HitsOk.mem {l : List Site} {h : List Hit} (o : HitsOk l h) {x : Hit} (hx : x ∈ h) : HitOk l x := by
  obtain ⟨i, hi, rfl⟩ := List.getElem_of_mem hx
  exact o.hit i hi
theorem hitsOk_asc {l : List Site} {h : List Hit} (h40 : h.length ≤ 40) (ha : Asc h) (hm : ∀ x, x ∈ h → HitOk l x) : HitsOk l h :=
  ⟨h40, fun i hi => hm _ (List.getElem_mem hi), fun i hi => List.pairwise_iff_getElem.1 ha i (i + 1) (by omega) hi (by omega)⟩
theorem mem_allH {c : List Stm} {x : Hit} : x ∈ allH c ↔ ∃ i, ∃ (hi : i < c.length), x ∈ c[i].hits := by
  unfold allH
  rw [List.mem_flatMap]
  constructor
  · rintro ⟨s, hs, hx⟩
    obtain ⟨i, hi, rfl⟩ := List.getElem_of_mem hs
    exact ⟨i, hi, hx⟩
  · rintro ⟨i, hi, hx⟩; exact ⟨_, List.getElem_mem hi, hx⟩
theorem merge_ok {l : List Site} {c : List Stm} (hl : ArrOk l) (h : (stmsChk l c).2 = 0) (h40 : (mergeH (allH c)).length ≤ 40) : HitsOk l (mergeH (allH c)) :=
  hitsOk_asc h40 (mergeH_asc _) fun x hx => by
    obtain ⟨i, hi, hxi⟩ := mem_allH.1 (mergeH_mem.1 hx)
    exact (hitsOk_of hl ((stmsChk_ok h).2.2 i hi).1).mem hxi
set_option maxRecDepth 100000 in
theorem streamsErr1_s (l : List Site) (i : Int) (x : Stm) (hx : x.hits.length ≤ 1000000) : Summ Tryz.prog GG 142 [iv i, .agg (stmF x), .pt [.sl l.length (sitesF l), .mp (mapS l l.length)] 0] (iv (stmE l x)) := by
  have HH := hitsErr_s l x.hits hx
  unfold stmE
  refine summW Tryz.func142 rfl rfl 22 rfl (by simp) (fun M0 => ?_)
  repeat (first
    | (apply s_a TY; exact rfl)
    | apply w_seq
    | apply w_region
    | apply s_nil
    | apply t_norm
    | apply w_ret
    | (apply s_k (HH); exact rfl)
    | (apply s_k (first2_s _ _); exact rfl)
    | (apply s_k (unless_s _ _); exact rfl)
    | (apply s_k (isTick_s _); exact rfl))
  exact lv_ret (ret1 rfl (res_tmp rfl))
set_option maxRecDepth 100000 in
theorem streamsErr_s (l : List Site) (c : List Stm) (hn : c.length ≤ 1000000) (hh : ∀ i (hi : i < c.length), c[i].hits.length ≤ 1000000) : Summ Tryz.prog GG 103 [arrayV l, .sl c.length (stmsF c)] (.tup [iv (stmsChk l c).1, iv (stmsChk l c).2]) := by
  by_cases h0 : c.length = 0
  · rw [show stmsChk l c = (0, 10) by unfold stmsChk; rw [if_pos h0]]
    refine summW Tryz.func103 rfl rfl 25 rfl (by simp) (fun M0 => ?_)
    repeat (first
    | (apply s_a TY; exact rfl)
    | (apply s_t; exact rfl; (first | assumption | omega))
    | (apply s_f; exact rfl; (first | assumption | omega))
    | apply w_seq
    | apply w_region
    | apply s_nil
    | apply t_norm
    | apply t_ret
    | apply w_ret
    | (apply w_condT; exact rfl; exact rfl)
    | (apply s_k1 (first2_0 _ _); exact rfl; (first | assumption | omega | decide))
    | (apply s_k (unless_T _); exact rfl)
    | (apply s_k (unless_F _); exact rfl))
    exact lv_ret (ret2 rfl (res_tmp rfl) (res_tmp rfl))
  · by_cases h6 : 6 < c.length
    · rw [show stmsChk l c = (0, 8) by unfold stmsChk; rw [if_neg h0, if_pos h6]]
      refine summW Tryz.func103 rfl rfl 25 rfl (by simp) (fun M0 => ?_)
      repeat (first
    | (apply s_a TY; exact rfl)
    | (apply s_t; exact rfl; (first | assumption | omega))
    | (apply s_f; exact rfl; (first | assumption | omega))
    | apply w_seq
    | apply w_region
    | apply s_nil
    | apply t_norm
    | apply t_ret
    | apply w_ret
    | (apply w_condT; exact rfl; exact rfl)
    | (apply s_k1 (first2_1 _ _); exact rfl; (first | assumption | omega | decide))
    | (apply s_k (unless_T _); exact rfl)
    | (apply s_k (unless_F _); exact rfl))
      exact lv_ret (ret2 rfl (res_tmp rfl) (res_tmp rfl))
    · rw [show stmsChk l c = eachE c.length fun i => stmE l (c.getD i default) by unfold stmsChk; rw [if_neg h0, if_neg h6]]
      have HE := eachStm_s c 142 [.pt [.sl l.length (sitesF l), .mp (mapS l l.length)] 0] (fun i => stmE l (c.getD i default)) hn (fun i hi => by rw [getD_at hi]; exact streamsErr1_s l _ _ (hh i hi))
      refine summW Tryz.func103 rfl rfl 25 rfl (by simp) (fun M0 => ?_)
      repeat (first
    | (apply s_a TY; exact rfl)
    | (apply s_makefn; exact rfl; exact rfl)
    | (apply s_t; exact rfl; (first | assumption | omega))
    | apply w_seq
    | apply w_region
    | apply s_nil
    | apply t_norm
    | apply w_ret
    | apply w_skip
    | (apply w_condF; exact rfl; exact rfl)
    | (apply s_k (HE); exact rfl)
    | (apply s_k1 (first2_1 _ _); exact rfl; (first | assumption | omega | decide))
    | (apply s_k (unless_T _); exact rfl))
      exact lv_ret (ret2 rfl (res_tmp rfl) (res_tmp rfl))
set_option maxRecDepth 100000 in
theorem CheckStreams_ok (l : List Site) (c : List Stm) (hl : l.length ≤ 1000000) (hn : c.length ≤ 1000000) (hh : ∀ i (hi : i < c.length), c[i].hits.length ≤ 1000000) (h1 : (arrChk l).2 = 0) : Summ Tryz.prog GG 39 [arrF l, .sl c.length (stmsF c)] (.tup [iv (stmsChk l c).1, iv (stmsChk l c).2]) := by
  have HH := streamsErr_s l c hn hh
  refine summW Tryz.func39 rfl rfl 23 rfl (by simp) (fun M0 => ?_)
  repeat (first
    | (apply s_a TY; exact rfl)
    | (apply s_t; exact rfl; (first | assumption | omega))
    | apply w_seq
    | apply w_region
    | apply s_nil
    | apply t_norm
    | apply w_ret
    | apply w_skip
    | (apply w_condF; exact rfl; exact rfl)
    | (apply s_k (HH); exact rfl)
    | (apply s_k2 (openArray_ok _); exact rfl; (first | assumption | omega | decide); (first | assumption | omega | decide))
    | (apply s_alloc TY; exact rfl; exact rfl; exact rfl)
    | (apply s_store TY; exact rfl; exact rfl; exact rfl; exact rfl; exact rfl; exact rfl))
  exact lv_ret (ret2 rfl (res_tmp rfl) (res_tmp rfl))
theorem stms_hits {l : List Site} {c : List Stm} (h1 : (arrChk l).2 = 0) (h2 : (stmsChk l c).2 = 0) : ∀ i (hi : i < c.length), c[i].hits.length ≤ 50 := fun i hi => by
  have := (hitsOk_of (arrOk_of h1) ((stmsChk_ok h2).2.2 i hi).1).len
  omega
set_option maxRecDepth 100000 in
theorem Merged_ok (l : List Site) (c : List Stm) (hl : l.length ≤ 1000000) (h1 : (arrChk l).2 = 0) (h2 : (stmsChk l c).2 = 0) (h40 : (mergeH (allH c)).length ≤ 40) : Summ Tryz.prog GG 18 [arrF l, .sl c.length (stmsF c)] (.tup [.sl (mergeH (allH c)).length (hitsF (mergeH (allH c))), iv 0]) := by
  have hc := stmsChk_ok h2
  have hh := stms_hits h1 h2
  have HC := CheckStreams_ok l c hl (by omega) (fun i hi => by have := hh i hi; omega) h1
  have HM := mergedH_s c (by omega) hh
  refine summW Tryz.func18 rfl rfl 24 rfl (by simp) (fun M0 => ?_)
  repeat (first
    | (apply s_a TY; exact rfl)
    | (apply s_t; exact rfl; (first | assumption | omega))
    | (apply s_f; exact rfl; (first | assumption | omega))
    | apply w_seq
    | apply w_region
    | apply s_nil
    | apply t_norm
    | apply w_ret
    | apply w_skip
    | (apply w_condF; exact rfl; exact rfl)
    | (apply s_k (HC); exact rfl)
    | (apply s_k (HM); exact rfl))
  exact lv_ret (ret2 rfl (res_tmp rfl) (res_tmp rfl))
def stP (l : List Hit) (fs : List Fire) (o : List Hit) (al : List Fire) (i j : Nat) : Prop := o.getD (al.getD j default).hit.toNat default = l.getD (fs.getD i default).hit.toNat default ∧ (al.getD j default).lo = (fs.getD i default).lo ∧ (al.getD j default).hi ≤ (fs.getD i default).hi
end Go.Proofs.YtdmdpkoapllkkaaGreat
namespace Go.Proofs.YtdmdpkoapllkkaaGreat
open Go Go.RowKit Go.Proofs Go.Shelf Go.Ab
set_option maxRecDepth 100000 in
theorem idxdelE_s (l : List Ev) (g : Nat) (caps : List FV) (p : Nat → Bool) (hl : l.length ≤ 1000000) (hg : ∀ i (hi : i < l.length), Summ Tryz.prog GG g ([.agg (evF l[i])] ++ caps) (bv (p i))) : Summ Tryz.prog GG 132 [.sl l.length (evsF l), .fn g caps] (iv (idxP l.length p)) := by
  refine summW Tryz.func132 rfl rfl 19 rfl (by simp) (fun M0 => ?_)
  repeat (first
    | (apply s_a TY; exact rfl)
    | apply w_seq
    | apply w_region
    | apply s_nil
    | apply t_norm
    | apply w_block)
  apply w_loop (fun k : Nat => ⟨(Ab.upd (Ab.upd (Ab.upd (Ab.upd (fun _ => .bot) 0 (.f (.sl l.length (evsF l)))) 1 (.f (.fn g caps))) 7 (.f (iv l.length))) 8 (.f (iv (k : Nat)))), (fun _ => none), 0⟩) (fun k => k ≤ l.length ∧ ∀ i, i < k → p i = false) (fun k => l.length - k) 0 (⟨Nat.zero_le _, fun j h => absurd h (Nat.not_lt_zero j)⟩) (gh_le ⟨le_upd rfl trivial (le_upd rfl trivial (le_upd rfl trivial (le_upd rfl trivial (le_nil _)))), le_h0 _ _⟩)
  intro k ⟨hk, hz⟩
  by_cases hc : k < l.length
  · have Hc := hg k hc
    cases hp : p k with
    | true =>
      rw [hp] at Hc
      rw [idxP_at hc hz hp]
      repeat (first
    | (apply s_a TY; exact rfl)
    | (apply s_t; exact rfl; (first | assumption | omega))
    | apply w_seq
    | apply w_region
    | apply s_nil
    | apply t_norm
    | apply t_ret
    | apply k_ret
    | apply w_block
    | apply w_ret
    | apply w_skip
    | (apply w_condT; exact rfl; exact rfl)
    | (apply s_k (Hc); exact rfl)
    | (apply s_c TY; exact rfl; (first | omega | exact ⟨by omega, by (first | with_reducible assumption | ((with_reducible apply evsF_ne); omega) | assumption)⟩))
    | (apply s_m TY; exact rfl; (first | with_reducible assumption | ((with_reducible apply evsF_sub); omega) | exact rfl); exact rfl))
      exact lv_ret (ret1 rfl (res_tmp rfl))
    | false =>
      rw [hp] at Hc
      repeat (first
    | (apply s_a TY; exact rfl)
    | (apply s_t; exact rfl; (first | assumption | omega))
    | apply w_seq
    | apply w_region
    | apply s_nil
    | apply t_norm
    | apply k_norm
    | apply w_block
    | apply w_skip
    | (apply w_condT; exact rfl; exact rfl)
    | (apply w_condF; exact rfl; exact rfl)
    | (apply s_k (Hc); exact rfl)
    | (apply s_c TY; exact rfl; (first | omega | exact ⟨by omega, by (first | with_reducible assumption | ((with_reducible apply evsF_ne); omega) | assumption)⟩))
    | (apply s_m TY; exact rfl; (first | with_reducible assumption | ((with_reducible apply evsF_sub); omega) | exact rfl); exact rfl))
      exact ⟨k + 1, ⟨by omega, fun i hi => by
        by_cases e : i = k
        · subst e; exact hp
        · exact hz i (by omega)⟩, by omega, gh_le ⟨le_upd rfl trivial (le_upd rfl trivial (le_upd rfl trivial (le_upd rfl trivial (le_nil _)))), le_h0 _ _⟩⟩
  · rw [idxP_no fun i hi => hz i (by omega)]
    repeat (first
    | (apply s_a TY; exact rfl)
    | (apply s_f; exact rfl; (first | assumption | omega))
    | apply w_seq
    | apply w_region
    | apply s_nil
    | apply t_norm
    | apply t_exit
    | apply k_hit
    | apply w_exit
    | apply w_ret
    | (apply w_condF; exact rfl; exact rfl))
    exact lv_ret (ret1 rfl (res_tmp rfl))
theorem delE_sub (K l : List Ev) (i : Nat) (hn : K.length ≤ i) (hi : i < l.length) : ((evsF (K ++ l.drop K.length)).drop (i * 3)).take 3 = evF l[i] := by
  have hl : i < (K ++ l.drop K.length).length := by rw [List.length_append, List.length_drop]; omega
  rw [evsF_sub hl]
  congr 1
  rw [List.getElem_append_right hn, List.getElem_drop]
  congr 1; omega
theorem delE_len (K l : List Ev) (hn : K.length ≤ l.length) : (evsF (K ++ l.drop K.length)).length = l.length * 3 := by
  rw [evsF_len, List.length_append, List.length_drop]; congr 1; omega
theorem delE_set (pre post : List Ev) (y x : Ev) : setAt (evsF (pre ++ y :: post)) (pre.length * 3) (evF x) = evsF (pre ++ x :: post) := by
  rw [evsF_app, evsF_app, show evsF (y :: post) = evF y ++ evsF post from rfl, show evsF (x :: post) = evF x ++ evsF post from rfl]
  rw [← evsF_len pre, ← List.append_assoc, ← List.append_assoc]
  exact setAt_mid (evF x) (evF y) _ _ rfl
theorem delE_store (K l : List Ev) (x : Ev) (hm : K.length < l.length) : setAt (evsF (K ++ l.drop K.length)) (K.length * 3) (evF x) = evsF (K ++ [x] ++ l.drop (K ++ [x]).length) := by
  rw [List.drop_eq_getElem_cons hm, delE_set, List.length_append, List.length_singleton, List.append_assoc]; rfl
theorem delE_row {n m : Nat} {cs cs' : List FV} (hn : n = m) (h : cs = cs') : some (Blk.row 67 3 n cs) = some (Blk.row 67 3 m cs') := by rw [h, hn]
set_option maxRecDepth 100000 in
set_option maxHeartbeats 3200000 in
theorem delE_g (l : List Ev) (g : Nat) (caps : List FV) (q : Ev → Bool) (h60 : l.length ≤ 1000000) (hg : ∀ i (hi : i < l.length), Summ Tryz.prog GG g ([.agg (evF l[i])] ++ caps) (bv (q l[i]))) : SummG Tryz.prog GG 111 [.row 67 3 l.length (evsF l)] [.ow 0, .f (.fn g caps)] (.ow 0) [.row 67 3 (l.filter (fun x => !q x)).length (evsF (l.filter (fun x => !q x)))] := by
  have hsl := evsF_len l
  have HI := idxdelE_s l g caps (fun i => q (l.getD i default)) h60 (fun i hi => by rw [getD_at hi]; exact hg i hi)
  rcases idxP_cases l.length (fun i => q (l.getD i default)) with ⟨hi, hz⟩ | ⟨k, hk, hz, hp, hi⟩
  · have hfe : (l.filter (fun x => !q x)) = l := List.filter_eq_self.2 fun x hx => by
      obtain ⟨i, hi, rfl⟩ := List.getElem_of_mem hx
      have := hz i hi
      rw [getD_at hi] at this
      rw [this]; rfl
    rw [hi] at HI
    rw [hfe]
    refine summG_of Tryz.func111 rfl rfl 42 rfl (by simp) (by simp) (fun i B B' h1 h2 => by
        match i, h1, h2 with
    | 0, h1, h2 => cases h1; cases h2; rfl
    | _ + 1, h1, _ => simp at h1) (fun M X J => ?_)
    repeat (first
    | (apply s_callR 0 (.tmp 8) HI; exact rfl; exact rfl; exact rfl; simp; exact rfl; exact rfl; exact rfl; exact rfl)
    | (apply s_a TY; exact rfl)
    | (apply s_t; exact rfl; (first | assumption | omega))
    | apply w_seq
    | apply w_region
    | apply s_nil
    | apply t_norm
    | apply t_ret
    | apply w_ret
    | (apply w_condT; exact rfl; exact rfl))
    exact lvG_ret (gh_one 0 4 rfl rfl) (rg1 rfl (rv_tmp rfl))
  · rw [hi] at HI
    simp only [getD_at hk] at hp
    have hz2 : ∀ i, i < k → q (l.getD i default) = false := hz
    have hfk : (l.take k).filter (fun x => !q x) = l.take k := List.filter_eq_self.2 fun x hx => by
      obtain ⟨i, hi, rfl⟩ := List.getElem_of_mem hx
      have hik : i < k := by rw [List.length_take] at hi; omega
      have := hz2 i hik
      rw [getD_at (show i < l.length by omega)] at this
      rw [List.getElem_take, this]; rfl
    have hk1 : (l.take (k + 1)).filter (fun x => !q x) = l.take k := by
      rw [List.take_succ_eq_append_getElem hk, List.filter_append, hfk, List.filter_cons_of_neg (by simp [hp])]; simp
    have hkl : ((l.take (k + 1)).filter (fun x => !q x)).length = k := by rw [hk1, List.length_take]; omega
    refine summG_of Tryz.func111 rfl rfl 42 rfl (by simp) (by simp) (fun i B B' h1 h2 => by
        match i, h1, h2 with
    | 0, h1, h2 => cases h1; cases h2; rfl
    | _ + 1, h1, _ => simp at h1) (fun M X J => ?_)
    repeat (first
    | (apply s_callR 0 (.tmp 8) HI; exact rfl; exact rfl; exact rfl; simp; exact rfl; exact rfl; exact rfl; exact rfl)
    | (apply s_a TY; exact rfl)
    | (apply s_f; exact rfl; (first | assumption | omega))
    | apply w_seq
    | apply w_region
    | apply s_nil
    | apply t_norm
    | apply w_block
    | apply w_skip
    | (apply w_condF; exact rfl; exact rfl)
    | (apply s_c TY; exact rfl; (first | omega | exact ⟨by omega, by (first | with_reducible assumption | ((with_reducible apply evsF_ne); omega) | assumption)⟩)))
    apply w_loop (fun j : Nat => ⟨(Ab.upd (Ab.upd (Ab.upd (Ab.upd (fun _ => .bot) 0 (.ow 0)) 1 (.f (.fn g caps))) 5 (.f (iv ((((l.take j).filter (fun x => !q x)).length : Nat) : Int)))) 6 (.f (iv ((j : Nat) : Int)))), (Ab.upd (fun _ => none) 0 (some (.row 67 3 l.length (evsF (((l.take j).filter (fun x => !q x)) ++ l.drop ((l.take j).filter (fun x => !q x)).length))))), 1⟩) (fun j => k + 1 ≤ j ∧ j ≤ l.length ∧ ((l.take j).filter (fun x => !q x)).length + 1 ≤ j) (fun j => l.length - j) (k + 1) (⟨Nat.le_refl _, by omega, by omega⟩) (gh_le ⟨le_upd rfl trivial (le_upd (by rw [hkl]; rfl) trivial (le_upd rfl trivial (le_upd rfl rfl (le_nil _)))), le_hupd (delE_row rfl (by rw [hkl, hk1, List.take_append_drop])) trivial (le_h0 _ _)⟩)
    intro j ⟨hj1, hj, hm⟩
    by_cases hjc : j < l.length
    · have f1 : ((evsF (((l.take j).filter (fun x => !q x)) ++ l.drop ((l.take j).filter (fun x => !q x)).length)).drop (((j : Nat) : Int).toNat * 3)).take 3 = evF l[j] := by
        rw [show ((j : Nat) : Int).toNat = j by omega]; exact delE_sub ((l.take j).filter (fun x => !q x)) l j (by omega) hjc
      have Hc := hg j hjc
      have hsuc : (l.take (j + 1)).filter (fun x => !q x) = ((l.take j).filter (fun x => !q x)) ++ (if q l[j] = true then [] else [l[j]]) := by
        rw [List.take_succ_eq_append_getElem hjc, List.filter_append]
        congr 1
        by_cases h : q l[j] = true
        · rw [if_pos h, List.filter_cons_of_neg (by simp [h])]; rfl
        · rw [if_neg h, List.filter_cons_of_pos (by simpa using h)]; rfl
      cases hq : q l[j] with
      | true =>
        rw [hq] at Hc
        rw [hq, if_pos rfl, List.append_nil] at hsuc
        repeat (first
    | (apply s_ldrs TY; exact rfl; exact rfl; exact rfl; exact rfl; exact rfl; exact f1; exact rfl)
    | (apply s_a TY; exact rfl)
    | (apply s_t; exact rfl; (first | assumption | omega))
    | apply w_seq
    | apply w_region
    | apply s_nil
    | apply t_norm
    | apply k_norm
    | apply w_block
    | apply w_skip
    | (apply w_condT; exact rfl; exact rfl)
    | (apply w_condF; exact rfl; exact rfl)
    | (apply s_k (Hc); exact rfl)
    | (apply s_c TY; exact rfl; (first | omega | exact ⟨by omega, by (first | with_reducible assumption | ((with_reducible apply evsF_ne); omega) | assumption)⟩))
    | (apply s_alloc TY; exact rfl; exact rfl; exact rfl)
    | (apply s_store TY; exact rfl; exact rfl; exact rfl; exact rfl; exact rfl; exact rfl))
        exact ⟨j + 1, ⟨by omega, by omega, by rw [hsuc]; omega⟩, by omega, gh_le ⟨le_upd rfl trivial (le_upd (by rw [hsuc]; rfl) trivial (le_upd rfl trivial (le_upd rfl rfl (le_nil _)))), le_hupd (delE_row rfl (by rw [hsuc])) trivial (le_h0 _ _)⟩⟩
      | false =>
        rw [hq] at Hc
        rw [hq, if_neg (by decide)] at hsuc
        have hX := delE_len ((l.take j).filter (fun x => !q x)) l (by omega)
        have hst : ((((l.take j).filter (fun x => !q x)).length : Nat) : Int).toNat * 3 + (evF l[j]).length ≤ (evsF (((l.take j).filter (fun x => !q x)) ++ l.drop ((l.take j).filter (fun x => !q x)).length)).length := by rw [hX]; show _ + 3 ≤ _; omega
        have hset := delE_store ((l.take j).filter (fun x => !q x)) l l[j] (by omega)
        rw [← hsuc] at hset
        have hsl2 : ((l.take (j + 1)).filter (fun x => !q x)).length = ((l.take j).filter (fun x => !q x)).length + 1 := by rw [hsuc, List.length_append]; rfl
        repeat (first
    | (apply s_ldrs TY; exact rfl; exact rfl; exact rfl; exact rfl; exact rfl; exact f1; exact rfl)
    | (apply s_storeR TY; exact rfl; exact rfl; exact rfl; exact rfl; exact rfl; exact hst)
    | (apply s_a TY; exact rfl)
    | (apply s_t; exact rfl; (first | assumption | omega))
    | apply w_seq
    | apply w_region
    | apply s_nil
    | apply t_norm
    | apply k_norm
    | apply w_block
    | apply w_skip
    | (apply w_condT; exact rfl; exact rfl)
    | (apply s_k (Hc); exact rfl)
    | (apply s_c TY; exact rfl; (first | omega | exact ⟨by omega, by (first | with_reducible assumption | ((with_reducible apply evsF_ne); omega) | assumption)⟩))
    | (apply s_alloc TY; exact rfl; exact rfl; exact rfl)
    | (apply s_store TY; exact rfl; exact rfl; exact rfl; exact rfl; exact rfl; exact rfl))
        exact ⟨j + 1, ⟨by omega, by omega, by omega⟩, by omega, gh_le ⟨le_upd rfl trivial (le_upd (by rw [hsl2]; rfl) trivial (le_upd rfl trivial (le_upd rfl rfl (le_nil _)))), le_hupd (delE_row rfl hset) trivial (le_h0 _ _)⟩⟩
    · have hje : j = l.length := by omega
      subst hje
      have hX := delE_len ((l.take l.length).filter (fun x => !q x)) l (by omega)
      repeat (first
    | (apply s_slice_ow TY; exact rfl; exact rfl; exact rfl; exact rfl; exact rfl; omega; omega)
    | (apply s_clear_sv TY; exact rfl; exact rfl; exact rfl; exact rfl; exact rfl; (show _ + _ * 3 ≤ _; omega))
    | (apply s_slice_head TY; exact rfl; exact rfl; exact rfl; exact rfl; exact rfl; omega; omega; omega; exact rfl)
    | (apply s_a TY; exact rfl)
    | (apply s_f; exact rfl; (first | assumption | omega))
    | apply w_seq
    | apply w_region
    | apply s_nil
    | apply t_norm
    | apply t_exit
    | apply k_hit
    | apply w_exit
    | apply w_ret
    | (apply w_condF; exact rfl; exact rfl))
      exact lvG_ret (gh_one 0 4 rfl (delE_row (by rw [List.take_length]; omega) (by rw [take_setAt_ge _ _ _ _ (Nat.le_refl _), show (((((l.take l.length).filter (fun x => !q x)).length : Nat) : Int)).toNat = ((l.take l.length).filter (fun x => !q x)).length by omega, evsF_take, List.take_left, List.take_length]))) (rg1 rfl (rv_tmp rfl))
end Go.Proofs.YtdmdpkoapllkkaaGreat
namespace Go.Proofs.YtdmdpkoapllkkaaGreat
open Go Go.RowKit Go.Proofs Go.Shelf Go.Ab
def minMk (l : List Stm) : Nat → Int
  | 0 => (l.getD 0 default).mark
  | k + 1 => min (minMk l k) (l.getD k default).mark
def maxLn (s : Setup) : Nat → Int
  | 0 => 0
  | k + 1 => max (maxLn s k) (lenR (s.rules.getD k default))
def settledT (s : Setup) (l : List Stm) : Int := minMk l l.length - maxLn s s.rules.length - s.before
theorem lenR_le {r : Rule} (hr : ruleErr r = 0) : 0 ≤ lenR r ∧ lenR r ≤ 39000000 := by
  refine ⟨lenR_pos hr, ?_⟩
  obtain ⟨_, h1, h2, _, _⟩ := ruleOk_of hr
  unfold lenR
  split
  · have : r.window * (r.count - 1) ≤ 1000000 * 39 := Int.mul_le_mul (by omega) (by omega) (by omega) (by omega)
    omega
  · omega
theorem minMk_bd {l : List Stm} (h0 : 1 ≤ l.length) (h : ∀ i (hi : i < l.length), 0 ≤ l[i].mark ∧ l[i].mark ≤ 1000000000000) : ∀ k, k ≤ l.length → 0 ≤ minMk l k ∧ minMk l k ≤ 1000000000000
  | 0, _ => by
    have := h 0 h0
    unfold minMk; rw [getD_at h0]; exact this
  | k + 1, hk => by
    have a := minMk_bd h0 h k (by omega)
    have b := h k hk
    unfold minMk; rw [getD_at hk]; omega
theorem minMk_le {l : List Stm} : ∀ {k i : Nat}, i < k → minMk l k ≤ (l.getD i default).mark
  | k + 1, i, h => by
    unfold minMk
    by_cases e : i = k
    · subst e; omega
    · have := minMk_le (l := l) (k := k) (i := i) (by omega); omega
theorem maxLn_bd {s : Setup} (hs : SetOk s) : ∀ k, k ≤ s.rules.length → 0 ≤ maxLn s k ∧ maxLn s k ≤ 39000000
  | 0, _ => by unfold maxLn; omega
  | k + 1, hk => by
    have a := maxLn_bd hs k (by omega)
    have b := lenR_le (hs.rule k hk)
    unfold maxLn; rw [getD_at hk]; omega
theorem maxLn_ge {s : Setup} : ∀ {k i : Nat}, i < k → lenR (s.rules.getD i default) ≤ maxLn s k
  | k + 1, i, h => by
    unfold maxLn
    by_cases e : i = k
    · subst e; omega
    · have := maxLn_ge (s := s) (k := k) (i := i) (by omega); omega
theorem length_s (r : Rule) (hr : ruleErr r = 0) : Summ Tryz.prog GG 143 [.agg (ruleF r)] (iv (lenR r)) := by
  have hb := lenR_le hr
  obtain ⟨_, h1, h2, _, _⟩ := ruleOk_of hr
  unfold lenR at hb ⊢
  by_cases h3 : r.kind = 3
  · rw [if_pos h3] at hb ⊢
    refine summW Tryz.func143 rfl rfl 14 rfl (by simp) (fun M0 => ?_)
    repeat (first
    | (apply s_a TY; exact rfl)
    | (apply s_t; exact rfl; (first | assumption | omega))
    | apply w_seq
    | apply w_region
    | apply s_nil
    | apply t_norm
    | apply t_ret
    | apply w_ret
    | (apply w_condT; exact rfl; exact rfl)
    | (apply s_c TY; exact rfl; omega))
    exact lv_ret (ret1 rfl (res_tmp rfl))
  · rw [if_neg h3] at hb ⊢
    refine summW Tryz.func143 rfl rfl 14 rfl (by simp) (fun M0 => ?_)
    repeat (first
    | (apply s_a TY; exact rfl)
    | (apply s_f; exact rfl; (first | assumption | omega))
    | apply w_seq
    | apply w_region
    | apply s_nil
    | apply t_norm
    | apply w_ret
    | apply w_skip
    | (apply w_condF; exact rfl; exact rfl))
    exact lv_ret (ret1 rfl (res_tmp rfl))
set_option maxRecDepth 100000 in
set_option maxHeartbeats 1600000 in
theorem settled_s (l : List Site) (s : Setup) (c : List Stm) (hs : SetOk s) (h0 : 1 ≤ c.length) (h6 : c.length ≤ 6) (hm : ∀ i (hi : i < c.length), 0 ≤ c[i].mark ∧ c[i].mark ≤ 1000000000000) : Summ Tryz.prog GG 105 [readoutV l s, .sl c.length (stmsF c)] (iv (settledT s c)) := by
  have hmin := minMk_bd h0 hm
  have hmax := maxLn_bd hs
  have hbe := hs.before
  have hrl := hs.len
  have hg0 : c.getD 0 default = c[0] := getD_at h0
  have hne : stmsF c ≠ [] := stmsF_ne (k := 0) h0
  have hm0 := hm 0 h0
  have e0 : minMk c 0 = c[0].mark := by unfold minMk; rw [hg0]
  have hf1 : (stmsF c)[0 * 2 + 1]? = some (iv c[0].mark) := stmsF_f1 h0
  unfold settledT
  refine summW Tryz.func105 rfl rfl 46 rfl (by simp) (fun M0 => ?_)
  repeat (first
    | (apply s_a TY; exact rfl)
    | apply w_seq
    | apply w_region
    | apply s_nil
    | apply t_norm
    | apply w_block
    | (apply s_z TY; exact rfl; (first | omega | exact ⟨by omega, by (first | with_reducible assumption | ((with_reducible apply stmsF_ne); omega) | ((with_reducible apply rulesF_ne); omega) | assumption)⟩))
    | (apply s_l TY; exact rfl; (first | exact rfl | with_reducible assumption | ((with_reducible apply stmsF_f0); omega) | ((with_reducible apply stmsF_f1); omega) | ((with_reducible apply rulesF_f0); omega) | ((with_reducible apply rulesF_f1); omega) | ((with_reducible apply rulesF_f2); omega) | ((with_reducible apply rulesF_f3); omega) | ((with_reducible apply rulesF_f4); omega) | assumption)))
  apply w_loop (fun k : Nat => ⟨(Ab.upd (Ab.upd (Ab.upd (Ab.upd (Ab.upd (Ab.upd (fun _ => .bot) 2 (.f (.pt ([.sl l.length (sitesF l), .mp (mapS l l.length)] ++ setL s) 0))) 5 (.f (iv (minMk c k)))) 6 (.f (iv 0))) 15 (.f (.sl c.length (stmsF c)))) 16 (.f (iv c.length))) 17 (.f (iv ((k : Nat) : Int)))), (fun _ => none), 0⟩) (fun k => k ≤ c.length) (fun k => c.length - k) 0 (Nat.zero_le _) (gh_le ⟨le_upd rfl trivial (le_upd rfl trivial (le_upd rfl trivial (le_upd rfl trivial (le_upd (by rw [e0]; rfl) trivial (le_upd rfl trivial (le_nil _)))))), le_h0 _ _⟩)
  intro k hk
  have hmk := hmin k hk
  by_cases hc : k < c.length
  · have hmc := hm k hc
    have e1 : minMk c (k + 1) = min (minMk c k) c[k].mark := by rw [← getD_at hc]; rfl
    repeat (first
    | (apply s_a TY; exact rfl)
    | (apply s_t; exact rfl; (first | assumption | omega))
    | apply w_seq
    | apply w_region
    | apply s_nil
    | apply t_norm
    | apply k_norm
    | apply w_block
    | apply w_skip
    | (apply w_condT; exact rfl; exact rfl)
    | (apply s_c TY; exact rfl; (first | omega | exact ⟨by omega, by (first | with_reducible assumption | ((with_reducible apply stmsF_ne); omega) | ((with_reducible apply rulesF_ne); omega) | assumption)⟩))
    | (apply s_m TY; exact rfl; (first | with_reducible assumption | ((with_reducible apply stmsF_sub); omega) | ((with_reducible apply rulesF_sub); omega) | exact rfl); exact rfl)
    | (apply s_alloc TY; exact rfl; exact rfl; exact rfl)
    | (apply s_store TY; exact rfl; exact rfl; exact rfl; exact rfl; exact rfl; exact rfl))
    exact ⟨k + 1, by omega, by omega, gh_le ⟨le_upd rfl trivial (le_upd rfl trivial (le_upd rfl trivial (le_upd rfl trivial (le_upd (by rw [e1]; rfl) trivial (le_upd rfl trivial (le_nil _)))))), le_h0 _ _⟩⟩
  · have hke : k = c.length := by omega
    subst hke
    repeat (first
    | (apply s_a TY; exact rfl)
    | (apply s_f; exact rfl; (first | assumption | omega))
    | apply w_seq
    | apply w_region
    | apply s_nil
    | apply t_norm
    | apply t_exit
    | apply k_hit
    | apply w_block
    | apply w_exit
    | (apply w_condF; exact rfl; exact rfl))
    apply w_loop (fun k : Nat => ⟨(Ab.upd (Ab.upd (Ab.upd (Ab.upd (Ab.upd (Ab.upd (fun _ => .bot) 2 (.f (.pt ([.sl l.length (sitesF l), .mp (mapS l l.length)] ++ setL s) 0))) 5 (.f (iv (minMk c c.length)))) 6 (.f (iv (maxLn s k)))) 28 (.f (.sl s.rules.length (rulesF s.rules)))) 29 (.f (iv s.rules.length))) 30 (.f (iv ((k : Nat) : Int)))), (fun _ => none), 0⟩) (fun k => k ≤ s.rules.length) (fun k => s.rules.length - k) 0 (Nat.zero_le _) (gh_le ⟨le_upd rfl trivial (le_upd rfl trivial (le_upd rfl trivial (le_upd rfl trivial (le_upd rfl trivial (le_upd rfl trivial (le_nil _)))))), le_h0 _ _⟩)
    intro k hk
    have hxk := hmax k hk
    by_cases hc : k < s.rules.length
    · have HL := length_s s.rules[k] (hs.rule k hc)
      have hxl := lenR_le (hs.rule k hc)
      have e1 : maxLn s (k + 1) = max (maxLn s k) (lenR s.rules[k]) := by rw [← getD_at hc]; rfl
      repeat (first
    | (apply s_a TY; exact rfl)
    | (apply s_t; exact rfl; (first | assumption | omega))
    | apply w_seq
    | apply w_region
    | apply s_nil
    | apply t_norm
    | apply k_norm
    | apply w_block
    | apply w_skip
    | (apply w_condT; exact rfl; exact rfl)
    | (apply s_k (HL); exact rfl)
    | (apply s_c TY; exact rfl; (first | omega | exact ⟨by omega, by (first | with_reducible assumption | ((with_reducible apply stmsF_ne); omega) | ((with_reducible apply rulesF_ne); omega) | assumption)⟩))
    | (apply s_m TY; exact rfl; (first | with_reducible assumption | ((with_reducible apply stmsF_sub); omega) | ((with_reducible apply rulesF_sub); omega) | exact rfl); exact rfl)
    | (apply s_alloc TY; exact rfl; exact rfl; exact rfl)
    | (apply s_store TY; exact rfl; exact rfl; exact rfl; exact rfl; exact rfl; exact rfl))
      exact ⟨k + 1, by omega, by omega, gh_le ⟨le_upd rfl trivial (le_upd rfl trivial (le_upd rfl trivial (le_upd (by rw [e1]; rfl) trivial (le_upd rfl trivial (le_upd rfl trivial (le_nil _)))))), le_h0 _ _⟩⟩
    · have hke : k = s.rules.length := by omega
      subst hke
      repeat (first
    | (apply s_a TY; exact rfl)
    | (apply s_f; exact rfl; (first | assumption | omega))
    | apply w_seq
    | apply w_region
    | apply s_nil
    | apply t_norm
    | apply t_exit
    | apply k_hit
    | apply w_exit
    | apply w_ret
    | (apply w_condF; exact rfl; exact rfl)
    | (apply s_c TY; exact rfl; (first | omega | exact ⟨by omega, by (first | with_reducible assumption | ((with_reducible apply stmsF_ne); omega) | ((with_reducible apply rulesF_ne); omega) | assumption)⟩)))
      exact lv_ret (ret1 rfl (res_tmp rfl))
theorem Summ.nilC {P : Program} {G : Nat → Option (List FV)} {g : Nat} {a b r : FV} (K : Summ P G g [a, b, .sl 0 []] r) : Summ P G g [a, b, .v (.slice none 0 0)] r :=
  ⟨K.enters, fun w M us hM hG R => by
    obtain ⟨u1, us1, rfl, r1, R1⟩ := R.head
    obtain ⟨u2, us2, rfl, r2, R2⟩ := R1.head
    obtain ⟨u3, us3, rfl, r3, R3⟩ := R2.head
    have := repV r3
    subst this
    exact K.call w M _ hM hG (RepL.cons r1 (RepL.cons r2 (RepL.cons (RepF.sl none 0 0 [] [] (Nat.le_refl _) rfl (fun u hu => by simp at hu) (fun hn => absurd rfl hn) (fun k u x h => by simp at h)) R3)))⟩
theorem hitsChk_nil (l : List Site) : hitsChk l [] = (0, 0) := by
  unfold hitsChk; rw [if_neg (by simp)]; rfl
def optErr (l : List Site) (s : Setup) : Int := if (arrChk l).2 ≠ 0 then (arrChk l).2 else (setupChk s).2
theorem setErr_nil (l : List Site) (s : Setup) : setErr l s [] = optErr l s := by
  unfold setErr optErr
  rw [hitsChk_nil]
  by_cases h : (setupChk s).2 = 0
  · rw [if_neg (c := (setupChk s).2 ≠ 0) (by simpa using h), h]
  · rw [if_pos (c := (setupChk s).2 ≠ 0) h]
set_option maxRecDepth 100000 in
theorem openStreams_ok (l : List Site) (s : Setup) (c : List Stm) (hl : l.length ≤ 1000000) (hsl : s.rules.length ≤ 1000000) (hn : c.length ≤ 1000000) (hh : ∀ i (hi : i < c.length), c[i].hits.length ≤ 1000000) (he : optErr l s = 0) : Summ Tryz.prog GG 104 [arrF l, setF s, .sl c.length (stmsF c)] (.tup [readoutV l s, iv (stmsChk l c).2]) := by
  have HO := Summ.nilC (openSetup_ok l s [] hl hsl (by simp) (by rw [setErr_nil]; exact he))
  have HH := streamsErr_s l c hn hh
  refine summW Tryz.func104 rfl rfl 27 rfl (by simp) (fun M0 => ?_)
  repeat (first
    | (apply s_a TY; exact rfl)
    | (apply s_t; exact rfl; (first | assumption | omega))
    | apply w_seq
    | apply w_region
    | apply s_nil
    | apply t_norm
    | apply w_ret
    | (apply w_condT; exact rfl; exact rfl)
    | (apply s_k (HO); exact rfl)
    | (apply s_k (HH); exact rfl)
    | (apply s_alloc TY; exact rfl; exact rfl; exact rfl)
    | (apply s_store TY; exact rfl; exact rfl; exact rfl; exact rfl; exact rfl; exact rfl))
  exact lv_ret (ret2 rfl (res_bxs (sub := [.sl l.length (sitesF l), .mp (mapS l l.length), .sl s.rules.length (rulesF s.rules), iv s.before, iv s.after, iv s.dead]) TY rfl rfl rfl rfl rfl) (res_tmp rfl))
def sseErr (l : List Site) (s : Setup) (c : List Stm) : Int := if optErr l s ≠ 0 then optErr l s else (stmsChk l c).2
theorem optErr_parts {l : List Site} {s : Setup} (h : optErr l s = 0) : (arrChk l).2 = 0 ∧ (setupChk s).2 = 0 := by
  unfold optErr at h
  by_cases h1 : (arrChk l).2 = 0
  · rw [if_neg (by simpa using h1)] at h; exact ⟨h1, h⟩
  · rw [if_pos h1] at h; exact absurd h h1
theorem sse_parts {l : List Site} {s : Setup} {c : List Stm} (h : sseErr l s c = 0) : (arrChk l).2 = 0 ∧ (setupChk s).2 = 0 ∧ (stmsChk l c).2 = 0 := by
  unfold sseErr at h
  by_cases ho : optErr l s = 0
  · rw [if_neg (by simpa using ho)] at h
    exact ⟨(optErr_parts ho).1, (optErr_parts ho).2, h⟩
  · rw [if_pos ho] at h; exact absurd h ho
theorem sse_opt {l : List Site} {s : Setup} {c : List Stm} (h : sseErr l s c = 0) : optErr l s = 0 := by
  unfold sseErr at h
  by_cases ho : optErr l s = 0
  · exact ho
  · rw [if_pos ho] at h; exact absurd h ho
end Go.Proofs.YtdmdpkoapllkkaaGreat
namespace Go.Proofs.YtdmdpkoapllkkaaGreat
open Go Go.RowKit Go.Proofs Go.Shelf Go.Ab
set_option maxRecDepth 100000 in
set_option maxHeartbeats 1600000 in
theorem events_n (l : List Site) (s : Setup) (h : List Hit) (hs : SetOk s) (hl0 : ArrOk l) (ho : HitsOk l h) : SummN Tryz.prog GG 95 [readoutV l s, .sl h.length (hitsF h)] 67 3 (eventsV l s h).length (evsF (eventsV l s h)) := by
  refine summN_of Tryz.func95 rfl rfl 26 rfl (by simp) (fun M0 => ?_)
  have h40 := ho.len
  have h1 := single_len hs ho
  have h2 : (windowsV l s h).length ≤ 160 := Nat.le_trans (joinedV_len _) h1
  have HW := windows_s l s h hs hl0 ho
  repeat (first
    | (apply s_a TY; exact rfl)
    | apply w_seq
    | apply w_region
    | apply s_nil
    | apply t_norm
    | apply w_block
    | (apply s_k (HW); exact rfl))
  apply w_gh (gh_own 5 67 3 rfl rfl)
  apply w_loop (fun k : Nat => ⟨(Ab.upd (Ab.upd (Ab.upd (Ab.upd (Ab.upd (fun _ => .bot) 1 (.f (.sl h.length (hitsF h)))) 5 (.ow 0)) 10 (.f (.sl (windowsV l s h).length (rngsF (windowsV l s h))))) 11 (.f (iv (windowsV l s h).length))) 12 (.f (iv ((k : Nat) : Int)))), (Ab.upd (fun _ => none) 0 (some (.row 67 3 (evK l s h k).length (evsF (evK l s h k))))), 1⟩) (fun k => k ≤ (windowsV l s h).length) (fun k => (windowsV l s h).length - k) 0 (Nat.zero_le _) (gh_le ⟨le_upd rfl trivial (le_upd rfl trivial (le_upd rfl trivial (le_upd rfl rfl (le_upd rfl trivial (le_nil _))))), le_hupd rfl trivial (le_h0 _ _)⟩)
  intro k hk
  have hln := evK_len l s h k
  by_cases hc : k < (windowsV l s h).length
  · have hsu := evK_succ hc
    have HI := hitsIn_s h (windowsV l s h)[k] (by omega)
    repeat (first
    | (apply s_a TY; exact rfl)
    | (apply s_t; exact rfl; (first | assumption | omega))
    | apply w_seq
    | apply w_region
    | (apply w_draw (id := 5) 7 rfl (by kernel_rfl))
    | apply s_nil
    | apply t_norm
    | apply k_norm
    | apply w_block
    | apply w_skip
    | (apply w_condT; exact rfl; exact rfl)
    | (apply s_k (HI); exact rfl)
    | (apply s_c TY; exact rfl; (first | omega | exact ⟨by omega, by (first | with_reducible assumption | ((with_reducible apply rngsF_ne); omega) | assumption)⟩))
    | (apply s_m TY; exact rfl; (first | with_reducible assumption | ((with_reducible apply rngsF_sub); omega) | exact rfl); exact rfl)
    | (apply s_alloc TY; exact rfl; exact rfl; exact rfl)
    | (apply s_store TY; exact rfl; exact rfl; exact rfl; exact rfl; exact rfl; exact rfl)
    | (apply s_append TY; exact rfl; exact rfl; exact rfl; exact rfl; exact rfl; exact rfl; exact rfl; exact rfl; exact rfl; (unfold maxLen; omega); omega))
    exact ⟨k + 1, by omega, by omega, gh_le ⟨le_upd rfl trivial (le_upd rfl trivial (le_upd rfl trivial (le_upd rfl rfl (le_upd rfl trivial (le_nil _))))), le_hupd (rowEv_app hsu) trivial (le_h0 _ _)⟩⟩
  · have hke : k = (windowsV l s h).length := by omega
    subst hke
    rw [evK_all]
    repeat (first
    | (apply s_a TY; exact rfl)
    | (apply s_f; exact rfl; (first | assumption | omega))
    | apply w_seq
    | apply w_region
    | apply s_nil
    | apply t_norm
    | apply t_exit
    | apply k_hit
    | apply w_exit
    | apply w_ret
    | (apply w_condF; exact rfl; exact rfl))
    exact ⟨4, 0, rfl, rfl, rfl⟩
theorem not_le_lt (x y : Int) : (!decide (y ≤ x)) = decide (x < y) := by
  by_cases h : y ≤ x
  · rw [decide_eq_true h, decide_eq_false (by omega)]; rfl
  · rw [decide_eq_false h, decide_eq_true (by omega)]; rfl
theorem settledE_q (l : List Site) (s : Setup) (h : List Hit) (z : Int) : (eventsV l s h).filter (fun x => !(decide (z ≤ x.hi))) = settledE l s h z := by
  unfold settledE
  congr 1
  funext x
  exact not_le_lt _ _
theorem settled1_s (v : Ev) (z : Int) : Summ Tryz.prog GG 112 [.agg (evF v), .pt [iv z] 0] (bv (decide (z ≤ v.hi))) := by
  by_cases h : z ≤ v.hi
  · rw [decide_eq_true h]
    refine summW Tryz.func112 rfl rfl 9 rfl (by simp) (fun M0 => ?_)
    repeat (first
    | (apply s_a TY; exact rfl)
    | (apply s_t; exact rfl; (first | assumption | omega))
    | apply w_seq
    | apply w_region
    | apply s_nil
    | apply t_norm
    | apply w_ret)
    exact lv_ret (ret1 rfl (res_tmp rfl))
  · rw [decide_eq_false h]
    refine summW Tryz.func112 rfl rfl 9 rfl (by simp) (fun M0 => ?_)
    repeat (first
    | (apply s_a TY; exact rfl)
    | (apply s_f; exact rfl; (first | assumption | omega))
    | apply w_seq
    | apply w_region
    | apply s_nil
    | apply t_norm
    | apply w_ret)
    exact lv_ret (ret1 rfl (res_tmp rfl))
set_option maxRecDepth 100000 in
set_option maxHeartbeats 1600000 in
theorem SettledEvents_ok (l : List Site) (s : Setup) (c : List Stm) (hl : l.length ≤ 1000000) (hsl : s.rules.length ≤ 1000000) (hn : c.length ≤ 1000000) (hh : ∀ i (hi : i < c.length), c[i].hits.length ≤ 1000000) (he : sseErr l s c = 0) (h40 : (mergeH (allH c)).length ≤ 40) : Summ Tryz.prog GG 50 [arrF l, setF s, .sl c.length (stmsF c)] (.tup [.sl (settledE l s (mergeH (allH c)) (settledT s c)).length (evsF (settledE l s (mergeH (allH c)) (settledT s c))), iv 0]) := by
  obtain ⟨e1, e2, e3⟩ := sse_parts he
  have hs := setOk_of e2
  have hl0 := arrOk_of e1
  obtain ⟨hc1, hc6, hci⟩ := stmsChk_ok e3
  have HO := openStreams_ok l s c hl hsl hn hh (sse_opt he)
  rw [e3] at HO
  have HS := settled_s l s c hs hc1 hc6 (fun i hi => (hci i hi).2)
  have HM := Merged_ok l c hl e1 e3 h40
  have ho := merge_ok hl0 e3 h40
  have HEn := events_n l s (mergeH (allH c)) hs hl0 ho
  have hel : (eventsV l s (mergeH (allH c))).length ≤ 1000000 := by
    have := single_len hs ho (l := l)
    have h2 := joinedV_len (singleV l s (mergeH (allH c)))
    unfold eventsV windowsV
    rw [List.length_map]; omega
  have HD := delE_g (eventsV l s (mergeH (allH c))) 112 [.pt [iv (settledT s c)] 0] (fun x => decide ((settledT s c) ≤ x.hi)) hel (fun i hi => settled1_s _ _)
  rw [settledE_q] at HD
  refine summW Tryz.func50 rfl rfl 39 rfl (by simp) (fun M0 => ?_)
  repeat (first
    | (apply s_callN HEn; exact rfl; exact rfl; exact rfl; exact rfl; exact rfl)
    | (apply s_a TY; exact rfl)
    | (apply s_t; exact rfl; (first | assumption | omega))
    | apply w_seq
    | apply w_region
    | apply s_nil
    | apply t_norm
    | apply w_skip
    | (apply w_condF; exact rfl; exact rfl)
    | (apply s_k (HO); exact rfl)
    | (apply s_k (HS); exact rfl)
    | (apply s_k (HM); exact rfl)
    | (apply s_alloc TY; exact rfl; exact rfl; exact rfl)
    | (apply s_store TY; exact rfl; exact rfl; exact rfl; exact rfl; exact rfl; exact rfl))
  refine s_ghost rfl (gh_box 1 (cs := [iv (settledT s c)]) rfl rfl) ?_
  repeat (first
    | (apply s_a TY; exact rfl)
    | (apply s_makefn; exact rfl; exact rfl)
    | apply s_nil
    | apply t_norm
    | apply w_ret
    | (apply s_callG [2] (HD); exact rfl; exact rfl; exact rfl; exact ⟨rfl, trivial⟩; exact rfl; (first | exact ⟨rfl, rfl⟩ | exact ⟨⟨rfl, rfl⟩, ⟨rfl, rfl⟩⟩ | exact ⟨⟨rfl, rfl⟩, ⟨rfl, rfl⟩, ⟨rfl, rfl⟩⟩)))
  exact lv_ret (ret_gh (gh_row 2 rfl) (ret2 rfl (res_tmp rfl) (res_tmp rfl)))
theorem row_tkS {L : List Stm} {k : Nat} (h : k < L.length) : some (Blk.row 46 2 ((L.take k).length + 1) (stmsF (L.take k) ++ [.sl L[k].hits.length (hitsF L[k].hits), iv L[k].mark])) = some (Blk.row 46 2 (L.take (k + 1)).length (stmsF (L.take (k + 1)))) := by
  rw [stmsF_tk h, List.take_succ_eq_append_getElem h, List.length_append]; rfl
set_option maxRecDepth 100000 in
set_option maxHeartbeats 1600000 in
theorem CopyStreams_s (c : List Stm) (hn : c.length ≤ 1000000) (hh : ∀ i (hi : i < c.length), c[i].hits.length ≤ 1000000) : Summ Tryz.prog GG 40 [.sl c.length (stmsF c)] (.sl c.length (stmsF c)) := by
  refine summW Tryz.func40 rfl rfl 27 rfl (by simp) (fun M0 => ?_)
  repeat (first
    | (apply s_a TY; exact rfl)
    | apply w_seq
    | apply w_region
    | apply s_nil
    | apply t_norm
    | apply w_block)
  apply w_gh (gh_own 3 46 2 rfl rfl)
  apply w_loop (fun k : Nat => ⟨(Ab.upd (Ab.upd (Ab.upd (fun _ => .bot) 0 (.f (.sl c.length (stmsF c)))) 3 (.ow 0)) 4 (.f (iv ((k : Nat) : Int)))), (Ab.upd (fun _ => none) 0 (some (.row 46 2 (c.take k).length (stmsF (c.take k))))), 1⟩) (fun k => k ≤ c.length) (fun k => c.length - k) 0 (Nat.zero_le _) (gh_le ⟨le_upd rfl trivial (le_upd rfl rfl (le_upd rfl trivial (le_nil _))), le_hupd rfl trivial (le_h0 _ _)⟩)
  intro k hk
  have hlk : (c.take k).length = k := by rw [List.length_take]; omega
  by_cases hc : k < c.length
  · have HC := CopyHits_s c[k].hits (hh k hc)
    repeat (first
    | (apply s_a TY; exact rfl)
    | (apply s_t; exact rfl; (first | assumption | omega))
    | apply w_seq
    | apply w_region
    | (apply w_draw (id := 5) 14 rfl (by kernel_rfl))
    | apply s_nil
    | apply t_norm
    | apply k_norm
    | apply w_block
    | apply w_skip
    | (apply w_condT; exact rfl; exact rfl)
    | (apply s_k (HC); exact rfl)
    | (apply s_c TY; exact rfl; (first | omega | exact ⟨by omega, by (first | with_reducible assumption | ((with_reducible apply stmsF_ne); omega) | assumption)⟩))
    | (apply s_l TY; exact rfl; (first | exact rfl | with_reducible assumption | ((with_reducible apply stmsF_f0); omega) | ((with_reducible apply stmsF_f1); omega) | assumption))
    | (apply s_append TY; exact rfl; exact rfl; exact rfl; exact rfl; exact rfl; exact rfl; exact rfl; exact rfl; exact rfl; (unfold maxLen; omega); omega))
    exact ⟨k + 1, by omega, by omega, gh_le ⟨le_upd rfl trivial (le_upd rfl rfl (le_upd rfl trivial (le_nil _))), le_hupd (row_tkS hc) trivial (le_h0 _ _)⟩⟩
  · have hke : k = c.length := by omega
    subst hke
    rw [List.take_length]
    repeat (first
    | (apply s_a TY; exact rfl)
    | (apply s_f; exact rfl; (first | assumption | omega))
    | apply w_seq
    | apply w_region
    | apply s_nil
    | apply t_norm
    | apply t_exit
    | apply k_hit
    | apply w_exit
    | apply w_ret
    | (apply w_condF; exact rfl; exact rfl))
    exact lv_ret (ret_gh (gh_row 0 rfl) (ret1 rfl (res_tmp rfl)))
end Go.Proofs.YtdmdpkoapllkkaaGreat
namespace Go.Proofs.YtdmdpkoapllkkaaGreat
open Go Go.RowKit Go.Proofs Go.Shelf Go.Ab
end Go.Proofs.YtdmdpkoapllkkaaGreat
namespace Go.Proofs.YtdmdpkoapllkkaaGreat
open Go Go.RowKit Go.Proofs Go.Shelf Go.Ab
theorem sse_stm {l : List Site} {s : Setup} {c : List Stm} (h1 : (arrChk l).2 = 0) (h2 : (setupChk s).2 = 0) : sseErr l s c = (stmsChk l c).2 := by simp [sseErr, optErr, h1, h2]
end Go.Proofs.YtdmdpkoapllkkaaGreat
namespace Go.Proofs.YtdmdpkoapllkkaaGreat
open Go Go.RowKit Go.Proofs Go.Shelf Go.Ab
end Go.Proofs.YtdmdpkoapllkkaaGreat
namespace Go.Proofs.YtdmdpkoapllkkaaGreat
open Go Go.RowKit Go.Proofs Go.Shelf Go.Ab
end Go.Proofs.YtdmdpkoapllkkaaGreat
namespace Go.Proofs.YtdmdpkoapllkkaaGreat
open Go Go.RowKit Go.Proofs Go.Shelf Go.Ab
end Go.Proofs.YtdmdpkoapllkkaaGreat
namespace Go.Ab
open Go Go.RowKit Go.Shelf Go.Proofs
section
variable {C : Ctx} {N : Nat}
def selL (mask : Nat) : Nat → List Oper → List Oper
  | _, [] => []
  | j, o :: l => bif mask.testBit j then o :: selL mask (j + 1) l else selL mask (j + 1) l
theorem runSel {ops : Array Oper} {mask : Nat} {Q : St → Prop} : ∀ {l : List Oper} {j : Nat} {st : St}, Run C N ops true Q (selL mask j l) st → ∃ sts : Nat → St, sts 0 = st ∧ (∀ i o, l[i]? = some o → if mask.testBit (j + i) = true then One C N ops true o (sts i) (sts (i + 1)) else sts (i + 1) = sts i) ∧ Q (sts l.length)
  | [], j, st, h => ⟨fun _ => st, rfl, fun i o h => by simp at h, h⟩
  | o :: l, j, st, h => by
    unfold selL at h
    cases hb : mask.testBit j with
    | true =>
      rw [hb] at h
      obtain ⟨st', h1, h2⟩ := h
      obtain ⟨sts, e0, h3, h4⟩ := runSel h2
      refine ⟨fun i => match i with | 0 => st | i + 1 => sts i, rfl, fun i o' hi => ?_, h4⟩
      cases i with
      | zero =>
        simp at hi; subst hi
        rw [Nat.add_zero, if_pos hb]
        show One C N ops true _ st (sts 0)
        rw [e0]; exact h1
      | succ i =>
        have := h3 i o' (by simpa using hi)
        rw [show j + (i + 1) = j + 1 + i by omega]; exact this
    | false =>
      rw [hb] at h
      obtain ⟨sts, e0, h3, h4⟩ := runSel (j := j + 1) h
      refine ⟨fun i => match i with | 0 => st | i + 1 => sts i, rfl, fun i o' hi => ?_, h4⟩
      cases i with
      | zero =>
        simp at hi; subst hi
        rw [Nat.add_zero, if_neg (by rw [hb]; decide)]
        exact e0
      | succ i =>
        have := h3 i o' (by simpa using hi)
        rw [show j + (i + 1) = j + 1 + i by omega]; exact this
def mid3B (l : List Oper) (bf : Nat → Nat) (e n0 mp mm : Nat) : Bool := (List.range n0).all fun j => (Nat.beq j e && !mp.testBit j && !mm.testBit j || !(Nat.beq j e) && (mp.testBit j && !mm.testBit j && Nat.blt j e && (bf e).testBit j || !mp.testBit j && mm.testBit j && (match l[j]? with | some o => light o | none => true))) && (List.range j).all fun i => match l[i]?, l[j]? with
  | some oi, some oj => (match oi.dst, oj.dst with | some a, some b => !(Nat.beq a b) | _, _ => true)
  | _, _ => true
variable {l : List Oper} {n0 : Nat}
theorem mid3_at {bf : Nat → Nat} {e mp mm : Nat} (h : mid3B l bf e n0 mp mm = true) {j : Nat} (hj : j < n0) : (j = e ∧ mp.testBit j = false ∧ mm.testBit j = false) ∨ (j ≠ e ∧ ((mp.testBit j = true ∧ mm.testBit j = false ∧ j < e ∧ (bf e).testBit j = true) ∨ (mp.testBit j = false ∧ mm.testBit j = true ∧ ∀ o, l[j]? = some o → light o = true))) := by
  have h1 := List.all_eq_true.1 h j (List.mem_range.2 hj)
  rw [Bool.and_eq_true] at h1
  have h2 := h1.1
  by_cases e1 : j = e
  · subst e1
    simp at h2
    exact .inl ⟨rfl, h2⟩
  · have hb : Nat.beq j e = false := by cases q : Nat.beq j e; rfl; exact absurd (Nat.eq_of_beq_eq_true q) e1
    rw [hb] at h2
    refine .inr ⟨e1, ?_⟩
    cases ha : mp.testBit j <;> cases hc : mm.testBit j <;> rw [ha, hc] at h2 <;> simp at h2
    · refine .inr ⟨rfl, rfl, fun o ho => ?_⟩
      rw [ho] at h2; exact h2
    · exact .inl ⟨rfl, rfl, h2.1, h2.2⟩
theorem mid3_dst {bf : Nat → Nat} {e mp mm : Nat} (h : mid3B l bf e n0 mp mm = true) {i j : Nat} {oi oj : Oper} {t : Nat} (hij : i ≠ j) (hi : i < n0) (hj : j < n0) (hoi : l[i]? = some oi) (hoj : l[j]? = some oj) (ht : oi.dst = some t) : oj.dst ≠ some t := by
  intro ht2
  have key : ∀ {i j : Nat} {oi oj : Oper}, i < j → j < n0 → l[i]? = some oi → l[j]? = some oj → oi.dst = some t → oj.dst = some t → False := fun {i j oi oj} hij hj hoi hoj h1 h2 => by
    have h3 := List.all_eq_true.1 h j (List.mem_range.2 hj)
    rw [Bool.and_eq_true] at h3
    have h4 := List.all_eq_true.1 h3.2 i (List.mem_range.2 hij)
    rw [hoi, hoj] at h4
    simp only [h1, h2] at h4
    have : Nat.beq t t = true := Nat.beq_refl t
    rw [this] at h4; cases h4
  rcases Nat.lt_or_gt_of_ne hij with h1 | h1
  · exact key h1 hj hoi hoj ht ht2
  · exact key h1 hi hoj hoi ht2 ht
theorem draw_sound3 {id : Nat} {Q : St → Prop} {st : St} {Qc : Exit → Act → World → Prop} (e mp mm : Nat) (hm : C.P.follows .mixedOrders = true) (hok : okReg l n0 = true) (hmid : mid3B l (bitsOf l) e n0 mp mm = true) (hen : e < n0) {oo : Oper} (hoo : l[e]? = some oo)
    (hrun : Run C N l.toArray true (fun stE => Run C N l.toArray true (fun stA => Run C N l.toArray true (fun stP => ∃ i B d, GroOp C N oo stP i B d ∧ (∀ x ∈ oo.op.operands.toList, stE.ev C x = stP.ev C x) ∧ (∀ k, stA.h k = stP.h k) ∧ Run C N l.toArray true (fun stB => (dstsB (selL (mp ||| mm) 0 (l.take n0)) stA.s stB.s i) ∧ Run C N l.toArray false Q (l.drop n0) stB) (selL mm 0 (l.take n0)) ((stP.grow i B).put (some d) (.ow i))) (selL mp 0 (l.take n0)) st) ((l.take n0).drop (e + 1)) stE) (l.take e) st)
    {w0 : World} {a : Act} {w : World} (S : SimE C w0 N st a w) (hq : ∀ st' a' w', Q st' → SimE C w0 N st' a' w' → Qc .normal a' w') : (Code.region id l.toArray true).wpIn (Fence.wr C.ro) 7 C.P Qc a w := by
  simp only [okReg, Bool.and_eq_true] at hok
  obtain ⟨⟨⟨⟨hup, hb⟩, hap⟩, htl⟩, hle⟩ := hok
  have hle' : n0 ≤ l.length := Nat.le_of_ble_eq_true hle
  obtain ⟨s1, e1, r1, q1⟩ := hrun.states
  have htk : (l.take e).length = e := by simp; omega
  rw [htk] at q1
  have hmidl : ((l.take n0).drop (e + 1)).length = n0 - (e + 1) := by simp; omega
  obtain ⟨s2, e2, r2, q2⟩ := q1.states
  rw [hmidl] at q2
  obtain ⟨sp, ep, rp, q3⟩ := runSel q2
  have htn : (l.take n0).length = n0 := by simp; omega
  rw [htn] at q3
  obtain ⟨bi, BB, bd, hgro, hevs, hhp, q3⟩ := q3
  obtain ⟨sb0, eb, rb, q4⟩ := runSel q3
  rw [htn] at q4
  obtain ⟨hds, q4⟩ := q4
  obtain ⟨s4, e4, r4, q5⟩ := q4.states
  obtain ⟨sa, hsa⟩ : ∃ sa : Nat → St, sa = fun i => if i ≤ e then s1 i else s2 (i - (e + 1)) := ⟨_, rfl⟩
  obtain ⟨sb, hsb⟩ : ∃ sb : Nat → St, sb = fun i => if i ≤ n0 then sb0 i else s4 (i - n0) := ⟨_, rfl⟩
  have a1 : ∀ i, i ≤ e → sa i = s1 i := fun i hi => by rw [hsa]; simp [hi]
  have a2 : ∀ i, e + 1 ≤ i → sa i = s2 (i - (e + 1)) := fun i hi => by rw [hsa]; simp [show ¬ i ≤ e by omega]
  have a3 : sa (e + 1) = sa e := by rw [a2 _ (Nat.le_refl _), Nat.sub_self, e2, a1 e (Nat.le_refl _)]
  have b1 : ∀ i, i ≤ n0 → sb i = sb0 i := fun i hi => by rw [hsb]; simp [hi]
  have b3 : ∀ i, n0 ≤ i → sb i = s4 (i - n0) := fun i hi => by
    by_cases q : i = n0
    · subst q; rw [b1 _ (Nat.le_refl _), Nat.sub_self, e4]
    · rw [hsb]; simp [show ¬ i ≤ n0 by omega]
  have getn : ∀ i o, i < n0 → l[i]? = some o → (l.take n0)[i]? = some o := fun i o h2 ho => by rw [List.getElem?_take, if_pos h2]; exact ho
  have getm : ∀ i o, e + 1 ≤ i → i < n0 → l[i]? = some o → ((l.take n0).drop (e + 1))[i - (e + 1)]? = some o := fun i o h1 h2 ho => by
    rw [List.getElem?_drop, show e + 1 + (i - (e + 1)) = i by omega, List.getElem?_take, if_pos h2]; exact ho
  have oneA : ∀ i o, i < n0 → i ≠ e → l[i]? = some o → One C N l.toArray true o (sa i) (sa (i + 1)) := fun i o hi hne ho => by
    rcases Nat.lt_or_gt_of_ne hne with h | h
    · rw [a1 i (by omega), a1 (i + 1) h]
      exact r1 i o (by rw [List.getElem?_take, if_pos h]; exact ho)
    · rw [a2 i h, a2 (i + 1) (by omega), show i + 1 - (e + 1) = (i - (e + 1)) + 1 by omega]
      exact r2 _ o (getm i o h hi ho)
  have oneB : ∀ i o, i < n0 → mm.testBit i = true → l[i]? = some o → One C N l.toArray true o (sb i) (sb (i + 1)) := fun i o hi hmi ho => by
    have := rb i o (getn i o hi ho)
    rw [Nat.zero_add, if_pos hmi] at this
    rw [b1 i (by omega), b1 (i + 1) hi]; exact this
  have idB : ∀ i o, i < n0 → mm.testBit i = false → l[i]? = some o → sb (i + 1) = sb i := fun i o hi hmi ho => by
    have := rb i o (getn i o hi ho)
    rw [Nat.zero_add, if_neg (by rw [hmi]; decide)] at this
    rw [b1 i (by omega), b1 (i + 1) hi]; exact this
  have chA : Chain C N l n0 sa := ⟨fun i o hi ho => by
      by_cases he : i = e
      · subst he; exact .inr a3
      · exact .inl (oneA i o hi he ho), hle'⟩
  have chB : Chain C N l n0 sb := ⟨fun i o hi ho => by
      cases hmi : mm.testBit i with
      | true => exact .inl (oneB i o hi hmi ho)
      | false => exact .inr (idB i o hi hmi ho), hle'⟩
  have chP : Chain C N l n0 sp := ⟨fun i o hi ho => by
      have := rp i o (getn i o hi ho)
      rw [Nat.zero_add] at this
      cases hmi : mp.testBit i with
      | true => rw [if_pos hmi] at this; exact .inl this
      | false => rw [if_neg (by rw [hmi]; decide)] at this; exact .inr this, hle'⟩
  have post : ∀ i o, n0 ≤ i → l[i]? = some o → One C N l.toArray false o (sb i) (sb (i + 1)) := fun i o hi ho => by
      rw [b3 i hi, b3 (i + 1) (by omega), show i + 1 - n0 = (i - n0) + 1 by omega]
      exact r4 (i - n0) o (by rw [List.getElem?_drop, show n0 + (i - n0) = i by omega]; exact ho)
  have hend : Q (sb l.length) := by
    rw [b3 _ hle']; simpa using q5
  have atl : ∀ {i}, i < n0 → ∃ o, l[i]? = some o := fun {i} hi => ⟨l[i]'(by omega), List.getElem?_eq_getElem _⟩
  have hEs : ∀ t, t ≠ bd → (sb 0).s t = killA bi ((sp n0).s t) := fun t ht => by
    rw [b1 0 (Nat.zero_le _), eb]; simp only [St.put]; rw [upd_other _ _ ht]; rfl
  have hEd : (sb 0).s bd = .ow bi := by rw [b1 0 (Nat.zero_le _), eb]; simp only [St.put, upd_same]
  have hEh : ∀ k, (sb 0).h k = bif Nat.beq k bi then some BB else ((sp n0).h k).map (killB bi) := fun k => by rw [b1 0 (Nat.zero_le _), eb]; rfl
  have keep : ∀ {sts : Nat → St}, Chain C N l n0 sts → ∀ {m t : Nat} {om : Oper}, m < n0 → l[m]? = some om → om.dst = some t → ∀ q, m + 1 ≤ q → q ≤ n0 → (sts q).s t = (sts (m + 1)).s t := fun {sts} ch {m t om} hm hom hdm q hq => by
    induction hq with
    | refl => intro _; rfl
    | @step q hq ih =>
      intro hqn
      have hq' : m + 1 ≤ q := hq
      obtain ⟨oq, hoq, h1⟩ := ch.one (show q < n0 by omega)
      rw [h1.slot.1 t (mid3_dst hmid (i := m) (j := q) (by omega) hm (by omega) hom hoq hdm), ih (by omega)]
  have keep0 : ∀ {sts : Nat → St}, Chain C N l n0 sts → ∀ {m t : Nat} {om : Oper}, m < n0 → l[m]? = some om → om.dst = some t → ∀ q, q ≤ m → (sts q).s t = (sts 0).s t := fun {sts} ch {m t om} hm hom hdm q => by
    induction q with
    | zero => intro _; rfl
    | succ q ih =>
      intro hqm
      obtain ⟨oq, hoq, h1⟩ := ch.one (show q < n0 by omega)
      rw [h1.slot.1 t (mid3_dst hmid (i := m) (j := q) (by omega) hm (by omega) hom hoq hdm), ih (by omega)]
  have litA : ∀ i, i < n0 → mp.testBit i = false → (sa (i + 1)).nx = (sa i).nx ∧ (sa (i + 1)).h = (sa i).h := fun i hi hpi => by
    rcases mid3_at hmid hi with ⟨rfl, _, _⟩ | ⟨hne, ⟨hp, _⟩ | ⟨_, hmm, hli⟩⟩
    · rw [a3]; exact ⟨rfl, rfl⟩
    · rw [hpi] at hp; cases hp
    · obtain ⟨o, ho, h1⟩ := chA.one hi
      rcases h1.slot.2 with h2 | ⟨h2, _⟩
      · exact h2
      · have h3 := h1.heavy (by omega)
        rw [hli o ho] at h3; cases h3
  have litB : ∀ i, i < n0 → (sb (i + 1)).nx = (sb i).nx ∧ (sb (i + 1)).h = (sb i).h := fun i hi => by
    obtain ⟨o, ho⟩ := atl hi
    cases hmi : mm.testBit i with
    | false => rw [idB i o hi hmi ho]; exact ⟨rfl, rfl⟩
    | true =>
      rcases mid3_at hmid hi with ⟨rfl, _, hc⟩ | ⟨hne, ⟨_, hc, _⟩ | ⟨_, _, hli⟩⟩
      · rw [hmi] at hc; cases hc
      · rw [hmi] at hc; cases hc
      · have h1 := oneB i o hi hmi ho
        rcases h1.slot.2 with h2 | ⟨h2, _⟩
        · exact h2
        · have h3 := h1.heavy (by omega)
          rw [hli o ho] at h3; cases h3
  have hBheap : ∀ (s : Nat → Bool) m, m ≤ n0 → ∀ k, heapS sb s m k = (sb 0).h k := fun s m => by
    induction m with
    | zero => intro _ k; rfl
    | succ m ih =>
      intro hmn k
      unfold heapS
      rw [if_neg (fun hc => by have := (litB m hmn).1; omega)]
      exact ih (by omega) k
  have tail : ∀ {s : Nat → Bool}, (∀ i o, l[i]? = some o → s i = true → ∀ e ∈ o.after, Region.binds .any e = true → s e.on = true) → ∀ (i : Nat) (o : Oper), n0 ≤ i → l[i]? = some o → (∀ e ∈ o.after, Region.binds .any e = true → s e.on = true) → ∀ j, j < i → s j = true := fun hdc i o hi ho he j hj => by
    have h1 := List.all_eq_true.1 htl i (List.mem_range.2 (List.getElem?_eq_some_iff.1 ho).1)
    have : Nat.blt i n0 = false := by cases e : Nat.blt i n0; rfl; have := Nat.le_of_ble_eq_true e; omega
    rw [this, Bool.false_or] at h1
    exact bits_done hb hup hdc i o ho he j hj (List.all_eq_true.1 h1 j (List.mem_range.2 hj))
  have early : ∀ {s : Nat → Bool}, (∀ i o, l[i]? = some o → s i = true → ∀ e ∈ o.after, Region.binds .any e = true → s e.on = true) → (∀ e ∈ oo.after, Region.binds .any e = true → s e.on = true) → ∀ j, j < n0 → mp.testBit j = true → s j = true := fun hdc he j hj hpj => by
    rcases mid3_at hmid hj with ⟨_, hp, _⟩ | ⟨_, ⟨_, _, hje, hbf⟩ | ⟨hp, _⟩⟩
    · rw [hpj] at hp; cases hp
    · exact bits_done hb hup hdc e oo hoo he j hje hbf
    · rw [hpj] at hp; cases hp
  have full : ∀ {s : Nat → Bool} {a : Act} {w : World}, (∀ j, j < n0 → s j = true) → SimE C w0 N ⟨slotS l sb s n0, heapS sb s n0, 0⟩ a w → SimE C w0 N (sb n0) a w := fun {s} _ _ hall S => by
    refine S.cast (fun t => ?_) (fun k => ?_)
    · exact (chB.slot_eq (i := n0) (fun m hm _ => hall m hm) n0 (Nat.le_refl _) (Nat.le_refl _)).symm
    · exact (chB.heap_full hall n0 (Nat.le_refl _)).symm
  refine wpIn_region_inv hm hup (fun s a w => (∀ i o, l[i]? = some o → s i = true → ∀ e ∈ o.after, Region.binds .any e = true → s e.on = true) ∧
    (((∀ i, n0 ≤ i → s i = false) ∧ (s e = false ∧ SimE C w0 N ⟨slotS l sa s n0, heapS sa s n0, 0⟩ a w ∨ s e = true ∧ SimE C w0 N ⟨slotS l sb s n0, heapS sb s n0, 0⟩ a w)) ∨ ∃ m, n0 ≤ m ∧ (∀ i, i < l.length → (s i = true ↔ i < m)) ∧ m ≤ l.length ∧ SimE C w0 N (sb m) a w)) ?_ ?_ ?_
  · refine ⟨fun i o _ h => (by cases h), .inl ⟨fun _ _ => rfl, .inl ⟨rfl, ?_⟩⟩⟩
    have S' : SimE C w0 N st a w.drew := let ⟨J, S⟩ := S; ⟨J, S.toExt (Ext.drew w)⟩
    rw [← e1, ← a1 0 (Nat.zero_le _)] at S'
    refine S'.cast (fun t => ?_) (fun k => ?_)
    · exact slot_more (l := l) (i := 0) (fun m _ _ h => by cases h) (Nat.zero_le _)
    · have : ∀ m, heapS sa (fun _ => false) m k = (sa 0).h k := fun m => by
        induction m with
        | zero => rfl
        | succ m ih => unfold heapS; rw [if_neg (by simp)]; exact ih
      exact this n0
  · rintro s a w i o ho hs hedge ⟨hdc, hInv⟩
    have ho' : l[i]? = some o := by simpa using ho
    have hil : i < l.length := (List.getElem?_eq_some_iff.1 ho').1
    have hdc' : ∀ j oj, l[j]? = some oj → (decide (j = i) || s j) = true → ∀ e ∈ oj.after, Region.binds .any e = true → (decide (e.on = i) || s e.on) = true := fun j oj hj hsj e he hbe => by
      by_cases ej : j = i
      · subst ej; rw [ho'] at hj; cases hj; rw [hedge e he hbe]; simp
      · rw [hdc j oj hj (by simpa [ej] using hsj) e he hbe]; simp
    unfold wpOpIn
    simp only [ho]
    obtain ⟨Inv, hInvE⟩ : ∃ Inv : Act → World → Prop, Inv = fun a' w' => (∀ j oj, l[j]? = some oj → (decide (j = i) || s j) = true → ∀ e ∈ oj.after, Region.binds .any e = true → (decide (e.on = i) || s e.on) = true) ∧
          (((∀ j, n0 ≤ j → (decide (j = i) || s j) = false) ∧ ((decide (e = i) || s e) = false ∧ SimE C w0 N ⟨slotS l sa (fun j => decide (j = i) || s j) n0, heapS sa (fun j => decide (j = i) || s j) n0, 0⟩ a' w' ∨ (decide (e = i) || s e) = true ∧ SimE C w0 N ⟨slotS l sb (fun j => decide (j = i) || s j) n0, heapS sb (fun j => decide (j = i) || s j) n0, 0⟩ a' w')) ∨ ∃ m, n0 ≤ m ∧ (∀ j, j < l.length → ((decide (j = i) || s j) = true ↔ j < m)) ∧ m ≤ l.length ∧ SimE C w0 N (sb m) a' w') := ⟨_, rfl⟩
    have late : ∀ m, n0 ≤ m → (∀ i, i < l.length → (s i = true ↔ i < m)) → m ≤ l.length → SimE C w0 N (sb m) a w → n0 ≤ i →
        if Region.wanted o (yielded l.toArray a.tmps) then o.wpIn (Fence.wr C.ro) 7 C.P a w Inv Qc else Inv (a.put o.dst undef) w := by
      intro m hm hall hml S hin
      have him : i = m := by
        have h1 : ¬ i < m := fun h => by rw [(hall i hil).2 h] at hs; cases hs
        refine Classical.byContradiction fun hc => ?_
        have h2 := tail hdc i o hin ho' hedge m (by omega)
        have := (hall m (by omega)).1 h2
        omega
      subst him
      refine (post i o hin ho').wp S (fun a' w' S' => ?_)
      rw [hInvE]
      refine ⟨hdc', .inr ⟨i + 1, by omega, fun j hj => ?_, hil, S'⟩⟩
      have := hall j hj
      by_cases ej : j = i
      · subst ej; simp
      · simp only [show decide (j = i) = false by simp [ej], Bool.false_or, this]; omega
    refine both_in (fun _ _ => trivial) ?_
    suffices hgoal : if Region.wanted o (yielded l.toArray a.tmps) then o.wpIn (Fence.wr C.ro) 7 C.P a w Inv Qc else Inv (a.put o.dst undef) w by rw [hInvE] at hgoal; exact hgoal
    rcases hInv with ⟨hin, hAB⟩ | ⟨m, hm, hall, hml, S⟩
    · by_cases hi : i < n0
      · rcases hAB with ⟨hse, S⟩ | ⟨hse, S⟩
        · by_cases hie : i = e
          · subst hie
            rw [hoo] at ho'; cases ho'
            have hdone := early hdc hedge
            have hheap : ∀ k, heapS sa s n0 k = (sp n0).h k := fun k => by
              rw [chA.heap_here n0 (Nat.le_refl _) (fun j hj hx => by
                cases hpj : mp.testBit j with
                | true => exact hdone j hj hpj
                | false => have := (litA j hj hpj).1; omega)]
              rw [a2 n0 (by omega)]; exact hhp k
            obtain ⟨conf2, read⟩ := chA.read hb hup (Nat.le_refl _) hap hdc hi hoo hs hedge
            have agr : Agree C oo (sp n0) ⟨slotS l sa s n0, heapS sa s n0, 0⟩ := ⟨fun x hx => by
              have h0 := hevs x hx
              rw [← a1 i (Nat.le_refl _)] at h0
              rw [← h0]
              cases x with
              | tmp t => exact read t (by unfold Oper.looksAt; simp only [List.mem_append, List.mem_filterMap]; exact .inl ⟨.tmp t, hx, rfl⟩)
              | _ => rfl, fun k B hB => .inr ⟨B, (hheap k).trans hB, .inl rfl⟩⟩
            obtain ⟨g0, gd, gw⟩ := hgro
            have hwt : wantB ⟨slotS l sa s n0, heapS sa s n0, 0⟩ l.toArray oo = some true := by unfold wantB; rw [g0]
            rw [want_sim S hwt, if_pos rfl]
            refine gw w0 a w _ agr hheap S _ _ (fun v w' S' => ?_)
            rw [hInvE]
            refine ⟨hdc', .inl ⟨fun j hj => by rw [hin j hj]; simp; omega, .inr ⟨by simp, S'.cast (fun t => ?_) (fun k => ?_)⟩⟩⟩
            · show slotS l sb (fun j => decide (j = i) || s j) n0 t = (St.put (St.grow ⟨slotS l sa s n0, heapS sa s n0, 0⟩ bi BB) (some bd) (.ow bi)).s t
              have wr : ∀ {sts : Nat → St} (s' : Nat → Bool), Chain C N l n0 sts → ∀ {m0 : Nat} {om : Oper}, m0 < n0 → l[m0]? = some om → om.dst = some t → s' m0 = true → slotS l sts s' n0 t = (sts n0).s t := fun {sts} s' ch {m0 om} hm0 hom hdm hsm => by
                rw [keep ch hm0 hom hdm n0 hm0 (Nat.le_refl _)]
                have e5 : slotS l sts s' n0 t = slotS l sts s' (m0 + 1) t := slot_more (fun m hm hmn _ hd => by
                  have hom2 := List.getElem?_eq_getElem (show m < l.length by omega)
                  rw [hom2] at hd
                  exact mid3_dst hmid (i := m0) (j := m) (by omega) hm0 hmn hom hom2 hdm hd) hm0
                rw [e5]
                show (if s' m0 = true ∧ (l[m0]?).bind (·.dst) = some t then (sts (m0 + 1)).s t else _) = _
                rw [if_pos ⟨hsm, by rw [hom]; exact hdm⟩]
              by_cases hd : t = bd
              · subst hd
                rw [wr _ chB hi hoo gd (by simp)]
                rw [show (sb n0).s t = (sb 0).s t by rw [keep chB hi hoo gd n0 hi (Nat.le_refl _), idB i oo hi (by
                  rcases mid3_at hmid hi with ⟨_, _, h⟩ | ⟨h, _⟩
                  · exact h
                  · exact absurd rfl h) hoo, keep0 chB hi hoo gd i (Nat.le_refl _)], hEd]
                simp only [St.put, upd_same]
              · rw [show (St.put (St.grow ⟨slotS l sa s n0, heapS sa s n0, 0⟩ bi BB) (some bd) (.ow bi)).s t = killA bi (slotS l sa s n0 t) by simp only [St.put]; rw [upd_other _ _ hd]; rfl]
                by_cases hw : ∃ m0 om, m0 < n0 ∧ m0 ≠ i ∧ l[m0]? = some om ∧ om.dst = some t ∧ s m0 = true
                · obtain ⟨m0, om, hm0, hne, hom, hdm, hsm⟩ := hw
                  rw [wr _ chB hm0 hom hdm (by simp [hsm]), wr _ chA hm0 hom hdm hsm]
                  have hmem : om ∈ selL (mp ||| mm) 0 (l.take n0) := by
                    have hbit : (mp ||| mm).testBit (0 + m0) = true := by
                      rw [Nat.zero_add, Nat.testBit_or]
                      rcases mid3_at hmid hm0 with ⟨h, _⟩ | ⟨_, ⟨h, _⟩ | ⟨_, h, _⟩⟩
                      · exact absurd h hne
                      · rw [h]; rfl
                      · rw [h, Bool.or_true]
                    have gen : ∀ (L : List Oper) (j m : Nat) (o : Oper), L[m]? = some o → (mp ||| mm).testBit (j + m) = true → o ∈ selL (mp ||| mm) j L := fun L => by
                      induction L with
                      | nil => intro j m o h; simp at h
                      | cons x L ih =>
                        intro j m o h hbm
                        unfold selL
                        cases m with
                        | zero =>
                          simp at h; subst h
                          rw [Nat.add_zero] at hbm
                          rw [hbm]; exact List.mem_cons_self ..
                        | succ m =>
                          have := ih (j + 1) m o (by simpa using h) (by rw [show j + 1 + m = j + (m + 1) by omega]; exact hbm)
                          cases (mp ||| mm).testBit j
                          · exact this
                          · exact List.mem_cons_of_mem _ this
                    exact gen _ 0 m0 om (getn m0 om hm0 hom) hbit
                  have := dstsB_mem hds hmem hdm
                  rw [a2 n0 (by omega), b1 n0 (Nat.le_refl _)]
                  exact this.symm
                · have hno : ∀ m om, m < n0 → m ≠ i → l[m]? = some om → om.dst = some t → s m = false := fun m om h1 h2 h3 h4 => by
                    cases h5 : s m with
                    | false => rfl
                    | true => exact absurd ⟨m, om, h1, h2, h3, h4, h5⟩ hw
                  have eA : slotS l sa s n0 t = (sa 0).s t := slot_more (l := l) (i := 0) (fun m _ hmn hsm hd2 => by
                    have hom2 := List.getElem?_eq_getElem (show m < l.length by omega)
                    rw [hom2] at hd2
                    by_cases hmi : m = i
                    · subst hmi; rw [hs] at hsm; cases hsm
                    · have := hno m _ hmn hmi hom2 hd2
                      rw [hsm] at this; cases this) (Nat.zero_le _)
                  have eB : slotS l sb (fun j => decide (j = i) || s j) n0 t = (sb 0).s t := slot_more (l := l) (i := 0) (fun m _ hmn hsm hd2 => by
                    have hom2 := List.getElem?_eq_getElem (show m < l.length by omega)
                    rw [hom2] at hd2
                    by_cases hmi : m = i
                    · subst hmi
                      rw [hom2] at hoo
                      have ho3 := Option.some.inj hoo
                      have hd3 : (l[m]'(by omega)).dst = some t := hd2
                      rw [ho3, gd] at hd3
                      exact hd (Option.some.inj hd3).symm
                    · have := hno m _ hmn hmi hom2 hd2
                      rw [show s m = true by simpa [hmi] using hsm] at this; cases this) (Nat.zero_le _)
                  rw [eA, eB, hEs t hd]
                  congr 1
                  have hP : ∀ q, q ≤ n0 → (sp q).s t = (sp 0).s t := fun q => by
                    induction q with
                    | zero => intro _; rfl
                    | succ q ih =>
                      intro hqn
                      obtain ⟨oq, hoq, h1⟩ := chP.one (show q < n0 by omega)
                      cases hpq : mp.testBit q with
                      | false =>
                        have := rp q oq (getn q oq hqn hoq)
                        rw [Nat.zero_add, if_neg (by rw [hpq]; decide)] at this
                        rw [this, ih (by omega)]
                      | true =>
                        rw [h1.slot.1 t (fun hdq => by
                          have hqi : q ≠ i := fun h => by
                            subst h
                            rcases mid3_at hmid hi with ⟨_, hp, _⟩ | ⟨h, _⟩
                            · rw [hpq] at hp; cases hp
                            · exact h rfl
                          have := hno q oq hqn hqi hoq hdq
                          rw [hdone q hqn hpq] at this; cases this), ih (by omega)]
                  rw [hP n0 (Nat.le_refl _), ep, a1 0 (Nat.zero_le _), e1]
            · show heapS sb (fun j => decide (j = i) || s j) n0 k = (St.put (St.grow ⟨slotS l sa s n0, heapS sa s n0, 0⟩ bi BB) (some bd) (.ow bi)).h k
              rw [hBheap _ n0 (Nat.le_refl _) k, hEh k]
              show _ = (bif Nat.beq k bi then some BB else (heapS sa s n0 k).map (killB bi))
              rw [hheap k]
          · refine chA.step hb hup (Nat.le_refl _) hap (ov := fun _ => none) (fun _ _ h => by cases h) hdc hi ho' hs hedge S (oneA i o hi hie ho') (fun a' w' S' => ?_)
            rw [hInvE]
            refine ⟨hdc', .inl ⟨fun j hj => by rw [hin j hj]; simp; omega, .inl ⟨by rw [hse]; simp; omega, S'⟩⟩⟩
        · have hmi : mm.testBit i = true := by
            rcases mid3_at hmid hi with ⟨h, _⟩ | ⟨_, ⟨hp, _⟩ | ⟨_, h, _⟩⟩
            · subst h; rw [hs] at hse; cases hse
            · have := early hdc (hdc e oo hoo hse) i hi hp
              rw [hs] at this; cases this
            · exact h
          refine chB.step hb hup (Nat.le_refl _) hap (ov := fun _ => none) (fun _ _ h => by cases h) hdc hi ho' hs hedge S (oneB i o hi hmi ho') (fun a' w' S' => ?_)
          rw [hInvE]
          refine ⟨hdc', .inl ⟨fun j hj => by rw [hin j hj]; simp; omega, .inr ⟨by rw [hse]; simp, S'⟩⟩⟩
      · have hall : ∀ j, j < n0 → s j = true := fun j hj => tail hdc i o (by omega) ho' hedge j (by omega)
        rcases hAB with ⟨hse, S⟩ | ⟨hse, S⟩
        · rw [hall e hen] at hse; cases hse
        · refine late n0 (Nat.le_refl _) (fun j hj => ⟨fun h => ?_, fun h => hall j h⟩) hle' (full hall S) (by omega)
          refine Classical.byContradiction fun hc => ?_
          rw [hin j (by omega)] at h; cases h
    · refine late m hm hall hml S ?_
      refine Classical.byContradiction fun hc => ?_
      rw [(hall i hil).2 (by omega)] at hs; cases hs
  · rintro s a w hall ⟨_, hInv⟩
    rcases hInv with ⟨hin, hAB⟩ | ⟨m, hm, hiff, hml, S⟩
    · have hn : n0 = l.length := by
        refine Classical.byContradiction fun hc => ?_
        have := hall n0 (by omega)
        rw [hin n0 (Nat.le_refl _)] at this; cases this
      rcases hAB with ⟨hse, S⟩ | ⟨hse, S⟩
      · rw [hall e (by omega)] at hse; cases hse
      · refine hq (sb l.length) a w hend ?_
        rw [← hn]
        exact full (fun j hj => hall j (by omega)) S
    · have hmm : m = l.length := by
        refine Classical.byContradiction fun hc => ?_
        have := (hiff m (by omega)).1 (hall m (by omega))
        omega
      exact hq _ a w (hmm ▸ hend) (hmm ▸ S)
structure GE (C : Ctx) (N : Nat) (ops : Array Oper) (o : Oper) (all mid : List Oper) (K : St → Prop) (stE stA stP : St) : Prop where
  out : ∃ i B d, GroOp C N o stP i B d ∧ (∀ x ∈ o.op.operands.toList, stE.ev C x = stP.ev C x) ∧ (∀ k, stA.h k = stP.h k) ∧ Run C N ops true (fun stB => dstsB all stA.s stB.s i ∧ K stB) mid ((stP.grow i B).put (some d) (.ow i))
structure KE (all : List Oper) (i : Nat) (K : St → Prop) (stA stB : St) : Prop where
  eqs : dstsB all stA.s stB.s i
  out : K stB
theorem w_draw3 {Q : Exit → St → Prop} {id : Nat} {st : St} (e n0 mp mm : Nat) (hm : C.P.follows .mixedOrders = true) (hok : okReg l n0 = true) (hmid : (mid3B l (bitsOf l) e n0 mp mm && Nat.blt e n0) = true) {oo : Oper} (hoo : l[e]? = some oo) (h : R C N l.toArray true (fun stE => R C N l.toArray true (fun stA => R C N l.toArray true (GE C N l.toArray oo (selL (mp ||| mm) 0 (l.take n0)) (selL mm 0 (l.take n0)) (R C N l.toArray false (Q .normal) (l.drop n0)) stE stA) (selL mp 0 (l.take n0)) st) ((l.take n0).drop (e + 1)) stE) (l.take e) st) : W C N (.region id l.toArray true) Q st := by
  rw [Bool.and_eq_true] at hmid
  exact ⟨fun _w0 _a _w _Qc S hq => draw_sound3 e mp mm hm hok hmid.1 (Nat.le_of_ble_eq_true hmid.2) hoo (Run.mono (fun _ h1 => Run.mono (fun _ h2 => Run.mono (fun _ g => let ⟨i, B, d, q1, q2, q3, q4⟩ := g.out; ⟨i, B, d, q1, q2, q3, Run.mono (fun _ h4 => ⟨h4.1, h4.2.out⟩) q4⟩) h2.out) h1.out) h.out) S (fun _st' _a' _w' q S' => hq _ _ _ _ q S')⟩
theorem s_gro3 (ty : Ty C.P) {T0 : TypeId} {pos : String} {af : Array Edge} {K : St → Prop} {ops : Array Oper} {all mid : List Oper} {stE stA st : St} {T i n m e sz bs d : Nat} {x y : Operand} {cs ys : List FV} {zs : List Value} (hdN : dstB N (some d) = true) (hT : (ty.ty T).sl = some (e, sz, bs)) (hz : (ty.ty e).zero = some zs) (hzl : zs.length = sz) (hsz : Nat.blt 0 sz = true)
    (hx : st.ev C x = .ow i) (hi : st.h i = some (.row e sz n cs)) (hy : st.ev C y = .f (.sl m ys)) (hl : ys.length = m * sz) (h63 : n + m ≤ maxLen) (hbs : (n + m) * bs ≤ 140737488355328) (hx2 : stE.ev C x = st.ev C x) (hy2 : stE.ev C y = st.ev C y) (hh : ∀ k, stA.h k = st.h k)
    (h : R C N ops true (KE all i K stA) mid ((st.grow i (.row e sz (n + m) (cs ++ ys))).put (some d) (.ow i))) : GE C N ops ⟨some d, .call { callee := .builtin .append, args := #[x, y], argTypes := #[T, T] }, T0, pos, af, none⟩ all mid K stE stA st :=
  ⟨i, _, d, v_gro ty rfl rfl rfl hdN hT hz hzl hsz hx hi hy hl h63 hbs, fun z hz2 => by
    have : z = x ∨ z = y := by simpa [Op.operands, Call.operands] using hz2
    rcases this with rfl | rfl
    · exact hx2
    · exact hy2, hh, Run.mono (fun _ h2 => ⟨h2.eqs, h2.out⟩) h.out⟩
end
end Go.Ab
namespace Go.Ab
open Go Go.RowKit Go.Shelf Go.Proofs
def OpensFs (P : Program) (w : World) (fs : List Field) (off tot : Nat) {α : Type} (k : α → List FV) : Prop :=
  ∀ (H : Type) (enc : TypeId × Value → H) (base : Nat) (sp : Nat → Bool) (hd : Bool) (n : Nat) (cs : List Value), cs.length = off + tot → (∀ (i : Nat) (f : Field), fs[i]? = some f → ∃ x, DataW.trod enc P w base sp hd n f.type ((cs.drop f.offset).take (P.cellsOf f.type)) = some x) → ∃ a : α, RepL w (fun _ => False) (cs.drop off) (k a) ∧ ∀ u ∈ cs.drop off, u.oneCell'
section
variable {P : Program} {w : World}
theorem ofs_nil {off : Nat} : OpensFs P w [] off 0 (fun _ : Unit => []) := fun H enc base sp hd n cs hl _ => by
  rw [List.drop_eq_nil_of_le (by omega)]
  exact ⟨(), RepL.nil _ _, by simp⟩
theorem ofs_cons {f : Field} {fs : List Field} {off s tot : Nat} {α β : Type} {g : α → List FV} {k : β → List FV} (hc : P.cellsOf f.type = s) (ho : f.offset = off) (h : Opens P w f.type g) (hr : OpensFs P w fs (off + s) tot k) : OpensFs P w (f :: fs) off (s + tot) (fun p : α × β => g p.1 ++ k p.2) := fun H enc base sp hd n cs hl hx => by
  obtain ⟨x, hx0⟩ := hx 0 f rfl
  obtain ⟨a, r0, q0⟩ := h H enc base sp hd n _ _ hx0
  obtain ⟨b, r1, q1⟩ := hr H enc base sp hd n cs (by omega) (fun i f' hf => hx (i + 1) f' hf)
  rw [ho, hc] at r0 q0
  have hs : cs.drop off = (cs.drop off).take s ++ cs.drop (off + s) := by rw [← List.drop_drop, List.take_append_drop]
  refine ⟨(a, b), ?_, fun u hu => ?_⟩
  · rw [hs]; exact RepL.append r0 r1
  · rw [hs] at hu
    rcases List.mem_append.1 hu with h | h
    · exact q0 u h
    · exact q1 u h
theorem opens_st {T : TypeId} {fs : Array Field} {tot : Nat} {α : Type} {k : α → List FV} (ht : P.underlying T = some (.struct fs)) (ct : P.cellsOf T = tot) (h : OpensFs P w fs.toList 0 tot k) : Opens P w T k := fun H enc base sp hd fuel cs x hx => by
  obtain ⟨xs, n, _, _, hlen, hxl, hf⟩ := DataW.trod_struct ht hx
  have := h H enc base sp hd n cs (by rw [hlen, ct]; omega) (fun i f hi => by
    have hi' : fs[i]? = some f := by rw [← hi]; simp
    have e := hf i f hi'
    have hlt : i < xs.length := by
      rw [hxl]
      exact (Array.getElem?_eq_some_iff.1 hi').1
    rw [List.getElem?_eq_getElem hlt] at e
    exact ⟨_, e⟩)
  rwa [List.drop_zero] at this
end
end Go.Ab
namespace Go.Ab
open Go Go.RowKit Go.Shelf Go.Proofs
section
variable {C : Ctx} {N : Nat} {st : St} {ops : Array Oper} {pr : Bool} {K : St → Prop} {rest : List Oper}
theorem e_storeA {o : Oper} {st : St} {T i off e sz n : Nat} {x y : Operand} {cs ys : List AV} {av : AV} (ty : Ty C.P) (ho : o.op = .store T x y) (hd : o.dst = none) (hx : st.ev C x = .bx i off) (hi : st.h i = some (.rowA e sz n cs)) (hy : st.ev C y = av) (hc : cellsA av = some ys) (hT : sizeB (ty.ty T) ys.length = true) (hl : off + ys.length ≤ cs.length) :
    EffOp C N o st { st with h := upd st.h i (some (.rowA e sz n (setAt cs off ys))) } :=
  effop_run fun w0 a w J S => by
    have e1 := S.eval x
    rw [hx] at e1
    obtain ⟨hlv, b, hb, hv⟩ := e1
    have e2 := S.eval y
    rw [hy] at e2
    obtain ⟨r1, r2, r3⟩ := repCellsA S.blk e2 hc
    obtain ⟨xs, q1, q0, q2, q3, q6⟩ := S.blk i _ hi
    obtain ⟨it, hi1, hi2⟩ := sizeB_spec (ty.ok T) hT
    rcases q1.2 with ⟨hj, _⟩ | ⟨g, cap, cur, hj, h1, h2, h3, h4, h5, h6⟩
    · rw [hj] at hb; simp [bk] at hb
    have hbg : b = g := by rw [hj] at hb; simpa [bk] using hb.symm
    subst hbg
    have hxl : xs.length ≤ cur.size := by rw [← h6]; simp [List.length_take]; omega
    have r1' : (a.eval y).cells.toList.length = ys.length := by simpa using r1
    have hst := run_storeCells_cells (P := C.P) b off (a.eval y).cells.toList 0 w (fun j hj => by
      have : off + 0 + j < cur.size := by omega
      simp [World.cell?, h2]; omega) (fun j hj => by simp [World.frozen?, h2]) r2
    have hrun : (execOp a.eval o).run C.P w = .ok .skip (w.setCells b off (a.eval y).cells.toList) := by
      simp only [execOp, ho, Sem.run_bind, hv, Instr.storeAt, Instr.sureAddr, Sem.run_pure, Result.andThen_ok, storeVar, sizeOf, typeInfo, run_program, hi1, hi2, r1]
      simp only [Nat.add_zero] at hst
      simp [hst]
    refine ⟨.skip, undef, _, hrun, .inr ⟨rfl, rfl⟩, J, ?_⟩
    rw [hd]
    obtain ⟨us', g1, g2⟩ := setCells_heap (vs := (a.eval y).cells.toList) (o := off) h2
    have gr : w.grownBy (w.setCells b off (a.eval y).cells.toList) (some b) := setCells_grown _ _ _
    have us_len : us'.size = cur.size := by
      have := congrArg List.length g2
      rw [setAt_length] at this
      simpa using this
    have live : ∀ j, (upd st.h i (some (.rowA e sz n (setAt cs off ys))) j).isSome = (st.h j).isSome := fun j => by
      by_cases e : j = i
      · subst e; rw [upd_same, hlv]; rfl
      · rw [upd_other _ _ e]
    have hconv : ∀ {v : Value} {y : AV}, RepA C w st.h J v y → RepA C (w.setCells b off (a.eval ‹_›).cells.toList) (upd st.h i (some (.rowA e sz n (setAt cs off ys)))) J v y := by
      intro v y h
      exact h.same fun _ _ q => q.conv (fun j hj => ⟨by rw [live]; exact hj, rfl⟩) fun _ _ h => RepF.mono h (fun c hcl hm => gr.block c hcl (fun e => by cases e; exact hm (.inr ⟨i, hlv, hb⟩))) gr.size (fun c _ h => h.imp id fun ⟨j, hj, hjb⟩ => ⟨j, by rw [← live]; exact hj, hjb⟩)
    refine S.write (B := .rowA e sz n (setAt cs off ys)) hlv hb gr ⟨setAt xs off (a.eval y).cells.toList, ⟨by rw [setAt_length]; exact q1.1, .inr ⟨b, cap, us', hj, h1, g1, h3, h4, by rw [us_len, h5], ?_⟩⟩, q0, setAt_mem q2 r2, by rw [setAt_length, setAt_length, q3], fun k u z hk' hz => ?_⟩ (fun e => by cases e)
    · rw [g2, take_setAt _ _ _ _ (by rw [r1', ← q1.1, q3]; exact hl), h6]
    · rw [setAt_get] at hk' hz
      rw [r1', q3] at hk'
      split at hk'
      · rename_i hin
        rw [if_pos hin] at hz
        exact hconv (r3 _ u z hk' hz)
      · rename_i hin
        rw [if_neg hin] at hz
        exact hconv (q6 k u z hk' hz)
theorem s_storeA (ty : Ty C.P) {T0 : TypeId} {pos : String} {af : Array Edge} {T i off e sz n : Nat} {x y : Operand} {cs ys : List AV} {av : AV} (hx : st.ev C x = .bx i off) (hi : st.h i = some (.rowA e sz n cs)) (hy : st.ev C y = av) (hc : cellsA av = some ys) (hT : sizeB (ty.ty T) ys.length = true) (hl : Nat.ble (off + ys.length) cs.length = true) (h : R C N ops false K rest { st with h := upd st.h i (some (.rowA e sz n (setAt cs off ys))) }) : R C N ops false K (⟨none, .store T x y, T0, pos, af, none⟩ :: rest) st :=
  ⟨r_eff rfl (e_storeA ty rfl rfl hx hi hy hc hT (Nat.le_of_ble_eq_true hl)) h.out⟩
theorem Sim.ownA {w0 : World} {a : Act} {w : World} {J : Nat → Value} {st : St} (S : Sim C w0 N st a w J) (i off e sz : Nat) {E SZ m : Nat} {cells : List AV} (hi : st.h i = some (.rowA E SZ m cells)) (hc : cells[off]? = some (.f (.v (.slice none 0 0)))) (hn : st.h st.nx = none) :
    Sim C w0 N { s := st.s, h := upd (upd st.h i (some (.rowA E SZ m (cells.set off (.ow st.nx))))) st.nx (some (.row e sz 0 [])), nx := st.nx + 1 } a w (upd J st.nx (.slice none 0 0)) := by
  obtain ⟨H, hH⟩ : ∃ H, H = upd (upd st.h i (some (.rowA E SZ m (cells.set off (.ow st.nx))))) st.nx (some (.row e sz 0 [])) := ⟨_, rfl⟩
  rw [← hH]
  have hne : ∀ j, (st.h j).isSome = true → j ≠ st.nx := fun j h e => by subst e; rw [hn] at h; cases h
  have hin : i ≠ st.nx := hne i (by rw [hi]; rfl)
  have hnx : H st.nx = some (.row e sz 0 []) := by rw [hH, upd_same]
  have hii : H i = some (.rowA E SZ m (cells.set off (.ow st.nx))) := by rw [hH, upd_other _ _ hin, upd_same]
  have hoth : ∀ j, j ≠ i → j ≠ st.nx → H j = st.h j := fun j h1 h2 => by rw [hH, upd_other _ _ h2, upd_other _ _ h1]
  have live : ∀ j, j ≠ st.nx → (H j).isSome = (st.h j).isSome := fun j h => by
    by_cases e : j = i
    · subst e; rw [hii, hi]; rfl
    · rw [hoth j e h]
  have hM : ∀ b, b < w.heap.size → Mb C H (upd J st.nx (.slice none 0 0)) b → Mb C st.h J b := by
    rintro b _ (h0 | ⟨j, hj, hb⟩)
    · exact .inl h0
    by_cases ej : j = st.nx
    · subst ej; rw [upd_same] at hb; simp [bk] at hb
    · rw [upd_other _ _ ej] at hb; exact .inr ⟨j, by rw [← live j ej]; exact hj, hb⟩
  have conv : ∀ {v : Value} {x : AV}, RepA C w st.h J v x → RepA C w H (upd J st.nx (.slice none 0 0)) v x := by
    intro v x h
    exact h.same fun _ _ q => q.conv (fun j hj => ⟨by rw [live j (hne j hj)]; exact hj, by rw [upd_other _ _ (hne j hj)]⟩) fun _ _ h => RepF.ext h (Ext.refl _) hM
  refine ⟨S.ext, S.size, S.defs, fun u => conv (S.slot u), fun j B hB => ?_, fun j k b hj hk hjb hkb => ?_, S.old, fun g cs hg => RepF.ext (S.glob g cs hg) (Ext.refl _) hM, fun j p cs' hp hc hs => ?_⟩
  · show RepB C w w0.heap.size H (upd J st.nx (.slice none 0 0)) _ B
    have hB' : H j = some B := hB
    by_cases ej : j = st.nx
    · subst ej
      rw [hnx] at hB'; cases hB'
      rw [upd_same]
      exact ⟨[], World.ownsRow_nil _ _ _ _, fun b hb => by simp [bk] at hb, by simp, RepL.nil _ _⟩
    rw [upd_other _ _ ej]
    by_cases ei : j = i
    · subst ei
      rw [hii] at hB'; cases hB'
      obtain ⟨xs, q1, q0, q2, q3, q6⟩ := S.blk j _ hi
      refine ⟨xs, q1, q0, q2, by simpa using q3, fun k u x h1 h2 => ?_⟩
      rw [List.getElem?_set] at h2
      split at h2
      · rename_i ek
        subst ek
        split at h2
        · cases h2
          have := repV (q6 off u _ h1 hc)
          exact ⟨by rw [hnx]; rfl, by rw [upd_same]; exact this⟩
        · cases h2
      · exact conv (q6 k u x h1 h2)
    · rw [hoth j ei ej] at hB'
      exact (S.blk j B hB').conv0 (fun _ _ => rfl) (fun _ _ h => h) (fun _ _ => conv) (fun _ _ h => RepF.ext h (Ext.refl _) hM)
  · have nn : ∀ j, bk (upd J st.nx (.slice none 0 0) j) = some b → j ≠ st.nx := fun j h e => by subst e; rw [upd_same] at h; simp [bk] at h
    have h1 := nn j hjb
    have h2 := nn k hkb
    rw [upd_other _ _ h1] at hjb
    rw [upd_other _ _ h2] at hkb
    exact S.apart j k b (by rw [← live j h1]; exact hj) (by rw [← live k h2]; exact hk) hjb hkb
  · have hc' : H j = some cs' := hc
    by_cases ej : j = st.nx
    · subst ej; rw [hnx] at hc'; cases hc'; cases hs
    rw [upd_other _ _ ej]
    by_cases ei : j = i
    · subst ei; rw [hii] at hc'; cases hc'; cases hs
    · rw [hoth j ei ej] at hc'; exact S.fix j p cs' hp hc' hs
theorem gh_ownA {st : St} (i off e sz : Nat) {E SZ m : Nat} {cells : List AV} (hi : st.h i = some (.rowA E SZ m cells)) (hc : cells[off]? = some (.f (.v (.slice none 0 0)))) (hn : st.h st.nx = none) : Gh C N st { s := st.s, h := upd (upd st.h i (some (.rowA E SZ m (cells.set off (.ow st.nx))))) st.nx (some (.row e sz 0 [])), nx := st.nx + 1 } :=
  fun _ _ _ ⟨_, S⟩ => ⟨_, S.ownA i off e sz hi hc hn⟩
theorem b_remT {P : Program} {T : TypeId} {x y : Operand} {a b : Int} (h : b ≠ 0) (w : World) : (do eqGuard .rem T x y (.int .i64 a) (.int .i64 b); binOp .rem T (.int .i64 a) (.int .i64 b) : Sem Value).run P w = .ok (.int .i64 (a.tmod b)) w := by
  simp [eqGuard, binOp, Op.intDiv, h]
theorem s_remT {d : Option Tmp} {T0 : TypeId} {pos : String} {af : Array Edge} {T T' : TypeId} {x y : Operand} {p q : Int} (hd : dstB N d = true) (hx : st.ev C x = .f (.v (.int .i64 p))) (hy' : st.ev C y = .f (.v (.int .i64 q))) (hr : q ≠ 0) (h : R C N ops pr K rest (st.put d (.f (.v (.int .i64 (p.tmod q)))))) : R C N ops pr K (⟨d, .binOp .rem T x y T', T0, pos, af, none⟩ :: rest) st := ⟨r_val rfl (v_bin rfl hd hx hy' (b_remT hr)) h.out⟩
end
theorem opens_arr3 {P : Program} {w : World} {T E : TypeId} {s : Nat} {α : Type} {g : α → List FV} (ht : P.underlying T = some (.array 3 E)) (ct : P.cellsOf T = 3 * s) (cE : P.cellsOf E = s) (h : Opens P w E g) : Opens P w T (fun p : α × α × α => g p.1 ++ g p.2.1 ++ g p.2.2) := fun H enc base sp hd fuel cs x hx => by
  obtain ⟨xs, n, _, _, hlen, hxl, hf⟩ := DataW.trod_array ht hx
  rw [ct] at hlen
  have go : ∀ i, i < 3 → ∃ a : α, RepL w (fun _ => False) ((cs.drop (i * s)).take s) (g a) ∧ ∀ u ∈ (cs.drop (i * s)).take s, u.oneCell' = true := fun i hi => by
    have e := hf i (by omega)
    have hlt : i < xs.length := by omega
    rw [List.getElem?_eq_getElem hlt, cE] at e
    exact h H enc base sp hd n _ _ e
  obtain ⟨a, r0, q0⟩ := go 0 (by decide)
  obtain ⟨b, r1, q1⟩ := go 1 (by decide)
  obtain ⟨c, r2, q2⟩ := go 2 (by decide)
  rw [Nat.zero_mul, List.drop_zero] at r0 q0
  rw [Nat.one_mul] at r1 q1
  have hs : cs = cs.take s ++ (cs.drop s).take s ++ (cs.drop (2 * s)).take s := by
    have e2 : (cs.drop (2 * s)).take s = cs.drop (2 * s) := List.take_of_length_le (by rw [List.length_drop]; omega)
    rw [e2, List.append_assoc, show cs.drop (2 * s) = (cs.drop s).drop s by rw [List.drop_drop]; congr 1; omega, List.take_append_drop, List.take_append_drop]
  refine ⟨(a, b, c), ?_, fun u hu => ?_⟩
  · rw [hs]; exact RepL.append (RepL.append r0 r1) r2
  · rw [hs] at hu
    rcases List.mem_append.1 hu with hu | hu
    · rcases List.mem_append.1 hu with hu | hu
      · exact q0 u hu
      · exact q1 u hu
    · exact q2 u hu
end Go.Ab
namespace Go.Proofs.YtdmdpkoapllkkaaGreat
open Go Go.RowKit Go.Proofs Go.Shelf Go.Ab
def modZ (n : Int) : Int := if n.tmod 3 < 0 then n.tmod 3 + 3 else n.tmod 3
theorem tmod3 (n : Int) : -3 < n.tmod 3 ∧ n.tmod 3 < 3 := by
  have h1 := Int.tmod_lt_of_pos n (by decide : (0 : Int) < 3)
  have h2 := Int.lt_tmod_of_pos n (by decide : (0 : Int) < 3)
  omega
theorem modZ_bd (n : Int) : modZ n = 0 ∨ modZ n = 1 ∨ modZ n = 2 := by
  have := tmod3 n
  unfold modZ
  split <;> omega
theorem mod_s (n : Int) : Summ Tryz.prog GG 110 [iv n, iv 3] (iv (modZ n)) := by
  have hb := tmod3 n
  unfold modZ
  by_cases h : n.tmod 3 < 0
  · rw [if_pos h]
    refine summW Tryz.func110 rfl rfl 14 rfl (by simp) (fun M0 => ?_)
    repeat (first
    | (apply s_remT; exact rfl; exact rfl; exact rfl; exact (by decide))
    | (apply s_a TY; exact rfl)
    | (apply s_t; exact rfl; (first | assumption | omega))
    | apply w_seq
    | apply w_region
    | apply s_nil
    | apply t_norm
    | apply w_ret
    | (apply w_condT; exact rfl; exact rfl)
    | (apply s_c TY; exact rfl; omega))
    exact lv_ret (ret1 rfl (res_tmp rfl))
  · rw [if_neg h]
    refine summW Tryz.func110 rfl rfl 14 rfl (by simp) (fun M0 => ?_)
    repeat (first
    | (apply s_remT; exact rfl; exact rfl; exact rfl; exact (by decide))
    | (apply s_a TY; exact rfl)
    | (apply s_f; exact rfl; (first | assumption | omega))
    | apply w_seq
    | apply w_region
    | apply s_nil
    | apply t_norm
    | apply w_ret
    | apply w_skip
    | (apply w_condF; exact rfl; exact rfl))
    exact lv_ret (ret1 rfl (res_tmp rfl))
def whereZ (wh : List Int) (i : Nat) : Int := if i < wh.length then modZ (wh.getD i default) else modZ i
theorem whereZ_bd (wh : List Int) (i : Nat) : whereZ wh i = 0 ∨ whereZ wh i = 1 ∨ whereZ wh i = 2 := by
  unfold whereZ
  split <;> exact modZ_bd _
def selK (h : List Hit) (wh : List Int) (count m k : Int) (n : Nat) : List Hit := ((List.range n).filter fun i => decide (whereZ wh i = k) && (decide ((i : Int) < count) || decide ((h.getD i default).tm ≤ m))).map fun i => h.getD i default
theorem selK_in {h : List Hit} {wh : List Int} {count m k : Int} {n : Nat} (h1 : whereZ wh n = k) (h2 : (n : Int) < count ∨ (h.getD n default).tm ≤ m) : selK h wh count m k (n + 1) = selK h wh count m k n ++ [h.getD n default] := by
  unfold selK
  rw [List.range_succ, List.filter_append, List.map_append]
  have : (decide (whereZ wh n = k) && (decide ((n : Int) < count) || decide ((h.getD n default).tm ≤ m))) = true := by
    simp only [Bool.and_eq_true, Bool.or_eq_true, decide_eq_true_eq]; exact ⟨h1, h2⟩
  rw [List.filter_cons, if_pos this]
  rfl
theorem selK_out {h : List Hit} {wh : List Int} {count m k : Int} {n : Nat} (h1 : whereZ wh n ≠ k ∨ ¬ ((n : Int) < count ∨ (h.getD n default).tm ≤ m)) : selK h wh count m k (n + 1) = selK h wh count m k n := by
  unfold selK
  rw [List.range_succ, List.filter_append, List.map_append]
  have : (decide (whereZ wh n = k) && (decide ((n : Int) < count) || decide ((h.getD n default).tm ≤ m))) = false := by
    rcases h1 with h1 | h1
    · simp [h1]
    · rw [← Bool.not_eq_true]
      simp only [Bool.and_eq_true, Bool.or_eq_true, decide_eq_true_eq]
      exact fun q => h1 q.2
  rw [List.filter_cons, if_neg (by rw [this]; decide)]
  simp
theorem selK_len {h : List Hit} {wh : List Int} {count m k : Int} (n : Nat) : (selK h wh count m k n).length ≤ n := by
  unfold selK
  rw [List.length_map]
  exact Nat.le_trans (List.length_filter_le _ _) (by rw [List.length_range]; exact Nat.le_refl _)
def divS (h : List Hit) (wh : List Int) (m0 m1 m2 count : Int) : List Stm := [⟨selK h wh count m0 0 h.length, m0⟩, ⟨selK h wh count m1 1 h.length, m1⟩, ⟨selK h wh count m2 2 h.length, m2⟩]
end Go.Proofs.YtdmdpkoapllkkaaGreat
namespace Go.Proofs.YtdmdpkoapllkkaaGreat
open Go Go.RowKit Go.Proofs Go.Shelf Go.Ab
theorem rowDin {a b : List Hit} {x : Hit} (e : b = a ++ [x]) : some (Blk.row 29 3 (a.length + 1) (hitsF a ++ hitF x)) = some (Blk.row 29 3 b.length (hitsF b)) := by rw [e, hitsF_snoc, List.length_append]; rfl
theorem rowDout {a b : List Hit} (e : b = a) : some (Blk.row 29 3 a.length (hitsF a)) = some (Blk.row 29 3 b.length (hitsF b)) := by rw [e]
theorem CLR {m0 m1 m2 : Int} (h : Nat → Option Blk) (h1 : (h 1).isSome = true) (h2 : (h 2).isSome = true) (h3 : (h 3).isSome = true) : closedB h (.rowA 46 2 3 [.ow 1, .f (iv m0), .ow 2, .f (iv m1), .ow 3, .f (iv m2)]) := fun x hx => by
  simp only [List.mem_cons, List.not_mem_nil, or_false] at hx
  rcases hx with rfl | rfl | rfl | rfl | rfl | rfl
  · exact h1
  · trivial
  · exact h2
  · trivial
  · exact h3
  · trivial
set_option maxRecDepth 4000 in
set_option maxHeartbeats 16000000 in
theorem divStreams_s (h : List Hit) (wh : List Int) (m0 m1 m2 count : Int) (hl : h.length ≤ 1000) : Summ Tryz.prog GG 49 [.agg [.sl h.length (hitsF h), .sl wh.length (intsF wh), iv m0, iv m1, iv m2], iv count] (.sl 3 (stmsF (divS h wh m0 m1 m2 count))) := by
  obtain ⟨i3, hi3, hz3⟩ := sizeB_spec (n := 1) (TY.ok 3) rfl
  have hu94 : Tryz.prog.underlying 94 = some (.array 3 3) := by kernel_rfl
  have hlen : ∀ (m k : Int) (n : Nat), (selK h wh count m k n).length ≤ n := fun m k n => selK_len n
  refine summW Tryz.func49 rfl rfl 74 rfl (by simp) (fun M0 => ?_)
  repeat (first
    | (apply s_idxAw hu94 hi3 hz3; exact rfl; exact rfl; exact rfl; exact rfl; decide; decide)
    | (apply s_bslicew TY (len := 3); exact rfl; exact rfl; exact rfl; exact rfl; exact rfl; exact rfl; exact rfl; exact rfl; exact rfl)
    | (apply s_a TY; exact rfl)
    | apply w_seq
    | apply w_region
    | apply s_nil
    | apply t_norm
    | apply w_block)
  apply w_gh (gh_rowA 0 rfl)
  apply w_gh (gh_ownA 0 0 29 3 rfl rfl rfl)
  apply w_gh (gh_ownA 0 2 29 3 rfl rfl rfl)
  apply w_gh (gh_ownA 0 4 29 3 rfl rfl rfl)
  apply w_loop (fun i : Nat => ⟨(Ab.upd (Ab.upd (Ab.upd (Ab.upd (fun _ => .bot) 1 (.f (iv count))) 2 (.f (.pt [.sl h.length (hitsF h), .sl wh.length (intsF wh), iv m0, iv m1, iv m2] 0))) 5 (.ow 0)) 6 (.f (iv ((i : Nat) : Int)))), (Ab.upd (Ab.upd (Ab.upd (Ab.upd (fun _ => none) 0 (some (.rowA 46 2 3 [.ow 1, .f (iv m0), .ow 2, .f (iv m1), .ow 3, .f (iv m2)]))) 1 (some (.row 29 3 (selK h wh count m0 0 i).length (hitsF (selK h wh count m0 0 i))))) 2 (some (.row 29 3 (selK h wh count m1 1 i).length (hitsF (selK h wh count m1 1 i))))) 3 (some (.row 29 3 (selK h wh count m2 2 i).length (hitsF (selK h wh count m2 2 i))))), 4⟩) (fun i => i ≤ h.length) (fun i => h.length - i) 0 (Nat.zero_le _) (gh_le ⟨le_upd rfl trivial (le_upd rfl rfl (le_upd rfl trivial (le_upd rfl trivial (le_nil _)))), le_hupd rfl trivial (le_hupd rfl trivial (le_hupd rfl trivial (le_hupd rfl (CLR _ rfl rfl rfl) (le_h0 _ _))))⟩)
  intro i hi
  by_cases hc : i < h.length
  · have hat : h.getD i default = h[i] := getD_eq hc
    have g0 := hlen m0 0 i
    have g1 := hlen m1 1 i
    have g2 := hlen m2 2 i
    rcases whereZ_bd wh i with hw | hw | hw
    · by_cases hin : i < wh.length
      · have HW : Summ Tryz.prog GG 110 [iv wh[i], iv 3] (iv 0) := by
          have e := mod_s wh[i]
          rw [show modZ wh[i] = 0 by rw [← hw]; unfold whereZ; rw [if_pos hin]; simp [hin]] at e
          exact e
        have HM := mod_s i
        by_cases h1 : (i : Int) < count
        · have e0 : selK h wh count m0 0 (i + 1) = selK h wh count m0 0 i ++ [h[i]] := (selK_in hw (.inl h1)).trans (by rw [hat])
          have e1 : selK h wh count m1 1 (i + 1) = selK h wh count m1 1 i := selK_out (.inl (by rw [hw]; decide))
          have e2 : selK h wh count m2 2 (i + 1) = selK h wh count m2 2 i := selK_out (.inl (by rw [hw]; decide))
          repeat (first
    | (apply s_a TY; exact rfl)
    | (apply s_o TY; exact rfl)
    | (apply s_t; exact rfl; (first | assumption | omega))
    | apply w_seq
    | apply w_region
    | (apply w_draw (id := 8) 14 rfl (by kernel_rfl))
    | apply s_nil
    | apply t_norm
    | apply k_norm
    | apply w_block
    | apply w_skip
    | (apply w_condT; exact rfl; exact rfl)
    | (apply s_k (HM); exact rfl)
    | (apply s_k (HW); exact rfl)
    | (apply s_s; exact rfl)
    | (apply s_c TY; exact rfl; (first | omega | exact ⟨by omega, by (first | with_reducible assumption | ((with_reducible apply hitsF_ne); omega) | ((with_reducible apply stmsF_ne); omega) | ((with_reducible apply intsF_ne); omega) | assumption)⟩))
    | (apply s_l TY; exact rfl; (first | exact rfl | with_reducible assumption | ((with_reducible apply hitsF_f0); omega) | ((with_reducible apply hitsF_f1); omega) | ((with_reducible apply hitsF_f2); omega) | ((with_reducible apply stmsF_f0); omega) | ((with_reducible apply stmsF_f1); omega) | ((with_reducible apply intsF_at); omega) | assumption))
    | (apply s_m TY; exact rfl; (first | with_reducible assumption | ((with_reducible apply hitsF_sub); omega) | ((with_reducible apply stmsF_sub); omega) | exact rfl); exact rfl)
    | (apply s_idxOA TY; exact rfl; exact rfl; exact rfl; exact rfl; exact rfl; exact rfl; decide; decide)
    | (apply s_storeA TY; exact rfl; exact rfl; exact rfl; exact rfl; exact rfl; exact rfl)
    | (apply w_draw3 (id := 9) 13 14 8188 3 rfl (by kernel_rfl) (by kernel_rfl); exact rfl)
    | (apply s_gro3 TY; exact rfl; exact rfl; exact rfl; exact rfl; exact rfl; exact rfl; exact rfl; exact rfl; exact rfl; (unfold maxLen; omega); omega; exact rfl; exact rfl; exact (fun _ => rfl))
    | (refine KE.mk ⟨rfl, rfl, rfl, rfl, rfl, rfl, rfl, rfl, rfl, rfl, rfl, rfl, rfl, trivial⟩ ?_))
          exact ⟨i + 1, by omega, by omega, gh_le ⟨le_upd rfl trivial (le_upd rfl rfl (le_upd rfl trivial (le_upd rfl trivial (le_nil _)))), le_hupd (rowDout e2) trivial (le_hupd (rowDout e1) trivial (le_hupd (rowDin e0) trivial (le_hupd rfl (CLR _ rfl rfl rfl) (le_h0 _ _))))⟩⟩
        · by_cases h2 : h[i].tm ≤ m0
          · have e0 : selK h wh count m0 0 (i + 1) = selK h wh count m0 0 i ++ [h[i]] := (selK_in hw (.inr (by rw [hat]; exact h2))).trans (by rw [hat])
            have e1 : selK h wh count m1 1 (i + 1) = selK h wh count m1 1 i := selK_out (.inl (by rw [hw]; decide))
            have e2 : selK h wh count m2 2 (i + 1) = selK h wh count m2 2 i := selK_out (.inl (by rw [hw]; decide))
            repeat (first
    | (apply s_a TY; exact rfl)
    | (apply s_o TY; exact rfl)
    | (apply s_t; exact rfl; (first | assumption | omega))
    | (apply s_f; exact rfl; (first | assumption | omega))
    | apply w_seq
    | apply w_region
    | (apply w_draw (id := 8) 14 rfl (by kernel_rfl))
    | apply s_nil
    | apply t_norm
    | apply k_norm
    | apply w_block
    | apply w_skip
    | (apply w_condT; exact rfl; exact rfl)
    | (apply s_k (HM); exact rfl)
    | (apply s_k (HW); exact rfl)
    | (apply s_c TY; exact rfl; (first | omega | exact ⟨by omega, by (first | with_reducible assumption | ((with_reducible apply hitsF_ne); omega) | ((with_reducible apply stmsF_ne); omega) | ((with_reducible apply intsF_ne); omega) | assumption)⟩))
    | (apply s_l TY; exact rfl; (first | exact rfl | with_reducible assumption | ((with_reducible apply hitsF_f0); omega) | ((with_reducible apply hitsF_f1); omega) | ((with_reducible apply hitsF_f2); omega) | ((with_reducible apply stmsF_f0); omega) | ((with_reducible apply stmsF_f1); omega) | ((with_reducible apply intsF_at); omega) | assumption))
    | (apply s_m TY; exact rfl; (first | with_reducible assumption | ((with_reducible apply hitsF_sub); omega) | ((with_reducible apply stmsF_sub); omega) | exact rfl); exact rfl)
    | (apply s_idxAw hu94 hi3 hz3; exact rfl; exact rfl; exact rfl; exact rfl; decide; decide)
    | (apply s_idxOA TY; exact rfl; exact rfl; exact rfl; exact rfl; exact rfl; exact rfl; decide; decide)
    | (apply s_storeA TY; exact rfl; exact rfl; exact rfl; exact rfl; exact rfl; exact rfl)
    | (apply w_draw3 (id := 9) 13 14 8188 3 rfl (by kernel_rfl) (by kernel_rfl); exact rfl)
    | (apply s_gro3 TY; exact rfl; exact rfl; exact rfl; exact rfl; exact rfl; exact rfl; exact rfl; exact rfl; exact rfl; (unfold maxLen; omega); omega; exact rfl; exact rfl; exact (fun _ => rfl))
    | (refine KE.mk ⟨rfl, rfl, rfl, rfl, rfl, rfl, rfl, rfl, rfl, rfl, rfl, rfl, rfl, trivial⟩ ?_))
            exact ⟨i + 1, by omega, by omega, gh_le ⟨le_upd rfl trivial (le_upd rfl rfl (le_upd rfl trivial (le_upd rfl trivial (le_nil _)))), le_hupd (rowDout e2) trivial (le_hupd (rowDout e1) trivial (le_hupd (rowDin e0) trivial (le_hupd rfl (CLR _ rfl rfl rfl) (le_h0 _ _))))⟩⟩
          · have e0 : selK h wh count m0 0 (i + 1) = selK h wh count m0 0 i := selK_out (.inr (by rw [hat]; omega))
            have e1 : selK h wh count m1 1 (i + 1) = selK h wh count m1 1 i := selK_out (.inl (by rw [hw]; decide))
            have e2 : selK h wh count m2 2 (i + 1) = selK h wh count m2 2 i := selK_out (.inl (by rw [hw]; decide))
            repeat (first
    | (apply s_a TY; exact rfl)
    | (apply s_t; exact rfl; (first | assumption | omega))
    | (apply s_f; exact rfl; (first | assumption | omega))
    | apply w_seq
    | apply w_region
    | (apply w_draw (id := 8) 14 rfl (by kernel_rfl))
    | apply s_nil
    | apply t_norm
    | apply k_norm
    | apply w_block
    | apply w_skip
    | (apply w_condT; exact rfl; exact rfl)
    | (apply w_condF; exact rfl; exact rfl)
    | (apply s_k (HM); exact rfl)
    | (apply s_k (HW); exact rfl)
    | (apply s_c TY; exact rfl; (first | omega | exact ⟨by omega, by (first | with_reducible assumption | ((with_reducible apply hitsF_ne); omega) | ((with_reducible apply stmsF_ne); omega) | ((with_reducible apply intsF_ne); omega) | assumption)⟩))
    | (apply s_l TY; exact rfl; (first | exact rfl | with_reducible assumption | ((with_reducible apply hitsF_f0); omega) | ((with_reducible apply hitsF_f1); omega) | ((with_reducible apply hitsF_f2); omega) | ((with_reducible apply stmsF_f0); omega) | ((with_reducible apply stmsF_f1); omega) | ((with_reducible apply intsF_at); omega) | assumption))
    | (apply s_idxAw hu94 hi3 hz3; exact rfl; exact rfl; exact rfl; exact rfl; decide; decide))
            exact ⟨i + 1, by omega, by omega, gh_le ⟨le_upd rfl trivial (le_upd rfl rfl (le_upd rfl trivial (le_upd rfl trivial (le_nil _)))), le_hupd (rowDout e2) trivial (le_hupd (rowDout e1) trivial (le_hupd (rowDout e0) trivial (le_hupd rfl (CLR _ rfl rfl rfl) (le_h0 _ _))))⟩⟩
      · have HM : Summ Tryz.prog GG 110 [iv i, iv 3] (iv 0) := by
          have e := mod_s i
          rw [show modZ i = 0 by rw [← hw]; unfold whereZ; rw [if_neg hin]] at e
          exact e
        by_cases h1 : (i : Int) < count
        · have e0 : selK h wh count m0 0 (i + 1) = selK h wh count m0 0 i ++ [h[i]] := (selK_in hw (.inl h1)).trans (by rw [hat])
          have e1 : selK h wh count m1 1 (i + 1) = selK h wh count m1 1 i := selK_out (.inl (by rw [hw]; decide))
          have e2 : selK h wh count m2 2 (i + 1) = selK h wh count m2 2 i := selK_out (.inl (by rw [hw]; decide))
          repeat (first
    | (apply s_a TY; exact rfl)
    | (apply s_o TY; exact rfl)
    | (apply s_t; exact rfl; (first | assumption | omega))
    | (apply s_f; exact rfl; (first | assumption | omega))
    | apply w_seq
    | apply w_region
    | (apply w_draw (id := 8) 14 rfl (by kernel_rfl))
    | apply s_nil
    | apply t_norm
    | apply k_norm
    | apply w_block
    | apply w_skip
    | (apply w_condT; exact rfl; exact rfl)
    | (apply w_condF; exact rfl; exact rfl)
    | (apply s_k (HM); exact rfl)
    | (apply s_s; exact rfl)
    | (apply s_c TY; exact rfl; (first | omega | exact ⟨by omega, by (first | with_reducible assumption | ((with_reducible apply hitsF_ne); omega) | ((with_reducible apply stmsF_ne); omega) | ((with_reducible apply intsF_ne); omega) | assumption)⟩))
    | (apply s_m TY; exact rfl; (first | with_reducible assumption | ((with_reducible apply hitsF_sub); omega) | ((with_reducible apply stmsF_sub); omega) | exact rfl); exact rfl)
    | (apply s_idxOA TY; exact rfl; exact rfl; exact rfl; exact rfl; exact rfl; exact rfl; decide; decide)
    | (apply s_storeA TY; exact rfl; exact rfl; exact rfl; exact rfl; exact rfl; exact rfl)
    | (apply w_draw3 (id := 9) 13 14 8188 3 rfl (by kernel_rfl) (by kernel_rfl); exact rfl)
    | (apply s_gro3 TY; exact rfl; exact rfl; exact rfl; exact rfl; exact rfl; exact rfl; exact rfl; exact rfl; exact rfl; (unfold maxLen; omega); omega; exact rfl; exact rfl; exact (fun _ => rfl))
    | (refine KE.mk ⟨rfl, rfl, rfl, rfl, rfl, rfl, rfl, rfl, rfl, rfl, rfl, rfl, rfl, trivial⟩ ?_))
          exact ⟨i + 1, by omega, by omega, gh_le ⟨le_upd rfl trivial (le_upd rfl rfl (le_upd rfl trivial (le_upd rfl trivial (le_nil _)))), le_hupd (rowDout e2) trivial (le_hupd (rowDout e1) trivial (le_hupd (rowDin e0) trivial (le_hupd rfl (CLR _ rfl rfl rfl) (le_h0 _ _))))⟩⟩
        · by_cases h2 : h[i].tm ≤ m0
          · have e0 : selK h wh count m0 0 (i + 1) = selK h wh count m0 0 i ++ [h[i]] := (selK_in hw (.inr (by rw [hat]; exact h2))).trans (by rw [hat])
            have e1 : selK h wh count m1 1 (i + 1) = selK h wh count m1 1 i := selK_out (.inl (by rw [hw]; decide))
            have e2 : selK h wh count m2 2 (i + 1) = selK h wh count m2 2 i := selK_out (.inl (by rw [hw]; decide))
            repeat (first
    | (apply s_a TY; exact rfl)
    | (apply s_o TY; exact rfl)
    | (apply s_t; exact rfl; (first | assumption | omega))
    | (apply s_f; exact rfl; (first | assumption | omega))
    | apply w_seq
    | apply w_region
    | (apply w_draw (id := 8) 14 rfl (by kernel_rfl))
    | apply s_nil
    | apply t_norm
    | apply k_norm
    | apply w_block
    | apply w_skip
    | (apply w_condT; exact rfl; exact rfl)
    | (apply w_condF; exact rfl; exact rfl)
    | (apply s_k (HM); exact rfl)
    | (apply s_c TY; exact rfl; (first | omega | exact ⟨by omega, by (first | with_reducible assumption | ((with_reducible apply hitsF_ne); omega) | ((with_reducible apply stmsF_ne); omega) | ((with_reducible apply intsF_ne); omega) | assumption)⟩))
    | (apply s_l TY; exact rfl; (first | exact rfl | with_reducible assumption | ((with_reducible apply hitsF_f0); omega) | ((with_reducible apply hitsF_f1); omega) | ((with_reducible apply hitsF_f2); omega) | ((with_reducible apply stmsF_f0); omega) | ((with_reducible apply stmsF_f1); omega) | ((with_reducible apply intsF_at); omega) | assumption))
    | (apply s_m TY; exact rfl; (first | with_reducible assumption | ((with_reducible apply hitsF_sub); omega) | ((with_reducible apply stmsF_sub); omega) | exact rfl); exact rfl)
    | (apply s_idxAw hu94 hi3 hz3; exact rfl; exact rfl; exact rfl; exact rfl; decide; decide)
    | (apply s_idxOA TY; exact rfl; exact rfl; exact rfl; exact rfl; exact rfl; exact rfl; decide; decide)
    | (apply s_storeA TY; exact rfl; exact rfl; exact rfl; exact rfl; exact rfl; exact rfl)
    | (apply w_draw3 (id := 9) 13 14 8188 3 rfl (by kernel_rfl) (by kernel_rfl); exact rfl)
    | (apply s_gro3 TY; exact rfl; exact rfl; exact rfl; exact rfl; exact rfl; exact rfl; exact rfl; exact rfl; exact rfl; (unfold maxLen; omega); omega; exact rfl; exact rfl; exact (fun _ => rfl))
    | (refine KE.mk ⟨rfl, rfl, rfl, rfl, rfl, rfl, rfl, rfl, rfl, rfl, rfl, rfl, rfl, trivial⟩ ?_))
            exact ⟨i + 1, by omega, by omega, gh_le ⟨le_upd rfl trivial (le_upd rfl rfl (le_upd rfl trivial (le_upd rfl trivial (le_nil _)))), le_hupd (rowDout e2) trivial (le_hupd (rowDout e1) trivial (le_hupd (rowDin e0) trivial (le_hupd rfl (CLR _ rfl rfl rfl) (le_h0 _ _))))⟩⟩
          · have e0 : selK h wh count m0 0 (i + 1) = selK h wh count m0 0 i := selK_out (.inr (by rw [hat]; omega))
            have e1 : selK h wh count m1 1 (i + 1) = selK h wh count m1 1 i := selK_out (.inl (by rw [hw]; decide))
            have e2 : selK h wh count m2 2 (i + 1) = selK h wh count m2 2 i := selK_out (.inl (by rw [hw]; decide))
            repeat (first
    | (apply s_a TY; exact rfl)
    | (apply s_t; exact rfl; (first | assumption | omega))
    | (apply s_f; exact rfl; (first | assumption | omega))
    | apply w_seq
    | apply w_region
    | (apply w_draw (id := 8) 14 rfl (by kernel_rfl))
    | apply s_nil
    | apply t_norm
    | apply k_norm
    | apply w_block
    | apply w_skip
    | (apply w_condT; exact rfl; exact rfl)
    | (apply w_condF; exact rfl; exact rfl)
    | (apply s_k (HM); exact rfl)
    | (apply s_c TY; exact rfl; (first | omega | exact ⟨by omega, by (first | with_reducible assumption | ((with_reducible apply hitsF_ne); omega) | ((with_reducible apply stmsF_ne); omega) | ((with_reducible apply intsF_ne); omega) | assumption)⟩))
    | (apply s_l TY; exact rfl; (first | exact rfl | with_reducible assumption | ((with_reducible apply hitsF_f0); omega) | ((with_reducible apply hitsF_f1); omega) | ((with_reducible apply hitsF_f2); omega) | ((with_reducible apply stmsF_f0); omega) | ((with_reducible apply stmsF_f1); omega) | ((with_reducible apply intsF_at); omega) | assumption))
    | (apply s_idxAw hu94 hi3 hz3; exact rfl; exact rfl; exact rfl; exact rfl; decide; decide))
            exact ⟨i + 1, by omega, by omega, gh_le ⟨le_upd rfl trivial (le_upd rfl rfl (le_upd rfl trivial (le_upd rfl trivial (le_nil _)))), le_hupd (rowDout e2) trivial (le_hupd (rowDout e1) trivial (le_hupd (rowDout e0) trivial (le_hupd rfl (CLR _ rfl rfl rfl) (le_h0 _ _))))⟩⟩
    · by_cases hin : i < wh.length
      · have HW : Summ Tryz.prog GG 110 [iv wh[i], iv 3] (iv 1) := by
          have e := mod_s wh[i]
          rw [show modZ wh[i] = 1 by rw [← hw]; unfold whereZ; rw [if_pos hin]; simp [hin]] at e
          exact e
        have HM := mod_s i
        by_cases h1 : (i : Int) < count
        · have e0 : selK h wh count m0 0 (i + 1) = selK h wh count m0 0 i := selK_out (.inl (by rw [hw]; decide))
          have e1 : selK h wh count m1 1 (i + 1) = selK h wh count m1 1 i ++ [h[i]] := (selK_in hw (.inl h1)).trans (by rw [hat])
          have e2 : selK h wh count m2 2 (i + 1) = selK h wh count m2 2 i := selK_out (.inl (by rw [hw]; decide))
          repeat (first
    | (apply s_a TY; exact rfl)
    | (apply s_o TY; exact rfl)
    | (apply s_t; exact rfl; (first | assumption | omega))
    | apply w_seq
    | apply w_region
    | (apply w_draw (id := 8) 14 rfl (by kernel_rfl))
    | apply s_nil
    | apply t_norm
    | apply k_norm
    | apply w_block
    | apply w_skip
    | (apply w_condT; exact rfl; exact rfl)
    | (apply s_k (HM); exact rfl)
    | (apply s_k (HW); exact rfl)
    | (apply s_s; exact rfl)
    | (apply s_c TY; exact rfl; (first | omega | exact ⟨by omega, by (first | with_reducible assumption | ((with_reducible apply hitsF_ne); omega) | ((with_reducible apply stmsF_ne); omega) | ((with_reducible apply intsF_ne); omega) | assumption)⟩))
    | (apply s_l TY; exact rfl; (first | exact rfl | with_reducible assumption | ((with_reducible apply hitsF_f0); omega) | ((with_reducible apply hitsF_f1); omega) | ((with_reducible apply hitsF_f2); omega) | ((with_reducible apply stmsF_f0); omega) | ((with_reducible apply stmsF_f1); omega) | ((with_reducible apply intsF_at); omega) | assumption))
    | (apply s_m TY; exact rfl; (first | with_reducible assumption | ((with_reducible apply hitsF_sub); omega) | ((with_reducible apply stmsF_sub); omega) | exact rfl); exact rfl)
    | (apply s_idxOA TY; exact rfl; exact rfl; exact rfl; exact rfl; exact rfl; exact rfl; decide; decide)
    | (apply s_storeA TY; exact rfl; exact rfl; exact rfl; exact rfl; exact rfl; exact rfl)
    | (apply w_draw3 (id := 9) 13 14 8188 3 rfl (by kernel_rfl) (by kernel_rfl); exact rfl)
    | (apply s_gro3 TY; exact rfl; exact rfl; exact rfl; exact rfl; exact rfl; exact rfl; exact rfl; exact rfl; exact rfl; (unfold maxLen; omega); omega; exact rfl; exact rfl; exact (fun _ => rfl))
    | (refine KE.mk ⟨rfl, rfl, rfl, rfl, rfl, rfl, rfl, rfl, rfl, rfl, rfl, rfl, rfl, trivial⟩ ?_))
          exact ⟨i + 1, by omega, by omega, gh_le ⟨le_upd rfl trivial (le_upd rfl rfl (le_upd rfl trivial (le_upd rfl trivial (le_nil _)))), le_hupd (rowDout e2) trivial (le_hupd (rowDin e1) trivial (le_hupd (rowDout e0) trivial (le_hupd rfl (CLR _ rfl rfl rfl) (le_h0 _ _))))⟩⟩
        · by_cases h2 : h[i].tm ≤ m1
          · have e0 : selK h wh count m0 0 (i + 1) = selK h wh count m0 0 i := selK_out (.inl (by rw [hw]; decide))
            have e1 : selK h wh count m1 1 (i + 1) = selK h wh count m1 1 i ++ [h[i]] := (selK_in hw (.inr (by rw [hat]; exact h2))).trans (by rw [hat])
            have e2 : selK h wh count m2 2 (i + 1) = selK h wh count m2 2 i := selK_out (.inl (by rw [hw]; decide))
            repeat (first
    | (apply s_a TY; exact rfl)
    | (apply s_o TY; exact rfl)
    | (apply s_t; exact rfl; (first | assumption | omega))
    | (apply s_f; exact rfl; (first | assumption | omega))
    | apply w_seq
    | apply w_region
    | (apply w_draw (id := 8) 14 rfl (by kernel_rfl))
    | apply s_nil
    | apply t_norm
    | apply k_norm
    | apply w_block
    | apply w_skip
    | (apply w_condT; exact rfl; exact rfl)
    | (apply s_k (HM); exact rfl)
    | (apply s_k (HW); exact rfl)
    | (apply s_c TY; exact rfl; (first | omega | exact ⟨by omega, by (first | with_reducible assumption | ((with_reducible apply hitsF_ne); omega) | ((with_reducible apply stmsF_ne); omega) | ((with_reducible apply intsF_ne); omega) | assumption)⟩))
    | (apply s_l TY; exact rfl; (first | exact rfl | with_reducible assumption | ((with_reducible apply hitsF_f0); omega) | ((with_reducible apply hitsF_f1); omega) | ((with_reducible apply hitsF_f2); omega) | ((with_reducible apply stmsF_f0); omega) | ((with_reducible apply stmsF_f1); omega) | ((with_reducible apply intsF_at); omega) | assumption))
    | (apply s_m TY; exact rfl; (first | with_reducible assumption | ((with_reducible apply hitsF_sub); omega) | ((with_reducible apply stmsF_sub); omega) | exact rfl); exact rfl)
    | (apply s_idxAw hu94 hi3 hz3; exact rfl; exact rfl; exact rfl; exact rfl; decide; decide)
    | (apply s_idxOA TY; exact rfl; exact rfl; exact rfl; exact rfl; exact rfl; exact rfl; decide; decide)
    | (apply s_storeA TY; exact rfl; exact rfl; exact rfl; exact rfl; exact rfl; exact rfl)
    | (apply w_draw3 (id := 9) 13 14 8188 3 rfl (by kernel_rfl) (by kernel_rfl); exact rfl)
    | (apply s_gro3 TY; exact rfl; exact rfl; exact rfl; exact rfl; exact rfl; exact rfl; exact rfl; exact rfl; exact rfl; (unfold maxLen; omega); omega; exact rfl; exact rfl; exact (fun _ => rfl))
    | (refine KE.mk ⟨rfl, rfl, rfl, rfl, rfl, rfl, rfl, rfl, rfl, rfl, rfl, rfl, rfl, trivial⟩ ?_))
            exact ⟨i + 1, by omega, by omega, gh_le ⟨le_upd rfl trivial (le_upd rfl rfl (le_upd rfl trivial (le_upd rfl trivial (le_nil _)))), le_hupd (rowDout e2) trivial (le_hupd (rowDin e1) trivial (le_hupd (rowDout e0) trivial (le_hupd rfl (CLR _ rfl rfl rfl) (le_h0 _ _))))⟩⟩
          · have e0 : selK h wh count m0 0 (i + 1) = selK h wh count m0 0 i := selK_out (.inl (by rw [hw]; decide))
            have e1 : selK h wh count m1 1 (i + 1) = selK h wh count m1 1 i := selK_out (.inr (by rw [hat]; omega))
            have e2 : selK h wh count m2 2 (i + 1) = selK h wh count m2 2 i := selK_out (.inl (by rw [hw]; decide))
            repeat (first
    | (apply s_a TY; exact rfl)
    | (apply s_t; exact rfl; (first | assumption | omega))
    | (apply s_f; exact rfl; (first | assumption | omega))
    | apply w_seq
    | apply w_region
    | (apply w_draw (id := 8) 14 rfl (by kernel_rfl))
    | apply s_nil
    | apply t_norm
    | apply k_norm
    | apply w_block
    | apply w_skip
    | (apply w_condT; exact rfl; exact rfl)
    | (apply w_condF; exact rfl; exact rfl)
    | (apply s_k (HM); exact rfl)
    | (apply s_k (HW); exact rfl)
    | (apply s_c TY; exact rfl; (first | omega | exact ⟨by omega, by (first | with_reducible assumption | ((with_reducible apply hitsF_ne); omega) | ((with_reducible apply stmsF_ne); omega) | ((with_reducible apply intsF_ne); omega) | assumption)⟩))
    | (apply s_l TY; exact rfl; (first | exact rfl | with_reducible assumption | ((with_reducible apply hitsF_f0); omega) | ((with_reducible apply hitsF_f1); omega) | ((with_reducible apply hitsF_f2); omega) | ((with_reducible apply stmsF_f0); omega) | ((with_reducible apply stmsF_f1); omega) | ((with_reducible apply intsF_at); omega) | assumption))
    | (apply s_idxAw hu94 hi3 hz3; exact rfl; exact rfl; exact rfl; exact rfl; decide; decide))
            exact ⟨i + 1, by omega, by omega, gh_le ⟨le_upd rfl trivial (le_upd rfl rfl (le_upd rfl trivial (le_upd rfl trivial (le_nil _)))), le_hupd (rowDout e2) trivial (le_hupd (rowDout e1) trivial (le_hupd (rowDout e0) trivial (le_hupd rfl (CLR _ rfl rfl rfl) (le_h0 _ _))))⟩⟩
      · have HM : Summ Tryz.prog GG 110 [iv i, iv 3] (iv 1) := by
          have e := mod_s i
          rw [show modZ i = 1 by rw [← hw]; unfold whereZ; rw [if_neg hin]] at e
          exact e
        by_cases h1 : (i : Int) < count
        · have e0 : selK h wh count m0 0 (i + 1) = selK h wh count m0 0 i := selK_out (.inl (by rw [hw]; decide))
          have e1 : selK h wh count m1 1 (i + 1) = selK h wh count m1 1 i ++ [h[i]] := (selK_in hw (.inl h1)).trans (by rw [hat])
          have e2 : selK h wh count m2 2 (i + 1) = selK h wh count m2 2 i := selK_out (.inl (by rw [hw]; decide))
          repeat (first
    | (apply s_a TY; exact rfl)
    | (apply s_o TY; exact rfl)
    | (apply s_t; exact rfl; (first | assumption | omega))
    | (apply s_f; exact rfl; (first | assumption | omega))
    | apply w_seq
    | apply w_region
    | (apply w_draw (id := 8) 14 rfl (by kernel_rfl))
    | apply s_nil
    | apply t_norm
    | apply k_norm
    | apply w_block
    | apply w_skip
    | (apply w_condT; exact rfl; exact rfl)
    | (apply w_condF; exact rfl; exact rfl)
    | (apply s_k (HM); exact rfl)
    | (apply s_s; exact rfl)
    | (apply s_c TY; exact rfl; (first | omega | exact ⟨by omega, by (first | with_reducible assumption | ((with_reducible apply hitsF_ne); omega) | ((with_reducible apply stmsF_ne); omega) | ((with_reducible apply intsF_ne); omega) | assumption)⟩))
    | (apply s_m TY; exact rfl; (first | with_reducible assumption | ((with_reducible apply hitsF_sub); omega) | ((with_reducible apply stmsF_sub); omega) | exact rfl); exact rfl)
    | (apply s_idxOA TY; exact rfl; exact rfl; exact rfl; exact rfl; exact rfl; exact rfl; decide; decide)
    | (apply s_storeA TY; exact rfl; exact rfl; exact rfl; exact rfl; exact rfl; exact rfl)
    | (apply w_draw3 (id := 9) 13 14 8188 3 rfl (by kernel_rfl) (by kernel_rfl); exact rfl)
    | (apply s_gro3 TY; exact rfl; exact rfl; exact rfl; exact rfl; exact rfl; exact rfl; exact rfl; exact rfl; exact rfl; (unfold maxLen; omega); omega; exact rfl; exact rfl; exact (fun _ => rfl))
    | (refine KE.mk ⟨rfl, rfl, rfl, rfl, rfl, rfl, rfl, rfl, rfl, rfl, rfl, rfl, rfl, trivial⟩ ?_))
          exact ⟨i + 1, by omega, by omega, gh_le ⟨le_upd rfl trivial (le_upd rfl rfl (le_upd rfl trivial (le_upd rfl trivial (le_nil _)))), le_hupd (rowDout e2) trivial (le_hupd (rowDin e1) trivial (le_hupd (rowDout e0) trivial (le_hupd rfl (CLR _ rfl rfl rfl) (le_h0 _ _))))⟩⟩
        · by_cases h2 : h[i].tm ≤ m1
          · have e0 : selK h wh count m0 0 (i + 1) = selK h wh count m0 0 i := selK_out (.inl (by rw [hw]; decide))
            have e1 : selK h wh count m1 1 (i + 1) = selK h wh count m1 1 i ++ [h[i]] := (selK_in hw (.inr (by rw [hat]; exact h2))).trans (by rw [hat])
            have e2 : selK h wh count m2 2 (i + 1) = selK h wh count m2 2 i := selK_out (.inl (by rw [hw]; decide))
            repeat (first
    | (apply s_a TY; exact rfl)
    | (apply s_o TY; exact rfl)
    | (apply s_t; exact rfl; (first | assumption | omega))
    | (apply s_f; exact rfl; (first | assumption | omega))
    | apply w_seq
    | apply w_region
    | (apply w_draw (id := 8) 14 rfl (by kernel_rfl))
    | apply s_nil
    | apply t_norm
    | apply k_norm
    | apply w_block
    | apply w_skip
    | (apply w_condT; exact rfl; exact rfl)
    | (apply w_condF; exact rfl; exact rfl)
    | (apply s_k (HM); exact rfl)
    | (apply s_c TY; exact rfl; (first | omega | exact ⟨by omega, by (first | with_reducible assumption | ((with_reducible apply hitsF_ne); omega) | ((with_reducible apply stmsF_ne); omega) | ((with_reducible apply intsF_ne); omega) | assumption)⟩))
    | (apply s_l TY; exact rfl; (first | exact rfl | with_reducible assumption | ((with_reducible apply hitsF_f0); omega) | ((with_reducible apply hitsF_f1); omega) | ((with_reducible apply hitsF_f2); omega) | ((with_reducible apply stmsF_f0); omega) | ((with_reducible apply stmsF_f1); omega) | ((with_reducible apply intsF_at); omega) | assumption))
    | (apply s_m TY; exact rfl; (first | with_reducible assumption | ((with_reducible apply hitsF_sub); omega) | ((with_reducible apply stmsF_sub); omega) | exact rfl); exact rfl)
    | (apply s_idxAw hu94 hi3 hz3; exact rfl; exact rfl; exact rfl; exact rfl; decide; decide)
    | (apply s_idxOA TY; exact rfl; exact rfl; exact rfl; exact rfl; exact rfl; exact rfl; decide; decide)
    | (apply s_storeA TY; exact rfl; exact rfl; exact rfl; exact rfl; exact rfl; exact rfl)
    | (apply w_draw3 (id := 9) 13 14 8188 3 rfl (by kernel_rfl) (by kernel_rfl); exact rfl)
    | (apply s_gro3 TY; exact rfl; exact rfl; exact rfl; exact rfl; exact rfl; exact rfl; exact rfl; exact rfl; exact rfl; (unfold maxLen; omega); omega; exact rfl; exact rfl; exact (fun _ => rfl))
    | (refine KE.mk ⟨rfl, rfl, rfl, rfl, rfl, rfl, rfl, rfl, rfl, rfl, rfl, rfl, rfl, trivial⟩ ?_))
            exact ⟨i + 1, by omega, by omega, gh_le ⟨le_upd rfl trivial (le_upd rfl rfl (le_upd rfl trivial (le_upd rfl trivial (le_nil _)))), le_hupd (rowDout e2) trivial (le_hupd (rowDin e1) trivial (le_hupd (rowDout e0) trivial (le_hupd rfl (CLR _ rfl rfl rfl) (le_h0 _ _))))⟩⟩
          · have e0 : selK h wh count m0 0 (i + 1) = selK h wh count m0 0 i := selK_out (.inl (by rw [hw]; decide))
            have e1 : selK h wh count m1 1 (i + 1) = selK h wh count m1 1 i := selK_out (.inr (by rw [hat]; omega))
            have e2 : selK h wh count m2 2 (i + 1) = selK h wh count m2 2 i := selK_out (.inl (by rw [hw]; decide))
            repeat (first
    | (apply s_a TY; exact rfl)
    | (apply s_t; exact rfl; (first | assumption | omega))
    | (apply s_f; exact rfl; (first | assumption | omega))
    | apply w_seq
    | apply w_region
    | (apply w_draw (id := 8) 14 rfl (by kernel_rfl))
    | apply s_nil
    | apply t_norm
    | apply k_norm
    | apply w_block
    | apply w_skip
    | (apply w_condT; exact rfl; exact rfl)
    | (apply w_condF; exact rfl; exact rfl)
    | (apply s_k (HM); exact rfl)
    | (apply s_c TY; exact rfl; (first | omega | exact ⟨by omega, by (first | with_reducible assumption | ((with_reducible apply hitsF_ne); omega) | ((with_reducible apply stmsF_ne); omega) | ((with_reducible apply intsF_ne); omega) | assumption)⟩))
    | (apply s_l TY; exact rfl; (first | exact rfl | with_reducible assumption | ((with_reducible apply hitsF_f0); omega) | ((with_reducible apply hitsF_f1); omega) | ((with_reducible apply hitsF_f2); omega) | ((with_reducible apply stmsF_f0); omega) | ((with_reducible apply stmsF_f1); omega) | ((with_reducible apply intsF_at); omega) | assumption))
    | (apply s_idxAw hu94 hi3 hz3; exact rfl; exact rfl; exact rfl; exact rfl; decide; decide))
            exact ⟨i + 1, by omega, by omega, gh_le ⟨le_upd rfl trivial (le_upd rfl rfl (le_upd rfl trivial (le_upd rfl trivial (le_nil _)))), le_hupd (rowDout e2) trivial (le_hupd (rowDout e1) trivial (le_hupd (rowDout e0) trivial (le_hupd rfl (CLR _ rfl rfl rfl) (le_h0 _ _))))⟩⟩
    · by_cases hin : i < wh.length
      · have HW : Summ Tryz.prog GG 110 [iv wh[i], iv 3] (iv 2) := by
          have e := mod_s wh[i]
          rw [show modZ wh[i] = 2 by rw [← hw]; unfold whereZ; rw [if_pos hin]; simp [hin]] at e
          exact e
        have HM := mod_s i
        by_cases h1 : (i : Int) < count
        · have e0 : selK h wh count m0 0 (i + 1) = selK h wh count m0 0 i := selK_out (.inl (by rw [hw]; decide))
          have e1 : selK h wh count m1 1 (i + 1) = selK h wh count m1 1 i := selK_out (.inl (by rw [hw]; decide))
          have e2 : selK h wh count m2 2 (i + 1) = selK h wh count m2 2 i ++ [h[i]] := (selK_in hw (.inl h1)).trans (by rw [hat])
          repeat (first
    | (apply s_a TY; exact rfl)
    | (apply s_o TY; exact rfl)
    | (apply s_t; exact rfl; (first | assumption | omega))
    | apply w_seq
    | apply w_region
    | (apply w_draw (id := 8) 14 rfl (by kernel_rfl))
    | apply s_nil
    | apply t_norm
    | apply k_norm
    | apply w_block
    | apply w_skip
    | (apply w_condT; exact rfl; exact rfl)
    | (apply s_k (HM); exact rfl)
    | (apply s_k (HW); exact rfl)
    | (apply s_s; exact rfl)
    | (apply s_c TY; exact rfl; (first | omega | exact ⟨by omega, by (first | with_reducible assumption | ((with_reducible apply hitsF_ne); omega) | ((with_reducible apply stmsF_ne); omega) | ((with_reducible apply intsF_ne); omega) | assumption)⟩))
    | (apply s_l TY; exact rfl; (first | exact rfl | with_reducible assumption | ((with_reducible apply hitsF_f0); omega) | ((with_reducible apply hitsF_f1); omega) | ((with_reducible apply hitsF_f2); omega) | ((with_reducible apply stmsF_f0); omega) | ((with_reducible apply stmsF_f1); omega) | ((with_reducible apply intsF_at); omega) | assumption))
    | (apply s_m TY; exact rfl; (first | with_reducible assumption | ((with_reducible apply hitsF_sub); omega) | ((with_reducible apply stmsF_sub); omega) | exact rfl); exact rfl)
    | (apply s_idxOA TY; exact rfl; exact rfl; exact rfl; exact rfl; exact rfl; exact rfl; decide; decide)
    | (apply s_storeA TY; exact rfl; exact rfl; exact rfl; exact rfl; exact rfl; exact rfl)
    | (apply w_draw3 (id := 9) 13 14 8188 3 rfl (by kernel_rfl) (by kernel_rfl); exact rfl)
    | (apply s_gro3 TY; exact rfl; exact rfl; exact rfl; exact rfl; exact rfl; exact rfl; exact rfl; exact rfl; exact rfl; (unfold maxLen; omega); omega; exact rfl; exact rfl; exact (fun _ => rfl))
    | (refine KE.mk ⟨rfl, rfl, rfl, rfl, rfl, rfl, rfl, rfl, rfl, rfl, rfl, rfl, rfl, trivial⟩ ?_))
          exact ⟨i + 1, by omega, by omega, gh_le ⟨le_upd rfl trivial (le_upd rfl rfl (le_upd rfl trivial (le_upd rfl trivial (le_nil _)))), le_hupd (rowDin e2) trivial (le_hupd (rowDout e1) trivial (le_hupd (rowDout e0) trivial (le_hupd rfl (CLR _ rfl rfl rfl) (le_h0 _ _))))⟩⟩
        · by_cases h2 : h[i].tm ≤ m2
          · have e0 : selK h wh count m0 0 (i + 1) = selK h wh count m0 0 i := selK_out (.inl (by rw [hw]; decide))
            have e1 : selK h wh count m1 1 (i + 1) = selK h wh count m1 1 i := selK_out (.inl (by rw [hw]; decide))
            have e2 : selK h wh count m2 2 (i + 1) = selK h wh count m2 2 i ++ [h[i]] := (selK_in hw (.inr (by rw [hat]; exact h2))).trans (by rw [hat])
            repeat (first
    | (apply s_a TY; exact rfl)
    | (apply s_o TY; exact rfl)
    | (apply s_t; exact rfl; (first | assumption | omega))
    | (apply s_f; exact rfl; (first | assumption | omega))
    | apply w_seq
    | apply w_region
    | (apply w_draw (id := 8) 14 rfl (by kernel_rfl))
    | apply s_nil
    | apply t_norm
    | apply k_norm
    | apply w_block
    | apply w_skip
    | (apply w_condT; exact rfl; exact rfl)
    | (apply s_k (HM); exact rfl)
    | (apply s_k (HW); exact rfl)
    | (apply s_c TY; exact rfl; (first | omega | exact ⟨by omega, by (first | with_reducible assumption | ((with_reducible apply hitsF_ne); omega) | ((with_reducible apply stmsF_ne); omega) | ((with_reducible apply intsF_ne); omega) | assumption)⟩))
    | (apply s_l TY; exact rfl; (first | exact rfl | with_reducible assumption | ((with_reducible apply hitsF_f0); omega) | ((with_reducible apply hitsF_f1); omega) | ((with_reducible apply hitsF_f2); omega) | ((with_reducible apply stmsF_f0); omega) | ((with_reducible apply stmsF_f1); omega) | ((with_reducible apply intsF_at); omega) | assumption))
    | (apply s_m TY; exact rfl; (first | with_reducible assumption | ((with_reducible apply hitsF_sub); omega) | ((with_reducible apply stmsF_sub); omega) | exact rfl); exact rfl)
    | (apply s_idxAw hu94 hi3 hz3; exact rfl; exact rfl; exact rfl; exact rfl; decide; decide)
    | (apply s_idxOA TY; exact rfl; exact rfl; exact rfl; exact rfl; exact rfl; exact rfl; decide; decide)
    | (apply s_storeA TY; exact rfl; exact rfl; exact rfl; exact rfl; exact rfl; exact rfl)
    | (apply w_draw3 (id := 9) 13 14 8188 3 rfl (by kernel_rfl) (by kernel_rfl); exact rfl)
    | (apply s_gro3 TY; exact rfl; exact rfl; exact rfl; exact rfl; exact rfl; exact rfl; exact rfl; exact rfl; exact rfl; (unfold maxLen; omega); omega; exact rfl; exact rfl; exact (fun _ => rfl))
    | (refine KE.mk ⟨rfl, rfl, rfl, rfl, rfl, rfl, rfl, rfl, rfl, rfl, rfl, rfl, rfl, trivial⟩ ?_))
            exact ⟨i + 1, by omega, by omega, gh_le ⟨le_upd rfl trivial (le_upd rfl rfl (le_upd rfl trivial (le_upd rfl trivial (le_nil _)))), le_hupd (rowDin e2) trivial (le_hupd (rowDout e1) trivial (le_hupd (rowDout e0) trivial (le_hupd rfl (CLR _ rfl rfl rfl) (le_h0 _ _))))⟩⟩
          · have e0 : selK h wh count m0 0 (i + 1) = selK h wh count m0 0 i := selK_out (.inl (by rw [hw]; decide))
            have e1 : selK h wh count m1 1 (i + 1) = selK h wh count m1 1 i := selK_out (.inl (by rw [hw]; decide))
            have e2 : selK h wh count m2 2 (i + 1) = selK h wh count m2 2 i := selK_out (.inr (by rw [hat]; omega))
            repeat (first
    | (apply s_a TY; exact rfl)
    | (apply s_t; exact rfl; (first | assumption | omega))
    | (apply s_f; exact rfl; (first | assumption | omega))
    | apply w_seq
    | apply w_region
    | (apply w_draw (id := 8) 14 rfl (by kernel_rfl))
    | apply s_nil
    | apply t_norm
    | apply k_norm
    | apply w_block
    | apply w_skip
    | (apply w_condT; exact rfl; exact rfl)
    | (apply w_condF; exact rfl; exact rfl)
    | (apply s_k (HM); exact rfl)
    | (apply s_k (HW); exact rfl)
    | (apply s_c TY; exact rfl; (first | omega | exact ⟨by omega, by (first | with_reducible assumption | ((with_reducible apply hitsF_ne); omega) | ((with_reducible apply stmsF_ne); omega) | ((with_reducible apply intsF_ne); omega) | assumption)⟩))
    | (apply s_l TY; exact rfl; (first | exact rfl | with_reducible assumption | ((with_reducible apply hitsF_f0); omega) | ((with_reducible apply hitsF_f1); omega) | ((with_reducible apply hitsF_f2); omega) | ((with_reducible apply stmsF_f0); omega) | ((with_reducible apply stmsF_f1); omega) | ((with_reducible apply intsF_at); omega) | assumption))
    | (apply s_idxAw hu94 hi3 hz3; exact rfl; exact rfl; exact rfl; exact rfl; decide; decide))
            exact ⟨i + 1, by omega, by omega, gh_le ⟨le_upd rfl trivial (le_upd rfl rfl (le_upd rfl trivial (le_upd rfl trivial (le_nil _)))), le_hupd (rowDout e2) trivial (le_hupd (rowDout e1) trivial (le_hupd (rowDout e0) trivial (le_hupd rfl (CLR _ rfl rfl rfl) (le_h0 _ _))))⟩⟩
      · have HM : Summ Tryz.prog GG 110 [iv i, iv 3] (iv 2) := by
          have e := mod_s i
          rw [show modZ i = 2 by rw [← hw]; unfold whereZ; rw [if_neg hin]] at e
          exact e
        by_cases h1 : (i : Int) < count
        · have e0 : selK h wh count m0 0 (i + 1) = selK h wh count m0 0 i := selK_out (.inl (by rw [hw]; decide))
          have e1 : selK h wh count m1 1 (i + 1) = selK h wh count m1 1 i := selK_out (.inl (by rw [hw]; decide))
          have e2 : selK h wh count m2 2 (i + 1) = selK h wh count m2 2 i ++ [h[i]] := (selK_in hw (.inl h1)).trans (by rw [hat])
          repeat (first
    | (apply s_a TY; exact rfl)
    | (apply s_o TY; exact rfl)
    | (apply s_t; exact rfl; (first | assumption | omega))
    | (apply s_f; exact rfl; (first | assumption | omega))
    | apply w_seq
    | apply w_region
    | (apply w_draw (id := 8) 14 rfl (by kernel_rfl))
    | apply s_nil
    | apply t_norm
    | apply k_norm
    | apply w_block
    | apply w_skip
    | (apply w_condT; exact rfl; exact rfl)
    | (apply w_condF; exact rfl; exact rfl)
    | (apply s_k (HM); exact rfl)
    | (apply s_s; exact rfl)
    | (apply s_c TY; exact rfl; (first | omega | exact ⟨by omega, by (first | with_reducible assumption | ((with_reducible apply hitsF_ne); omega) | ((with_reducible apply stmsF_ne); omega) | ((with_reducible apply intsF_ne); omega) | assumption)⟩))
    | (apply s_m TY; exact rfl; (first | with_reducible assumption | ((with_reducible apply hitsF_sub); omega) | ((with_reducible apply stmsF_sub); omega) | exact rfl); exact rfl)
    | (apply s_idxOA TY; exact rfl; exact rfl; exact rfl; exact rfl; exact rfl; exact rfl; decide; decide)
    | (apply s_storeA TY; exact rfl; exact rfl; exact rfl; exact rfl; exact rfl; exact rfl)
    | (apply w_draw3 (id := 9) 13 14 8188 3 rfl (by kernel_rfl) (by kernel_rfl); exact rfl)
    | (apply s_gro3 TY; exact rfl; exact rfl; exact rfl; exact rfl; exact rfl; exact rfl; exact rfl; exact rfl; exact rfl; (unfold maxLen; omega); omega; exact rfl; exact rfl; exact (fun _ => rfl))
    | (refine KE.mk ⟨rfl, rfl, rfl, rfl, rfl, rfl, rfl, rfl, rfl, rfl, rfl, rfl, rfl, trivial⟩ ?_))
          exact ⟨i + 1, by omega, by omega, gh_le ⟨le_upd rfl trivial (le_upd rfl rfl (le_upd rfl trivial (le_upd rfl trivial (le_nil _)))), le_hupd (rowDin e2) trivial (le_hupd (rowDout e1) trivial (le_hupd (rowDout e0) trivial (le_hupd rfl (CLR _ rfl rfl rfl) (le_h0 _ _))))⟩⟩
        · by_cases h2 : h[i].tm ≤ m2
          · have e0 : selK h wh count m0 0 (i + 1) = selK h wh count m0 0 i := selK_out (.inl (by rw [hw]; decide))
            have e1 : selK h wh count m1 1 (i + 1) = selK h wh count m1 1 i := selK_out (.inl (by rw [hw]; decide))
            have e2 : selK h wh count m2 2 (i + 1) = selK h wh count m2 2 i ++ [h[i]] := (selK_in hw (.inr (by rw [hat]; exact h2))).trans (by rw [hat])
            repeat (first
    | (apply s_a TY; exact rfl)
    | (apply s_o TY; exact rfl)
    | (apply s_t; exact rfl; (first | assumption | omega))
    | (apply s_f; exact rfl; (first | assumption | omega))
    | apply w_seq
    | apply w_region
    | (apply w_draw (id := 8) 14 rfl (by kernel_rfl))
    | apply s_nil
    | apply t_norm
    | apply k_norm
    | apply w_block
    | apply w_skip
    | (apply w_condT; exact rfl; exact rfl)
    | (apply w_condF; exact rfl; exact rfl)
    | (apply s_k (HM); exact rfl)
    | (apply s_c TY; exact rfl; (first | omega | exact ⟨by omega, by (first | with_reducible assumption | ((with_reducible apply hitsF_ne); omega) | ((with_reducible apply stmsF_ne); omega) | ((with_reducible apply intsF_ne); omega) | assumption)⟩))
    | (apply s_l TY; exact rfl; (first | exact rfl | with_reducible assumption | ((with_reducible apply hitsF_f0); omega) | ((with_reducible apply hitsF_f1); omega) | ((with_reducible apply hitsF_f2); omega) | ((with_reducible apply stmsF_f0); omega) | ((with_reducible apply stmsF_f1); omega) | ((with_reducible apply intsF_at); omega) | assumption))
    | (apply s_m TY; exact rfl; (first | with_reducible assumption | ((with_reducible apply hitsF_sub); omega) | ((with_reducible apply stmsF_sub); omega) | exact rfl); exact rfl)
    | (apply s_idxAw hu94 hi3 hz3; exact rfl; exact rfl; exact rfl; exact rfl; decide; decide)
    | (apply s_idxOA TY; exact rfl; exact rfl; exact rfl; exact rfl; exact rfl; exact rfl; decide; decide)
    | (apply s_storeA TY; exact rfl; exact rfl; exact rfl; exact rfl; exact rfl; exact rfl)
    | (apply w_draw3 (id := 9) 13 14 8188 3 rfl (by kernel_rfl) (by kernel_rfl); exact rfl)
    | (apply s_gro3 TY; exact rfl; exact rfl; exact rfl; exact rfl; exact rfl; exact rfl; exact rfl; exact rfl; exact rfl; (unfold maxLen; omega); omega; exact rfl; exact rfl; exact (fun _ => rfl))
    | (refine KE.mk ⟨rfl, rfl, rfl, rfl, rfl, rfl, rfl, rfl, rfl, rfl, rfl, rfl, rfl, trivial⟩ ?_))
            exact ⟨i + 1, by omega, by omega, gh_le ⟨le_upd rfl trivial (le_upd rfl rfl (le_upd rfl trivial (le_upd rfl trivial (le_nil _)))), le_hupd (rowDin e2) trivial (le_hupd (rowDout e1) trivial (le_hupd (rowDout e0) trivial (le_hupd rfl (CLR _ rfl rfl rfl) (le_h0 _ _))))⟩⟩
          · have e0 : selK h wh count m0 0 (i + 1) = selK h wh count m0 0 i := selK_out (.inl (by rw [hw]; decide))
            have e1 : selK h wh count m1 1 (i + 1) = selK h wh count m1 1 i := selK_out (.inl (by rw [hw]; decide))
            have e2 : selK h wh count m2 2 (i + 1) = selK h wh count m2 2 i := selK_out (.inr (by rw [hat]; omega))
            repeat (first
    | (apply s_a TY; exact rfl)
    | (apply s_t; exact rfl; (first | assumption | omega))
    | (apply s_f; exact rfl; (first | assumption | omega))
    | apply w_seq
    | apply w_region
    | (apply w_draw (id := 8) 14 rfl (by kernel_rfl))
    | apply s_nil
    | apply t_norm
    | apply k_norm
    | apply w_block
    | apply w_skip
    | (apply w_condT; exact rfl; exact rfl)
    | (apply w_condF; exact rfl; exact rfl)
    | (apply s_k (HM); exact rfl)
    | (apply s_c TY; exact rfl; (first | omega | exact ⟨by omega, by (first | with_reducible assumption | ((with_reducible apply hitsF_ne); omega) | ((with_reducible apply stmsF_ne); omega) | ((with_reducible apply intsF_ne); omega) | assumption)⟩))
    | (apply s_l TY; exact rfl; (first | exact rfl | with_reducible assumption | ((with_reducible apply hitsF_f0); omega) | ((with_reducible apply hitsF_f1); omega) | ((with_reducible apply hitsF_f2); omega) | ((with_reducible apply stmsF_f0); omega) | ((with_reducible apply stmsF_f1); omega) | ((with_reducible apply intsF_at); omega) | assumption))
    | (apply s_idxAw hu94 hi3 hz3; exact rfl; exact rfl; exact rfl; exact rfl; decide; decide))
            exact ⟨i + 1, by omega, by omega, gh_le ⟨le_upd rfl trivial (le_upd rfl rfl (le_upd rfl trivial (le_upd rfl trivial (le_nil _)))), le_hupd (rowDout e2) trivial (le_hupd (rowDout e1) trivial (le_hupd (rowDout e0) trivial (le_hupd rfl (CLR _ rfl rfl rfl) (le_h0 _ _))))⟩⟩
  · have hke : i = h.length := by omega
    subst hke
    repeat (first
    | (apply s_a TY; exact rfl)
    | (apply s_f; exact rfl; (first | assumption | omega))
    | apply w_seq
    | apply w_region
    | apply s_nil
    | apply t_norm
    | apply t_exit
    | apply k_hit
    | apply w_exit
    | apply w_ret
    | (apply w_condF; exact rfl; exact rfl))
    exact lv_ret (ret_gh (gh_trans (gh_row 1 rfl) (gh_trans (gh_row 2 rfl) (gh_trans (gh_row 3 rfl) (gh_trans (gh_rowF 0 (cs := stmsF (divS h wh m0 m1 m2 count)) rfl) (gh_row 0 rfl))))) (ret1 rfl (res_tmp rfl)))
end Go.Proofs.YtdmdpkoapllkkaaGreat
namespace Go.Proofs.YtdmdpkoapllkkaaGreat
open Go Go.RowKit Go.Proofs Go.Shelf Go.Ab
theorem selK_mem {h : List Hit} {wh : List Int} {count m k : Int} {n : Nat} {x : Hit} : x ∈ selK h wh count m k n ↔ ∃ i, i < n ∧ whereZ wh i = k ∧ ((i : Int) < count ∨ (h.getD i default).tm ≤ m) ∧ h.getD i default = x := by
  unfold selK
  rw [List.mem_map]
  constructor
  · rintro ⟨i, hi, rfl⟩
    obtain ⟨h1, h2⟩ := List.mem_filter.1 hi
    rw [List.mem_range] at h1
    simp only [Bool.and_eq_true, Bool.or_eq_true, decide_eq_true_eq] at h2
    exact ⟨i, h1, h2.1, h2.2, rfl⟩
  · rintro ⟨i, h1, h2, h3, rfl⟩
    refine ⟨i, List.mem_filter.2 ⟨List.mem_range.2 h1, ?_⟩, rfl⟩
    simp only [Bool.and_eq_true, Bool.or_eq_true, decide_eq_true_eq]
    exact ⟨h2, h3⟩
theorem range_getD (h : List Hit) : (List.range h.length).map (fun i => h.getD i default) = h := by
  apply List.ext_getElem
  · simp
  · intro i h1 h2
    rw [List.getElem_map, List.getElem_range]
    exact getD_eq h2
theorem selK_sub (h : List Hit) (wh : List Int) (count m k : Int) : (selK h wh count m k h.length).Sublist h := by
  have : (selK h wh count m k h.length).Sublist ((List.range h.length).map fun i => h.getD i default) := List.filter_sublist.map _
  rwa [range_getD] at this
section
variable {l : List Site} {s : Setup} {h : List Hit} {wh : List Int} {m0 m1 m2 count : Int}
theorem selK_ok (o : HitsOk l h) (m k : Int) : HitsOk l (selK h wh count m k h.length) :=
  hitsOk_asc (Nat.le_trans (selK_len _) o.len) (o.asc.sublist (selK_sub h wh count m k)) fun x hx => o.mem ((selK_sub h wh count m k).subset hx)
def markZ (m0 m1 m2 k : Int) : Int := if k = 0 then m0 else if k = 1 then m1 else m2
theorem divS_mem {x : Hit} : x ∈ allH (divS h wh m0 m1 m2 count) ↔ ∃ i, i < h.length ∧ ((i : Int) < count ∨ (h.getD i default).tm ≤ markZ m0 m1 m2 (whereZ wh i)) ∧ h.getD i default = x := by
  have e : allH (divS h wh m0 m1 m2 count) = selK h wh count m0 0 h.length ++ (selK h wh count m1 1 h.length ++ selK h wh count m2 2 h.length) := by simp [allH, divS]
  rw [e, List.mem_append, List.mem_append, selK_mem, selK_mem, selK_mem]
  constructor
  · rintro (⟨i, h1, h2, h3, h4⟩ | ⟨i, h1, h2, h3, h4⟩ | ⟨i, h1, h2, h3, h4⟩) <;> exact ⟨i, h1, by rw [h2]; exact h3, h4⟩
  · rintro ⟨i, h1, h3, h4⟩
    rcases whereZ_bd wh i with h2 | h2 | h2 <;> rw [h2] at h3
    · exact .inl ⟨i, h1, h2, h3, h4⟩
    · exact .inr (.inl ⟨i, h1, h2, h3, h4⟩)
    · exact .inr (.inr ⟨i, h1, h2, h3, h4⟩)
theorem divS_sub {x : Hit} (hx : x ∈ mergeH (allH (divS h wh m0 m1 m2 count))) : x ∈ h := by
  obtain ⟨i, h1, _, rfl⟩ := divS_mem.1 (mergeH_mem.1 hx)
  rw [getD_eq h1]; exact List.getElem_mem h1
theorem divS_full (o : HitsOk l h) (hc : (h.length : Int) ≤ count) : mergeH (allH (divS h wh m0 m1 m2 count)) = h :=
  asc_uniq (mergeH_asc _) o.asc fun x => ⟨divS_sub, fun hx => by
    obtain ⟨i, hi, rfl⟩ := List.getElem_of_mem hx
    exact mergeH_mem.2 (divS_mem.2 ⟨i, hi, .inl (by omega), getD_eq hi⟩)⟩
theorem divS_len (o : HitsOk l h) : (mergeH (allH (divS h wh m0 m1 m2 count))).length ≤ h.length :=
  (sub_of_asc h _ (mergeH_asc _) o.asc fun _ hx => divS_sub hx).length_le
theorem divS_each (o : HitsOk l h) (h0 : 0 ≤ m0 ∧ m0 ≤ 1000000000000) (h1 : 0 ≤ m1 ∧ m1 ≤ 1000000000000) (h2 : 0 ≤ m2 ∧ m2 ≤ 1000000000000) : ∀ i (hi : i < (divS h wh m0 m1 m2 count).length), stmE l (divS h wh m0 m1 m2 count)[i] = 0 := fun i hi => by
  match i, hi with
  | 0, _ => exact stmE_ok.2 ⟨hitsChk_ok (selK_ok o m0 0), h0⟩
  | 1, _ => exact stmE_ok.2 ⟨hitsChk_ok (selK_ok o m1 1), h1⟩
  | 2, _ => exact stmE_ok.2 ⟨hitsChk_ok (selK_ok o m2 2), h2⟩
  | i + 3, h => exact absurd h (by simp [divS])
theorem divS_chk (o : HitsOk l h) (h0 : 0 ≤ m0 ∧ m0 ≤ 1000000000000) (h1 : 0 ≤ m1 ∧ m1 ≤ 1000000000000) (h2 : 0 ≤ m2 ∧ m2 ≤ 1000000000000) : stmsChk l (divS h wh m0 m1 m2 count) = (0, 0) :=
  stmsChk_of (by simp [divS]) (by simp [divS]) (divS_each o h0 h1 h2)
theorem divS_min (i : Nat) : minMk (divS h wh m0 m1 m2 count) 3 ≤ markZ m0 m1 m2 (whereZ wh i) := by
  unfold markZ
  have a := minMk_le (l := divS h wh m0 m1 m2 count) (k := 3) (i := 0) (by decide)
  have b := minMk_le (l := divS h wh m0 m1 m2 count) (k := 3) (i := 1) (by decide)
  have c := minMk_le (l := divS h wh m0 m1 m2 count) (k := 3) (i := 2) (by decide)
  have a' : ((divS h wh m0 m1 m2 count).getD 0 default).mark = m0 := rfl
  have b' : ((divS h wh m0 m1 m2 count).getD 1 default).mark = m1 := rfl
  have c' : ((divS h wh m0 m1 m2 count).getD 2 default).mark = m2 := rfl
  rw [a'] at a
  rw [b'] at b
  rw [c'] at c
  split
  · exact a
  · split
    · exact b
    · exact c
theorem divS_arrived (hl : ArrOk l) (hs : SetOk s) (o : HitsOk l h) (h0 : 0 ≤ m0 ∧ m0 ≤ 1000000000000) (h1 : 0 ≤ m1 ∧ m1 ≤ 1000000000000) (h2 : 0 ≤ m2 ∧ m2 ≤ 1000000000000) :
    Arrived l s h (mergeH (allH (divS h wh m0 m1 m2 count))) (settledT s (divS h wh m0 m1 m2 count)) (minMk (divS h wh m0 m1 m2 count) 3) where
  oh := o
  og := merge_ok hl (by rw [divS_chk o h0 h1 h2]) (Nat.le_trans (divS_len o) o.len)
  set := hs
  sub _ hx := divS_sub hx
  come x hx ht := by
    obtain ⟨i, hi, rfl⟩ := List.getElem_of_mem hx
    refine mergeH_mem.2 (divS_mem.2 ⟨i, hi, .inr ?_, getD_eq hi⟩)
    rw [getD_eq hi]
    exact Int.le_trans ht (divS_min i)
  late k hk := by
    have := maxLn_ge (s := s) hk
    rw [getD_at hk] at this
    have e : settledT s (divS h wh m0 m1 m2 count) = minMk (divS h wh m0 m1 m2 count) 3 - maxLn s s.rules.length - s.before := rfl
    omega
end
end Go.Proofs.YtdmdpkoapllkkaaGreat
namespace Go.Ab
open Go Go.RowKit
section
variable {P : Program} {w : World}
end
end Go.Ab
namespace Go.Proofs.YtdmdpkoapllkkaaGreat
open Go Go.RowKit Go.Proofs Go.Shelf Go.Ab
end Go.Proofs.YtdmdpkoapllkkaaGreat
namespace Go.Proofs.YtdmdpkoapllkkaaGreat
open Go Go.RowKit Go.Proofs Go.Shelf Go.Ab
end Go.Proofs.YtdmdpkoapllkkaaGreat
namespace Go.Proofs.YtdmdpkoapllkkaaGreat
open Go Go.RowKit Go.Proofs Go.Shelf Go.Ab
set_option maxRecDepth 100000 in
set_option maxHeartbeats 25600000 in
theorem TriggerAnyOrder_s (l : List Site) (s : Setup) (h : List Hit) (wh : List Int) (m0 m1 m2 : Int) : Summ Tryz.prog GG 8 [arrF l, setF s, .agg [.sl h.length (hitsF h), .sl wh.length (intsF wh), iv m0, iv m1, iv m2]] (bv true) := by
  obtain ⟨i3, hi3, hz3⟩ := sizeB_spec (n := 1) (TY.ok 3) rfl
  have hu94 : Tryz.prog.underlying 94 = some (.array 3 3) := by kernel_rfl
  have HA := awake_s
  have HF := FewRules_s s
  have HFw := Few_s l h
  cases hfw : FewB l h with
  | false =>
    rw [hfw] at HFw
    refine summW Tryz.func8 rfl rfl 237 rfl (by simp) (fun M0 => ?_)
    repeat (first
    | (apply s_assign_f; exact rfl; exact rfl)
    | (apply s_move_f; exact rfl; exact rfl)
    | (apply s_a TY; exact rfl)
    | apply w_seq
    | apply w_region
    | apply s_nil
    | apply t_norm
    | apply t_ret
    | apply w_ret
    | apply w_skip
    | (apply w_condT; exact rfl; exact rfl)
    | (apply w_condF; exact rfl; exact rfl)
    | (apply s_k (HA); exact rfl)
    | (apply s_k (HFw); exact rfl)
    | (apply s_s; exact rfl))
    exact lv_ret (ret1 rfl (res_tmp rfl))
  | true =>
  rw [hfw] at HFw
  by_cases h12 : 12 < h.length
  · refine summW Tryz.func8 rfl rfl 237 rfl (by simp) (fun M0 => ?_)
    repeat (first
    | (apply s_assign_f; exact rfl; exact rfl)
    | (apply s_move_f; exact rfl; exact rfl)
    | (apply s_a TY; exact rfl)
    | (apply s_t; exact rfl; (first | assumption | omega))
    | apply w_seq
    | apply w_region
    | apply s_nil
    | apply t_norm
    | apply t_ret
    | apply w_ret
    | apply w_skip
    | (apply w_condT; exact rfl; exact rfl)
    | (apply w_condF; exact rfl; exact rfl)
    | (apply s_k (HA); exact rfl)
    | (apply s_k (HFw); exact rfl)
    | (apply s_s; exact rfl))
    exact lv_ret (ret1 rfl (res_tmp rfl))
  cases hf : fewRulesB s with
  | false =>
    rw [hf] at HF
    refine summW Tryz.func8 rfl rfl 237 rfl (by simp) (fun M0 => ?_)
    repeat (first
    | (apply s_assign_f; exact rfl; exact rfl)
    | (apply s_move_f; exact rfl; exact rfl)
    | (apply s_a TY; exact rfl)
    | (apply s_f; exact rfl; (first | assumption | omega))
    | apply w_seq
    | apply w_region
    | apply s_nil
    | apply t_norm
    | apply t_ret
    | apply w_ret
    | apply w_skip
    | (apply w_condT; exact rfl; exact rfl)
    | (apply w_condF; exact rfl; exact rfl)
    | (apply s_k (HA); exact rfl)
    | (apply s_k (HFw); exact rfl)
    | (apply s_k (HF); exact rfl)
    | (apply s_s; exact rfl))
    exact lv_ret (ret1 rfl (res_tmp rfl))
  | true =>
  rw [hf] at HF
  have hl32 : l.length ≤ 32 := by
    unfold FewB at hfw
    rw [Bool.and_eq_true, decide_eq_true_eq] at hfw
    exact hfw.1
  have hr6 : s.rules.length ≤ 6 := by
    unfold fewRulesB at hf
    rw [Bool.and_eq_true, decide_eq_true_eq] at hf
    exact hf.1
  have hl6 : l.length ≤ 1000000 := by omega
  have hs6 : s.rules.length ≤ 1000000 := by omega
  have hh6 : h.length ≤ 1000000 := by omega
  have HSE := SetErr_s l s h hl6 hs6 hh6
  by_cases he : setErr l s h = 0
  rotate_left
  · refine summW Tryz.func8 rfl rfl 237 rfl (by simp) (fun M0 => ?_)
    repeat (first
    | (apply s_assign_f; exact rfl; exact rfl)
    | (apply s_move_f; exact rfl; exact rfl)
    | (apply s_a TY; exact rfl)
    | (apply s_f; exact rfl; (first | assumption | omega))
    | apply w_seq
    | apply w_region
    | apply s_nil
    | apply t_norm
    | apply t_ret
    | apply w_ret
    | apply w_skip
    | (apply w_condT; exact rfl; exact rfl)
    | (apply w_condF; exact rfl; exact rfl)
    | (apply s_k (HA); exact rfl)
    | (apply s_k (HFw); exact rfl)
    | (apply s_k (HF); exact rfl)
    | (apply s_k (HSE); exact rfl)
    | (apply s_s; exact rfl))
    exact lv_ret (ret1 rfl (res_tmp rfl))
  rw [he] at HSE
  by_cases q0 : 0 ≤ m0 ∧ m0 ≤ 1000000000000
  rotate_left
  · have HT0 := bIsTick_F m0 q0
    refine summW Tryz.func8 rfl rfl 237 rfl (by simp) (fun M0 => ?_)
    repeat (first
    | (apply s_assign_f; exact rfl; exact rfl)
    | (apply s_move_f; exact rfl; exact rfl)
    | (apply s_idxAw hu94 hi3 hz3; exact rfl; exact rfl; exact rfl; exact rfl; decide; decide)
    | (apply s_a TY; exact rfl)
    | (apply s_t; exact rfl; (first | assumption | omega))
    | (apply s_f; exact rfl; (first | assumption | omega))
    | apply w_seq
    | apply w_region
    | apply s_nil
    | apply t_norm
    | apply t_ret
    | apply w_ret
    | apply w_skip
    | (apply w_condT; exact rfl; exact rfl)
    | (apply w_condF; exact rfl; exact rfl)
    | (apply s_k (HA); exact rfl)
    | (apply s_k (HFw); exact rfl)
    | (apply s_k (HF); exact rfl)
    | (apply s_k (HSE); exact rfl)
    | (apply s_k (HT0); exact rfl)
    | (apply s_s; exact rfl))
    exact lv_ret (ret1 rfl (res_tmp rfl))
  have HT0 := bIsTick_T m0 q0
  by_cases q1 : 0 ≤ m1 ∧ m1 ≤ 1000000000000
  rotate_left
  · have HT1 := bIsTick_F m1 q1
    refine summW Tryz.func8 rfl rfl 237 rfl (by simp) (fun M0 => ?_)
    repeat (first
    | (apply s_assign_f; exact rfl; exact rfl)
    | (apply s_move_f; exact rfl; exact rfl)
    | (apply s_idxAw hu94 hi3 hz3; exact rfl; exact rfl; exact rfl; exact rfl; decide; decide)
    | (apply s_a TY; exact rfl)
    | (apply s_t; exact rfl; (first | assumption | omega))
    | (apply s_f; exact rfl; (first | assumption | omega))
    | apply w_seq
    | apply w_region
    | apply s_nil
    | apply t_norm
    | apply t_ret
    | apply w_ret
    | apply w_skip
    | (apply w_condT; exact rfl; exact rfl)
    | (apply w_condF; exact rfl; exact rfl)
    | (apply s_k (HA); exact rfl)
    | (apply s_k (HFw); exact rfl)
    | (apply s_k (HF); exact rfl)
    | (apply s_k (HSE); exact rfl)
    | (apply s_k (HT0); exact rfl)
    | (apply s_k (HT1); exact rfl)
    | (apply s_s; exact rfl))
    exact lv_ret (ret1 rfl (res_tmp rfl))
  have HT1 := bIsTick_T m1 q1
  by_cases q2 : 0 ≤ m2 ∧ m2 ≤ 1000000000000
  rotate_left
  · have HT2 := bIsTick_F m2 q2
    refine summW Tryz.func8 rfl rfl 237 rfl (by simp) (fun M0 => ?_)
    repeat (first
    | (apply s_assign_f; exact rfl; exact rfl)
    | (apply s_move_f; exact rfl; exact rfl)
    | (apply s_idxAw hu94 hi3 hz3; exact rfl; exact rfl; exact rfl; exact rfl; decide; decide)
    | (apply s_a TY; exact rfl)
    | (apply s_t; exact rfl; (first | assumption | omega))
    | (apply s_f; exact rfl; (first | assumption | omega))
    | apply w_seq
    | apply w_region
    | apply s_nil
    | apply t_norm
    | apply t_ret
    | apply w_ret
    | apply w_skip
    | (apply w_condT; exact rfl; exact rfl)
    | (apply w_condF; exact rfl; exact rfl)
    | (apply s_k (HA); exact rfl)
    | (apply s_k (HFw); exact rfl)
    | (apply s_k (HF); exact rfl)
    | (apply s_k (HSE); exact rfl)
    | (apply s_k (HT0); exact rfl)
    | (apply s_k (HT1); exact rfl)
    | (apply s_k (HT2); exact rfl))
    exact lv_ret (ret1 rfl (res_tmp rfl))
  have HT2 := bIsTick_T m2 q2
  obtain ⟨e1, e2, e3⟩ := setErr_parts he
  have hl0 := arrOk_of e1
  have hs := setOk_of e2
  have o := hitsOk_of hl0 e3
  have HC1 := CopyArray_s l hl6
  have HC2 := CopySetup_s s hs6
  have HC3 := CopyHits_s h hh6
  have HD := divStreams_s h wh m0 m1 m2 ((h.length : Nat) : Int) (by omega)
  have HM : Summ Tryz.prog GG 18 [arrF l, .sl 3 (stmsF (divS h wh m0 m1 m2 ((h.length : Nat) : Int)))] (.tup [.sl h.length (hitsF h), iv 0]) := by
    have := Merged_ok l (divS h wh m0 m1 m2 ((h.length : Nat) : Int)) hl6 e1 (by rw [divS_chk o q0 q1 q2]) (Nat.le_trans (divS_len o) o.len)
    rw [divS_full o (Int.le_refl _)] at this
    exact this
  have HE := EventsOf_ok l s h hl6 hs6 hh6 he
  have HSH := SameHits_s h h hh6 hh6
  rw [decide_eq_true rfl] at HSH
  have hel : (eventsV l s h).length ≤ 1000000 := by
    have h0 := single_len hs o (l := l)
    have h2 := joinedV_len (singleV l s h)
    unfold eventsV windowsV
    rw [List.length_map]; omega
  have hvh : ∀ (c : Int) v, v ∈ settledE l s (mergeH (allH (divS h wh m0 m1 m2 c))) (settledT s (divS h wh m0 m1 m2 c)) → v.hits.length ≤ 1000000 := fun c v hv => by
    have hv2 := (List.mem_filter.1 hv).1
    unfold eventsV at hv2
    obtain ⟨w, _, rfl⟩ := List.mem_map.1 hv2
    have h1 := divS_len (l := l) (h := h) (wh := wh) (m0 := m0) (m1 := m1) (m2 := m2) (count := c) o
    exact Nat.le_trans (hitsInN_len _ w _) (by omega)
  refine summW Tryz.func8 rfl rfl 237 rfl (by simp) (fun M0 => ?_)
  repeat (first
    | (apply s_assign_f; exact rfl; exact rfl)
    | (apply s_move_f; exact rfl; exact rfl)
    | (apply g_move_f; exact rfl; exact rfl; exact rfl; exact rfl)
    | (apply s_idxAw hu94 hi3 hz3; exact rfl; exact rfl; exact rfl; exact rfl; decide; decide)
    | (apply s_a TY; exact rfl)
    | (apply s_t; exact rfl; (first | assumption | omega))
    | (apply s_f; exact rfl; (first | assumption | omega))
    | apply w_seq
    | apply w_region
    | (apply w_draw (id := 5) 12 rfl (by kernel_rfl))
    | (apply w_draw (id := 6) 12 rfl (by kernel_rfl))
    | apply s_nil
    | apply t_norm
    | apply w_block
    | apply w_skip
    | (apply w_condF; exact rfl; exact rfl)
    | (apply s_k (HA); exact rfl)
    | (apply s_k (HFw); exact rfl)
    | (apply s_k (HF); exact rfl)
    | (apply s_k (HSE); exact rfl)
    | (apply s_k (HT0); exact rfl)
    | (apply s_k (HT1); exact rfl)
    | (apply s_k (HT2); exact rfl)
    | (apply s_k (HC1); exact rfl)
    | (apply s_k (HC2); exact rfl)
    | (apply s_k (HC3); exact rfl)
    | (apply s_k (HD); exact rfl)
    | (apply s_k (HM); exact rfl)
    | (apply s_k (HE); exact rfl)
    | (apply s_k (HSH); exact rfl))
  apply w_loop (fun c : Nat => ⟨(Ab.upd (Ab.upd (Ab.upd (Ab.upd (Ab.upd (fun _ => .bot) 3 (.f (.pt [.sl l.length (sitesF l)] 0))) 4 (.f (.pt (setL s) 0))) 5 (.f (.pt [.sl h.length (hitsF h), .sl wh.length (intsF wh), iv m0, iv m1, iv m2] 0))) 9 (.f (.sl (eventsV l s h).length (evsF (eventsV l s h))))) 11 (.f (iv ((c : Nat) : Int)))), (fun _ => none), 0⟩) (fun c => c ≤ h.length + 3) (fun c => h.length + 3 - c) 0 (Nat.zero_le _) (gh_le ⟨le_upd rfl trivial (le_upd rfl trivial (le_upd rfl trivial (le_upd rfl trivial (le_upd rfl trivial (le_nil _))))), le_h0 _ _⟩)
  intro c hc
  by_cases hcl : c ≤ h.length
  rotate_left
  · repeat (first
    | (apply s_assign_f; exact rfl; exact rfl)
    | (apply s_move_f; exact rfl; exact rfl)
    | (apply s_a TY; exact rfl)
    | (apply s_f; exact rfl; (first | assumption | omega))
    | apply w_seq
    | apply w_region
    | apply s_nil
    | apply t_norm
    | apply t_exit
    | apply k_hit
    | apply w_exit
    | apply w_ret
    | (apply w_condF; exact rfl; exact rfl))
    exact lv_ret (ret1 rfl (res_tmp rfl))
  have hch := divS_chk (wh := wh) (count := ((c : Nat) : Int)) o q0 q1 q2
  have hch2 : (stmsChk l (divS h wh m0 m1 m2 ((c : Nat) : Int))).2 = 0 := by rw [hch]
  have hg40 : (mergeH (allH (divS h wh m0 m1 m2 ((c : Nat) : Int)))).length ≤ 40 := Nat.le_trans (divS_len o) o.len
  have hst := stms_hits e1 hch2
  have hst6 : ∀ i (hi : i < ((divS h wh m0 m1 m2 ((c : Nat) : Int))).length), ((divS h wh m0 m1 m2 ((c : Nat) : Int)))[i].hits.length ≤ 1000000 := fun i hi => Nat.le_trans (hst i hi) (by decide)
  have HDc := divStreams_s h wh m0 m1 m2 ((c : Nat) : Int) (by omega)
  have HCS : Summ Tryz.prog GG 40 [.sl 3 (stmsF (divS h wh m0 m1 m2 ((c : Nat) : Int)))] (.sl 3 (stmsF (divS h wh m0 m1 m2 ((c : Nat) : Int)))) := CopyStreams_s (divS h wh m0 m1 m2 ((c : Nat) : Int)) (by simp [divS]) hst6
  have hss : sseErr l s (divS h wh m0 m1 m2 ((c : Nat) : Int)) = 0 := by rw [sse_stm e1 e2, hch2]
  have HSv : Summ Tryz.prog GG 50 [arrF l, setF s, .sl 3 (stmsF (divS h wh m0 m1 m2 ((c : Nat) : Int)))] (.tup [.sl (settledE l s (mergeH (allH (divS h wh m0 m1 m2 ((c : Nat) : Int)))) (settledT s (divS h wh m0 m1 m2 ((c : Nat) : Int)))).length (evsF (settledE l s (mergeH (allH (divS h wh m0 m1 m2 ((c : Nat) : Int)))) (settledT s (divS h wh m0 m1 m2 ((c : Nat) : Int))))), iv 0]) := SettledEvents_ok l s (divS h wh m0 m1 m2 ((c : Nat) : Int)) hl6 hs6 (by simp [divS]) hst6 hss hg40
  have HMc : Summ Tryz.prog GG 18 [arrF l, .sl 3 (stmsF (divS h wh m0 m1 m2 ((c : Nat) : Int)))] (.tup [.sl (mergeH (allH (divS h wh m0 m1 m2 ((c : Nat) : Int)))).length (hitsF (mergeH (allH (divS h wh m0 m1 m2 ((c : Nat) : Int))))), iv 0]) := Merged_ok l (divS h wh m0 m1 m2 ((c : Nat) : Int)) hl6 e1 hch2 hg40
  have hgl : (mergeH (allH (divS h wh m0 m1 m2 ((c : Nat) : Int)))).length ≤ h.length := divS_len o
  obtain ⟨hev, hev2⟩ := (divS_arrived (l := l) (s := s) (wh := wh) (count := ((c : Nat) : Int)) hl0 hs o q0 q1 q2).events
  have hvl := hvh ((c : Nat) : Int)
  clear hst hst6 hss hch hch2 hg40
  generalize settledE l s (mergeH (allH (divS h wh m0 m1 m2 ((c : Nat) : Int)))) (settledT s (divS h wh m0 m1 m2 ((c : Nat) : Int))) = V at hev hev2 hvl HSv
  generalize mergeH (allH (divS h wh m0 m1 m2 ((c : Nat) : Int))) = g at hgl hev2 HMc
  repeat (first
    | (apply s_assign_f; exact rfl; exact rfl)
    | (apply s_move_f; exact rfl; exact rfl)
    | (apply g_move_f; exact rfl; exact rfl; exact rfl; exact rfl)
    | (apply s_a TY; exact rfl)
    | (apply s_t; exact rfl; (first | assumption | omega))
    | (apply s_f; exact rfl; (first | assumption | omega))
    | apply w_seq
    | apply w_region
    | (apply w_draw (id := 13) 11 rfl (by kernel_rfl))
    | apply s_nil
    | apply t_norm
    | apply w_block
    | apply w_skip
    | (apply w_condT; exact rfl; exact rfl)
    | (apply w_condF; exact rfl; exact rfl)
    | (apply s_k (HC1); exact rfl)
    | (apply s_k (HC2); exact rfl)
    | (apply s_k (HDc); exact rfl)
    | (apply s_k (HCS); exact rfl)
    | (apply s_k (HSv); exact rfl)
    | (apply s_k (HMc); exact rfl))
  apply w_loop (fun i : Nat => ⟨(Ab.upd (Ab.upd (Ab.upd (Ab.upd (Ab.upd (Ab.upd (Ab.upd (Ab.upd (fun _ => .bot) 3 (.f (.pt [.sl l.length (sitesF l)] 0))) 4 (.f (.pt (setL s) 0))) 5 (.f (.pt [.sl h.length (hitsF h), .sl wh.length (intsF wh), iv m0, iv m1, iv m2] 0))) 9 (.f (.sl (eventsV l s h).length (evsF (eventsV l s h))))) 11 (.f (iv ((c : Nat) : Int)))) 13 (.f (.sl V.length (evsF V)))) 15 (.f (.sl g.length (hitsF g)))) 17 (.f (iv ((i : Nat) : Int)))), (fun _ => none), 0⟩) (fun i => i ≤ V.length) (fun i => V.length - i) 0 (Nat.zero_le _) (gh_le ⟨le_upd rfl trivial (le_upd rfl trivial (le_upd rfl trivial (le_upd rfl trivial (le_upd rfl trivial (le_upd rfl trivial (le_upd rfl trivial (le_upd rfl trivial (le_nil _)))))))), le_h0 _ _⟩)
  intro i hi
  by_cases hiv : i < V.length
  rotate_left
  · repeat (first
    | (apply s_assign_f; exact rfl; exact rfl)
    | (apply s_move_f; exact rfl; exact rfl)
    | (apply s_a TY; exact rfl)
    | (apply s_f; exact rfl; (first | assumption | omega))
    | apply w_seq
    | apply w_region
    | apply s_nil
    | apply t_norm
    | apply t_exit
    | apply k_hit
    | apply k_norm
    | apply w_exit
    | (apply w_condF; exact rfl; exact rfl)
    | (apply s_c TY; exact rfl; (first | omega | exact ⟨by omega, by (first | with_reducible assumption | ((with_reducible apply hitsF_ne); omega) | ((with_reducible apply intsF_ne); omega) | ((with_reducible apply evsF_ne); omega) | assumption)⟩)))
    exact ⟨c + 3, by omega, by omega, gh_le ⟨le_upd rfl trivial (le_upd rfl trivial (le_upd rfl trivial (le_upd rfl trivial (le_upd rfl trivial (le_nil _))))), le_h0 _ _⟩⟩
  have hie : i < (eventsV l s h).length := by omega
  obtain ⟨w1, w2, w3, w4⟩ := hev2 i hiv hie
  have hvi := hvl V[i] (List.getElem_mem hiv)
  have hwa : ((evsF V).drop (i * 3 + 0)).take 2 = [iv V[i].lo, iv V[i].hi] := by rw [Nat.add_zero, evsF_drop, List.drop_eq_getElem_cons hiv]; rfl
  have hwb : ((evsF (eventsV l s h)).drop (i * 3 + 0)).take 2 = [iv V[i].lo, iv V[i].hi] := by rw [w1, w2, Nat.add_zero, evsF_drop, List.drop_eq_getElem_cons hie]; rfl
  repeat (first
    | (apply s_assign_f; exact rfl; exact rfl)
    | (apply s_move_f; exact rfl; exact rfl)
    | (apply g_move_f; exact rfl; exact rfl; exact rfl; exact rfl)
    | (apply s_bind; exact rfl; exact rfl; exact rfl; exact rfl; exact rfl; exact rfl; exact ne_rng (a := ⟨V[i].lo, V[i].hi⟩) (b := ⟨V[i].lo, V[i].hi⟩) (c := false) (decide_eq_true rfl))
    | (apply s_a TY; exact rfl)
    | (apply s_t; exact rfl; (first | assumption | omega))
    | apply w_seq
    | apply w_region
    | (apply w_draw (id := 20) 24 rfl (by kernel_rfl))
    | apply s_nil
    | apply t_norm
    | apply w_block
    | apply w_skip
    | (apply w_condT; exact rfl; exact rfl)
    | (apply w_condF; exact rfl; exact rfl)
    | (apply s_c TY; exact rfl; (first | omega | exact ⟨by omega, by (first | with_reducible assumption | ((with_reducible apply hitsF_ne); omega) | ((with_reducible apply intsF_ne); omega) | ((with_reducible apply evsF_ne); omega) | assumption)⟩))
    | (apply s_l TY; exact rfl; (first | exact rfl | with_reducible assumption | ((with_reducible apply hitsF_f0); omega) | ((with_reducible apply hitsF_f1); omega) | ((with_reducible apply hitsF_f2); omega) | ((with_reducible apply intsF_at); omega) | ((with_reducible apply evsF_f0); omega) | ((with_reducible apply evsF_f1); omega) | ((with_reducible apply evsF_f2); omega) | assumption))
    | (apply s_m TY; exact rfl; (first | with_reducible assumption | ((with_reducible apply hitsF_sub); omega) | ((with_reducible apply evsF_sub); omega) | exact rfl); exact rfl))
  apply w_loop (fun k : Nat => ⟨(Ab.upd (Ab.upd (Ab.upd (Ab.upd (Ab.upd (Ab.upd (Ab.upd (Ab.upd (Ab.upd (fun _ => .bot) 3 (.f (.pt [.sl l.length (sitesF l)] 0))) 4 (.f (.pt (setL s) 0))) 5 (.f (.pt [.sl h.length (hitsF h), .sl wh.length (intsF wh), iv m0, iv m1, iv m2] 0))) 9 (.f (.sl (eventsV l s h).length (evsF (eventsV l s h))))) 11 (.f (iv ((c : Nat) : Int)))) 13 (.f (.sl V.length (evsF V)))) 15 (.f (.sl g.length (hitsF g)))) 17 (.f (iv ((i : Nat) : Int)))) 18 (.f (iv ((k : Nat) : Int)))), (fun _ => none), 0⟩) (fun k => k ≤ V[i].hits.length) (fun k => V[i].hits.length - k) 0 (Nat.zero_le _) (gh_le ⟨le_upd rfl trivial (le_upd rfl trivial (le_upd rfl trivial (le_upd rfl trivial (le_upd rfl trivial (le_upd rfl trivial (le_upd rfl trivial (le_upd rfl trivial (le_upd rfl trivial (le_nil _))))))))), le_h0 _ _⟩)
  intro k hk
  by_cases hkv : k < V[i].hits.length
  rotate_left
  · repeat (first
    | (apply s_assign_f; exact rfl; exact rfl)
    | (apply s_move_f; exact rfl; exact rfl)
    | (apply s_a TY; exact rfl)
    | (apply s_f; exact rfl; (first | assumption | omega))
    | apply w_seq
    | apply w_region
    | apply s_nil
    | apply t_norm
    | apply t_exit
    | apply k_hit
    | apply k_norm
    | apply w_exit
    | (apply w_condF; exact rfl; exact rfl)
    | (apply s_c TY; exact rfl; (first | omega | exact ⟨by omega, by (first | with_reducible assumption | ((with_reducible apply hitsF_ne); omega) | ((with_reducible apply intsF_ne); omega) | ((with_reducible apply evsF_ne); omega) | assumption)⟩))
    | (apply s_l TY; exact rfl; (first | exact rfl | with_reducible assumption | ((with_reducible apply hitsF_f0); omega) | ((with_reducible apply hitsF_f1); omega) | ((with_reducible apply hitsF_f2); omega) | ((with_reducible apply intsF_at); omega) | ((with_reducible apply evsF_f0); omega) | ((with_reducible apply evsF_f1); omega) | ((with_reducible apply evsF_f2); omega) | assumption)))
    exact ⟨i + 1, by omega, by omega, gh_le ⟨le_upd rfl trivial (le_upd rfl trivial (le_upd rfl trivial (le_upd rfl trivial (le_upd rfl trivial (le_upd rfl trivial (le_upd rfl trivial (le_upd rfl trivial (le_nil _)))))))), le_h0 _ _⟩⟩
  have hke : k < (eventsV l s h)[i].hits.length := by omega
  obtain ⟨⟨⟨a1, a2⟩, a3, a4⟩, a5⟩ := w4 k hkv hke
  have hp3 : ((hitsF g).drop (V[i].hits[k].toNat * 3)).take 3 = hitF (h.getD (eventsV l s h)[i].hits[k].toNat default) := by
    rw [← a5, getD_at (show V[i].hits[k].toNat < g.length by omega)]
    exact hitsF_sub _
  have hq3 : ((hitsF h).drop ((eventsV l s h)[i].hits[k].toNat * 3)).take 3 = hitF (h.getD (eventsV l s h)[i].hits[k].toNat default) := by
    rw [getD_at (show (eventsV l s h)[i].hits[k].toNat < h.length by omega)]
    exact hitsF_sub _
  have hgn : hitsF g ≠ [] := hitsF_ne (show 0 < g.length by omega)
  have hhn : hitsF h ≠ [] := hitsF_ne (show 0 < h.length by omega)
  have HP := bwithin_T V[i].hits[k] 0 (((g.length : Nat) : Int) - 1) (by omega)
  have HQ := bwithin_T (eventsV l s h)[i].hits[k] 0 (((h.length : Nat) : Int) - 1) (by omega)
  repeat (first
    | (apply s_assign_f; exact rfl; exact rfl)
    | (apply s_move_f; exact rfl; exact rfl)
    | (apply g_move_f; exact rfl; exact rfl; exact rfl; exact rfl)
    | (apply s_bind; exact rfl; exact rfl; exact rfl; exact rfl; exact rfl; exact rfl; exact ne_hit (a := h.getD (eventsV l s h)[i].hits[k].toNat default) (b := h.getD (eventsV l s h)[i].hits[k].toNat default) (c := false) (decide_eq_true rfl))
    | (apply s_a TY; exact rfl)
    | (apply s_t; exact rfl; (first | assumption | omega))
    | apply w_seq
    | apply w_region
    | (apply w_draw (id := 25) 17 rfl (by kernel_rfl))
    | (apply w_draw (id := 26) 25 rfl (by kernel_rfl))
    | apply s_nil
    | apply t_norm
    | apply k_norm
    | apply w_block
    | apply w_skip
    | (apply w_condT; exact rfl; exact rfl)
    | (apply w_condF; exact rfl; exact rfl)
    | (apply s_k (HP); exact rfl)
    | (apply s_k (HQ); exact rfl)
    | (apply s_c TY; exact rfl; (first | omega | exact ⟨by omega, by (first | with_reducible assumption | ((with_reducible apply hitsF_ne); omega) | ((with_reducible apply intsF_ne); omega) | ((with_reducible apply evsF_ne); omega) | assumption)⟩))
    | (apply s_z TY; exact rfl; (first | omega | exact ⟨by omega, by (first | with_reducible assumption | ((with_reducible apply hitsF_ne); omega) | ((with_reducible apply intsF_ne); omega) | ((with_reducible apply evsF_ne); omega) | assumption)⟩))
    | (apply s_l TY; exact rfl; (first | exact rfl | with_reducible assumption | ((with_reducible apply hitsF_f0); omega) | ((with_reducible apply hitsF_f1); omega) | ((with_reducible apply hitsF_f2); omega) | ((with_reducible apply intsF_at); omega) | ((with_reducible apply evsF_f0); omega) | ((with_reducible apply evsF_f1); omega) | ((with_reducible apply evsF_f2); omega) | assumption))
    | (apply s_m TY; exact rfl; (first | with_reducible assumption | ((with_reducible apply hitsF_sub); omega) | ((with_reducible apply evsF_sub); omega) | exact rfl); exact rfl))
  exact ⟨k + 1, by omega, by omega, gh_le ⟨le_upd rfl trivial (le_upd rfl trivial (le_upd rfl trivial (le_upd rfl trivial (le_upd rfl trivial (le_upd rfl trivial (le_upd rfl trivial (le_upd rfl trivial (le_upd rfl trivial (le_nil _))))))))), le_h0 _ _⟩⟩
end Go.Proofs.YtdmdpkoapllkkaaGreat
namespace Go.Proofs.YtdmdpkoapllkkaaGreat
open Go Go.Ab Go.ChangeShapes Go.WideShapes Go.ChangeAt Go.RowKit
theorem ownKnobT : ownKnob Tryz.prog.godebug = none := by kernel_rfl
theorem laidOutT : laidOutB Tryz.prog = true := by kernel_rfl
theorem trodAll_stays {H : Type} {enc : TypeId × Value → H} {W W' : World} {sp : Nat → Bool} (hb : Below W.heap.size W W') : ∀ {ts : List TypeId} {vs : List Value} {ds : List (DataW H)} {ps : List MemPlace}, (∀ t ∈ ts, Tryz.prog.readableRec t = true ∧ t < Tryz.prog.types.size) → DataW.TrodAll enc Tryz.prog W 0 (fun _ => true) true ts vs ds ps → (∀ p ∈ ps, p.block < W.heap.size) → (∀ p ∈ ps, sp p.block = true) → DataW.TrodAll enc Tryz.prog W' 0 sp true ts vs ds ps
  | [], [], [], _, _, h, _, _ => h
  | t :: ts, v :: vs, d :: ds, ps, ht, ⟨p, q, h1, h2, e⟩, hlt, hsp => by
    have hp : ∀ x ∈ p, x ∈ ps := fun x hx => by rw [e]; exact List.mem_append_left _ hx
    have hq : ∀ x ∈ q, x ∈ ps := fun x hx => by rw [e]; exact List.mem_append_right _ hx
    exact ⟨p, q, WideElems.Trod_stays laidOutT (ht t (by simp)).1 (ht t (by simp)).2 h1 (fun x hx => hb.same (hlt x (hp x hx))) (fun x hx => hsp x (hp x hx)),
      trodAll_stays hb (fun u hu => ht u (by simp [hu])) h2 (fun x hx => hlt x (hq x hx)) (fun x hx => hsp x (hq x hx)), e⟩
theorem post_law {H : Type} {enc : TypeId × Value → H} {f : Func} {s : ChangeSpec} {W W' : World} {args : Array Value} {ds gs : List (DataW H)} {before : List MemPlace}
    (hW : DataW.Whole enc Tryz.prog f.params.toList s.vars false W args.toList ds gs before) (hv : s.vars = []) (hr : f.resultTypes = #[4])
    (ht : ∀ t ∈ f.params.toList, Tryz.prog.readableRec t = true ∧ t < Tryz.prog.types.size)
    (hres : (s.fn H (ds ++ gs)).results = [.lit (.bool true)]) (hargs : (s.fn H (ds ++ gs)).args = ds) (hvs : (s.fn H (ds ++ gs)).vars = [])
    (hb : Below W.heap.size W W') : s.post enc Tryz.prog f false true false false W args (.bool true) W' := by
  have hlt := hW.lt
  have hW0 := hW
  obtain ⟨p, q, h1, h2, e, hz, hn⟩ := hW
  have h2' := h2
  rw [hv] at h2'
  have hq : gs = [] ∧ q = [] := by
    cases gs with
    | nil => exact ⟨rfl, h2'⟩
    | cons g r => exact absurd h2' (by intro h; cases h)
  obtain ⟨rfl, rfl⟩ := hq
  rw [List.append_nil] at e
  subst e
  refine ⟨ds, [], before, [], before, [], hW0, ?_, ?_, ?_, Below.frame hb _, fun h => by cases h⟩
  · rw [hr, hres]; exact trodAll_mk1 (shut_bool Tryz.underlying4 true)
  · rw [hargs]
    exact trodAll_stays hb ht h1 hlt (fun x hx => by simpa using hlt x hx)
  · rw [hv, hvs]; rfl
theorem sq_map {α : Type} (f : α → FV) : ∀ l : List α, l.flatMap (fun x => [f x]) = l.map f
  | [] => rfl
  | x :: l => by rw [List.flatMap_cons, sq_map f l]; rfl
section
variable {W : World}
theorem opens_i : Opens Tryz.prog W 3 (fun z : Int => [iv z]) := opens_int Tryz.underlying3
theorem opens_site : Opens Tryz.prog W 121 siteF := (opens_st Tryz.underlying121 (by kernel_rfl) (ofs_cons (s := 1) (by kernel_rfl) rfl opens_i (ofs_cons (s := 1) (by kernel_rfl) rfl opens_i (ofs_cons (s := 1) (by kernel_rfl) rfl opens_i (ofs_cons (s := 1) (by kernel_rfl) rfl opens_i (ofs_cons (s := 1) (by kernel_rfl) rfl opens_i (ofs_nil))))))).map (fun p => ⟨p.1, p.2.1, p.2.2.1, p.2.2.2.1, p.2.2.2.2.1⟩) fun _ => rfl
theorem opens_sites : Opens Tryz.prog W 22 (fun l : List Site => [.sl l.length (sitesF l)]) := opens_sl (s := 5) Tryz.underlying22 (by kernel_rfl) (by decide) opens_site
theorem opens_arr : Opens Tryz.prog W 24 (fun l : List Site => [.sl l.length (sitesF l)]) := (opens_st Tryz.underlying24 (by kernel_rfl) (ofs_cons (s := 1) (by kernel_rfl) rfl opens_sites (ofs_nil))).map (fun p => p.1) fun _ => rfl
theorem opens_hit : Opens Tryz.prog W 29 hitF := (opens_st Tryz.underlying29 (by kernel_rfl) (ofs_cons (s := 1) (by kernel_rfl) rfl opens_i (ofs_cons (s := 1) (by kernel_rfl) rfl opens_i (ofs_cons (s := 1) (by kernel_rfl) rfl opens_i (ofs_nil))))).map (fun p => ⟨p.1, p.2.1, p.2.2.1⟩) fun _ => rfl
theorem opens_hits : Opens Tryz.prog W 27 (fun l : List Hit => [.sl l.length (hitsF l)]) := opens_sl (s := 3) Tryz.underlying27 (by kernel_rfl) (by decide) opens_hit
theorem opens_rule : Opens Tryz.prog W 26 ruleF := (opens_st Tryz.underlying26 (by kernel_rfl) (ofs_cons (s := 1) (by kernel_rfl) rfl opens_i (ofs_cons (s := 1) (by kernel_rfl) rfl opens_i (ofs_cons (s := 1) (by kernel_rfl) rfl opens_i (ofs_cons (s := 1) (by kernel_rfl) rfl opens_i (ofs_cons (s := 1) (by kernel_rfl) rfl opens_i (ofs_nil))))))).map (fun p => ⟨p.1, p.2.1, p.2.2.1, p.2.2.2.1, p.2.2.2.2.1⟩) fun _ => rfl
theorem opens_rules : Opens Tryz.prog W 57 (fun l : List Rule => [.sl l.length (rulesF l)]) := opens_sl (s := 5) Tryz.underlying57 (by kernel_rfl) (by decide) opens_rule
theorem opens_setup : Opens Tryz.prog W 59 setL := (opens_st Tryz.underlying59 (by kernel_rfl) (ofs_cons (s := 1) (by kernel_rfl) rfl opens_rules (ofs_cons (s := 1) (by kernel_rfl) rfl opens_i (ofs_cons (s := 1) (by kernel_rfl) rfl opens_i (ofs_cons (s := 1) (by kernel_rfl) rfl opens_i (ofs_nil)))))).map (fun p => ⟨p.1, p.2.1, p.2.2.1, p.2.2.2.1⟩) fun _ => rfl
theorem opens_ints : Opens Tryz.prog W 50 (fun l : List Int => [.sl l.length (intsF l)]) := (opens_sl (s := 1) Tryz.underlying50 (by kernel_rfl) (by decide) opens_i).map id fun l => by rw [sq_map]; rfl
theorem opens_ar3 : Opens Tryz.prog W 94 (fun p : Int × Int × Int => [iv p.1] ++ [iv p.2.1] ++ [iv p.2.2]) := opens_arr3 (s := 1) Tryz.underlying94 (by kernel_rfl) (by kernel_rfl) opens_i
theorem opens_div : Opens Tryz.prog W 96 (fun p : List Hit × List Int × Int × Int × Int => [.sl p.1.length (hitsF p.1), .sl p.2.1.length (intsF p.2.1), iv p.2.2.1, iv p.2.2.2.1, iv p.2.2.2.2]) := (opens_st Tryz.underlying96 (by kernel_rfl) (ofs_cons (s := 1) (by kernel_rfl) rfl opens_hits (ofs_cons (s := 1) (by kernel_rfl) rfl opens_ints (ofs_cons (s := 3) (by kernel_rfl) rfl opens_ar3 (ofs_nil))))).map (fun p => (p.1, p.2.1, p.2.2.1)) fun _ => rfl
end
set_option maxRecDepth 100000 in
theorem arg_st {H : Type} {enc : TypeId × Value → H} {W : World} {base : Nat} {T : TypeId} {fs : Array Field} {α : Type} {f : α → List FV} {v : Value} {d : DataW H} {ps : List MemPlace} (h : Opens Tryz.prog W T f) (ht : Tryz.prog.underlying T = some (.struct fs)) (hv : Value.okWide Tryz.prog W .any base T v) (hd : DataW.Trod enc Tryz.prog W 0 (fun _ => true) true T v d ps) : ∃ a, RepF W (fun _ => False) v (.agg (f a)) := by
  obtain ⟨cs, e, _⟩ := okWide_struct ht hv
  exact arg_agg h e hd
theorem law_calls {f : Nat} {xs : List FV} (S : Summ Tryz.prog GG f xs (.v (.bool true))) {W : World} {args : Array Value} (R : RepL W (fun _ => False) args.toList xs) : Calls Tryz.prog f args W fun e W' => e = .returned (.bool true) ∧ Below W.heap.size W W' := by
  have := S.call W (fun _ => False) args.toList (fun _ h => h.elim) (fun g cs h => by cases h) R
  simp only [Array.toArray_toList] at this
  refine this.mono fun e w' ⟨v, h1, h2, h3⟩ => ⟨?_, h3⟩
  rw [h1, repV h2]
end Go.Proofs.YtdmdpkoapllkkaaGreat
