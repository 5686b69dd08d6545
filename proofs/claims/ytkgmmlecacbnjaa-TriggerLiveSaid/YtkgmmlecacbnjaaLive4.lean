/- Laws on which the proofs of this seat stand. No condition. -/
import Derived.Test.YtkgmmlecacbnjaaLive3
import Derived.Shelf.Spec.SlicesGrow
import Derived.Test.YtkgmmlecacbnjaaRows
import Derived.WalkKit
import Derived.ProofKit
import Derived.OpenShut
import Derived.Stop.Joined
namespace Go.Proofs.Ytkgmmlecacbnjaa
open Go Go.RowKit Go.Proofs Go.Shelf Go.Ab
def windowsV (l : List Site) (s : Setup) (h : List Hit) : List Rng := joinedV (singleV l s h)
theorem single_lo {l : List Site} {s : Setup} {h : List Hit} (hs : SetOk s) (ho : HitsOk l h) : LoOk (singleV l s h) := fun r hr => by have := singleV_bd hs ho hr; omega
theorem single_hi {l : List Site} {s : Setup} {h : List Hit} (hs : SetOk s) (ho : HitsOk l h) : HiOk (singleV l s h) := fun r hr => by have := singleV_bd hs ho hr; omega
theorem single_len {l : List Site} {s : Setup} {h : List Hit} (hs : SetOk s) (ho : HitsOk l h) : (singleV l s h).length ≤ 160 := by
  have a := singK_len l s h s.rules.length
  rw [singK_all] at a
  have b := hs.len
  have c := ho.len
  have : s.rules.length * h.length ≤ 4 * 40 := Nat.mul_le_mul b c
  omega
theorem mergeV_len (l : List Rng) : (mergeV l).length ≤ l.length := by rw [← mgK_all]; exact mgK_len l _
theorem joinedV_len (l : List Rng) : (joinedV l).length ≤ l.length := by
  unfold joinedV
  have := mergeV_len (sortRng l)
  rwa [sortRng_len] at this
def evOf (h : List Hit) (w : Rng) : Ev := ⟨w.lo, w.hi, hitsInV h w⟩
def eventsV (l : List Site) (s : Setup) (h : List Hit) : List Ev := (windowsV l s h).map (evOf h)
def evK (l : List Site) (s : Setup) (h : List Hit) (k : Nat) : List Ev := ((windowsV l s h).take k).map (evOf h)
theorem evK_succ {l : List Site} {s : Setup} {h : List Hit} {k : Nat} (hk : k < (windowsV l s h).length) : evK l s h (k + 1) = evK l s h k ++ [evOf h (windowsV l s h)[k]] := by
  unfold evK; rw [List.take_succ_eq_append_getElem hk, List.map_append]; rfl
theorem evK_len (l : List Site) (s : Setup) (h : List Hit) (k : Nat) : (evK l s h k).length ≤ k := by unfold evK; rw [List.length_map, List.length_take]; omega
theorem evK_all (l : List Site) (s : Setup) (h : List Hit) : evK l s h (windowsV l s h).length = eventsV l s h := by unfold evK eventsV; rw [List.take_length]
set_option maxRecDepth 100000 in
theorem windows_s (l : List Site) (s : Setup) (h : List Hit) (hs : SetOk s) (hl0 : ArrOk l) (ho : HitsOk l h) : Summ Try.prog GG 48 [readoutV l s, .sl h.length (hitsF h)] (.sl (windowsV l s h).length (rngsF (windowsV l s h))) := by
  have h1 := single_len hs ho
  have HS := single_s l s h hs hl0 ho
  have HJ := joined_s (singleV l s h) (single_lo hs ho) (single_hi hs ho) (by omega)
  refine summW Try.func48 rfl rfl 9 rfl (by simp) (fun M0 => ?_)
  repeat (first
    | (apply s_a TY; exact rfl)
    | apply w_seq
    | apply w_region
    | apply s_nil
    | apply t_norm
    | apply w_ret
    | (apply s_k (HS); exact rfl)
    | (apply s_k (HJ); exact rfl))
  exact lv_ret (ret1 rfl (res_tmp rfl))
theorem rowEv_app {L a : List Ev} {w : Rng} {h : List Hit} (e : L = a ++ [evOf h w]) : some (Blk.row 44 3 (a.length + 1) (evsF a ++ [iv w.lo, iv w.hi, .sl (hitsInV h w).length (intsF (hitsInV h w))])) = some (Blk.row 44 3 L.length (evsF L)) := by
  rw [e, evsF_snoc, List.length_append]; rfl
set_option maxRecDepth 100000 in
set_option maxHeartbeats 1600000 in
theorem events_s (l : List Site) (s : Setup) (h : List Hit) (hs : SetOk s) (hl0 : ArrOk l) (ho : HitsOk l h) : Summ Try.prog GG 33 [readoutV l s, .sl h.length (hitsF h)] (.sl (eventsV l s h).length (evsF (eventsV l s h))) := by
  have h40 := ho.len
  have h1 := single_len hs ho
  have h2 : (windowsV l s h).length ≤ 160 := Nat.le_trans (joinedV_len _) h1
  have HW := windows_s l s h hs hl0 ho
  refine summW Try.func33 rfl rfl 26 rfl (by simp) (fun M0 => ?_)
  repeat (first
    | (apply s_a TY; exact rfl)
    | apply w_seq
    | apply w_region
    | apply s_nil
    | apply t_norm
    | apply w_block
    | (apply s_k (HW); exact rfl))
  apply w_gh (gh_own 5 44 3 rfl rfl)
  apply w_loop (fun k : Nat => ⟨(Ab.upd (Ab.upd (Ab.upd (Ab.upd (Ab.upd (fun _ => .bot) 1 (.f (.sl h.length (hitsF h)))) 5 (.ow 0)) 10 (.f (.sl (windowsV l s h).length (rngsF (windowsV l s h))))) 11 (.f (iv (windowsV l s h).length))) 12 (.f (iv (k : Nat)))), (Ab.upd (fun _ => none) 0 (some (.row 44 3 (evK l s h k).length (evsF (evK l s h k))))), 1⟩) (fun k => k ≤ (windowsV l s h).length) (fun k => (windowsV l s h).length - k) 0 (Nat.zero_le _) (gh_le ⟨le_upd rfl trivial (le_upd rfl trivial (le_upd rfl trivial (le_upd rfl rfl (le_upd rfl trivial (le_nil _))))), le_hupd rfl trivial (le_h0 _ _)⟩)
  intro k hk
  have hln := evK_len l s h k
  by_cases hc : k < (windowsV l s h).length
  · have hsu := evK_succ hc
    have HI := hitsIn_s h (windowsV l s h)[k] (by omega)
    repeat (first
    | (apply s_a TY; exact rfl)
    | (apply s_t; exact rfl; (first | assumption | omega))
    | apply w_seq
    | apply w_region
    | (apply w_draw (id := 5) 7 rfl (by kernel_rfl))
    | apply s_nil
    | apply t_norm
    | apply k_norm
    | apply w_block
    | apply w_skip
    | (apply w_condT; exact rfl; exact rfl)
    | (apply s_k (HI); exact rfl)
    | (apply s_c TY; exact rfl; (first | omega | exact ⟨by omega, by (first | with_reducible assumption | ((with_reducible apply rngsF_ne); omega) | assumption)⟩))
    | (apply s_m TY; exact rfl; (first | with_reducible assumption | ((with_reducible apply rngsF_sub); omega) | exact rfl); exact rfl)
    | (apply s_alloc TY; exact rfl; exact rfl; exact rfl)
    | (apply s_store TY; exact rfl; exact rfl; exact rfl; exact rfl; exact rfl; exact rfl)
    | (apply s_append TY; exact rfl; exact rfl; exact rfl; exact rfl; exact rfl; exact rfl; exact rfl; exact rfl; exact rfl; (unfold maxLen; omega); omega))
    exact ⟨k + 1, by omega, by omega, gh_le ⟨le_upd rfl trivial (le_upd rfl trivial (le_upd rfl trivial (le_upd rfl rfl (le_upd rfl trivial (le_nil _))))), le_hupd (rowEv_app hsu) trivial (le_h0 _ _)⟩⟩
  · have hke : k = (windowsV l s h).length := by omega
    subst hke
    rw [evK_all]
    repeat (first
    | (apply s_a TY; exact rfl)
    | (apply s_f; exact rfl; (first | assumption | omega))
    | apply w_seq
    | apply w_region
    | apply s_nil
    | apply t_norm
    | apply t_exit
    | apply k_hit
    | apply w_exit
    | apply w_ret
    | (apply w_condF; exact rfl; exact rfl))
    exact lv_ret (ret_gh (gh_row 0 rfl) (ret1 rfl (res_tmp rfl)))
theorem setErr_parts {l : List Site} {s : Setup} {h : List Hit} (e : setErr l s h = 0) : (arrChk l).2 = 0 ∧ (setupChk s).2 = 0 ∧ (hitsChk l h).2 = 0 := by
  unfold setErr at e
  have h1 : (arrChk l).2 = 0 := Classical.byContradiction fun h1 => by rw [if_pos h1] at e; exact h1 e
  rw [if_neg (by simpa using h1)] at e
  have h2 : (setupChk s).2 = 0 := Classical.byContradiction fun h2 => by rw [if_pos h2] at e; exact h2 e
  rw [if_neg (by simpa using h2)] at e
  exact ⟨h1, h2, e⟩
set_option maxRecDepth 100000 in
theorem EventsOf_ok (l : List Site) (s : Setup) (h : List Hit) (hl : l.length ≤ 1000000) (hsl : s.rules.length ≤ 1000000) (hh : h.length ≤ 1000000) (e : setErr l s h = 0) : Summ Try.prog GG 9 [arrF l, setF s, .sl h.length (hitsF h)] (.tup [.sl (eventsV l s h).length (evsF (eventsV l s h)), iv 0]) := by
  obtain ⟨e1, e2, e3⟩ := setErr_parts e
  have hl0 := arrOk_of e1
  have hs := setOk_of e2
  have ho := hitsOk_of hl0 e3
  have HO := openSetup_ok l s h hl hsl hh e
  have HE := events_s l s h hs hl0 ho
  refine summW Try.func9 rfl rfl 23 rfl (by simp) (fun M0 => ?_)
  repeat (first
    | (apply s_a TY; exact rfl)
    | (apply s_t; exact rfl; (first | assumption | omega))
    | apply w_seq
    | apply w_region
    | apply s_nil
    | apply t_norm
    | apply w_ret
    | apply w_skip
    | (apply w_condF; exact rfl; exact rfl)
    | (apply s_k (HO); exact rfl)
    | (apply s_k (HE); exact rfl)
    | (apply s_alloc TY; exact rfl; exact rfl; exact rfl)
    | (apply s_store TY; exact rfl; exact rfl; exact rfl; exact rfl; exact rfl; exact rfl))
  exact lv_ret (ret2 rfl (res_tmp rfl) (res_tmp rfl))
end Go.Proofs.Ytkgmmlecacbnjaa
namespace Go.Proofs.Ytkgmmlecacbnjaa
open Go Go.RowKit Go.Proofs Go.Shelf Go.Ab
theorem stood_rng : Try.prog.stoodInHeld 42 = false := by kernel_rfl
theorem fields_rng : Try.prog.fieldsOf 42 = #[{ name := "Lo", type := 3, offset := 0, embedded := false, tag := "", pkgPath := "", byteOffset := 0 }, { name := "Hi", type := 3, offset := 1, embedded := false, tag := "", pkgPath := "", byteOffset := 8 }] := by kernel_rfl
theorem equalIn_rng (d : Nat) (a b : Rng) (W : World) : (Op.equalIn (d + 2) 42 (.agg #[.int .i64 a.lo, .int .i64 a.hi]) (.agg #[.int .i64 b.lo, .int .i64 b.hi])).run Try.prog W = .ok (decide (a = b)) W := by
  rw [run_equalIn_agg W (d + 1) 42 _ _ (by rw [fields_rng]; exact Try.underlying42) stood_rng, fields_rng]
  have e : decide (a = b) = (a.lo == b.lo && a.hi == b.hi) := by
    cases a; cases b; simp [Rng.mk.injEq]
    try simp [Bool.and_assoc]
    try rfl
  rw [e]
  cases h0 : a.lo == b.lo <;> cases h1 : a.hi == b.hi <;> simp [Op.eqFields, part, run_equalIn_int W d 3 _ _ _ _ Try.underlying3, h0, h1]
theorem guard_rng : Try.prog.eqGuardType Try.prog.depth 42 = false := by kernel_rfl
theorem ne_rng {x y : Operand} {a b : Rng} {c : Bool} (h : decide (a = b) = !c) : ∀ w, (do eqGuard .neq 42 x y (.agg #[.int .i64 a.lo, .int .i64 a.hi]) (.agg #[.int .i64 b.lo, .int .i64 b.hi]); binOp .neq 42 (.agg #[.int .i64 a.lo, .int .i64 a.hi]) (.agg #[.int .i64 b.lo, .int .i64 b.hi]) : Sem Value).run Try.prog w = .ok (.bool c) w := fun w => by
  have h1 := equalIn_rng 9998 a b w
  rw [h] at h1
  simp [eqGuard, guard_rng, run_neq_struct, h1]
theorem stood_fire : Try.prog.stoodInHeld 54 = false := by kernel_rfl
theorem fields_fire : Try.prog.fieldsOf 54 = #[{ name := "Hit", type := 3, offset := 0, embedded := false, tag := "", pkgPath := "", byteOffset := 0 }, { name := "Span", type := 42, offset := 1, embedded := false, tag := "", pkgPath := "", byteOffset := 8 }] := by kernel_rfl
set_option maxRecDepth 100000 in
theorem equalIn_fire (d : Nat) (a b : Fire) (W : World) : (Op.equalIn (d + 3) 54 (.agg #[.int .i64 a.hit, .int .i64 a.lo, .int .i64 a.hi]) (.agg #[.int .i64 b.hit, .int .i64 b.lo, .int .i64 b.hi])).run Try.prog W = .ok (decide (a = b)) W := by
  rw [run_equalIn_agg W (d + 2) 54 _ _ (by rw [fields_fire]; exact Try.underlying54) stood_fire, fields_fire]
  have e : decide (a = b) = (a.hit == b.hit && a.lo == b.lo && a.hi == b.hi) := by
    cases a; cases b; simp [Fire.mk.injEq]
    try simp [Bool.and_assoc]
    try rfl
  rw [e]
  have hr := equalIn_rng d ⟨a.lo, a.hi⟩ ⟨b.lo, b.hi⟩ W
  simp only at hr
  have e2 : decide ((⟨a.lo, a.hi⟩ : Rng) = ⟨b.lo, b.hi⟩) = (a.lo == b.lo && a.hi == b.hi) := by simp [Rng.mk.injEq]; try rfl
  rw [e2] at hr
  cases h0 : a.hit == b.hit <;> cases h1 : a.lo == b.lo <;> cases h2 : a.hi == b.hi <;> (rw [h1, h2] at hr; simp [Op.eqFields, part, run_equalIn_int W (d + 1) 3 _ _ _ _ Try.underlying3, Try.isAgg42, Try.sizeOf42, h0]; try (rw [hr]; rfl))
theorem guard_fire : Try.prog.eqGuardType Try.prog.depth 54 = false := by kernel_rfl
theorem ne_fire {x y : Operand} {a b : Fire} {c : Bool} (h : decide (a = b) = !c) : ∀ w, (do eqGuard .neq 54 x y (.agg #[.int .i64 a.hit, .int .i64 a.lo, .int .i64 a.hi]) (.agg #[.int .i64 b.hit, .int .i64 b.lo, .int .i64 b.hi]); binOp .neq 54 (.agg #[.int .i64 a.hit, .int .i64 a.lo, .int .i64 a.hi]) (.agg #[.int .i64 b.hit, .int .i64 b.lo, .int .i64 b.hi]) : Sem Value).run Try.prog w = .ok (.bool c) w := fun w => by
  have h1 := equalIn_fire 9997 a b w
  rw [h] at h1
  simp [eqGuard, guard_fire, run_neq_struct, h1]
theorem take_eq_succ {α : Type} {a b : List α} {k : Nat} (ha : k < a.length) (hb : k < b.length) (ht : a.take k = b.take k) (he : a[k] = b[k]) : a.take (k + 1) = b.take (k + 1) := by
  rw [List.take_succ_eq_append_getElem ha, List.take_succ_eq_append_getElem hb, ht, he]
theorem take_all_eq {α : Type} {a b : List α} {k : Nat} (hl : a.length = b.length) (hk : a.length ≤ k) (ht : a.take k = b.take k) : a = b := by
  rwa [List.take_of_length_le hk, List.take_of_length_le (by omega)] at ht
set_option maxRecDepth 100000 in
set_option maxHeartbeats 1600000 in
theorem Ints_s (a b : List Int) (ha : a.length ≤ 1000000) (hb : b.length ≤ 1000000) : Summ Try.prog GG 27 [.sl a.length (intsF a), .sl b.length (intsF b)] (bv (decide (a = b))) := by
  by_cases hl : a.length = b.length
  · refine summW Try.func27 rfl rfl 26 rfl (by simp) (fun M0 => ?_)
    repeat (first
    | (apply s_a TY; exact rfl)
    | (apply s_t; exact rfl; (first | assumption | omega))
    | apply w_seq
    | apply w_region
    | apply s_nil
    | apply t_norm
    | apply w_block
    | apply w_skip
    | (apply w_condF; exact rfl; exact rfl))
    apply w_loop (fun k : Nat => ⟨(Ab.upd (Ab.upd (Ab.upd (fun _ => .bot) 0 (.f (.sl a.length (intsF a)))) 1 (.f (.sl b.length (intsF b)))) 5 (.f (iv (k : Nat)))), (fun _ => none), 0⟩) (fun k => k ≤ a.length ∧ a.take k = b.take k) (fun k => a.length - k) 0 (⟨Nat.zero_le _, by simp⟩) (gh_le ⟨le_upd rfl trivial (le_upd rfl trivial (le_upd rfl trivial (le_nil _))), le_h0 _ _⟩)
    intro k ⟨hk, ht⟩
    by_cases hc : k < a.length
    · have hcb : k < b.length := by omega
      by_cases he : a[k] = b[k]
      · have hd : decide (a[k] = b[k]) = !false := by simp [he]
        repeat (first
    | (apply s_a TY; exact rfl)
    | (apply s_t; exact rfl; (first | assumption | omega))
    | apply w_seq
    | apply w_region
    | (apply w_draw (id := 6) 8 rfl (by kernel_rfl))
    | apply s_nil
    | apply t_norm
    | apply k_norm
    | apply w_block
    | apply w_skip
    | (apply w_condT; exact rfl; exact rfl)
    | (apply w_condF; exact rfl; exact rfl)
    | (apply s_c TY; exact rfl; (first | omega | exact ⟨by omega, by (first | with_reducible assumption | ((with_reducible apply intsF_ne); omega) | assumption)⟩))
    | (apply s_l TY; exact rfl; (first | exact rfl | with_reducible assumption | ((with_reducible apply intsF_at); omega) | assumption)))
        exact ⟨k + 1, ⟨by omega, take_eq_succ hc hcb ht he⟩, by omega, gh_le ⟨le_upd rfl trivial (le_upd rfl trivial (le_upd rfl trivial (le_nil _))), le_h0 _ _⟩⟩
      · have hd : decide (a[k] = b[k]) = !true := by simp [he]
        have hne : ¬ a = b := fun e => he (by simp [e])
        rw [decide_eq_false hne]
        repeat (first
    | (apply s_a TY; exact rfl)
    | (apply s_t; exact rfl; (first | assumption | omega))
    | (apply s_f; exact rfl; (first | assumption | omega))
    | apply w_seq
    | apply w_region
    | (apply w_draw (id := 6) 8 rfl (by kernel_rfl))
    | apply s_nil
    | apply t_norm
    | apply t_ret
    | apply k_ret
    | apply w_block
    | apply w_ret
    | apply w_skip
    | (apply w_condT; exact rfl; exact rfl)
    | (apply s_c TY; exact rfl; (first | omega | exact ⟨by omega, by (first | with_reducible assumption | ((with_reducible apply intsF_ne); omega) | assumption)⟩))
    | (apply s_l TY; exact rfl; (first | exact rfl | with_reducible assumption | ((with_reducible apply intsF_at); omega) | assumption)))
        exact lv_ret (ret1 rfl (res_tmp rfl))
    · rw [decide_eq_true (take_all_eq hl (by omega) ht)]
      repeat (first
    | (apply s_a TY; exact rfl)
    | (apply s_f; exact rfl; (first | assumption | omega))
    | apply w_seq
    | apply w_region
    | apply s_nil
    | apply t_norm
    | apply t_exit
    | apply k_hit
    | apply w_exit
    | apply w_ret
    | (apply w_condF; exact rfl; exact rfl))
      exact lv_ret (ret1 rfl (res_tmp rfl))
  · have hne : ¬ a = b := fun e => hl (by rw [e])
    rw [decide_eq_false hne]
    refine summW Try.func27 rfl rfl 26 rfl (by simp) (fun M0 => ?_)
    repeat (first
    | (apply s_a TY; exact rfl)
    | (apply s_f; exact rfl; (first | assumption | omega))
    | apply w_seq
    | apply w_region
    | apply s_nil
    | apply t_norm
    | apply t_ret
    | apply w_ret
    | (apply w_condT; exact rfl; exact rfl))
    exact lv_ret (ret1 rfl (res_tmp rfl))
set_option maxRecDepth 100000 in
set_option maxHeartbeats 1600000 in
theorem SameFires_s (a b : List Fire) (ha : a.length ≤ 1000000) (hb : b.length ≤ 1000000) : Summ Try.prog GG 25 [.sl a.length (firesF a), .sl b.length (firesF b)] (bv (decide (a = b))) := by
  by_cases hl : a.length = b.length
  · refine summW Try.func25 rfl rfl 26 rfl (by simp) (fun M0 => ?_)
    repeat (first
    | (apply s_a TY; exact rfl)
    | (apply s_t; exact rfl; (first | assumption | omega))
    | apply w_seq
    | apply w_region
    | apply s_nil
    | apply t_norm
    | apply w_block
    | apply w_skip
    | (apply w_condF; exact rfl; exact rfl))
    apply w_loop (fun k : Nat => ⟨(Ab.upd (Ab.upd (Ab.upd (fun _ => .bot) 0 (.f (.sl a.length (firesF a)))) 1 (.f (.sl b.length (firesF b)))) 5 (.f (iv (k : Nat)))), (fun _ => none), 0⟩) (fun k => k ≤ a.length ∧ a.take k = b.take k) (fun k => a.length - k) 0 (⟨Nat.zero_le _, by simp⟩) (gh_le ⟨le_upd rfl trivial (le_upd rfl trivial (le_upd rfl trivial (le_nil _))), le_h0 _ _⟩)
    intro k ⟨hk, ht⟩
    by_cases hc : k < a.length
    · have hcb : k < b.length := by omega
      by_cases he : a[k] = b[k]
      · have hd : decide (a[k] = b[k]) = !false := by simp [he]
        repeat (first
    | (apply s_bind; exact rfl; exact rfl; exact rfl; exact rfl; exact rfl; exact rfl; exact ne_fire (by assumption))
    | (apply s_a TY; exact rfl)
    | (apply s_t; exact rfl; (first | assumption | omega))
    | apply w_seq
    | apply w_region
    | (apply w_draw (id := 6) 8 rfl (by kernel_rfl))
    | apply s_nil
    | apply t_norm
    | apply k_norm
    | apply w_block
    | apply w_skip
    | (apply w_condT; exact rfl; exact rfl)
    | (apply w_condF; exact rfl; exact rfl)
    | (apply s_c TY; exact rfl; (first | omega | exact ⟨by omega, by (first | with_reducible assumption | ((with_reducible apply firesF_ne); omega) | assumption)⟩))
    | (apply s_m TY; exact rfl; (first | with_reducible assumption | ((with_reducible apply firesF_sub); omega) | exact rfl); exact rfl))
        exact ⟨k + 1, ⟨by omega, take_eq_succ hc hcb ht he⟩, by omega, gh_le ⟨le_upd rfl trivial (le_upd rfl trivial (le_upd rfl trivial (le_nil _))), le_h0 _ _⟩⟩
      · have hd : decide (a[k] = b[k]) = !true := by simp [he]
        have hne : ¬ a = b := fun e => he (by simp [e])
        rw [decide_eq_false hne]
        repeat (first
    | (apply s_bind; exact rfl; exact rfl; exact rfl; exact rfl; exact rfl; exact rfl; exact ne_fire (by assumption))
    | (apply s_a TY; exact rfl)
    | (apply s_t; exact rfl; (first | assumption | omega))
    | apply w_seq
    | apply w_region
    | (apply w_draw (id := 6) 8 rfl (by kernel_rfl))
    | apply s_nil
    | apply t_norm
    | apply t_ret
    | apply k_ret
    | apply w_block
    | apply w_ret
    | apply w_skip
    | (apply w_condT; exact rfl; exact rfl)
    | (apply s_c TY; exact rfl; (first | omega | exact ⟨by omega, by (first | with_reducible assumption | ((with_reducible apply firesF_ne); omega) | assumption)⟩))
    | (apply s_m TY; exact rfl; (first | with_reducible assumption | ((with_reducible apply firesF_sub); omega) | exact rfl); exact rfl))
        exact lv_ret (ret1 rfl (res_tmp rfl))
    · rw [decide_eq_true (take_all_eq hl (by omega) ht)]
      repeat (first
    | (apply s_a TY; exact rfl)
    | (apply s_f; exact rfl; (first | assumption | omega))
    | apply w_seq
    | apply w_region
    | apply s_nil
    | apply t_norm
    | apply t_exit
    | apply k_hit
    | apply w_exit
    | apply w_ret
    | (apply w_condF; exact rfl; exact rfl))
      exact lv_ret (ret1 rfl (res_tmp rfl))
  · have hne : ¬ a = b := fun e => hl (by rw [e])
    rw [decide_eq_false hne]
    refine summW Try.func25 rfl rfl 26 rfl (by simp) (fun M0 => ?_)
    repeat (first
    | (apply s_a TY; exact rfl)
    | (apply s_f; exact rfl; (first | assumption | omega))
    | apply w_seq
    | apply w_region
    | apply s_nil
    | apply t_norm
    | apply t_ret
    | apply w_ret
    | (apply w_condT; exact rfl; exact rfl))
    exact lv_ret (ret1 rfl (res_tmp rfl))
set_option maxRecDepth 100000 in
set_option maxHeartbeats 1600000 in
theorem SameEvents_s (a b : List Ev) (ha : a.length ≤ 1000000) (hb : b.length ≤ 1000000) (h1 : ∀ x, x ∈ a → x.hits.length ≤ 1000000) (h2 : ∀ x, x ∈ b → x.hits.length ≤ 1000000) : Summ Try.prog GG 26 [.sl a.length (evsF a), .sl b.length (evsF b)] (bv (decide (a = b))) := by
  by_cases hl : a.length = b.length
  · refine summW Try.func26 rfl rfl 42 rfl (by simp) (fun M0 => ?_)
    repeat (first
    | (apply s_a TY; exact rfl)
    | (apply s_t; exact rfl; (first | assumption | omega))
    | apply w_seq
    | apply w_region
    | apply s_nil
    | apply t_norm
    | apply w_block
    | apply w_skip
    | (apply w_condF; exact rfl; exact rfl))
    apply w_loop (fun k : Nat => ⟨(Ab.upd (Ab.upd (Ab.upd (fun _ => .bot) 0 (.f (.sl a.length (evsF a)))) 1 (.f (.sl b.length (evsF b)))) 5 (.f (iv (k : Nat)))), (fun _ => none), 0⟩) (fun k => k ≤ a.length ∧ a.take k = b.take k) (fun k => a.length - k) 0 (⟨Nat.zero_le _, by simp⟩) (gh_le ⟨le_upd rfl trivial (le_upd rfl trivial (le_upd rfl trivial (le_nil _))), le_h0 _ _⟩)
    intro k ⟨hk, ht⟩
    by_cases hc : k < a.length
    · have hcb : k < b.length := by omega
      have hwa : ((evsF a).drop (k * 3 + 0)).take 2 = [iv a[k].lo, iv a[k].hi] := by rw [Nat.add_zero, evsF_drop, List.drop_eq_getElem_cons hc]; rfl
      have hwb : ((evsF b).drop (k * 3 + 0)).take 2 = [iv b[k].lo, iv b[k].hi] := by rw [Nat.add_zero, evsF_drop, List.drop_eq_getElem_cons hcb]; rfl
      have h1a := h1 a[k] (List.getElem_mem hc)
      have h1b := h2 b[k] (List.getElem_mem hcb)
      by_cases hr : (⟨a[k].lo, a[k].hi⟩ : Rng) = ⟨b[k].lo, b[k].hi⟩
      · have hd : decide ((⟨a[k].lo, a[k].hi⟩ : Rng) = ⟨b[k].lo, b[k].hi⟩) = !false := by rw [decide_eq_true hr]; rfl
        have HI := Ints_s a[k].hits b[k].hits h1a h1b
        by_cases hh : a[k].hits = b[k].hits
        · have he : a[k] = b[k] := by
            generalize a[k] = x at hr hh ⊢
            generalize b[k] = y at hr hh ⊢
            cases x; cases y
            simp only [Rng.mk.injEq] at hr
            simp only at hh
            rw [hr.1, hr.2, hh]
          rw [decide_eq_true hh] at HI
          repeat (first
    | (apply s_bind; exact rfl; exact rfl; exact rfl; exact rfl; exact rfl; exact rfl; exact ne_rng (by assumption))
    | (apply s_a TY; exact rfl)
    | (apply s_t; exact rfl; (first | assumption | omega))
    | apply w_seq
    | apply w_region
    | (apply w_draw (id := 6) 22 rfl (by kernel_rfl))
    | apply s_nil
    | apply t_norm
    | apply k_norm
    | apply w_block
    | apply w_skip
    | (apply w_condT; exact rfl; exact rfl)
    | (apply w_condF; exact rfl; exact rfl)
    | (apply s_k (HI); exact rfl)
    | (apply s_c TY; exact rfl; (first | omega | exact ⟨by omega, by (first | with_reducible assumption | ((with_reducible apply evsF_ne); omega) | assumption)⟩))
    | (apply s_l TY; exact rfl; (first | exact rfl | with_reducible assumption | ((with_reducible apply evsF_f0); omega) | ((with_reducible apply evsF_f1); omega) | ((with_reducible apply evsF_f2); omega) | assumption))
    | (apply s_m TY; exact rfl; (first | with_reducible assumption | ((with_reducible apply evsF_sub); omega) | exact rfl); exact rfl))
          exact ⟨k + 1, ⟨by omega, take_eq_succ hc hcb ht he⟩, by omega, gh_le ⟨le_upd rfl trivial (le_upd rfl trivial (le_upd rfl trivial (le_nil _))), le_h0 _ _⟩⟩
        · have hne : ¬ a = b := fun e => hh (by simp [e])
          rw [decide_eq_false hh] at HI
          rw [decide_eq_false hne]
          repeat (first
    | (apply s_bind; exact rfl; exact rfl; exact rfl; exact rfl; exact rfl; exact rfl; exact ne_rng (by assumption))
    | (apply s_a TY; exact rfl)
    | (apply s_t; exact rfl; (first | assumption | omega))
    | apply w_seq
    | apply w_region
    | (apply w_draw (id := 6) 22 rfl (by kernel_rfl))
    | apply s_nil
    | apply t_norm
    | apply t_ret
    | apply k_ret
    | apply w_block
    | apply w_ret
    | apply w_skip
    | (apply w_condT; exact rfl; exact rfl)
    | (apply s_k (HI); exact rfl)
    | (apply s_c TY; exact rfl; (first | omega | exact ⟨by omega, by (first | with_reducible assumption | ((with_reducible apply evsF_ne); omega) | assumption)⟩))
    | (apply s_l TY; exact rfl; (first | exact rfl | with_reducible assumption | ((with_reducible apply evsF_f0); omega) | ((with_reducible apply evsF_f1); omega) | ((with_reducible apply evsF_f2); omega) | assumption))
    | (apply s_m TY; exact rfl; (first | with_reducible assumption | ((with_reducible apply evsF_sub); omega) | exact rfl); exact rfl))
          exact lv_ret (ret1 rfl (res_tmp rfl))
      · have hd : decide ((⟨a[k].lo, a[k].hi⟩ : Rng) = ⟨b[k].lo, b[k].hi⟩) = !true := by rw [decide_eq_false hr]; rfl
        have hne : ¬ a = b := fun e => hr (by simp [e])
        rw [decide_eq_false hne]
        repeat (first
    | (apply s_bind; exact rfl; exact rfl; exact rfl; exact rfl; exact rfl; exact rfl; exact ne_rng (by assumption))
    | (apply s_a TY; exact rfl)
    | (apply s_t; exact rfl; (first | assumption | omega))
    | apply w_seq
    | apply w_region
    | (apply w_draw (id := 6) 22 rfl (by kernel_rfl))
    | apply s_nil
    | apply t_norm
    | apply t_ret
    | apply k_ret
    | apply w_block
    | apply w_ret
    | apply w_skip
    | (apply w_condT; exact rfl; exact rfl)
    | (apply s_s; exact rfl)
    | (apply s_c TY; exact rfl; (first | omega | exact ⟨by omega, by (first | with_reducible assumption | ((with_reducible apply evsF_ne); omega) | assumption)⟩))
    | (apply s_m TY; exact rfl; (first | with_reducible assumption | ((with_reducible apply evsF_sub); omega) | exact rfl); exact rfl))
        exact lv_ret (ret1 rfl (res_tmp rfl))
    · rw [decide_eq_true (take_all_eq hl (by omega) ht)]
      repeat (first
    | (apply s_a TY; exact rfl)
    | (apply s_f; exact rfl; (first | assumption | omega))
    | apply w_seq
    | apply w_region
    | apply s_nil
    | apply t_norm
    | apply t_exit
    | apply k_hit
    | apply w_exit
    | apply w_ret
    | (apply w_condF; exact rfl; exact rfl))
      exact lv_ret (ret1 rfl (res_tmp rfl))
  · have hne : ¬ a = b := fun e => hl (by rw [e])
    rw [decide_eq_false hne]
    refine summW Try.func26 rfl rfl 42 rfl (by simp) (fun M0 => ?_)
    repeat (first
    | (apply s_a TY; exact rfl)
    | (apply s_f; exact rfl; (first | assumption | omega))
    | apply w_seq
    | apply w_region
    | apply s_nil
    | apply t_norm
    | apply t_ret
    | apply w_ret
    | (apply w_condT; exact rfl; exact rfl))
    exact lv_ret (ret1 rfl (res_tmp rfl))
end Go.Proofs.Ytkgmmlecacbnjaa
namespace Go.Proofs.Ytkgmmlecacbnjaa
open Go Go.RowKit Go.Proofs Go.Shelf Go.Ab
def wA (ws : List Rng) (i : Nat) : Int := if (-2000000000000 ≤ (ws.getD i default).lo ∧ (ws.getD i default).lo ≤ 2000000000000) ∧ (-2000000000000 ≤ (ws.getD i default).hi ∧ (ws.getD i default).hi ≤ 2000000000000) then 0 else 2
def wB (ws : List Rng) (i : Nat) : Int := if (ws.getD i default).lo ≤ (ws.getD i default).hi ∧ (i = 0 ∨ (ws.getD (i - 1) default).hi < (ws.getD i default).lo) then 0 else 9
def lerrK (ws : List Rng) (e : Int) : Nat → Int
  | 0 => e
  | i + 1 => firstE [lerrK ws e i, wA ws i, wB ws i]
def runA (r : Rng) : Int := if (0 ≤ r.lo ∧ r.lo ≤ 1000000000000) ∧ (0 ≤ r.hi ∧ r.hi ≤ 1000000000000) then 0 else 2
def runB (r : Rng) : Int := if r.lo ≤ r.hi then 0 else 9
def lenE (n : Nat) : Int := if n ≤ 40 then 0 else 8
def liveErrV (s : Setup) (ws : List Rng) (r : Rng) : Int := firstE [lerrK ws (firstE [(setupChk s).2, lenE ws.length]) ws.length, runA r, runB r]
def liveStep (s : Setup) (r : Rng) (p : Int × Int) (w : Rng) : Int × Int :=
  if max p.2 (w.hi + 1) ≤ min r.hi (w.hi + s.dead) then (p.1 - (min r.hi (w.hi + s.dead) - max p.2 (w.hi + 1) + 1), min r.hi (w.hi + s.dead) + 1) else p
def liveK (s : Setup) (ws : List Rng) (r : Rng) : Nat → Int × Int
  | 0 => (r.hi - r.lo + 1, r.lo)
  | k + 1 => liveStep s r (liveK s ws r k) (ws.getD k default)
def liveV (s : Setup) (ws : List Rng) (r : Rng) : Int := (liveK s ws r ws.length).1
theorem firstE3_zero {a b c : Int} (h : firstE [a, b, c] = 0) : a = 0 ∧ b = 0 ∧ c = 0 := by
  simp only [firstE] at h
  split at h
  · split at h
    · split at h
      · exact ⟨by assumption, by assumption, by assumption⟩
      · exact absurd h (by assumption)
    · exact absurd h (by assumption)
  · exact absurd h (by assumption)
theorem firstE2_zero {a b : Int} (h : firstE [a, b] = 0) : a = 0 ∧ b = 0 := by
  simp only [firstE] at h
  split at h
  · split at h
    · exact ⟨by assumption, by assumption⟩
    · exact absurd h (by assumption)
  · exact absurd h (by assumption)
theorem lerrK_zero {ws : List Rng} {e : Int} : ∀ {n : Nat}, lerrK ws e n = 0 → e = 0 ∧ ∀ i, i < n → wA ws i = 0 ∧ wB ws i = 0
  | 0, h => ⟨h, fun i hi => by omega⟩
  | n + 1, h => by
    obtain ⟨h1, h2, h3⟩ := firstE3_zero h
    obtain ⟨h4, h5⟩ := lerrK_zero h1
    refine ⟨h4, fun i hi => ?_⟩
    by_cases e : i = n
    · subst e; exact ⟨h2, h3⟩
    · exact h5 i (by omega)
theorem wA_zero {ws : List Rng} {i : Nat} (hi : i < ws.length) (h : wA ws i = 0) : (-2000000000000 ≤ ws[i].lo ∧ ws[i].lo ≤ 2000000000000) ∧ (-2000000000000 ≤ ws[i].hi ∧ ws[i].hi ≤ 2000000000000) := by
  unfold wA at h
  rw [getD_at hi] at h
  by_cases c : (-2000000000000 ≤ ws[i].lo ∧ ws[i].lo ≤ 2000000000000) ∧ (-2000000000000 ≤ ws[i].hi ∧ ws[i].hi ≤ 2000000000000)
  · exact c
  · rw [if_neg c] at h; cases h
theorem liveErr_parts {s : Setup} {ws : List Rng} {r : Rng} (h : liveErrV s ws r = 0) : (setupChk s).2 = 0 ∧ ws.length ≤ 40 ∧ (∀ i, i < ws.length → wA ws i = 0 ∧ wB ws i = 0) ∧ ((0 ≤ r.lo ∧ r.lo ≤ 1000000000000) ∧ (0 ≤ r.hi ∧ r.hi ≤ 1000000000000)) ∧ r.lo ≤ r.hi := by
  obtain ⟨h1, h2, h3⟩ := firstE3_zero h
  obtain ⟨h4, h5⟩ := lerrK_zero h1
  obtain ⟨h6, h7⟩ := firstE2_zero h4
  refine ⟨h6, ?_, h5, ?_, ?_⟩
  · unfold lenE at h7
    by_cases c : ws.length ≤ 40
    · exact c
    · rw [if_neg c] at h7; cases h7
  · unfold runA at h2
    by_cases c : (0 ≤ r.lo ∧ r.lo ≤ 1000000000000) ∧ (0 ≤ r.hi ∧ r.hi ≤ 1000000000000)
    · exact c
    · rw [if_neg c] at h2; cases h2
  · unfold runB at h3
    by_cases c : r.lo ≤ r.hi
    · exact c
    · rw [if_neg c] at h3; cases h3
theorem liveStep_bd {s : Setup} {r : Rng} {p : Int × Int} {w : Rng} (h : (r.lo ≤ p.2 ∧ p.2 ≤ r.hi + 1) ∧ (r.hi + 1 - p.2 ≤ p.1 ∧ p.1 ≤ r.hi - r.lo + 1)) : (r.lo ≤ (liveStep s r p w).2 ∧ (liveStep s r p w).2 ≤ r.hi + 1) ∧ (r.hi + 1 - (liveStep s r p w).2 ≤ (liveStep s r p w).1 ∧ (liveStep s r p w).1 ≤ r.hi - r.lo + 1) := by
  unfold liveStep
  split
  · simp only; omega
  · exact h
theorem liveK_bd {s : Setup} {ws : List Rng} {r : Rng} (hr : r.lo ≤ r.hi) : ∀ k, (r.lo ≤ (liveK s ws r k).2 ∧ (liveK s ws r k).2 ≤ r.hi + 1) ∧ (r.hi + 1 - (liveK s ws r k).2 ≤ (liveK s ws r k).1 ∧ (liveK s ws r k).1 ≤ r.hi - r.lo + 1)
  | 0 => by simp only [liveK]; omega
  | k + 1 => liveStep_bd (liveK_bd hr k)
set_option maxRecDepth 100000 in
set_option maxHeartbeats 6400000 in
theorem LiveIn_s (s : Setup) (ws : List Rng) (r : Rng) (hsl : s.rules.length ≤ 1000000) (hw : ws.length ≤ 1000000) : Summ Try.prog GG 16 [setF s, .sl ws.length (rngsF ws), .agg (rngF r)] (.tup [iv (if liveErrV s ws r = 0 then liveV s ws r else 0), iv (liveErrV s ws r)]) := by
  unfold liveV
  have HU : Summ Try.prog GG 38 [.v (.bool (decide (((ws.length : Nat) : Int) ≤ 40))), iv 8] (iv (lenE ws.length)) := by
    unfold lenE
    by_cases hL : ws.length ≤ 40
    · rw [if_pos hL, decide_eq_true (by omega)]; exact unless_T 8
    · rw [if_neg hL, decide_eq_false (by omega)]; exact unless_F 8
  have H1 := first2_s (setupChk s).2 (lenE ws.length)
  refine summW Try.func16 rfl rfl 135 rfl (by simp) (fun M0 => ?_)
  repeat (first
    | (apply s_leq; exact rfl; exact rfl; exact rfl)
    | (apply s_a TY; exact rfl)
    | apply w_seq
    | apply w_region
    | apply s_nil
    | apply t_norm
    | apply w_block
    | (apply s_k (HU); exact rfl)
    | (apply s_k (H1); exact rfl)
    | (apply s_k1 (CheckSetup_s _); exact rfl; (first | assumption | omega | decide)))
  apply w_loop (fun k : Nat => ⟨(Ab.upd (Ab.upd (Ab.upd (Ab.upd (Ab.upd (Ab.upd (Ab.upd (fun _ => .bot) 1 (.f (.sl ws.length (rngsF ws)))) 3 (.f (.pt (setL s) 0))) 5 (.f (.pt (rngF r) 0))) 9 (.f (iv (lerrK ws (firstE [(setupChk s).2, lenE ws.length]) k)))) 31 (.f (.sl ws.length (rngsF ws)))) 32 (.f (iv ws.length))) 33 (.f (iv (k : Nat)))), (fun _ => none), 0⟩) (fun k => k ≤ ws.length) (fun k => ws.length - k) 0 (Nat.zero_le _) (gh_le ⟨le_upd rfl trivial (le_upd rfl trivial (le_upd rfl trivial (le_upd rfl trivial (le_upd rfl trivial (le_upd rfl trivial (le_upd rfl trivial (le_nil _))))))), le_h0 _ _⟩)
  intro k hk
  by_cases hc : k < ws.length
  · have hp : k - 1 < ws.length := by omega
    have hat : (rngsF ws)[(max 0 ((k : Int) - 1)).toNat * 2 + 1]? = some (iv ws[k - 1].hi) := by
      rw [show (max 0 ((k : Int) - 1)).toNat = k - 1 by omega]; exact rngsF_f1 hp
    by_cases hA : ws[k].lo ≤ ws[k].hi
    · by_cases hB : k = 0
      · by_cases hD : -2000000000000 ≤ ws[k].lo ∧ ws[k].lo ≤ 2000000000000
        · by_cases hE : -2000000000000 ≤ ws[k].hi ∧ ws[k].hi ≤ 2000000000000
          · have hwA : wA ws k = 0 := by unfold wA; rw [getD_at hc]; exact if_pos (by omega)
            have hwB : wB ws k = 0 := by unfold wB; rw [getD_at hc, getD_at hp]; exact if_pos (by omega)
            have hl : lerrK ws (firstE [(setupChk s).2, lenE ws.length]) (k + 1) = firstE [lerrK ws (firstE [(setupChk s).2, lenE ws.length]) k, 0, 0] := by rw [lerrK, hwA, hwB]
            repeat (first
    | (apply s_a TY; exact rfl)
    | (apply s_t; exact rfl; (first | assumption | omega))
    | apply w_seq
    | apply w_region
    | (apply w_draw (id := 6) 18 rfl (by kernel_rfl))
    | apply s_nil
    | apply t_norm
    | apply k_norm
    | apply w_block
    | apply w_skip
    | (apply w_condT; exact rfl; exact rfl)
    | (apply s_k (first3_s _ _ _); exact rfl)
    | (apply s_k (unless_T _); exact rfl)
    | (apply s_k2 (isSized_T _ _); exact rfl; (first | assumption | omega | decide); (first | assumption | omega | decide))
    | (apply s_s; exact rfl)
    | (apply s_c TY; exact rfl; (first | omega | exact ⟨by omega, by (first | with_reducible assumption | ((with_reducible apply rngsF_ne); omega) | assumption)⟩))
    | (apply s_m TY; exact rfl; (first | with_reducible assumption | ((with_reducible apply rngsF_sub); omega) | exact rfl); exact rfl)
    | (apply s_alloc TY; exact rfl; exact rfl; exact rfl)
    | (apply s_store TY; exact rfl; exact rfl; exact rfl; exact rfl; exact rfl; exact rfl))
            exact ⟨k + 1, by omega, by omega, gh_le ⟨le_upd rfl trivial (le_upd rfl trivial (le_upd rfl trivial (le_upd (congrArg (fun z : Int => AV.f (iv z)) hl) trivial (le_upd rfl trivial (le_upd rfl trivial (le_upd rfl trivial (le_nil _))))))), le_h0 _ _⟩⟩
          · have hwA : wA ws k = 2 := by unfold wA; rw [getD_at hc]; exact if_neg (by omega)
            have hwB : wB ws k = 0 := by unfold wB; rw [getD_at hc, getD_at hp]; exact if_pos (by omega)
            have hl : lerrK ws (firstE [(setupChk s).2, lenE ws.length]) (k + 1) = firstE [lerrK ws (firstE [(setupChk s).2, lenE ws.length]) k, 2, 0] := by rw [lerrK, hwA, hwB]
            repeat (first
    | (apply s_a TY; exact rfl)
    | (apply s_t; exact rfl; (first | assumption | omega))
    | apply w_seq
    | apply w_region
    | (apply w_draw (id := 6) 18 rfl (by kernel_rfl))
    | apply s_nil
    | apply t_norm
    | apply k_norm
    | apply w_block
    | apply w_skip
    | (apply w_condT; exact rfl; exact rfl)
    | (apply s_k (first3_s _ _ _); exact rfl)
    | (apply s_k (unless_T _); exact rfl)
    | (apply s_k (unless_F _); exact rfl)
    | (apply s_k2 (isSized_T _ _); exact rfl; (first | assumption | omega | decide); (first | assumption | omega | decide))
    | (apply s_k2 (isSized_F _ _); exact rfl; (first | assumption | omega | decide); (first | assumption | omega | decide))
    | (apply s_s; exact rfl)
    | (apply s_c TY; exact rfl; (first | omega | exact ⟨by omega, by (first | with_reducible assumption | ((with_reducible apply rngsF_ne); omega) | assumption)⟩))
    | (apply s_m TY; exact rfl; (first | with_reducible assumption | ((with_reducible apply rngsF_sub); omega) | exact rfl); exact rfl)
    | (apply s_alloc TY; exact rfl; exact rfl; exact rfl)
    | (apply s_store TY; exact rfl; exact rfl; exact rfl; exact rfl; exact rfl; exact rfl))
            exact ⟨k + 1, by omega, by omega, gh_le ⟨le_upd rfl trivial (le_upd rfl trivial (le_upd rfl trivial (le_upd (congrArg (fun z : Int => AV.f (iv z)) hl) trivial (le_upd rfl trivial (le_upd rfl trivial (le_upd rfl trivial (le_nil _))))))), le_h0 _ _⟩⟩
        · have hwA : wA ws k = 2 := by unfold wA; rw [getD_at hc]; exact if_neg (by omega)
          have hwB : wB ws k = 0 := by unfold wB; rw [getD_at hc, getD_at hp]; exact if_pos (by omega)
          have hl : lerrK ws (firstE [(setupChk s).2, lenE ws.length]) (k + 1) = firstE [lerrK ws (firstE [(setupChk s).2, lenE ws.length]) k, 2, 0] := by rw [lerrK, hwA, hwB]
          repeat (first
    | (apply s_a TY; exact rfl)
    | (apply s_t; exact rfl; (first | assumption | omega))
    | apply w_seq
    | apply w_region
    | (apply w_draw (id := 6) 18 rfl (by kernel_rfl))
    | apply s_nil
    | apply t_norm
    | apply k_norm
    | apply w_block
    | apply w_skip
    | (apply w_condT; exact rfl; exact rfl)
    | (apply s_k (first3_s _ _ _); exact rfl)
    | (apply s_k (unless_T _); exact rfl)
    | (apply s_k (unless_F _); exact rfl)
    | (apply s_k2 (isSized_F _ _); exact rfl; (first | assumption | omega | decide); (first | assumption | omega | decide))
    | (apply s_s; exact rfl)
    | (apply s_c TY; exact rfl; (first | omega | exact ⟨by omega, by (first | with_reducible assumption | ((with_reducible apply rngsF_ne); omega) | assumption)⟩))
    | (apply s_m TY; exact rfl; (first | with_reducible assumption | ((with_reducible apply rngsF_sub); omega) | exact rfl); exact rfl)
    | (apply s_alloc TY; exact rfl; exact rfl; exact rfl)
    | (apply s_store TY; exact rfl; exact rfl; exact rfl; exact rfl; exact rfl; exact rfl))
          exact ⟨k + 1, by omega, by omega, gh_le ⟨le_upd rfl trivial (le_upd rfl trivial (le_upd rfl trivial (le_upd (congrArg (fun z : Int => AV.f (iv z)) hl) trivial (le_upd rfl trivial (le_upd rfl trivial (le_upd rfl trivial (le_nil _))))))), le_h0 _ _⟩⟩
      · by_cases hC : ws[k - 1].hi < ws[k].lo
        · by_cases hD : -2000000000000 ≤ ws[k].lo ∧ ws[k].lo ≤ 2000000000000
          · by_cases hE : -2000000000000 ≤ ws[k].hi ∧ ws[k].hi ≤ 2000000000000
            · have hwA : wA ws k = 0 := by unfold wA; rw [getD_at hc]; exact if_pos (by omega)
              have hwB : wB ws k = 0 := by unfold wB; rw [getD_at hc, getD_at hp]; exact if_pos (by omega)
              have hl : lerrK ws (firstE [(setupChk s).2, lenE ws.length]) (k + 1) = firstE [lerrK ws (firstE [(setupChk s).2, lenE ws.length]) k, 0, 0] := by rw [lerrK, hwA, hwB]
              repeat (first
    | (apply s_a TY; exact rfl)
    | (apply s_t; exact rfl; (first | assumption | omega))
    | (apply s_f; exact rfl; (first | assumption | omega))
    | apply w_seq
    | apply w_region
    | (apply w_draw (id := 6) 18 rfl (by kernel_rfl))
    | apply s_nil
    | apply t_norm
    | apply k_norm
    | apply w_block
    | apply w_skip
    | (apply w_condT; exact rfl; exact rfl)
    | (apply s_k (first3_s _ _ _); exact rfl)
    | (apply s_k (unless_T _); exact rfl)
    | (apply s_k2 (isSized_T _ _); exact rfl; (first | assumption | omega | decide); (first | assumption | omega | decide))
    | (apply s_c TY; exact rfl; (first | omega | exact ⟨by omega, by (first | with_reducible assumption | ((with_reducible apply rngsF_ne); omega) | assumption)⟩))
    | (apply s_z TY; exact rfl; (first | omega | exact ⟨by omega, by (first | with_reducible assumption | ((with_reducible apply rngsF_ne); omega) | assumption)⟩))
    | (apply s_l TY; exact rfl; (first | exact rfl | with_reducible assumption | ((with_reducible apply rngsF_f0); omega) | ((with_reducible apply rngsF_f1); omega) | assumption))
    | (apply s_m TY; exact rfl; (first | with_reducible assumption | ((with_reducible apply rngsF_sub); omega) | exact rfl); exact rfl)
    | (apply s_alloc TY; exact rfl; exact rfl; exact rfl)
    | (apply s_store TY; exact rfl; exact rfl; exact rfl; exact rfl; exact rfl; exact rfl))
              exact ⟨k + 1, by omega, by omega, gh_le ⟨le_upd rfl trivial (le_upd rfl trivial (le_upd rfl trivial (le_upd (congrArg (fun z : Int => AV.f (iv z)) hl) trivial (le_upd rfl trivial (le_upd rfl trivial (le_upd rfl trivial (le_nil _))))))), le_h0 _ _⟩⟩
            · have hwA : wA ws k = 2 := by unfold wA; rw [getD_at hc]; exact if_neg (by omega)
              have hwB : wB ws k = 0 := by unfold wB; rw [getD_at hc, getD_at hp]; exact if_pos (by omega)
              have hl : lerrK ws (firstE [(setupChk s).2, lenE ws.length]) (k + 1) = firstE [lerrK ws (firstE [(setupChk s).2, lenE ws.length]) k, 2, 0] := by rw [lerrK, hwA, hwB]
              repeat (first
    | (apply s_a TY; exact rfl)
    | (apply s_t; exact rfl; (first | assumption | omega))
    | (apply s_f; exact rfl; (first | assumption | omega))
    | apply w_seq
    | apply w_region
    | (apply w_draw (id := 6) 18 rfl (by kernel_rfl))
    | apply s_nil
    | apply t_norm
    | apply k_norm
    | apply w_block
    | apply w_skip
    | (apply w_condT; exact rfl; exact rfl)
    | (apply s_k (first3_s _ _ _); exact rfl)
    | (apply s_k (unless_T _); exact rfl)
    | (apply s_k (unless_F _); exact rfl)
    | (apply s_k2 (isSized_T _ _); exact rfl; (first | assumption | omega | decide); (first | assumption | omega | decide))
    | (apply s_k2 (isSized_F _ _); exact rfl; (first | assumption | omega | decide); (first | assumption | omega | decide))
    | (apply s_c TY; exact rfl; (first | omega | exact ⟨by omega, by (first | with_reducible assumption | ((with_reducible apply rngsF_ne); omega) | assumption)⟩))
    | (apply s_z TY; exact rfl; (first | omega | exact ⟨by omega, by (first | with_reducible assumption | ((with_reducible apply rngsF_ne); omega) | assumption)⟩))
    | (apply s_l TY; exact rfl; (first | exact rfl | with_reducible assumption | ((with_reducible apply rngsF_f0); omega) | ((with_reducible apply rngsF_f1); omega) | assumption))
    | (apply s_m TY; exact rfl; (first | with_reducible assumption | ((with_reducible apply rngsF_sub); omega) | exact rfl); exact rfl)
    | (apply s_alloc TY; exact rfl; exact rfl; exact rfl)
    | (apply s_store TY; exact rfl; exact rfl; exact rfl; exact rfl; exact rfl; exact rfl))
              exact ⟨k + 1, by omega, by omega, gh_le ⟨le_upd rfl trivial (le_upd rfl trivial (le_upd rfl trivial (le_upd (congrArg (fun z : Int => AV.f (iv z)) hl) trivial (le_upd rfl trivial (le_upd rfl trivial (le_upd rfl trivial (le_nil _))))))), le_h0 _ _⟩⟩
          · have hwA : wA ws k = 2 := by unfold wA; rw [getD_at hc]; exact if_neg (by omega)
            have hwB : wB ws k = 0 := by unfold wB; rw [getD_at hc, getD_at hp]; exact if_pos (by omega)
            have hl : lerrK ws (firstE [(setupChk s).2, lenE ws.length]) (k + 1) = firstE [lerrK ws (firstE [(setupChk s).2, lenE ws.length]) k, 2, 0] := by rw [lerrK, hwA, hwB]
            repeat (first
    | (apply s_a TY; exact rfl)
    | (apply s_t; exact rfl; (first | assumption | omega))
    | (apply s_f; exact rfl; (first | assumption | omega))
    | apply w_seq
    | apply w_region
    | (apply w_draw (id := 6) 18 rfl (by kernel_rfl))
    | apply s_nil
    | apply t_norm
    | apply k_norm
    | apply w_block
    | apply w_skip
    | (apply w_condT; exact rfl; exact rfl)
    | (apply s_k (first3_s _ _ _); exact rfl)
    | (apply s_k (unless_T _); exact rfl)
    | (apply s_k (unless_F _); exact rfl)
    | (apply s_k2 (isSized_F _ _); exact rfl; (first | assumption | omega | decide); (first | assumption | omega | decide))
    | (apply s_s; exact rfl)
    | (apply s_c TY; exact rfl; (first | omega | exact ⟨by omega, by (first | with_reducible assumption | ((with_reducible apply rngsF_ne); omega) | assumption)⟩))
    | (apply s_z TY; exact rfl; (first | omega | exact ⟨by omega, by (first | with_reducible assumption | ((with_reducible apply rngsF_ne); omega) | assumption)⟩))
    | (apply s_l TY; exact rfl; (first | exact rfl | with_reducible assumption | ((with_reducible apply rngsF_f0); omega) | ((with_reducible apply rngsF_f1); omega) | assumption))
    | (apply s_m TY; exact rfl; (first | with_reducible assumption | ((with_reducible apply rngsF_sub); omega) | exact rfl); exact rfl)
    | (apply s_alloc TY; exact rfl; exact rfl; exact rfl)
    | (apply s_store TY; exact rfl; exact rfl; exact rfl; exact rfl; exact rfl; exact rfl))
            exact ⟨k + 1, by omega, by omega, gh_le ⟨le_upd rfl trivial (le_upd rfl trivial (le_upd rfl trivial (le_upd (congrArg (fun z : Int => AV.f (iv z)) hl) trivial (le_upd rfl trivial (le_upd rfl trivial (le_upd rfl trivial (le_nil _))))))), le_h0 _ _⟩⟩
        · by_cases hD : -2000000000000 ≤ ws[k].lo ∧ ws[k].lo ≤ 2000000000000
          · by_cases hE : -2000000000000 ≤ ws[k].hi ∧ ws[k].hi ≤ 2000000000000
            · have hwA : wA ws k = 0 := by unfold wA; rw [getD_at hc]; exact if_pos (by omega)
              have hwB : wB ws k = 9 := by unfold wB; rw [getD_at hc, getD_at hp]; exact if_neg (by omega)
              have hl : lerrK ws (firstE [(setupChk s).2, lenE ws.length]) (k + 1) = firstE [lerrK ws (firstE [(setupChk s).2, lenE ws.length]) k, 0, 9] := by rw [lerrK, hwA, hwB]
              repeat (first
    | (apply s_a TY; exact rfl)
    | (apply s_t; exact rfl; (first | assumption | omega))
    | (apply s_f; exact rfl; (first | assumption | omega))
    | apply w_seq
    | apply w_region
    | (apply w_draw (id := 6) 18 rfl (by kernel_rfl))
    | apply s_nil
    | apply t_norm
    | apply k_norm
    | apply w_block
    | apply w_skip
    | (apply w_condT; exact rfl; exact rfl)
    | (apply s_k (first3_s _ _ _); exact rfl)
    | (apply s_k (unless_T _); exact rfl)
    | (apply s_k (unless_F _); exact rfl)
    | (apply s_k2 (isSized_T _ _); exact rfl; (first | assumption | omega | decide); (first | assumption | omega | decide))
    | (apply s_c TY; exact rfl; (first | omega | exact ⟨by omega, by (first | with_reducible assumption | ((with_reducible apply rngsF_ne); omega) | assumption)⟩))
    | (apply s_z TY; exact rfl; (first | omega | exact ⟨by omega, by (first | with_reducible assumption | ((with_reducible apply rngsF_ne); omega) | assumption)⟩))
    | (apply s_l TY; exact rfl; (first | exact rfl | with_reducible assumption | ((with_reducible apply rngsF_f0); omega) | ((with_reducible apply rngsF_f1); omega) | assumption))
    | (apply s_m TY; exact rfl; (first | with_reducible assumption | ((with_reducible apply rngsF_sub); omega) | exact rfl); exact rfl)
    | (apply s_alloc TY; exact rfl; exact rfl; exact rfl)
    | (apply s_store TY; exact rfl; exact rfl; exact rfl; exact rfl; exact rfl; exact rfl))
              exact ⟨k + 1, by omega, by omega, gh_le ⟨le_upd rfl trivial (le_upd rfl trivial (le_upd rfl trivial (le_upd (congrArg (fun z : Int => AV.f (iv z)) hl) trivial (le_upd rfl trivial (le_upd rfl trivial (le_upd rfl trivial (le_nil _))))))), le_h0 _ _⟩⟩
            · have hwA : wA ws k = 2 := by unfold wA; rw [getD_at hc]; exact if_neg (by omega)
              have hwB : wB ws k = 9 := by unfold wB; rw [getD_at hc, getD_at hp]; exact if_neg (by omega)
              have hl : lerrK ws (firstE [(setupChk s).2, lenE ws.length]) (k + 1) = firstE [lerrK ws (firstE [(setupChk s).2, lenE ws.length]) k, 2, 9] := by rw [lerrK, hwA, hwB]
              repeat (first
    | (apply s_a TY; exact rfl)
    | (apply s_t; exact rfl; (first | assumption | omega))
    | (apply s_f; exact rfl; (first | assumption | omega))
    | apply w_seq
    | apply w_region
    | (apply w_draw (id := 6) 18 rfl (by kernel_rfl))
    | apply s_nil
    | apply t_norm
    | apply k_norm
    | apply w_block
    | apply w_skip
    | (apply w_condT; exact rfl; exact rfl)
    | (apply s_k (first3_s _ _ _); exact rfl)
    | (apply s_k (unless_F _); exact rfl)
    | (apply s_k2 (isSized_T _ _); exact rfl; (first | assumption | omega | decide); (first | assumption | omega | decide))
    | (apply s_k2 (isSized_F _ _); exact rfl; (first | assumption | omega | decide); (first | assumption | omega | decide))
    | (apply s_c TY; exact rfl; (first | omega | exact ⟨by omega, by (first | with_reducible assumption | ((with_reducible apply rngsF_ne); omega) | assumption)⟩))
    | (apply s_z TY; exact rfl; (first | omega | exact ⟨by omega, by (first | with_reducible assumption | ((with_reducible apply rngsF_ne); omega) | assumption)⟩))
    | (apply s_l TY; exact rfl; (first | exact rfl | with_reducible assumption | ((with_reducible apply rngsF_f0); omega) | ((with_reducible apply rngsF_f1); omega) | assumption))
    | (apply s_m TY; exact rfl; (first | with_reducible assumption | ((with_reducible apply rngsF_sub); omega) | exact rfl); exact rfl)
    | (apply s_alloc TY; exact rfl; exact rfl; exact rfl)
    | (apply s_store TY; exact rfl; exact rfl; exact rfl; exact rfl; exact rfl; exact rfl))
              exact ⟨k + 1, by omega, by omega, gh_le ⟨le_upd rfl trivial (le_upd rfl trivial (le_upd rfl trivial (le_upd (congrArg (fun z : Int => AV.f (iv z)) hl) trivial (le_upd rfl trivial (le_upd rfl trivial (le_upd rfl trivial (le_nil _))))))), le_h0 _ _⟩⟩
          · have hwA : wA ws k = 2 := by unfold wA; rw [getD_at hc]; exact if_neg (by omega)
            have hwB : wB ws k = 9 := by unfold wB; rw [getD_at hc, getD_at hp]; exact if_neg (by omega)
            have hl : lerrK ws (firstE [(setupChk s).2, lenE ws.length]) (k + 1) = firstE [lerrK ws (firstE [(setupChk s).2, lenE ws.length]) k, 2, 9] := by rw [lerrK, hwA, hwB]
            repeat (first
    | (apply s_a TY; exact rfl)
    | (apply s_t; exact rfl; (first | assumption | omega))
    | (apply s_f; exact rfl; (first | assumption | omega))
    | apply w_seq
    | apply w_region
    | (apply w_draw (id := 6) 18 rfl (by kernel_rfl))
    | apply s_nil
    | apply t_norm
    | apply k_norm
    | apply w_block
    | apply w_skip
    | (apply w_condT; exact rfl; exact rfl)
    | (apply s_k (first3_s _ _ _); exact rfl)
    | (apply s_k (unless_F _); exact rfl)
    | (apply s_k2 (isSized_F _ _); exact rfl; (first | assumption | omega | decide); (first | assumption | omega | decide))
    | (apply s_s; exact rfl)
    | (apply s_c TY; exact rfl; (first | omega | exact ⟨by omega, by (first | with_reducible assumption | ((with_reducible apply rngsF_ne); omega) | assumption)⟩))
    | (apply s_z TY; exact rfl; (first | omega | exact ⟨by omega, by (first | with_reducible assumption | ((with_reducible apply rngsF_ne); omega) | assumption)⟩))
    | (apply s_l TY; exact rfl; (first | exact rfl | with_reducible assumption | ((with_reducible apply rngsF_f0); omega) | ((with_reducible apply rngsF_f1); omega) | assumption))
    | (apply s_m TY; exact rfl; (first | with_reducible assumption | ((with_reducible apply rngsF_sub); omega) | exact rfl); exact rfl)
    | (apply s_alloc TY; exact rfl; exact rfl; exact rfl)
    | (apply s_store TY; exact rfl; exact rfl; exact rfl; exact rfl; exact rfl; exact rfl))
            exact ⟨k + 1, by omega, by omega, gh_le ⟨le_upd rfl trivial (le_upd rfl trivial (le_upd rfl trivial (le_upd (congrArg (fun z : Int => AV.f (iv z)) hl) trivial (le_upd rfl trivial (le_upd rfl trivial (le_upd rfl trivial (le_nil _))))))), le_h0 _ _⟩⟩
    · by_cases hD : -2000000000000 ≤ ws[k].lo ∧ ws[k].lo ≤ 2000000000000
      · by_cases hE : -2000000000000 ≤ ws[k].hi ∧ ws[k].hi ≤ 2000000000000
        · have hwA : wA ws k = 0 := by unfold wA; rw [getD_at hc]; exact if_pos (by omega)
          have hwB : wB ws k = 9 := by unfold wB; rw [getD_at hc, getD_at hp]; exact if_neg (by omega)
          have hl : lerrK ws (firstE [(setupChk s).2, lenE ws.length]) (k + 1) = firstE [lerrK ws (firstE [(setupChk s).2, lenE ws.length]) k, 0, 9] := by rw [lerrK, hwA, hwB]
          repeat (first
    | (apply s_a TY; exact rfl)
    | (apply s_t; exact rfl; (first | assumption | omega))
    | (apply s_f; exact rfl; (first | assumption | omega))
    | apply w_seq
    | apply w_region
    | (apply w_draw (id := 6) 18 rfl (by kernel_rfl))
    | apply s_nil
    | apply t_norm
    | apply k_norm
    | apply w_block
    | apply w_skip
    | (apply w_condT; exact rfl; exact rfl)
    | (apply s_k (first3_s _ _ _); exact rfl)
    | (apply s_k (unless_T _); exact rfl)
    | (apply s_k (unless_F _); exact rfl)
    | (apply s_k2 (isSized_T _ _); exact rfl; (first | assumption | omega | decide); (first | assumption | omega | decide))
    | (apply s_s; exact rfl)
    | (apply s_c TY; exact rfl; (first | omega | exact ⟨by omega, by (first | with_reducible assumption | ((with_reducible apply rngsF_ne); omega) | assumption)⟩))
    | (apply s_m TY; exact rfl; (first | with_reducible assumption | ((with_reducible apply rngsF_sub); omega) | exact rfl); exact rfl)
    | (apply s_alloc TY; exact rfl; exact rfl; exact rfl)
    | (apply s_store TY; exact rfl; exact rfl; exact rfl; exact rfl; exact rfl; exact rfl))
          exact ⟨k + 1, by omega, by omega, gh_le ⟨le_upd rfl trivial (le_upd rfl trivial (le_upd rfl trivial (le_upd (congrArg (fun z : Int => AV.f (iv z)) hl) trivial (le_upd rfl trivial (le_upd rfl trivial (le_upd rfl trivial (le_nil _))))))), le_h0 _ _⟩⟩
        · have hwA : wA ws k = 2 := by unfold wA; rw [getD_at hc]; exact if_neg (by omega)
          have hwB : wB ws k = 9 := by unfold wB; rw [getD_at hc, getD_at hp]; exact if_neg (by omega)
          have hl : lerrK ws (firstE [(setupChk s).2, lenE ws.length]) (k + 1) = firstE [lerrK ws (firstE [(setupChk s).2, lenE ws.length]) k, 2, 9] := by rw [lerrK, hwA, hwB]
          repeat (first
    | (apply s_a TY; exact rfl)
    | (apply s_t; exact rfl; (first | assumption | omega))
    | (apply s_f; exact rfl; (first | assumption | omega))
    | apply w_seq
    | apply w_region
    | (apply w_draw (id := 6) 18 rfl (by kernel_rfl))
    | apply s_nil
    | apply t_norm
    | apply k_norm
    | apply w_block
    | apply w_skip
    | (apply w_condT; exact rfl; exact rfl)
    | (apply s_k (first3_s _ _ _); exact rfl)
    | (apply s_k (unless_F _); exact rfl)
    | (apply s_k2 (isSized_T _ _); exact rfl; (first | assumption | omega | decide); (first | assumption | omega | decide))
    | (apply s_k2 (isSized_F _ _); exact rfl; (first | assumption | omega | decide); (first | assumption | omega | decide))
    | (apply s_s; exact rfl)
    | (apply s_c TY; exact rfl; (first | omega | exact ⟨by omega, by (first | with_reducible assumption | ((with_reducible apply rngsF_ne); omega) | assumption)⟩))
    | (apply s_m TY; exact rfl; (first | with_reducible assumption | ((with_reducible apply rngsF_sub); omega) | exact rfl); exact rfl)
    | (apply s_alloc TY; exact rfl; exact rfl; exact rfl)
    | (apply s_store TY; exact rfl; exact rfl; exact rfl; exact rfl; exact rfl; exact rfl))
          exact ⟨k + 1, by omega, by omega, gh_le ⟨le_upd rfl trivial (le_upd rfl trivial (le_upd rfl trivial (le_upd (congrArg (fun z : Int => AV.f (iv z)) hl) trivial (le_upd rfl trivial (le_upd rfl trivial (le_upd rfl trivial (le_nil _))))))), le_h0 _ _⟩⟩
      · have hwA : wA ws k = 2 := by unfold wA; rw [getD_at hc]; exact if_neg (by omega)
        have hwB : wB ws k = 9 := by unfold wB; rw [getD_at hc, getD_at hp]; exact if_neg (by omega)
        have hl : lerrK ws (firstE [(setupChk s).2, lenE ws.length]) (k + 1) = firstE [lerrK ws (firstE [(setupChk s).2, lenE ws.length]) k, 2, 9] := by rw [lerrK, hwA, hwB]
        repeat (first
    | (apply s_a TY; exact rfl)
    | (apply s_t; exact rfl; (first | assumption | omega))
    | (apply s_f; exact rfl; (first | assumption | omega))
    | apply w_seq
    | apply w_region
    | (apply w_draw (id := 6) 18 rfl (by kernel_rfl))
    | apply s_nil
    | apply t_norm
    | apply k_norm
    | apply w_block
    | apply w_skip
    | (apply w_condT; exact rfl; exact rfl)
    | (apply s_k (first3_s _ _ _); exact rfl)
    | (apply s_k (unless_F _); exact rfl)
    | (apply s_k2 (isSized_F _ _); exact rfl; (first | assumption | omega | decide); (first | assumption | omega | decide))
    | (apply s_s; exact rfl)
    | (apply s_c TY; exact rfl; (first | omega | exact ⟨by omega, by (first | with_reducible assumption | ((with_reducible apply rngsF_ne); omega) | assumption)⟩))
    | (apply s_m TY; exact rfl; (first | with_reducible assumption | ((with_reducible apply rngsF_sub); omega) | exact rfl); exact rfl)
    | (apply s_alloc TY; exact rfl; exact rfl; exact rfl)
    | (apply s_store TY; exact rfl; exact rfl; exact rfl; exact rfl; exact rfl; exact rfl))
        exact ⟨k + 1, by omega, by omega, gh_le ⟨le_upd rfl trivial (le_upd rfl trivial (le_upd rfl trivial (le_upd (congrArg (fun z : Int => AV.f (iv z)) hl) trivial (le_upd rfl trivial (le_upd rfl trivial (le_upd rfl trivial (le_nil _))))))), le_h0 _ _⟩⟩
  · have hke : k = ws.length := by omega
    subst hke
    by_cases hF : 0 ≤ r.lo ∧ r.lo ≤ 1000000000000
    · by_cases hG : 0 ≤ r.hi ∧ r.hi ≤ 1000000000000
      · by_cases hH : r.lo ≤ r.hi
        · have hrA : runA r = 0 := by unfold runA; exact if_pos (by omega)
          have hrB : runB r = 0 := by unfold runB; exact if_pos (by omega)
          have hv : liveErrV s ws r = firstE [lerrK ws (firstE [(setupChk s).2, lenE ws.length]) ws.length, 0, 0] := by unfold liveErrV; rw [hrA, hrB]
          by_cases h0 : liveErrV s ws r = 0
          · rw [if_pos h0, h0]
            rw [hv] at h0
            have h0' := h0
            rw [← hv] at h0
            obtain ⟨z1, z2, z3, z4, z5⟩ := liveErr_parts h0
            have hs := setOk_of z1
            have hdd := hs.dead
            repeat (first
    | (apply s_a TY; exact rfl)
    | (apply s_t; exact rfl; (first | assumption | omega))
    | (apply s_f; exact rfl; (first | assumption | omega))
    | apply w_seq
    | apply w_region
    | (apply w_draw (id := 9) 16 rfl (by kernel_rfl))
    | apply s_nil
    | apply t_norm
    | apply t_exit
    | apply k_hit
    | apply w_block
    | apply w_exit
    | apply w_skip
    | (apply w_condF; exact rfl; exact rfl)
    | (apply s_k (first3_s _ _ _); exact rfl)
    | (apply s_k (unless_T _); exact rfl)
    | (apply s_k1 (isTick_T _); exact rfl; (first | assumption | omega | decide))
    | (apply s_c TY; exact rfl; (first | omega | exact ⟨by omega, by (first | with_reducible assumption | ((with_reducible apply rngsF_ne); omega) | assumption)⟩)))
            apply w_loop (fun k : Nat => ⟨(Ab.upd (Ab.upd (Ab.upd (Ab.upd (Ab.upd (Ab.upd (Ab.upd (fun _ => .bot) 3 (.f (.pt (setL s) 0))) 5 (.f (.pt (rngF r) 0))) 13 (.f (iv (liveK s ws r k).1))) 14 (.f (iv (liveK s ws r k).2))) 103 (.f (.sl ws.length (rngsF ws)))) 104 (.f (iv ws.length))) 105 (.f (iv (k : Nat)))), (fun _ => none), 0⟩) (fun k => k ≤ ws.length) (fun k => ws.length - k) 0 (Nat.zero_le _) (gh_le ⟨le_upd rfl trivial (le_upd rfl trivial (le_upd rfl trivial (le_upd rfl trivial (le_upd rfl trivial (le_upd rfl trivial (le_upd rfl trivial (le_nil _))))))), le_h0 _ _⟩)
            intro k hk
            have hbd := liveK_bd (s := s) (ws := ws) z5 k
            by_cases hc : k < ws.length
            · have hwz := wA_zero hc (z3 k hc).1
              by_cases hm : max (liveK s ws r k).2 (ws[k].hi + 1) ≤ min r.hi (ws[k].hi + s.dead)
              · have hl : liveK s ws r (k + 1) = ((liveK s ws r k).1 - (min r.hi (ws[k].hi + s.dead) - max (liveK s ws r k).2 (ws[k].hi + 1) + 1), min r.hi (ws[k].hi + s.dead) + 1) := by rw [liveK, getD_at hc, liveStep, if_pos hm]
                repeat (first
    | (apply s_a TY; exact rfl)
    | (apply s_t; exact rfl; (first | assumption | omega))
    | apply w_seq
    | apply w_region
    | (apply w_draw (id := 17) 14 rfl (by kernel_rfl))
    | apply s_nil
    | apply t_norm
    | apply k_norm
    | apply w_block
    | apply w_skip
    | (apply w_condT; exact rfl; exact rfl)
    | (apply s_c TY; exact rfl; (first | omega | exact ⟨by omega, by (first | with_reducible assumption | ((with_reducible apply rngsF_ne); omega) | assumption)⟩))
    | (apply s_m TY; exact rfl; (first | with_reducible assumption | ((with_reducible apply rngsF_sub); omega) | exact rfl); exact rfl)
    | (apply s_alloc TY; exact rfl; exact rfl; exact rfl)
    | (apply s_store TY; exact rfl; exact rfl; exact rfl; exact rfl; exact rfl; exact rfl))
                exact ⟨k + 1, by omega, by omega, gh_le ⟨le_upd rfl trivial (le_upd rfl trivial (le_upd rfl trivial (le_upd (congrArg (fun z : Int × Int => AV.f (iv z.2)) hl) trivial (le_upd (congrArg (fun z : Int × Int => AV.f (iv z.1)) hl) trivial (le_upd rfl trivial (le_upd rfl trivial (le_nil _))))))), le_h0 _ _⟩⟩
              · have hl : liveK s ws r (k + 1) = liveK s ws r k := by rw [liveK, getD_at hc, liveStep, if_neg hm]
                repeat (first
    | (apply s_a TY; exact rfl)
    | (apply s_t; exact rfl; (first | assumption | omega))
    | (apply s_f; exact rfl; (first | assumption | omega))
    | apply w_seq
    | apply w_region
    | (apply w_draw (id := 17) 14 rfl (by kernel_rfl))
    | apply s_nil
    | apply t_norm
    | apply k_norm
    | apply w_block
    | apply w_skip
    | (apply w_condT; exact rfl; exact rfl)
    | (apply w_condF; exact rfl; exact rfl)
    | (apply s_c TY; exact rfl; (first | omega | exact ⟨by omega, by (first | with_reducible assumption | ((with_reducible apply rngsF_ne); omega) | assumption)⟩))
    | (apply s_m TY; exact rfl; (first | with_reducible assumption | ((with_reducible apply rngsF_sub); omega) | exact rfl); exact rfl)
    | (apply s_alloc TY; exact rfl; exact rfl; exact rfl)
    | (apply s_store TY; exact rfl; exact rfl; exact rfl; exact rfl; exact rfl; exact rfl))
                exact ⟨k + 1, by omega, by omega, gh_le ⟨le_upd rfl trivial (le_upd rfl trivial (le_upd rfl trivial (le_upd (congrArg (fun z : Int × Int => AV.f (iv z.2)) hl) trivial (le_upd (congrArg (fun z : Int × Int => AV.f (iv z.1)) hl) trivial (le_upd rfl trivial (le_upd rfl trivial (le_nil _))))))), le_h0 _ _⟩⟩
            · have hke : k = ws.length := by omega
              subst hke
              repeat (first
    | (apply s_a TY; exact rfl)
    | (apply s_f; exact rfl; (first | assumption | omega))
    | apply w_seq
    | apply w_region
    | apply s_nil
    | apply t_norm
    | apply t_exit
    | apply k_hit
    | apply w_exit
    | apply w_ret
    | (apply w_condF; exact rfl; exact rfl))
              exact lv_ret (ret2 rfl (res_tmp rfl) (res_tmp rfl))
          · rw [if_neg h0]
            have h0' := h0
            rw [hv] at h0' ⊢
            repeat (first
    | (apply s_a TY; exact rfl)
    | (apply s_t; exact rfl; (first | assumption | omega))
    | (apply s_f; exact rfl; (first | assumption | omega))
    | apply w_seq
    | apply w_region
    | (apply w_draw (id := 9) 16 rfl (by kernel_rfl))
    | apply s_nil
    | apply t_norm
    | apply t_exit
    | apply t_ret
    | apply k_hit
    | apply w_exit
    | apply w_ret
    | (apply w_condT; exact rfl; exact rfl)
    | (apply w_condF; exact rfl; exact rfl)
    | (apply s_k (first3_s _ _ _); exact rfl)
    | (apply s_k (unless_T _); exact rfl)
    | (apply s_k1 (isTick_T _); exact rfl; (first | assumption | omega | decide)))
            exact lv_ret (ret2 rfl (res_tmp rfl) (res_tmp rfl))
        · have hrA : runA r = 0 := by unfold runA; exact if_pos (by omega)
          have hrB : runB r = 9 := by unfold runB; exact if_neg (by omega)
          have hv : liveErrV s ws r = firstE [lerrK ws (firstE [(setupChk s).2, lenE ws.length]) ws.length, 0, 9] := by unfold liveErrV; rw [hrA, hrB]
          by_cases h0 : liveErrV s ws r = 0
          · rw [if_pos h0, h0]
            rw [hv] at h0
            have h0' := h0
            rw [← hv] at h0
            exact absurd (firstE3_zero h0').2 (by decide)
          · rw [if_neg h0]
            have h0' := h0
            rw [hv] at h0' ⊢
            repeat (first
    | (apply s_a TY; exact rfl)
    | (apply s_f; exact rfl; (first | assumption | omega))
    | apply w_seq
    | apply w_region
    | (apply w_draw (id := 9) 16 rfl (by kernel_rfl))
    | apply s_nil
    | apply t_norm
    | apply t_exit
    | apply t_ret
    | apply k_hit
    | apply w_exit
    | apply w_ret
    | (apply w_condT; exact rfl; exact rfl)
    | (apply w_condF; exact rfl; exact rfl)
    | (apply s_k (first3_s _ _ _); exact rfl)
    | (apply s_k (unless_T _); exact rfl)
    | (apply s_k (unless_F _); exact rfl)
    | (apply s_k1 (isTick_T _); exact rfl; (first | assumption | omega | decide)))
            exact lv_ret (ret2 rfl (res_tmp rfl) (res_tmp rfl))
      · by_cases hH : r.lo ≤ r.hi
        · have hrA : runA r = 2 := by unfold runA; exact if_neg (by omega)
          have hrB : runB r = 0 := by unfold runB; exact if_pos (by omega)
          have hv : liveErrV s ws r = firstE [lerrK ws (firstE [(setupChk s).2, lenE ws.length]) ws.length, 2, 0] := by unfold liveErrV; rw [hrA, hrB]
          by_cases h0 : liveErrV s ws r = 0
          · rw [if_pos h0, h0]
            rw [hv] at h0
            have h0' := h0
            rw [← hv] at h0
            exact absurd (firstE3_zero h0').2 (by decide)
          · rw [if_neg h0]
            have h0' := h0
            rw [hv] at h0' ⊢
            repeat (first
    | (apply s_a TY; exact rfl)
    | (apply s_t; exact rfl; (first | assumption | omega))
    | (apply s_f; exact rfl; (first | assumption | omega))
    | apply w_seq
    | apply w_region
    | (apply w_draw (id := 9) 16 rfl (by kernel_rfl))
    | apply s_nil
    | apply t_norm
    | apply t_exit
    | apply t_ret
    | apply k_hit
    | apply w_exit
    | apply w_ret
    | (apply w_condT; exact rfl; exact rfl)
    | (apply w_condF; exact rfl; exact rfl)
    | (apply s_k (first3_s _ _ _); exact rfl)
    | (apply s_k (unless_T _); exact rfl)
    | (apply s_k (unless_F _); exact rfl)
    | (apply s_k1 (isTick_T _); exact rfl; (first | assumption | omega | decide))
    | (apply s_k1 (isTick_F _); exact rfl; (first | assumption | omega | decide)))
            exact lv_ret (ret2 rfl (res_tmp rfl) (res_tmp rfl))
        · have hrA : runA r = 2 := by unfold runA; exact if_neg (by omega)
          have hrB : runB r = 9 := by unfold runB; exact if_neg (by omega)
          have hv : liveErrV s ws r = firstE [lerrK ws (firstE [(setupChk s).2, lenE ws.length]) ws.length, 2, 9] := by unfold liveErrV; rw [hrA, hrB]
          by_cases h0 : liveErrV s ws r = 0
          · rw [if_pos h0, h0]
            rw [hv] at h0
            have h0' := h0
            rw [← hv] at h0
            exact absurd (firstE3_zero h0').2 (by decide)
          · rw [if_neg h0]
            have h0' := h0
            rw [hv] at h0' ⊢
            repeat (first
    | (apply s_a TY; exact rfl)
    | (apply s_f; exact rfl; (first | assumption | omega))
    | apply w_seq
    | apply w_region
    | (apply w_draw (id := 9) 16 rfl (by kernel_rfl))
    | apply s_nil
    | apply t_norm
    | apply t_exit
    | apply t_ret
    | apply k_hit
    | apply w_exit
    | apply w_ret
    | (apply w_condT; exact rfl; exact rfl)
    | (apply w_condF; exact rfl; exact rfl)
    | (apply s_k (first3_s _ _ _); exact rfl)
    | (apply s_k (unless_F _); exact rfl)
    | (apply s_k1 (isTick_T _); exact rfl; (first | assumption | omega | decide))
    | (apply s_k1 (isTick_F _); exact rfl; (first | assumption | omega | decide)))
            exact lv_ret (ret2 rfl (res_tmp rfl) (res_tmp rfl))
    · by_cases hH : r.lo ≤ r.hi
      · have hrA : runA r = 2 := by unfold runA; exact if_neg (by omega)
        have hrB : runB r = 0 := by unfold runB; exact if_pos (by omega)
        have hv : liveErrV s ws r = firstE [lerrK ws (firstE [(setupChk s).2, lenE ws.length]) ws.length, 2, 0] := by unfold liveErrV; rw [hrA, hrB]
        by_cases h0 : liveErrV s ws r = 0
        · rw [if_pos h0, h0]
          rw [hv] at h0
          have h0' := h0
          rw [← hv] at h0
          exact absurd (firstE3_zero h0').2 (by decide)
        · rw [if_neg h0]
          have h0' := h0
          rw [hv] at h0' ⊢
          repeat (first
    | (apply s_a TY; exact rfl)
    | (apply s_t; exact rfl; (first | assumption | omega))
    | (apply s_f; exact rfl; (first | assumption | omega))
    | apply w_seq
    | apply w_region
    | (apply w_draw (id := 9) 16 rfl (by kernel_rfl))
    | apply s_nil
    | apply t_norm
    | apply t_exit
    | apply t_ret
    | apply k_hit
    | apply w_exit
    | apply w_ret
    | (apply w_condT; exact rfl; exact rfl)
    | (apply w_condF; exact rfl; exact rfl)
    | (apply s_k (first3_s _ _ _); exact rfl)
    | (apply s_k (unless_T _); exact rfl)
    | (apply s_k (unless_F _); exact rfl)
    | (apply s_k1 (isTick_F _); exact rfl; (first | assumption | omega | decide))
    | (apply s_s; exact rfl))
          exact lv_ret (ret2 rfl (res_tmp rfl) (res_tmp rfl))
      · have hrA : runA r = 2 := by unfold runA; exact if_neg (by omega)
        have hrB : runB r = 9 := by unfold runB; exact if_neg (by omega)
        have hv : liveErrV s ws r = firstE [lerrK ws (firstE [(setupChk s).2, lenE ws.length]) ws.length, 2, 9] := by unfold liveErrV; rw [hrA, hrB]
        by_cases h0 : liveErrV s ws r = 0
        · rw [if_pos h0, h0]
          rw [hv] at h0
          have h0' := h0
          rw [← hv] at h0
          exact absurd (firstE3_zero h0').2 (by decide)
        · rw [if_neg h0]
          have h0' := h0
          rw [hv] at h0' ⊢
          repeat (first
    | (apply s_a TY; exact rfl)
    | (apply s_f; exact rfl; (first | assumption | omega))
    | apply w_seq
    | apply w_region
    | (apply w_draw (id := 9) 16 rfl (by kernel_rfl))
    | apply s_nil
    | apply t_norm
    | apply t_exit
    | apply t_ret
    | apply k_hit
    | apply w_exit
    | apply w_ret
    | (apply w_condT; exact rfl; exact rfl)
    | (apply w_condF; exact rfl; exact rfl)
    | (apply s_k (first3_s _ _ _); exact rfl)
    | (apply s_k (unless_F _); exact rfl)
    | (apply s_k1 (isTick_F _); exact rfl; (first | assumption | omega | decide))
    | (apply s_s; exact rfl))
          exact lv_ret (ret2 rfl (res_tmp rfl) (res_tmp rfl))
end Go.Proofs.Ytkgmmlecacbnjaa
namespace Go.Ab
open Go Go.RowKit Go.Shelf Go.Proofs Go.Lib
theorem growG {P : Program} {G : Nat → Option (List FV)} {ρ : Ren} (L : Lays8.n4 P ρ) (i0 : TypeInfo) (z : Value) (hi0 : P.info? (ρ.t 25) = some i0) (hz0 : i0.zero = some z) (hs0 : 0 < i0.size) (hzs : z.cells.size = i0.size) (hent : Enters P (ρ.f 4)) (n : Nat) (hbig : n * i0.bytes ≤ 140737488355328) (h63 : n ≤ 4611686018427387904) :
    SummG P G (ρ.f 4) [] [.f (.v (.slice none 0 0)), .f (.v (.int .i64 n))] (.ow 0) [.row (ρ.t 25) i0.size 0 []] := by
  refine ⟨hent, by simp, fun i B B' h1 h2 => by simp at h1, fun w M X us J hX hM hG hA hL => ?_⟩
  obtain ⟨v0, v1, rfl⟩ : ∃ v0 v1, us = [v0, v1] := by
    obtain ⟨e, _⟩ := hA
    match us, e with
    | [a, b], _ => exact ⟨a, b, rfl⟩
  have hv0 : RepF w _ v0 (.v (.slice none 0 0)) := hA.2 0 v0 (.f _) rfl rfl
  have hv1 : RepF w _ v1 (.v (.int .i64 n)) := hA.2 1 v1 (.f _) rfl rfl
  cases hv0
  cases hv1
  by_cases hn : n = 0
  · subst hn
    refine (Any8.slices_Grow_room L none 0 0 0 w (Nat.le_refl _) (by omega) (by omega) (Nat.le_refl _)).mono ?_
    rintro e w' ⟨rfl, rfl⟩
    refine ⟨_, fun _ => .slice none 0 0, rfl, ⟨rfl, rfl⟩, ⟨fun i B hB => ?_, fun i j b hi hj _ _ => by simp at hi hj; omega⟩, Grew.refl _ _, fun i B hB => by simp at hB⟩
    match i, hB with
    | 0, hB => cases hB; exact ⟨[], ⟨by simp, .inl ⟨rfl, rfl⟩⟩, fun b hb => (by cases hb), fun u hu => by simp at hu, RepL.nil _ _⟩
    | _ + 1, hB => simp at hB
  · refine (Any8.slices_Grow_grow L i0 z hi0 hz0 hs0 none 0 0 n [] w (Nat.le_refl _) (by omega) (by simpa using hbig) (by omega) (by simp) (fun _ => rfl) (fun a h => by cases h)).mono ?_
    rintro e w' ⟨rfl, rfl⟩
    have hge : n ≤ grownCap w n 0 (ρ.t 25) := by have := grownCap_ge w (0 + n) 0 (ρ.t 25); simpa using this
    have hmx : grownCap w n 0 (ρ.t 25) ≤ maxLen := grownCap_le_maxLen w n 0 (ρ.t 25) (by unfold maxLen; omega)
    rw [Nat.zero_add]
    generalize grownCap w n 0 (ρ.t 25) = c at hge hmx ⊢
    obtain ⟨cur, hcur⟩ : ∃ cur, cur = (([] : List Value).toArray ++ Builtin.zeroCells z.cells (n - 0) ++ Builtin.zeroCells z.cells (c - n)) := ⟨_, rfl⟩
    rw [← hcur]
    have hsz : cur.size = c * i0.size := by
      rw [hcur]
      have hz : ∀ m, (Builtin.zeroCells z.cells m).size = m * i0.size := fun m => by rw [← hzs]; simp [Builtin.zeroCells]
      simp only [Array.size_append, hz]
      simp only [List.size_toArray, List.length_nil, Nat.zero_add, Nat.sub_zero]
      rw [← Nat.add_mul]; congr 1; omega
    have hheap : (w.drew.alloc (.cells cur (ρ.t 25))).heap[w.heap.size]? = some (.cells cur (ρ.t 25) (0, 0)) := by
      show (w.heap.push (.cells cur (ρ.t 25) (0, 0)))[w.heap.size]? = _
      exact Array.getElem?_push_size
    refine ⟨_, fun _ => .slice (some ⟨w.heap.size, 0, none⟩) 0 c, rfl, ⟨rfl, rfl⟩, ⟨fun i B hB => ?_, fun i j b hi hj _ _ => by simp at hi hj; omega⟩, ?_, fun i B hB => by simp at hB⟩
    · match i, hB with
      | 0, hB =>
        cases hB
        have hr : (w.drew.alloc (.cells cur (ρ.t 25))).ownsRow 0 (ρ.t 25) i0.size (.slice (some ⟨w.heap.size, 0, none⟩) 0 c) 0 [] := ⟨by simp, .inr ⟨w.heap.size, c, cur, rfl, Nat.zero_le _, hheap, Nat.zero_le _, hmx, hsz, by simp⟩⟩
        exact ⟨[], hr, fun b hb => .inl (by simp [bk] at hb; omega), fun u hu => by simp at hu, RepL.nil _ _⟩
      | _ + 1, hB => simp at hB
    · exact Grew.ofExt (Ext.trans (b := w.drew) ⟨rfl, rfl, rfl, Nat.le_refl _, fun _ _ => rfl⟩ (Ext.alloc _ _))
end Go.Ab
namespace Go.Proofs.Ytkgmmlecacbnjaa
open Go.Proofs Go.Shelf
def growH_ren : Go.Shelf.Ren := ⟨fun | 4 => 58 | n => n, fun | 22 => 28 | 25 => 47 | 3 => 3 | 4 => 4 | 9 => 9 | 20 => 20 | 0 => 0 | n => n, fun | n => n⟩
theorem growH : Go.Proofs.Lays8.n4 Try.prog growH_ren := {
  mixed := by kernel_rfl
  f4 := ⟨Try.f58.name, by decide, Try.func58.trans (congrArg some (by kernel_rfl))⟩
  t0 := Try.underlying0
  a0 := Try.isAgg0
  z0 := Try.sizeOf0
  v0 := Try.zeroValue0
  t3 := Try.underlying3
  a3 := Try.isAgg3
  z3 := Try.sizeOf3
  v3 := Try.zeroValue3
  t4 := Try.underlying4
  a4 := Try.isAgg4
  z4 := Try.sizeOf4
  v4 := Try.zeroValue4
  t9 := Try.underlying9
  a9 := Try.isAgg9
  z9 := Try.sizeOf9
  v9 := Try.zeroValue9
  t20 := Try.underlying20
  a20 := Try.isAgg20
  z20 := Try.sizeOf20
  v20 := Try.zeroValue20
  t22 := Try.underlying28
  a22 := Try.isAgg28
  z22 := Try.sizeOf28
  v22 := Try.zeroValue28 }
end Go.Proofs.Ytkgmmlecacbnjaa
namespace Go.Proofs.Ytkgmmlecacbnjaa
open Go Go.RowKit Go.Proofs Go.Shelf Go.Ab
set_option maxRecDepth 100000 in
theorem growH_g (n : Nat) (h : n ≤ 1000000) : SummG Try.prog GG 58 [] [.f (.v (.slice none 0 0)), .f (iv (n : Int))] (.ow 0) [.row 47 3 0 []] := by
  obtain ⟨i0, z, hi, hz, hs, hb, hc⟩ : ∃ (i0 : TypeInfo) (z : Value), Try.prog.info? 47 = some i0 ∧ i0.zero = some z ∧ i0.size = 3 ∧ i0.bytes ≤ 1000 ∧ z.cells.size = 3 := ⟨_, _, rfl, rfl, rfl, by decide, rfl⟩
  have := growG (G := GG) growH i0 z hi hz (by omega) (by omega) (enters_of Try.func58 (by kernel_rfl) rfl) n (by have := Nat.mul_le_mul h hb; omega) (by omega)
  rw [hs] at this
  exact this
def partN (a b : List Hit) : Nat → List Hit
  | 0 => []
  | 1 => a
  | _ + 2 => a ++ b
theorem rowH_part (a b c : List Hit) {k : Nat} (h : partN a b (k + 1) = partN a b k ++ c) : some (Blk.row 47 3 (partN a b (k + 1)).length (hitsF (partN a b (k + 1)))) = some (Blk.row 47 3 ((partN a b k).length + c.length) (hitsF (partN a b k) ++ hitsF c)) := by
  rw [h, hitsF_app, List.length_append]
set_option maxRecDepth 100000 in
set_option maxHeartbeats 1600000 in
theorem concat_s (a b : List Hit) (ha : a.length ≤ 1000) (hb : b.length ≤ 1000) : Summ Try.prog GG 43 [.sl 2 [.sl a.length (hitsF a), .sl b.length (hitsF b)]] (.sl (a ++ b).length (hitsF (a ++ b))) := by
  have q0 : ((partN a b (0 + 1)).length : Int) = ((partN a b 0).length : Int) + (a.length : Int) := by simp [partN]
  have q1 : ((partN a b (1 + 1)).length : Int) = ((partN a b 1).length : Int) + (b.length : Int) := by simp [partN]
  have r0 : (partN a b 0).length = 0 := rfl
  have r1 : (partN a b 1).length = a.length := rfl
  have r2 : (partN a b 2).length ≤ 2000 := by have : (partN a b 2).length = a.length + b.length := by simp [partN]
                                              omega
  have hne : ([.sl a.length (hitsF a), .sl b.length (hitsF b)] : List FV) ≠ [] := by simp
  have hx0 : ([.sl a.length (hitsF a), .sl b.length (hitsF b)] : List FV)[0 * 1]? = some (FV.sl a.length (hitsF a)) := rfl
  have hx1 : ([.sl a.length (hitsF a), .sl b.length (hitsF b)] : List FV)[1 * 1]? = some (FV.sl b.length (hitsF b)) := rfl
  refine summW Try.func43 rfl rfl 36 rfl (by simp) (fun M0 => ?_)
  repeat (first
    | (apply s_a TY; exact rfl)
    | apply w_seq
    | apply w_region
    | apply s_nil
    | apply t_norm
    | apply w_block)
  apply w_loop (fun k : Nat => ⟨(Ab.upd (Ab.upd (Ab.upd (Ab.upd (Ab.upd (fun _ => .bot) 0 (.f (.sl 2 [.sl a.length (hitsF a), .sl b.length (hitsF b)]))) 3 (.f (iv (((partN a b k).length : Nat) : Int)))) 9 (.f (.sl 2 [.sl a.length (hitsF a), .sl b.length (hitsF b)]))) 10 (.f (iv 2))) 11 (.f (iv (k : Nat)))), (fun _ => none), 0⟩) (fun k => k ≤ 2) (fun k => 2 - k) 0 (Nat.zero_le _) (gh_le ⟨le_upd rfl trivial (le_upd rfl trivial (le_upd rfl trivial (le_upd rfl trivial (le_upd rfl trivial (le_nil _))))), le_h0 _ _⟩)
  intro k hk
  rcases (by omega : k = 0 ∨ k = 1 ∨ k = 2) with rfl | rfl | rfl
  · repeat (first
    | (apply s_a TY; exact rfl)
    | (apply s_t; exact rfl; (first | assumption | omega))
    | (apply s_f; exact rfl; (first | assumption | omega))
    | apply w_seq
    | apply w_region
    | apply s_nil
    | apply t_norm
    | apply k_norm
    | apply w_block
    | apply w_skip
    | (apply w_condT; exact rfl; exact rfl)
    | (apply w_condF; exact rfl; exact rfl)
    | (apply s_c TY; exact rfl; (first | omega | exact ⟨by omega, by (first | with_reducible assumption | assumption)⟩)))
    exact ⟨0 + 1, by omega, by omega, gh_le ⟨le_upd rfl trivial (le_upd rfl trivial (le_upd rfl trivial (le_upd (congrArg (fun z : Int => AV.f (iv z)) q0) trivial (le_upd rfl trivial (le_nil _))))), le_h0 _ _⟩⟩
  · repeat (first
    | (apply s_a TY; exact rfl)
    | (apply s_t; exact rfl; (first | assumption | omega))
    | (apply s_f; exact rfl; (first | assumption | omega))
    | apply w_seq
    | apply w_region
    | apply s_nil
    | apply t_norm
    | apply k_norm
    | apply w_block
    | apply w_skip
    | (apply w_condT; exact rfl; exact rfl)
    | (apply w_condF; exact rfl; exact rfl)
    | (apply s_c TY; exact rfl; (first | omega | exact ⟨by omega, by (first | with_reducible assumption | assumption)⟩)))
    exact ⟨1 + 1, by omega, by omega, gh_le ⟨le_upd rfl trivial (le_upd rfl trivial (le_upd rfl trivial (le_upd (congrArg (fun z : Int => AV.f (iv z)) q1) trivial (le_upd rfl trivial (le_nil _))))), le_h0 _ _⟩⟩
  · repeat (first
    | (apply s_a TY; exact rfl)
    | (apply s_f; exact rfl; (first | assumption | omega))
    | apply w_seq
    | apply w_region
    | apply s_nil
    | apply t_norm
    | apply t_exit
    | apply k_hit
    | apply w_block
    | apply w_exit
    | (apply w_condF; exact rfl; exact rfl)
    | (apply s_callG [] (growH_g (partN a b 2).length (by omega)); exact rfl; exact rfl; exact rfl; exact trivial; exact rfl; (first | exact ⟨rfl, rfl⟩ | exact ⟨⟨rfl, rfl⟩, ⟨rfl, rfl⟩⟩ | exact ⟨⟨rfl, rfl⟩, ⟨rfl, rfl⟩, ⟨rfl, rfl⟩⟩)))
    apply w_loop (fun k : Nat => ⟨(Ab.upd (Ab.upd (Ab.upd (Ab.upd (fun _ => .bot) 6 (.ow 0)) 25 (.f (.sl 2 [.sl a.length (hitsF a), .sl b.length (hitsF b)]))) 26 (.f (iv 2))) 27 (.f (iv (k : Nat)))), (Ab.upd (fun _ => none) 0 (some (.row 47 3 (partN a b k).length (hitsF (partN a b k))))), 1⟩) (fun k => k ≤ 2) (fun k => 2 - k) 0 (Nat.zero_le _) (gh_le ⟨le_upd rfl trivial (le_upd rfl trivial (le_upd rfl trivial (le_upd rfl rfl (le_nil _)))), le_hupd rfl trivial (le_h0 _ _)⟩)
    intro k hk
    rcases (by omega : k = 0 ∨ k = 1 ∨ k = 2) with rfl | rfl | rfl
    · repeat (first
    | (apply s_append TY; exact rfl; exact rfl; exact rfl; exact rfl; exact rfl; exact rfl; exact rfl; exact rfl; (first | exact rfl | exact hitsF_len _); (unfold maxLen; omega); omega)
    | (apply s_a TY; exact rfl)
    | (apply s_t; exact rfl; (first | assumption | omega))
    | apply w_seq
    | apply w_region
    | apply s_nil
    | apply t_norm
    | apply k_norm
    | apply w_block
    | apply w_skip
    | (apply w_condT; exact rfl; exact rfl)
    | (apply s_c TY; exact rfl; (first | omega | exact ⟨by omega, by (first | with_reducible assumption | assumption)⟩)))
      exact ⟨0 + 1, by omega, by omega, gh_le ⟨le_upd rfl trivial (le_upd rfl trivial (le_upd rfl trivial (le_upd rfl rfl (le_nil _)))), le_hupd (rowH_part a b a rfl).symm trivial (le_h0 _ _)⟩⟩
    · repeat (first
    | (apply s_append TY; exact rfl; exact rfl; exact rfl; exact rfl; exact rfl; exact rfl; exact rfl; exact rfl; (first | exact rfl | exact hitsF_len _); (unfold maxLen; omega); omega)
    | (apply s_a TY; exact rfl)
    | (apply s_t; exact rfl; (first | assumption | omega))
    | apply w_seq
    | apply w_region
    | apply s_nil
    | apply t_norm
    | apply k_norm
    | apply w_block
    | apply w_skip
    | (apply w_condT; exact rfl; exact rfl)
    | (apply s_c TY; exact rfl; (first | omega | exact ⟨by omega, by (first | with_reducible assumption | assumption)⟩)))
      exact ⟨1 + 1, by omega, by omega, gh_le ⟨le_upd rfl trivial (le_upd rfl trivial (le_upd rfl trivial (le_upd rfl rfl (le_nil _)))), le_hupd (rowH_part a b b rfl).symm trivial (le_h0 _ _)⟩⟩
    · repeat (first
    | (apply s_a TY; exact rfl)
    | (apply s_f; exact rfl; (first | assumption | omega))
    | apply w_seq
    | apply w_region
    | apply s_nil
    | apply t_norm
    | apply t_exit
    | apply k_hit
    | apply w_exit
    | apply w_ret
    | (apply w_condF; exact rfl; exact rfl))
      exact lv_ret (ret_gh (gh_row 0 rfl) (ret1 rfl (res_tmp rfl)))
end Go.Proofs.Ytkgmmlecacbnjaa
namespace Go.Proofs.Ytkgmmlecacbnjaa
open Go Go.RowKit Go.Proofs Go.Shelf Go.Ab
def woH (h : List Hit) (i : Nat) : List Hit := h.take i ++ h.drop (i + 1)
theorem woH_sub (h : List Hit) (i : Nat) : (woH h i).Sublist h := by
  have h1 : (h.take i ++ h.drop (i + 1)).Sublist (h.take i ++ h.drop i) := List.Sublist.append_left (by
    rw [show i + 1 = i + 1 from rfl, ← List.drop_drop]
    exact List.drop_sublist 1 _) _
  rw [List.take_append_drop] at h1
  exact h1
theorem hits_pw {l : List Site} {h : List Hit} (ho : HitsOk l h) : h.Pairwise before := by
  rw [List.pairwise_iff_getElem]
  intro i j hi hj hij
  obtain ⟨d, rfl⟩ : ∃ d, j = i + 1 + d := ⟨j - (i + 1), by omega⟩
  induction d with
  | zero => exact ho.next i hj
  | succ d ih => exact before_trans (ih (by omega) (by omega)) (ho.next (i + 1 + d) hj)
theorem hitsOk_sub {l : List Site} {h h' : List Hit} (ho : HitsOk l h) (hs : h'.Sublist h) : HitsOk l h' := by
  have hp := (hits_pw ho).sublist hs
  rw [List.pairwise_iff_getElem] at hp
  refine ⟨Nat.le_trans hs.length_le ho.len, fun i hi => ?_, fun i hi => hp i (i + 1) (by omega) hi (by omega)⟩
  obtain ⟨j, hj, e⟩ := List.getElem_of_mem (hs.subset (List.getElem_mem hi))
  rw [← e]; exact ho.hit j hj
def critN (l : List Site) (r : Rule) (h : List Hit) (n : Nat) : List Int := natsL ((List.range n).filter fun i => (firesV l r (woH h i) (woH h i).length).isEmpty)
def critV (l : List Site) (r : Rule) (h : List Hit) : List Int := if (firesV l r h h.length).isEmpty then [] else critN l r h h.length
theorem critN_succ (l : List Site) (r : Rule) (h : List Hit) (n : Nat) : critN l r h (n + 1) = critN l r h n ++ (if (firesV l r (woH h n) (woH h n).length).isEmpty = true then [(n : Int)] else []) := by
  unfold critN natsL
  rw [List.range_succ, List.filter_append, List.map_append]
  congr 1
  cases e : (firesV l r (woH h n) (woH h n).length).isEmpty with
  | true => simp only [List.filter, e, if_true]; rfl
  | false => simp only [List.filter, e]; rfl
theorem critN_len (l : List Site) (r : Rule) (h : List Hit) (n : Nat) : (critN l r h n).length ≤ n := by
  unfold critN natsL
  rw [List.length_map]
  exact Nat.le_trans (List.length_filter_le _ _) (by simp)
set_option maxRecDepth 100000 in
set_option maxHeartbeats 1600000 in
theorem Critical_ok (l : List Site) (r : Rule) (h : List Hit) (hl : l.length ≤ 1000000) (hh : h.length ≤ 1000000) (e : ruledErr l r h = 0) : Summ Try.prog GG 24 [arrF l, .agg (ruleF r), .sl h.length (hitsF h)] (.tup [if (firesV l r h h.length).isEmpty = true then .v (.slice none 0 0) else .sl (critV l r h).length (intsF (critV l r h)), iv 0]) := by
  obtain ⟨e1, e2, e3⟩ := ruledErr_parts e
  have hl0 := arrOk_of e1
  have ho := hitsOk_of hl0 e3
  have h40 := ho.len
  have HF := fires_s l r h e2 hl0 ho
  cases hf : (firesV l r h h.length).isEmpty with
  | true =>
    have h0 : (firesV l r h h.length).length = 0 := by rw [List.isEmpty_iff.1 hf]; rfl
    rw [if_pos rfl]
    refine summW Try.func24 rfl rfl 53 rfl (by simp) (fun M0 => ?_)
    repeat (first
    | (apply s_a TY; exact rfl)
    | (apply s_t; exact rfl; (first | assumption | omega))
    | apply w_seq
    | apply w_region
    | apply s_nil
    | apply t_norm
    | apply t_ret
    | apply w_ret
    | apply w_skip
    | (apply w_condT; exact rfl; exact rfl)
    | (apply w_condF; exact rfl; exact rfl)
    | (apply s_k (HF); exact rfl)
    | (apply s_k3 (openRule_ok _ _ _); exact rfl; (first | assumption | omega | decide); (first | assumption | omega | decide); (first | assumption | omega | decide))
    | (apply s_alloc TY; exact rfl; exact rfl; exact rfl)
    | (apply s_store TY; exact rfl; exact rfl; exact rfl; exact rfl; exact rfl; exact rfl))
    exact lv_ret (ret2 rfl (res_tmp rfl) (res_tmp rfl))
  | false =>
    have h0 : 0 < (firesV l r h h.length).length := List.length_pos_iff.2 (fun e => by rw [e] at hf; cases hf)
    rw [if_neg (by decide), show critV l r h = critN l r h h.length by unfold critV; rw [if_neg (by simp [hf])]]
    refine summW Try.func24 rfl rfl 53 rfl (by simp) (fun M0 => ?_)
    repeat (first
    | (apply s_a TY; exact rfl)
    | (apply s_t; exact rfl; (first | assumption | omega))
    | (apply s_f; exact rfl; (first | assumption | omega))
    | apply w_seq
    | apply w_region
    | apply s_nil
    | apply t_norm
    | apply w_block
    | apply w_skip
    | (apply w_condF; exact rfl; exact rfl)
    | (apply s_k (HF); exact rfl)
    | (apply s_k3 (openRule_ok _ _ _); exact rfl; (first | assumption | omega | decide); (first | assumption | omega | decide); (first | assumption | omega | decide))
    | (apply s_alloc TY; exact rfl; exact rfl; exact rfl)
    | (apply s_store TY; exact rfl; exact rfl; exact rfl; exact rfl; exact rfl; exact rfl))
    apply w_gh (gh_own 10 3 1 rfl rfl)
    apply w_loop (fun k : Nat => ⟨(Ab.upd (Ab.upd (Ab.upd (Ab.upd (Ab.upd (Ab.upd (Ab.upd (fun _ => .bot) 2 (.f (.sl h.length (hitsF h)))) 4 (.f (.pt (ruleF r) 0))) 8 (.bx 0 0)) 10 (.ow 1)) 28 (.f (.sl h.length (hitsF h)))) 29 (.f (iv h.length))) 30 (.f (iv (k : Nat)))), (Ab.upd (Ab.upd (fun _ => none) 0 (some (.box [.f (.sl l.length (sitesF l)), .f (.mp (mapS l l.length))]))) 1 (some (.row 3 1 (critN l r h k).length (intsF (critN l r h k))))), 2⟩) (fun k => k ≤ h.length) (fun k => h.length - k) 0 (Nat.zero_le _) (gh_le ⟨le_upd rfl trivial (le_upd rfl trivial (le_upd rfl trivial (le_upd rfl rfl (le_upd rfl rfl (le_upd rfl trivial (le_upd rfl trivial (le_nil _))))))), le_hupd rfl trivial (le_hupd rfl (fun y hy => by simp at hy; rcases hy with rfl | rfl <;> first | trivial | rfl) (le_h0 _ _))⟩)
    intro k hk
    have hcl := critN_len l r h k
    by_cases hc : k < h.length
    · have how := hitsOk_sub ho (woH_sub h k)
      have HW := fires_s l r (woH h k) e2 hl0 how
      have hs := critN_succ l r h k
      have e1 : ((((k : Nat) : Int)).toNat - Int.toNat 0) = (h.take k).length := by rw [List.length_take]; omega
      have e2 : (List.take (((((k : Nat) : Int)).toNat - Int.toNat 0) * 3) (List.drop (Int.toNat 0 * 3) (hitsF h))) = hitsF (h.take k) := by rw [Int.toNat_natCast, show Int.toNat 0 = 0 from rfl, Nat.zero_mul, List.drop_zero, Nat.sub_zero, hitsF_take]
      have e3 : ((((h.length : Nat) : Int)).toNat - (((k : Nat) : Int) + 1).toNat) = (h.drop (k + 1)).length := by rw [List.length_drop]; omega
      have e4 : (List.take (((((h.length : Nat) : Int)).toNat - (((k : Nat) : Int) + 1).toNat) * 3) (List.drop ((((k : Nat) : Int) + 1).toNat * 3) (hitsF h))) = hitsF (h.drop (k + 1)) := by rw [e3, show (((k : Nat) : Int) + 1).toNat = k + 1 by omega, hitsF_drop, List.take_of_length_le (by rw [hitsF_len]; exact Nat.le_refl _)]
      have HC : Summ Try.prog GG 43 [.sl 2 [.sl ((((k : Nat) : Int)).toNat - Int.toNat 0) (List.take (((((k : Nat) : Int)).toNat - Int.toNat 0) * 3) (List.drop (Int.toNat 0 * 3) (hitsF h))), .sl ((((h.length : Nat) : Int)).toNat - (((k : Nat) : Int) + 1).toNat) (List.take (((((h.length : Nat) : Int)).toNat - (((k : Nat) : Int) + 1).toNat) * 3) (List.drop ((((k : Nat) : Int) + 1).toNat * 3) (hitsF h)))]] (.sl (woH h k).length (hitsF (woH h k))) := by
        rw [e2, e4, e1, e3]
        exact concat_s (h.take k) (h.drop (k + 1)) (by rw [List.length_take]; omega) (by rw [List.length_drop]; omega)
      clear e1 e2 e3 e4
      cases hw : (firesV l r (woH h k) (woH h k).length).isEmpty with
      | true =>
        have h1 : (firesV l r (woH h k) (woH h k).length).length = 0 := by rw [List.isEmpty_iff.1 hw]; rfl
        rw [hw, if_pos rfl] at hs
        repeat (first
    | (apply s_a TY; exact rfl)
    | (apply s_t; exact rfl; (first | assumption | omega))
    | apply w_seq
    | apply w_region
    | (apply w_draw (id := 10) 11 rfl (by kernel_rfl))
    | apply s_nil
    | apply t_norm
    | apply k_norm
    | apply w_block
    | apply w_skip
    | (apply w_condT; exact rfl; exact rfl)
    | (apply s_k (HC); exact rfl)
    | (apply s_k (HW); exact rfl)
    | (apply s_c TY; exact rfl; omega)
    | (apply s_append TY; exact rfl; exact rfl; exact rfl; exact rfl; exact rfl; exact rfl; exact rfl; exact rfl; exact rfl; (unfold maxLen; omega); omega)
    | (apply s_slice TY; exact rfl; exact rfl; exact rfl; (first | exact rfl | exact ⟨_, rfl⟩); (first | exact rfl | exact ⟨_, rfl⟩); omega; omega; omega))
        exact ⟨k + 1, by omega, by omega, gh_le ⟨le_upd rfl trivial (le_upd rfl trivial (le_upd rfl trivial (le_upd rfl rfl (le_upd rfl rfl (le_upd rfl trivial (le_upd rfl trivial (le_nil _))))))), le_hupd (rowI_app hs) trivial (le_hupd rfl (fun y hy => by simp at hy; rcases hy with rfl | rfl <;> first | trivial | rfl) (le_h0 _ _))⟩⟩
      | false =>
        have h1 : 0 < (firesV l r (woH h k) (woH h k).length).length := List.length_pos_iff.2 (fun e => by rw [e] at hw; cases hw)
        rw [hw, if_neg (by decide), List.append_nil] at hs
        repeat (first
    | (apply s_a TY; exact rfl)
    | (apply s_t; exact rfl; (first | assumption | omega))
    | (apply s_f; exact rfl; (first | assumption | omega))
    | apply w_seq
    | apply w_region
    | (apply w_draw (id := 10) 11 rfl (by kernel_rfl))
    | apply s_nil
    | apply t_norm
    | apply k_norm
    | apply w_block
    | apply w_skip
    | (apply w_condT; exact rfl; exact rfl)
    | (apply w_condF; exact rfl; exact rfl)
    | (apply s_k (HC); exact rfl)
    | (apply s_k (HW); exact rfl)
    | (apply s_c TY; exact rfl; omega)
    | (apply s_slice TY; exact rfl; exact rfl; exact rfl; (first | exact rfl | exact ⟨_, rfl⟩); (first | exact rfl | exact ⟨_, rfl⟩); omega; omega; omega))
        exact ⟨k + 1, by omega, by omega, gh_le ⟨le_upd rfl trivial (le_upd rfl trivial (le_upd rfl trivial (le_upd rfl rfl (le_upd rfl rfl (le_upd rfl trivial (le_upd rfl trivial (le_nil _))))))), le_hupd (rowI _ _ hs.symm) trivial (le_hupd rfl (fun y hy => by simp at hy; rcases hy with rfl | rfl <;> first | trivial | rfl) (le_h0 _ _))⟩⟩
    · have hke : k = h.length := by omega
      subst hke
      repeat (first
    | (apply s_a TY; exact rfl)
    | (apply s_f; exact rfl; (first | assumption | omega))
    | apply w_seq
    | apply w_region
    | apply s_nil
    | apply t_norm
    | apply t_exit
    | apply k_hit
    | apply w_exit
    | apply w_ret
    | (apply w_condF; exact rfl; exact rfl))
      exact lv_ret (ret_gh (gh_row 1 rfl) (ret2 rfl (res_tmp rfl) (res_tmp rfl)))
end Go.Proofs.Ytkgmmlecacbnjaa
namespace Go.Ab
open Go Go.RowKit Go.Shelf Go.Proofs
section
variable {C : Ctx} {N : Nat} {st : St}
theorem v_field {o : Oper} {T f : Nat} {fs : Array Field} {fd : Field} {x : Operand} {cs : List FV} {c : FV} (ty : Ty C.P) (ho : o.op = .field T x f) (hd : dstB N o.dst = true) (hu : C.P.underlying T = some (.struct fs)) (hf : fs[f]? = some fd) (hE : (ty.ty fd.type).scal = true) (hx : st.ev C x = .f (.agg cs)) (hc : cs[fd.offset]? = some c) : ValOp C N o st (.f c) :=
  valop_run hd fun w0 a w J st' hA S => by
    have e1 := evF S ((hA.ev x (by simp [ho, Op.operands])).trans hx)
    obtain ⟨p1, p2⟩ := scal_parts ((ty.ok fd.type).scal hE)
    generalize hxv : a.eval x = xv at e1
    cases e1 with
    | agg _ us h1 h2 h3 =>
      have hlt : fd.offset < us.length := by rw [h1]; exact (List.getElem?_eq_some_iff.1 hc).1
      refine ⟨us[fd.offset], w, ?_, Ext.refl _, h3 fd.offset _ c (List.getElem?_eq_getElem hlt) hc⟩
      simp [execOp, ho, hxv, Instr.field, run_underlying hu, hf, asAgg, part, p1, List.getElem?_eq_getElem hlt, Sem.run_pure]
variable {ops : Array Oper} {pr : Bool} {K : St → Prop} {rest : List Oper} {d : Option Tmp} {T0 : TypeId} {pos : String} {af : Array Edge} {g : Option (Nat × Bool)}
theorem s_field (ty : Ty C.P) {T f : Nat} {fs : Array Field} {fd : Field} {x : Operand} {cs : List FV} {c : FV} (hu : C.P.underlying T = some (.struct fs)) (hw : wantB st ops ⟨d, .field T x f, T0, pos, af, g⟩ = some true) (hd : dstB N d = true) (hf : fs[f]? = some fd) (hE : (ty.ty fd.type).scal = true) (hx : st.ev C x = .f (.agg cs)) (hc : cs[fd.offset]? = some c)
    (h : R C N ops pr K rest (st.put d (.f c))) : R C N ops pr K (⟨d, .field T x f, T0, pos, af, g⟩ :: rest) st := ⟨r_val hw (v_field ty rfl hd hu hf hE hx hc) h.out⟩
end
end Go.Ab
namespace Go.Proofs.Ytkgmmlecacbnjaa
open Go Go.RowKit Go.Proofs Go.Shelf Go.Ab
def exA : List Site := [⟨1, 1, 0, 0, 0⟩, ⟨1, 2, 0, 0, -17⟩, ⟨1, 3, 0, 0, -34⟩, ⟨2, 1, 100, 0, 0⟩]
def exH : List Hit := [⟨100, 1, 1⟩, ⟨110, 1, 2⟩, ⟨130, 1, 3⟩, ⟨135, 2, 1⟩, ⟨500, 2, 1⟩]
def exS : Setup := ⟨[⟨0, 3, 30, 0, 0⟩], 10, 20, 100⟩
def exR : Rule := ⟨2, 2, 40, 50, 20⟩
def exQ : Rule := ⟨3, 3, 25, 5, 0⟩
theorem ex1 : ruledErr exA exR exH = 0 := by decide
theorem ex2 : ruledErr exA exQ exH = 0 := by decide
theorem ex3 : setErr exA exS exH = 0 := by decide
theorem ex4 : firesV exA exR exH exH.length = [⟨0, 100, 110⟩, ⟨1, 110, 130⟩] := by decide
theorem ex5 : firesV exA exQ exH exH.length = [⟨0, 100, 130⟩] := by decide
theorem sortRng_id {l : List Rng} (hb : LoOk l) (h : l.Pairwise fun x y => x.lo ≤ y.lo) (hu : ∀ x, x ∈ l → ∀ y, y ∈ l → x.lo = y.lo → x = y) : sortRng l = l := by
  refine List.Perm.eq_of_pairwise (le := fun x y => x.lo ≤ y.lo) (fun a b ha hb' h1 h2 => ?_) (sortRng_pw l hb) h (sortRng_perm l)
  exact hu a ((sortRng_perm l).mem_iff.1 ha) b hb' (by omega)
theorem ex8 : sortRng [⟨90, 150⟩, ⟨100, 155⟩] = [⟨90, 150⟩, ⟨100, 155⟩] := sortRng_id (by unfold LoOk; decide) (by decide) (by decide)
theorem ex7 : singleV exA exS exH = [⟨90, 150⟩, ⟨100, 155⟩] := by decide
theorem ex9 : eventsV exA exS exH = [⟨90, 155, [0, 1, 2, 3]⟩] := by
  unfold eventsV windowsV joinedV
  rw [ex7, ex8]
  decide
def exT : Rule := ⟨0, 3, 30, 0, 0⟩
theorem ex10 : critV exA exT exH = [1, 2] := by decide
theorem ex11 : ruledErr exA exT exH = 0 := by decide
theorem ex12 : (firesV exA exT exH exH.length).isEmpty = false := by decide
theorem ex13 : liveErrV exS [⟨90, 155⟩] ⟨0, 299⟩ = 0 := by decide
theorem ex14 : liveV exS [⟨90, 155⟩] ⟨0, 299⟩ = 200 := by decide
set_option maxRecDepth 100000 in
theorem exA_s : Summ Try.prog GG 21 [] (arrF exA) := by
  refine summW Try.func21 rfl rfl 7 rfl (by simp) (fun M0 => ?_)
  repeat (first
    | (apply s_a TY; exact rfl)
    | apply w_seq
    | apply w_region
    | apply s_nil
    | apply t_norm
    | apply w_ret
    | (apply s_alloc TY; exact rfl; exact rfl; exact rfl)
    | (apply s_store TY; exact rfl; exact rfl; exact rfl; exact rfl; exact rfl; exact rfl))
  exact lv_ret (ret1 rfl (res_bxs TY rfl rfl rfl rfl rfl))
set_option maxRecDepth 100000 in
theorem exS_s : Summ Try.prog GG 23 [] (setF exS) := by
  refine summW Try.func23 rfl rfl 4 rfl (by simp) (fun M0 => ?_)
  repeat (first
    | (apply s_a TY; exact rfl)
    | apply w_seq
    | apply w_region
    | apply s_nil
    | apply t_norm
    | apply w_ret
    | (apply s_alloc TY; exact rfl; exact rfl; exact rfl)
    | (apply s_store TY; exact rfl; exact rfl; exact rfl; exact rfl; exact rfl; exact rfl))
  exact lv_ret (ret1 rfl (res_bxs TY rfl rfl rfl rfl rfl))
set_option maxRecDepth 100000 in
theorem exH_s : Summ Try.prog GG 22 [] (.sl exH.length (hitsF exH)) := by
  refine summW Try.func22 rfl rfl 7 rfl (by simp) (fun M0 => ?_)
  repeat (first
    | (apply s_a TY; exact rfl)
    | apply w_seq
    | apply w_region
    | apply s_nil
    | apply t_norm
    | apply w_ret)
  exact lv_ret (ret1 rfl (res_tmp rfl))
set_option maxRecDepth 100000 in
set_option maxHeartbeats 3200000 in
theorem awake_s : Summ Try.prog GG 5 [] (bv true) := by
  have HF1 : Summ Try.prog GG 14 [arrF exA, .agg (ruleF exR), .sl exH.length (hitsF exH)] (.tup [.sl 2 (firesF [⟨0, 100, 110⟩, ⟨1, 110, 130⟩]), iv 0]) := by
    have := FiresOf_ok exA exR exH (by decide) (by decide) ex1
    rw [ex4] at this; exact this
  have HF2 : Summ Try.prog GG 14 [arrF exA, .agg (ruleF exQ), .sl exH.length (hitsF exH)] (.tup [.sl 1 (firesF [⟨0, 100, 130⟩]), iv 0]) := by
    have := FiresOf_ok exA exQ exH (by decide) (by decide) ex2
    rw [ex5] at this; exact this
  have HE : Summ Try.prog GG 9 [arrF exA, setF exS, .sl exH.length (hitsF exH)] (.tup [.sl 1 (evsF [⟨90, 155, [0, 1, 2, 3]⟩]), iv 0]) := by
    have := EventsOf_ok exA exS exH (by decide) (by decide) (by decide) ex3
    rw [ex9] at this; exact this
  have HC : Summ Try.prog GG 24 [arrF exA, .agg (ruleF exT), .sl exH.length (hitsF exH)] (.tup [.sl 2 (intsF [1, 2]), iv 0]) := by
    have := Critical_ok exA exT exH (by decide) (by decide) ex11
    rw [ex12, if_neg (by decide), ex10] at this; exact this
  have HL : Summ Try.prog GG 16 [setF exS, .sl 1 (rngsF [⟨90, 155⟩]), .agg (rngF ⟨0, 299⟩)] (.tup [iv 200, iv 0]) := by
    have := LiveIn_s exS [⟨90, 155⟩] ⟨0, 299⟩ (by decide) (by decide)
    rw [ex13, if_pos rfl, ex14] at this; exact this
  have S1 := SameFires_s [⟨0, 100, 110⟩, ⟨1, 110, 130⟩] [⟨0, 100, 110⟩, ⟨1, 110, 130⟩] (by decide) (by decide)
  have S2 := SameFires_s [⟨0, 100, 130⟩] [⟨0, 100, 130⟩] (by decide) (by decide)
  have S3 := SameEvents_s [⟨90, 155, [0, 1, 2, 3]⟩] [⟨90, 155, [0, 1, 2, 3]⟩] (by decide) (by decide) (by decide) (by decide)
  have S4 := Ints_s [1, 2] [1, 2] (by decide) (by decide)
  rw [decide_eq_true rfl] at S1 S2 S3 S4
  have hx1 : exS.rules.length = 1 := rfl
  have hx2 : rulesF exS.rules ≠ [] := rulesF_ne (k := 0) (by decide)
  refine summW Try.func5 rfl rfl 101 rfl (by simp) (fun M0 => ?_)
  repeat (first
    | (apply s_field TY Try.underlying27; exact rfl; exact rfl; exact rfl; exact rfl; exact rfl; exact rfl)
    | (apply s_a TY; exact rfl)
    | (apply s_t; exact rfl; (first | assumption | omega))
    | apply w_seq
    | apply w_region
    | (apply w_draw (id := 4) 11 rfl (by kernel_rfl))
    | apply s_nil
    | apply t_norm
    | apply w_ret
    | (apply s_k (exA_s); exact rfl)
    | (apply s_k (exS_s); exact rfl)
    | (apply s_k (exH_s); exact rfl)
    | (apply s_k (HF1); exact rfl)
    | (apply s_k (HF2); exact rfl)
    | (apply s_k (HE); exact rfl)
    | (apply s_k (HC); exact rfl)
    | (apply s_k (HL); exact rfl)
    | (apply s_k (S1); exact rfl)
    | (apply s_k (S2); exact rfl)
    | (apply s_k (S3); exact rfl)
    | (apply s_k (S4); exact rfl)
    | (apply s_z TY; exact rfl; (first | omega | exact ⟨by omega, by (first | with_reducible assumption | ((with_reducible apply rulesF_ne); omega) | assumption)⟩)))
  exact lv_ret (ret1 rfl (res_tmp rfl))
end Go.Proofs.Ytkgmmlecacbnjaa
namespace Go.Proofs.Ytkgmmlecacbnjaa
open Go Go.RowKit Go.Proofs Go.Shelf Go.Ab
def lErrV (ws : List Rng) (r : Rng) : Int := firstE [lerrK ws (lenE ws.length) ws.length, runA r, runB r]
theorem lerrK_e (ws : List Rng) {e : Int} (h : e ≠ 0) : ∀ n, lerrK ws e n = e
  | 0 => rfl
  | n + 1 => by rw [lerrK, lerrK_e ws h n, firstE_hd h]
theorem lerrK_z (ws : List Rng) : ∀ n, (∀ i, i < n → wA ws i = 0 ∧ wB ws i = 0) → lerrK ws 0 n = 0
  | 0, _ => rfl
  | n + 1, h => by rw [lerrK, lerrK_z ws n (fun i hi => h i (by omega)), (h n (by omega)).1, (h n (by omega)).2]; rfl
theorem lerrK_at (ws : List Rng) {k : Nat} {x : Int} (hz : ∀ i, i < k → wA ws i = 0 ∧ wB ws i = 0) (e : firstE [0, wA ws k, wB ws k] = x) (hx : x ≠ 0) : ∀ m, lerrK ws 0 (k + 1 + m) = x
  | 0 => by rw [Nat.add_zero, lerrK, lerrK_z ws k hz, e]
  | m + 1 => by rw [← Nat.add_assoc, lerrK, lerrK_at ws hz e hx m, firstE_hd hx]
theorem lErr_len {ws : List Rng} {r : Rng} (h : ¬ ws.length ≤ 40) : lErrV ws r = 8 := by
  unfold lErrV lenE
  rw [if_neg h, lerrK_e ws (by decide), firstE_hd (by decide)]
theorem lErr_at {ws : List Rng} {r : Rng} {k : Nat} {x : Int} (hl : ws.length ≤ 40) (hk : k < ws.length) (hz : ∀ i, i < k → wA ws i = 0 ∧ wB ws i = 0) (e : firstE [0, wA ws k, wB ws k] = x) (hx : x ≠ 0) : lErrV ws r = x := by
  obtain ⟨m, hm⟩ : ∃ m, ws.length = k + 1 + m := ⟨ws.length - k - 1, by omega⟩
  unfold lErrV lenE
  rw [if_pos hl, hm, lerrK_at ws hz e hx m, firstE_hd hx]
theorem lErr_run {ws : List Rng} {r : Rng} (hl : ws.length ≤ 40) (hz : ∀ i, i < ws.length → wA ws i = 0 ∧ wB ws i = 0) : lErrV ws r = firstE [0, runA r, runB r] := by
  unfold lErrV lenE
  rw [if_pos hl, lerrK_z ws _ hz]
theorem liveErr_a {s : Setup} {ws : List Rng} {r : Rng} (h : (setupChk s).2 ≠ 0) : liveErrV s ws r = (setupChk s).2 := by
  unfold liveErrV
  rw [firstE_hd h, lerrK_e ws h, firstE_hd h]
theorem liveErr_b {s : Setup} {ws : List Rng} {r : Rng} (h : (setupChk s).2 = 0) : liveErrV s ws r = lErrV ws r := by
  unfold liveErrV lErrV
  rw [h, firstE_tl]
  unfold firstE
  unfold lenE
  split
  · rfl
  · rfl
def rStep (s : Setup) (r : Rng) (p : Int × Int) (w : Rng) : Int × Int := (p.1 + max 0 (min (w.hi + 1) (r.hi + 1) - p.2), max p.2 (min (w.hi + s.dead) r.hi + 1))
def rliveK (s : Setup) (ws : List Rng) (r : Rng) : Nat → Int × Int
  | 0 => (0, r.lo)
  | k + 1 => rStep s r (rliveK s ws r k) (ws.getD k default)
def rLiveN (s : Setup) (ws : List Rng) : Nat := if 0 < s.dead then ws.length else 0
def rLiveV (s : Setup) (ws : List Rng) (r : Rng) : Int := (rliveK s ws r (rLiveN s ws)).1 + max 0 (r.hi + 1 - (rliveK s ws r (rLiveN s ws)).2)
theorem rliveK_bd {s : Setup} {ws : List Rng} {r : Rng} (hr : 0 ≤ r.lo ∧ r.lo ≤ r.hi ∧ r.hi ≤ 1000000000000) : ∀ k, (r.lo ≤ (rliveK s ws r k).2 ∧ (rliveK s ws r k).2 ≤ r.hi + 1) ∧ (0 ≤ (rliveK s ws r k).1 ∧ (rliveK s ws r k).1 ≤ k * 2000000000000)
  | 0 => by simp only [rliveK]; omega
  | k + 1 => by
    have := rliveK_bd hr k (s := s) (ws := ws)
    simp only [rliveK, rStep]
    omega
theorem wB_zero {ws : List Rng} {i : Nat} (hi : i < ws.length) (h : wB ws i = 0) : ws[i].lo ≤ ws[i].hi ∧ (i = 0 ∨ ws[i - 1].hi < ws[i].lo) := by
  unfold wB at h
  rw [getD_at hi, getD_at (by omega : i - 1 < ws.length)] at h
  by_cases c : ws[i].lo ≤ ws[i].hi ∧ (i = 0 ∨ ws[i - 1].hi < ws[i].lo)
  · exact c
  · rw [if_neg c] at h; cases h
theorem ws_asc {ws : List Rng} {k : Nat} (hz : ∀ i, i < ws.length → wA ws i = 0 ∧ wB ws i = 0) (hk : k + 1 < ws.length) : ws[k].hi < ws[k + 1].hi := by
  have := wB_zero hk (hz _ hk).2
  simp only [Nat.add_sub_cancel] at this
  omega
theorem live_inv {s : Setup} {ws : List Rng} {r : Rng} (hr : r.lo ≤ r.hi) (hd : 0 < s.dead) (hz : ∀ i, i < ws.length → wA ws i = 0 ∧ wB ws i = 0) : ∀ k, k ≤ ws.length → (r.lo ≤ (rliveK s ws r k).2 ∧ (rliveK s ws r k).2 ≤ r.hi + 1) ∧ (liveK s ws r k).1 = (rliveK s ws r k).1 + (r.hi + 1 - (rliveK s ws r k).2) ∧ ((liveK s ws r k).2 = (rliveK s ws r k).2 ∨ ((rliveK s ws r k).2 = r.hi + 1 ∧ ∀ (h : k < ws.length), r.hi < ws[k].hi + 1))
  | 0, _ => ⟨by simp only [rliveK]; omega, by simp only [rliveK, liveK]; omega, .inl rfl⟩
  | k + 1, hk => by
    have ih := live_inv hr hd hz k (by omega)
    have hc : k < ws.length := by omega
    rw [liveK, rliveK, getD_at hc]
    generalize liveK s ws r k = p at ih ⊢
    generalize rliveK s ws r k = q at ih ⊢
    obtain ⟨h1, h2, h3⟩ := ih
    have hA : ∀ (h : k + 1 < ws.length), ws[k].hi < ws[k + 1].hi := fun h => ws_asc hz h
    unfold liveStep rStep
    rcases h3 with h3 | ⟨h3, h4⟩
    · split
      · refine ⟨?_, ?_, .inl ?_⟩ <;> simp only <;> omega
      · by_cases hx : ws[k].hi + 1 ≤ min r.hi (ws[k].hi + s.dead)
        · refine ⟨?_, ?_, .inl ?_⟩ <;> simp only <;> omega
        · refine ⟨?_, ?_, .inr ⟨?_, fun h => ?_⟩⟩
          · simp only; omega
          · simp only; omega
          · simp only; omega
          · have := hA h; omega
    · have h4 := h4 hc
      rw [if_neg (by omega)]
      refine ⟨?_, ?_, .inr ⟨?_, fun h => ?_⟩⟩
      · simp only; omega
      · simp only; omega
      · simp only; omega
      · have := hA h; omega
theorem live_z {s : Setup} {ws : List Rng} {r : Rng} (hd : s.dead ≤ 0) : ∀ k, liveK s ws r k = (r.hi - r.lo + 1, r.lo)
  | 0 => rfl
  | k + 1 => by rw [liveK, live_z hd k, liveStep, if_neg (by simp only; omega)]
theorem rLive_eq {s : Setup} {ws : List Rng} {r : Rng} (h : liveErrV s ws r = 0) : rLiveV s ws r = liveV s ws r := by
  obtain ⟨z1, z2, z3, z4, z5⟩ := liveErr_parts h
  unfold rLiveV liveV rLiveN
  by_cases hd : 0 < s.dead
  · rw [if_pos hd]
    have := live_inv z5 hd z3 ws.length (Nat.le_refl _)
    omega
  · rw [if_neg hd, live_z (by omega)]
    simp only [rliveK]
    omega
theorem live_mono {s s' : Setup} {ws : List Rng} {r : Rng} (hd : s.dead ≤ s'.dead) (hz : ∀ i, i < ws.length → wA ws i = 0 ∧ wB ws i = 0) : ∀ k, k ≤ ws.length → ∃ b, (∀ (h : k < ws.length), b ≤ ws[k].hi + 1) ∧ (liveK s ws r k).2 ≤ (liveK s' ws r k).2 ∧ max (liveK s' ws r k).2 b - max (liveK s ws r k).2 b ≤ (liveK s ws r k).1 - (liveK s' ws r k).1
  | 0, _ => ⟨(ws.getD 0 default).hi + 1, fun h => by rw [getD_at h]; omega, by simp only [liveK]; omega, by simp only [liveK]; omega⟩
  | k + 1, hk => by
    obtain ⟨b, h1, h2, h3⟩ := live_mono hd hz k (by omega) (s := s) (s' := s') (r := r)
    have hc : k < ws.length := by omega
    have h1 := h1 hc
    have hA : ∀ (h : k + 1 < ws.length), ws[k].hi < ws[k + 1].hi := fun h => ws_asc hz h
    refine ⟨ws[k].hi + 1, fun h => by have := hA h; omega, ?_⟩
    simp only [liveK]
    rw [getD_at hc]
    generalize liveK s ws r k = p at h2 h3 ⊢
    generalize liveK s' ws r k = q at h2 h3 ⊢
    unfold liveStep
    split <;> split <;> (try simp only) <;> omega
theorem liveV_mono {s s' : Setup} {ws : List Rng} {r : Rng} (hd : s.dead ≤ s'.dead) (hz : ∀ i, i < ws.length → wA ws i = 0 ∧ wB ws i = 0) : liveV s' ws r ≤ liveV s ws r := by
  obtain ⟨b, _, h2, h3⟩ := live_mono hd hz ws.length (Nat.le_refl _) (s := s) (s' := s') (r := r)
  unfold liveV
  omega
def withDead (s : Setup) (d : Int) : Setup := ⟨s.rules, s.before, s.after, d⟩
theorem setupChk_dead {s : Setup} {d : Int} (h : (setupChk s).2 = 0) (hd : 0 ≤ d ∧ d ≤ 1000000) : (setupChk (withDead s d)).2 = 0 := by
  unfold setupChk withDead at *
  try simp only
  by_cases h1 : s.rules.length = 0
  · rw [if_pos h1] at h; cases h
  · rw [if_neg h1] at h ⊢
    by_cases h2 : 4 < s.rules.length
    · rw [if_pos h2] at h; cases h
    · rw [if_neg h2] at h ⊢
      by_cases h3 : (eachE s.rules.length fun i => ruleErr (s.rules.getD i default)).2 ≠ 0
      · rw [if_pos h3] at h; exact absurd h h3
      · rw [if_neg h3] at h ⊢
        by_cases h4 : ¬ (0 ≤ s.before ∧ s.before ≤ 1000000) ∨ ¬ (0 ≤ s.after ∧ s.after ≤ 1000000) ∨ ¬ (0 ≤ s.dead ∧ s.dead ≤ 1000000)
        · rw [if_pos h4] at h; cases h
        · rw [if_neg (by omega)]
theorem liveErr_dead {s : Setup} {ws : List Rng} {r : Rng} {d : Int} (h : liveErrV s ws r = 0) (hd : 0 ≤ d ∧ d ≤ 1000000) : liveErrV (withDead s d) ws r = 0 := by
  have h1 := (liveErr_parts h).1
  have h2 := setupChk_dead h1 hd
  rw [← h]
  unfold liveErrV
  rw [h1, h2]
def lightB (r : Rule) : Bool := decide (r.kind ≠ 3) || decide (r.count ≤ 6) || decide (40 < r.count)
def fewRulesB (s : Setup) : Bool := decide (s.rules.length ≤ 6) && !anyP s.rules.length fun i => !lightB (s.rules.getD i default)
set_option maxRecDepth 100000 in
set_option maxHeartbeats 3200000 in
theorem LiveErr_s (ws : List Rng) (r : Rng) : Summ Try.prog GG 19 [.sl ws.length (rngsF ws), .agg (rngF r)] (iv (lErrV ws r)) := by
  by_cases h40 : ws.length ≤ 40
  · refine summW Try.func19 rfl rfl 65 rfl (by simp) (fun M0 => ?_)
    repeat (first
    | (apply s_a TY; exact rfl)
    | (apply s_f; exact rfl; (first | assumption | omega))
    | apply w_seq
    | apply w_region
    | apply s_nil
    | apply t_norm
    | apply w_block
    | apply w_skip
    | (apply w_condF; exact rfl; exact rfl))
    apply w_loop (fun k : Nat => ⟨(Ab.upd (Ab.upd (Ab.upd (fun _ => .bot) 0 (.f (.sl ws.length (rngsF ws)))) 3 (.f (.pt (rngF r) 0))) 5 (.f (iv (k : Nat)))), (fun _ => none), 0⟩) (fun k => k ≤ ws.length ∧ ∀ i, i < k → wA ws i = 0 ∧ wB ws i = 0) (fun k => ws.length - k) 0 (⟨Nat.zero_le _, fun j h => absurd h (Nat.not_lt_zero j)⟩) (gh_le ⟨le_upd rfl trivial (le_upd rfl trivial (le_upd rfl trivial (le_nil _))), le_h0 _ _⟩)
    intro k ⟨hk, hz⟩
    by_cases hc : k < ws.length
    · have hp : k - 1 < ws.length := by omega
      have hat : (rngsF ws)[((k : Int) - 1).toNat * 2 + 1]? = some (iv ws[k - 1].hi) := by
        rw [show ((k : Int) - 1).toNat = k - 1 by omega]; exact rngsF_f1 hp
      by_cases hD : -2000000000000 ≤ ws[k].lo ∧ ws[k].lo ≤ 2000000000000
      · by_cases hE : -2000000000000 ≤ ws[k].hi ∧ ws[k].hi ≤ 2000000000000
        · by_cases hA : ws[k].lo ≤ ws[k].hi
          · by_cases hB : k = 0
            · have hwA : wA ws k = 0 := by unfold wA; rw [getD_at hc]; exact if_pos (by omega)
              have hwB : wB ws k = 0 := by unfold wB; rw [getD_at hc, getD_at hp]; exact if_pos (by omega)
              repeat (first
    | (apply s_a TY; exact rfl)
    | (apply s_t; exact rfl; (first | assumption | omega))
    | (apply s_f; exact rfl; (first | assumption | omega))
    | apply w_seq
    | apply w_region
    | (apply w_draw (id := 9) 17 rfl (by kernel_rfl))
    | apply s_nil
    | apply t_norm
    | apply k_norm
    | apply w_block
    | apply w_skip
    | (apply w_condT; exact rfl; exact rfl)
    | (apply w_condF; exact rfl; exact rfl)
    | (apply s_k1 (bwithin_T _ _ _); exact rfl; (first | assumption | omega | decide))
    | (apply s_s; exact rfl)
    | (apply s_c TY; exact rfl; (first | omega | exact ⟨by omega, by (first | with_reducible assumption | ((with_reducible apply rngsF_ne); omega) | assumption)⟩))
    | (apply s_m TY; exact rfl; (first | with_reducible assumption | ((with_reducible apply rngsF_sub); omega) | exact rfl); exact rfl)
    | (apply s_alloc TY; exact rfl; exact rfl; exact rfl)
    | (apply s_store TY; exact rfl; exact rfl; exact rfl; exact rfl; exact rfl; exact rfl))
              exact ⟨k + 1, ⟨by omega, fun i hi => by
                by_cases e : i = k
                · subst e; exact ⟨hwA, hwB⟩
                · exact hz i (by omega)⟩, by omega, gh_le ⟨le_upd rfl trivial (le_upd rfl trivial (le_upd rfl trivial (le_nil _))), le_h0 _ _⟩⟩
            · by_cases hC : ws[k - 1].hi < ws[k].lo
              · have hwA : wA ws k = 0 := by unfold wA; rw [getD_at hc]; exact if_pos (by omega)
                have hwB : wB ws k = 0 := by unfold wB; rw [getD_at hc, getD_at hp]; exact if_pos (by omega)
                repeat (first
    | (apply s_a TY; exact rfl)
    | (apply s_t; exact rfl; (first | assumption | omega))
    | (apply s_f; exact rfl; (first | assumption | omega))
    | apply w_seq
    | apply w_region
    | (apply w_draw (id := 9) 17 rfl (by kernel_rfl))
    | apply s_nil
    | apply t_norm
    | apply k_norm
    | apply w_block
    | apply w_skip
    | (apply w_condT; exact rfl; exact rfl)
    | (apply w_condF; exact rfl; exact rfl)
    | (apply s_k1 (bwithin_T _ _ _); exact rfl; (first | assumption | omega | decide))
    | (apply s_c TY; exact rfl; (first | omega | exact ⟨by omega, by (first | with_reducible assumption | ((with_reducible apply rngsF_ne); omega) | assumption)⟩))
    | (apply s_z TY; exact rfl; (first | omega | exact ⟨by omega, by (first | with_reducible assumption | ((with_reducible apply rngsF_ne); omega) | assumption)⟩))
    | (apply s_l TY; exact rfl; (first | exact rfl | with_reducible assumption | ((with_reducible apply rngsF_f0); omega) | ((with_reducible apply rngsF_f1); omega) | assumption))
    | (apply s_m TY; exact rfl; (first | with_reducible assumption | ((with_reducible apply rngsF_sub); omega) | exact rfl); exact rfl)
    | (apply s_alloc TY; exact rfl; exact rfl; exact rfl)
    | (apply s_store TY; exact rfl; exact rfl; exact rfl; exact rfl; exact rfl; exact rfl))
                exact ⟨k + 1, ⟨by omega, fun i hi => by
                  by_cases e : i = k
                  · subst e; exact ⟨hwA, hwB⟩
                  · exact hz i (by omega)⟩, by omega, gh_le ⟨le_upd rfl trivial (le_upd rfl trivial (le_upd rfl trivial (le_nil _))), le_h0 _ _⟩⟩
              · have hwA : wA ws k = 0 := by unfold wA; rw [getD_at hc]; exact if_pos (by omega)
                have hwB : wB ws k = 9 := by unfold wB; rw [getD_at hc, getD_at hp]; exact if_neg (by omega)
                rw [lErr_at h40 hc hz (show firstE [0, wA ws k, wB ws k] = 9 by rw [hwA, hwB]; rfl) (by decide)]
                repeat (first
    | (apply s_a TY; exact rfl)
    | (apply s_t; exact rfl; (first | assumption | omega))
    | (apply s_f; exact rfl; (first | assumption | omega))
    | apply w_seq
    | apply w_region
    | (apply w_draw (id := 9) 17 rfl (by kernel_rfl))
    | apply s_nil
    | apply t_norm
    | apply t_ret
    | apply k_ret
    | apply w_block
    | apply w_ret
    | apply w_skip
    | (apply w_condT; exact rfl; exact rfl)
    | (apply w_condF; exact rfl; exact rfl)
    | (apply s_k1 (bwithin_T _ _ _); exact rfl; (first | assumption | omega | decide))
    | (apply s_c TY; exact rfl; (first | omega | exact ⟨by omega, by (first | with_reducible assumption | ((with_reducible apply rngsF_ne); omega) | assumption)⟩))
    | (apply s_z TY; exact rfl; (first | omega | exact ⟨by omega, by (first | with_reducible assumption | ((with_reducible apply rngsF_ne); omega) | assumption)⟩))
    | (apply s_l TY; exact rfl; (first | exact rfl | with_reducible assumption | ((with_reducible apply rngsF_f0); omega) | ((with_reducible apply rngsF_f1); omega) | assumption))
    | (apply s_m TY; exact rfl; (first | with_reducible assumption | ((with_reducible apply rngsF_sub); omega) | exact rfl); exact rfl)
    | (apply s_alloc TY; exact rfl; exact rfl; exact rfl)
    | (apply s_store TY; exact rfl; exact rfl; exact rfl; exact rfl; exact rfl; exact rfl))
                exact lv_ret (ret1 rfl (res_tmp rfl))
          · have hwA : wA ws k = 0 := by unfold wA; rw [getD_at hc]; exact if_pos (by omega)
            have hwB : wB ws k = 9 := by unfold wB; rw [getD_at hc, getD_at hp]; exact if_neg (by omega)
            rw [lErr_at h40 hc hz (show firstE [0, wA ws k, wB ws k] = 9 by rw [hwA, hwB]; rfl) (by decide)]
            repeat (first
    | (apply s_a TY; exact rfl)
    | (apply s_t; exact rfl; (first | assumption | omega))
    | apply w_seq
    | apply w_region
    | (apply w_draw (id := 9) 17 rfl (by kernel_rfl))
    | apply s_nil
    | apply t_norm
    | apply t_ret
    | apply k_ret
    | apply w_block
    | apply w_ret
    | apply w_skip
    | (apply w_condT; exact rfl; exact rfl)
    | (apply w_condF; exact rfl; exact rfl)
    | (apply s_k1 (bwithin_T _ _ _); exact rfl; (first | assumption | omega | decide))
    | (apply s_s; exact rfl)
    | (apply s_c TY; exact rfl; (first | omega | exact ⟨by omega, by (first | with_reducible assumption | ((with_reducible apply rngsF_ne); omega) | assumption)⟩))
    | (apply s_m TY; exact rfl; (first | with_reducible assumption | ((with_reducible apply rngsF_sub); omega) | exact rfl); exact rfl)
    | (apply s_alloc TY; exact rfl; exact rfl; exact rfl)
    | (apply s_store TY; exact rfl; exact rfl; exact rfl; exact rfl; exact rfl; exact rfl))
            exact lv_ret (ret1 rfl (res_tmp rfl))
        · have hwA : wA ws k = 2 := by unfold wA; rw [getD_at hc]; exact if_neg (by omega)
          rw [lErr_at h40 hc hz (show firstE [0, wA ws k, wB ws k] = 2 by rw [hwA]; rfl) (by decide)]
          repeat (first
    | (apply s_a TY; exact rfl)
    | (apply s_t; exact rfl; (first | assumption | omega))
    | apply w_seq
    | apply w_region
    | apply s_nil
    | apply t_norm
    | apply t_ret
    | apply k_ret
    | apply w_block
    | apply w_ret
    | apply w_skip
    | (apply w_condT; exact rfl; exact rfl)
    | (apply s_k1 (bwithin_T _ _ _); exact rfl; (first | assumption | omega | decide))
    | (apply s_k1 (bwithin_F _ _ _); exact rfl; (first | assumption | omega | decide))
    | (apply s_c TY; exact rfl; (first | omega | exact ⟨by omega, by (first | with_reducible assumption | ((with_reducible apply rngsF_ne); omega) | assumption)⟩))
    | (apply s_m TY; exact rfl; (first | with_reducible assumption | ((with_reducible apply rngsF_sub); omega) | exact rfl); exact rfl)
    | (apply s_alloc TY; exact rfl; exact rfl; exact rfl)
    | (apply s_store TY; exact rfl; exact rfl; exact rfl; exact rfl; exact rfl; exact rfl))
          exact lv_ret (ret1 rfl (res_tmp rfl))
      · have hwA : wA ws k = 2 := by unfold wA; rw [getD_at hc]; exact if_neg (by omega)
        rw [lErr_at h40 hc hz (show firstE [0, wA ws k, wB ws k] = 2 by rw [hwA]; rfl) (by decide)]
        repeat (first
    | (apply s_a TY; exact rfl)
    | (apply s_t; exact rfl; (first | assumption | omega))
    | apply w_seq
    | apply w_region
    | apply s_nil
    | apply t_norm
    | apply t_ret
    | apply k_ret
    | apply w_block
    | apply w_ret
    | apply w_skip
    | (apply w_condT; exact rfl; exact rfl)
    | (apply s_k1 (bwithin_F _ _ _); exact rfl; (first | assumption | omega | decide))
    | (apply s_s; exact rfl)
    | (apply s_c TY; exact rfl; (first | omega | exact ⟨by omega, by (first | with_reducible assumption | ((with_reducible apply rngsF_ne); omega) | assumption)⟩))
    | (apply s_m TY; exact rfl; (first | with_reducible assumption | ((with_reducible apply rngsF_sub); omega) | exact rfl); exact rfl)
    | (apply s_alloc TY; exact rfl; exact rfl; exact rfl)
    | (apply s_store TY; exact rfl; exact rfl; exact rfl; exact rfl; exact rfl; exact rfl))
        exact lv_ret (ret1 rfl (res_tmp rfl))
    · have hke : k = ws.length := by omega
      by_cases hF : 0 ≤ r.lo ∧ r.lo ≤ 1000000000000
      · by_cases hG : 0 ≤ r.hi ∧ r.hi ≤ 1000000000000
        · by_cases hH : r.lo ≤ r.hi
          · have hrA : runA r = 0 := by unfold runA; exact if_pos (by omega)
            have hrB : runB r = 0 := by unfold runB; exact if_pos (by omega)
            rw [show lErrV ws r = 0 by rw [lErr_run h40 (fun i hi => hz i (by omega)), hrA, hrB]; rfl]
            repeat (first
    | (apply s_a TY; exact rfl)
    | (apply s_f; exact rfl; (first | assumption | omega))
    | apply w_seq
    | apply w_region
    | apply s_nil
    | apply t_norm
    | apply t_exit
    | apply k_hit
    | apply w_exit
    | apply w_ret
    | apply w_skip
    | (apply w_condF; exact rfl; exact rfl)
    | (apply s_k1 (bIsTick_T _); exact rfl; (first | assumption | omega | decide)))
            exact lv_ret (ret1 rfl (res_tmp rfl))
          · have hrA : runA r = 0 := by unfold runA; exact if_pos (by omega)
            have hrB : runB r = 9 := by unfold runB; exact if_neg (by omega)
            rw [show lErrV ws r = 9 by rw [lErr_run h40 (fun i hi => hz i (by omega)), hrA, hrB]; rfl]
            repeat (first
    | (apply s_a TY; exact rfl)
    | (apply s_t; exact rfl; (first | assumption | omega))
    | (apply s_f; exact rfl; (first | assumption | omega))
    | apply w_seq
    | apply w_region
    | apply s_nil
    | apply t_norm
    | apply t_exit
    | apply t_ret
    | apply k_hit
    | apply w_exit
    | apply w_ret
    | apply w_skip
    | (apply w_condT; exact rfl; exact rfl)
    | (apply w_condF; exact rfl; exact rfl)
    | (apply s_k1 (bIsTick_T _); exact rfl; (first | assumption | omega | decide)))
            exact lv_ret (ret1 rfl (res_tmp rfl))
        · have hrA : runA r = 2 := by unfold runA; exact if_neg (by omega)
          rw [show lErrV ws r = 2 by rw [lErr_run h40 (fun i hi => hz i (by omega)), hrA]; rfl]
          repeat (first
    | (apply s_a TY; exact rfl)
    | (apply s_f; exact rfl; (first | assumption | omega))
    | apply w_seq
    | apply w_region
    | apply s_nil
    | apply t_norm
    | apply t_exit
    | apply t_ret
    | apply k_hit
    | apply w_exit
    | apply w_ret
    | (apply w_condT; exact rfl; exact rfl)
    | (apply w_condF; exact rfl; exact rfl)
    | (apply s_k1 (bIsTick_T _); exact rfl; (first | assumption | omega | decide))
    | (apply s_k1 (bIsTick_F _); exact rfl; (first | assumption | omega | decide)))
          exact lv_ret (ret1 rfl (res_tmp rfl))
      · have hrA : runA r = 2 := by unfold runA; exact if_neg (by omega)
        rw [show lErrV ws r = 2 by rw [lErr_run h40 (fun i hi => hz i (by omega)), hrA]; rfl]
        repeat (first
    | (apply s_a TY; exact rfl)
    | (apply s_f; exact rfl; (first | assumption | omega))
    | apply w_seq
    | apply w_region
    | apply s_nil
    | apply t_norm
    | apply t_exit
    | apply t_ret
    | apply k_hit
    | apply w_exit
    | apply w_ret
    | (apply w_condT; exact rfl; exact rfl)
    | (apply w_condF; exact rfl; exact rfl)
    | (apply s_k1 (bIsTick_F _); exact rfl; (first | assumption | omega | decide))
    | (apply s_s; exact rfl))
        exact lv_ret (ret1 rfl (res_tmp rfl))
  · rw [lErr_len h40]
    refine summW Try.func19 rfl rfl 65 rfl (by simp) (fun M0 => ?_)
    repeat (first
    | (apply s_a TY; exact rfl)
    | (apply s_t; exact rfl; (first | assumption | omega))
    | apply w_seq
    | apply w_region
    | apply s_nil
    | apply t_norm
    | apply t_ret
    | apply w_ret
    | (apply w_condT; exact rfl; exact rfl))
    exact lv_ret (ret1 rfl (res_tmp rfl))
set_option maxRecDepth 100000 in
set_option maxHeartbeats 3200000 in
theorem Live_s (s : Setup) (ws : List Rng) (r : Rng) (h : liveErrV s ws r = 0) : Summ Try.prog GG 20 [setF s, .sl ws.length (rngsF ws), .agg (rngF r)] (iv (liveV s ws r)) := by
  rw [← rLive_eq h]
  obtain ⟨z1, z2, z3, z4, z5⟩ := liveErr_parts h
  have hs := setOk_of z1
  have hdd := hs.dead
  have hr : 0 ≤ r.lo ∧ r.lo ≤ r.hi ∧ r.hi ≤ 1000000000000 := by omega
  unfold rLiveV rLiveN
  by_cases hd : 0 < s.dead
  · rw [if_pos hd]
    refine summW Try.func20 rfl rfl 64 rfl (by simp) (fun M0 => ?_)
    repeat (first
    | (apply s_a TY; exact rfl)
    | apply w_seq
    | apply w_region
    | (apply w_draw (id := 1) 3 rfl (by kernel_rfl))
    | apply s_nil
    | apply t_norm
    | apply w_block)
    apply w_loop (fun k : Nat => ⟨(Ab.upd (Ab.upd (Ab.upd (Ab.upd (Ab.upd (Ab.upd (fun _ => .bot) 1 (.f (.sl ws.length (rngsF ws)))) 3 (.f (.pt (setL s) 0))) 5 (.f (.pt (rngF r) 0))) 7 (.f (iv (rliveK s ws r k).1))) 8 (.f (iv (rliveK s ws r k).2))) 9 (.f (iv (k : Nat)))), (fun _ => none), 0⟩) (fun k => k ≤ ws.length) (fun k => ws.length - k) 0 (Nat.zero_le _) (gh_le ⟨le_upd rfl trivial (le_upd rfl trivial (le_upd rfl trivial (le_upd rfl trivial (le_upd rfl trivial (le_upd rfl trivial (le_nil _)))))), le_h0 _ _⟩)
    intro k hk
    have hbd := rliveK_bd (s := s) (ws := ws) hr k
    by_cases hc : k < ws.length
    · have hwz := wA_zero hc (z3 k hc).1
      have hl : rliveK s ws r (k + 1) = ((rliveK s ws r k).1 + max 0 (min (ws[k].hi + 1) (r.hi + 1) - (rliveK s ws r k).2), max (rliveK s ws r k).2 (min (ws[k].hi + s.dead) r.hi + 1)) := by rw [rliveK, getD_at hc, rStep]
      repeat (first
    | (apply s_a TY; exact rfl)
    | (apply s_t; exact rfl; (first | assumption | omega))
    | apply w_seq
    | apply w_region
    | (apply w_draw (id := 5) 15 rfl (by kernel_rfl))
    | apply s_nil
    | apply t_norm
    | apply k_norm
    | apply w_block
    | apply w_skip
    | (apply w_condT; exact rfl; exact rfl)
    | (apply s_c TY; exact rfl; (first | omega | exact ⟨by omega, by (first | with_reducible assumption | ((with_reducible apply rngsF_ne); omega) | assumption)⟩))
    | (apply s_l TY; exact rfl; (first | exact rfl | with_reducible assumption | ((with_reducible apply rngsF_f0); omega) | ((with_reducible apply rngsF_f1); omega) | assumption)))
      exact ⟨k + 1, by omega, by omega, gh_le ⟨le_upd rfl trivial (le_upd (congrArg (fun z : Int × Int => AV.f (iv z.2)) hl) trivial (le_upd (congrArg (fun z : Int × Int => AV.f (iv z.1)) hl) trivial (le_upd rfl trivial (le_upd rfl trivial (le_upd rfl trivial (le_nil _)))))), le_h0 _ _⟩⟩
    · have hke : k = ws.length := by omega
      subst hke
      repeat (first
    | (apply s_a TY; exact rfl)
    | (apply s_f; exact rfl; (first | assumption | omega))
    | apply w_seq
    | apply w_region
    | apply s_nil
    | apply t_norm
    | apply t_exit
    | apply k_hit
    | apply w_exit
    | apply w_ret
    | (apply w_condF; exact rfl; exact rfl)
    | (apply s_s; exact rfl)
    | (apply s_c TY; exact rfl; (first | omega | exact ⟨by omega, by (first | with_reducible assumption | ((with_reducible apply rngsF_ne); omega) | assumption)⟩)))
      exact lv_ret (ret1 rfl (res_tmp rfl))
  · rw [if_neg hd]
    refine summW Try.func20 rfl rfl 64 rfl (by simp) (fun M0 => ?_)
    repeat (first
    | (apply s_a TY; exact rfl)
    | apply w_seq
    | apply w_region
    | (apply w_draw (id := 1) 3 rfl (by kernel_rfl))
    | apply s_nil
    | apply t_norm
    | apply w_block)
    apply w_loop (fun k : Nat => ⟨(Ab.upd (Ab.upd (Ab.upd (Ab.upd (Ab.upd (Ab.upd (fun _ => .bot) 1 (.f (.sl ws.length (rngsF ws)))) 3 (.f (.pt (setL s) 0))) 5 (.f (.pt (rngF r) 0))) 7 (.f (iv (rliveK s ws r 0).1))) 8 (.f (iv (rliveK s ws r 0).2))) 9 (.f (iv ((0 : Nat) : Int)))), (fun _ => none), 0⟩) (fun k => k ≤ 0) (fun k => ws.length - k) 0 (Nat.zero_le _) (gh_le ⟨le_upd rfl trivial (le_upd rfl trivial (le_upd rfl trivial (le_upd rfl trivial (le_upd rfl trivial (le_upd rfl trivial (le_nil _)))))), le_h0 _ _⟩)
    intro k hk
    have hbd := rliveK_bd (s := s) (ws := ws) hr 0
    by_cases hc : 0 < ws.length
    · repeat (first
    | (apply s_a TY; exact rfl)
    | (apply s_t; exact rfl; (first | assumption | omega))
    | (apply s_f; exact rfl; (first | assumption | omega))
    | apply w_seq
    | apply w_region
    | apply s_nil
    | apply t_norm
    | apply t_exit
    | apply k_hit
    | apply w_exit
    | apply w_ret
    | (apply w_condF; exact rfl; exact rfl)
    | (apply s_c TY; exact rfl; (first | omega | exact ⟨by omega, by (first | with_reducible assumption | ((with_reducible apply rngsF_ne); omega) | assumption)⟩)))
      exact lv_ret (ret1 rfl (res_tmp rfl))
    · repeat (first
    | (apply s_a TY; exact rfl)
    | (apply s_f; exact rfl; (first | assumption | omega))
    | apply w_seq
    | apply w_region
    | apply s_nil
    | apply t_norm
    | apply t_exit
    | apply k_hit
    | apply w_exit
    | apply w_ret
    | (apply w_condF; exact rfl; exact rfl)
    | (apply s_s; exact rfl)
    | (apply s_c TY; exact rfl; (first | omega | exact ⟨by omega, by (first | with_reducible assumption | ((with_reducible apply rngsF_ne); omega) | assumption)⟩)))
      exact lv_ret (ret1 rfl (res_tmp rfl))
theorem light_s (r : Rule) : Summ Try.prog GG 29 [.agg (ruleF r)] (bv (lightB r)) := by
  by_cases h1 : r.kind = 3
  · by_cases h2 : r.count ≤ 6
    · rw [show lightB r = true by unfold lightB; rw [decide_eq_false (fun h => h h1), decide_eq_true h2]; rfl]
      refine summW Try.func29 rfl rfl 16 rfl (by simp) (fun M0 => ?_)
      repeat (first
    | (apply s_a TY; exact rfl)
    | (apply s_t; exact rfl; (first | assumption | omega))
    | apply w_seq
    | apply w_region
    | apply s_nil
    | apply t_norm
    | apply w_ret
    | (apply s_s; exact rfl))
      exact lv_ret (ret1 rfl (res_tmp rfl))
    · by_cases h3 : 40 < r.count
      · rw [show lightB r = true by unfold lightB; rw [decide_eq_false (fun h => h h1), decide_eq_false h2, decide_eq_true h3]; rfl]
        refine summW Try.func29 rfl rfl 16 rfl (by simp) (fun M0 => ?_)
        repeat (first
    | (apply s_a TY; exact rfl)
    | (apply s_t; exact rfl; (first | assumption | omega))
    | (apply s_f; exact rfl; (first | assumption | omega))
    | apply w_seq
    | apply w_region
    | apply s_nil
    | apply t_norm
    | apply w_ret)
        exact lv_ret (ret1 rfl (res_tmp rfl))
      · rw [show lightB r = false by unfold lightB; rw [decide_eq_false (fun h => h h1), decide_eq_false h2, decide_eq_false h3]; rfl]
        refine summW Try.func29 rfl rfl 16 rfl (by simp) (fun M0 => ?_)
        repeat (first
    | (apply s_a TY; exact rfl)
    | (apply s_t; exact rfl; (first | assumption | omega))
    | (apply s_f; exact rfl; (first | assumption | omega))
    | apply w_seq
    | apply w_region
    | apply s_nil
    | apply t_norm
    | apply w_ret)
        exact lv_ret (ret1 rfl (res_tmp rfl))
  · rw [show lightB r = true by unfold lightB; rw [decide_eq_true h1]; rfl]
    refine summW Try.func29 rfl rfl 16 rfl (by simp) (fun M0 => ?_)
    repeat (first
    | (apply s_a TY; exact rfl)
    | (apply s_f; exact rfl; (first | assumption | omega))
    | apply w_seq
    | apply w_region
    | apply s_nil
    | apply t_norm
    | apply w_ret
    | (apply s_s; exact rfl))
    exact lv_ret (ret1 rfl (res_tmp rfl))
set_option maxRecDepth 100000 in
theorem FewRules_s (s : Setup) : Summ Try.prog GG 7 [setF s] (bv (fewRulesB s)) := by
  unfold fewRulesB
  by_cases h6 : s.rules.length ≤ 6
  · rw [decide_eq_true h6, Bool.true_and]
    rcases idxP_cases s.rules.length (fun i => !lightB (s.rules.getD i default)) with ⟨he, hz⟩ | ⟨q, hq, hz, hp, he⟩
    · rw [show anyP s.rules.length (fun i => !lightB (s.rules.getD i default)) = false from Bool.eq_false_iff.2 fun h => by have := (idxP_pos _ _).2 h; rw [he] at this; omega]
      refine summW Try.func7 rfl rfl 22 rfl (by simp) (fun M0 => ?_)
      repeat (first
    | (apply s_a TY; exact rfl)
    | (apply s_f; exact rfl; (first | assumption | omega))
    | apply w_seq
    | apply w_region
    | apply s_nil
    | apply t_norm
    | apply w_block
    | apply w_skip
    | (apply w_condF; exact rfl; exact rfl))
      apply w_loop (fun k : Nat => ⟨(Ab.upd (Ab.upd (fun _ => .bot) 1 (.f (.pt (setL s) 0))) 3 (.f (iv (k : Nat)))), (fun _ => none), 0⟩) (fun k => k ≤ s.rules.length) (fun k => s.rules.length - k) 0 (Nat.zero_le _) (gh_le ⟨le_upd rfl trivial (le_upd rfl trivial (le_nil _)), le_h0 _ _⟩)
      intro k hk
      by_cases hc : k < s.rules.length
      · have HL := light_s s.rules[k]
        have hb := hz k hc
        rw [getD_at hc] at hb
        rw [show lightB s.rules[k] = true by cases hx : lightB s.rules[k] with | true => rfl | false => rw [hx] at hb; cases hb] at HL
        repeat (first
    | (apply s_a TY; exact rfl)
    | (apply s_t; exact rfl; (first | assumption | omega))
    | apply w_seq
    | apply w_region
    | apply s_nil
    | apply t_norm
    | apply k_norm
    | apply w_block
    | apply w_skip
    | (apply w_condT; exact rfl; exact rfl)
    | (apply w_condF; exact rfl; exact rfl)
    | (apply s_k (HL); exact rfl)
    | (apply s_c TY; exact rfl; (first | omega | exact ⟨by omega, by (first | with_reducible assumption | ((with_reducible apply rulesF_ne); omega) | assumption)⟩))
    | (apply s_m TY; exact rfl; (first | with_reducible assumption | ((with_reducible apply rulesF_sub); omega) | exact rfl); exact rfl))
        exact ⟨k + 1, by omega, by omega, gh_le ⟨le_upd rfl trivial (le_upd rfl trivial (le_nil _)), le_h0 _ _⟩⟩
      · repeat (first
    | (apply s_a TY; exact rfl)
    | (apply s_f; exact rfl; (first | assumption | omega))
    | apply w_seq
    | apply w_region
    | apply s_nil
    | apply t_norm
    | apply t_exit
    | apply k_hit
    | apply w_exit
    | apply w_ret
    | (apply w_condF; exact rfl; exact rfl))
        exact lv_ret (ret1 rfl (res_tmp rfl))
    · rw [show anyP s.rules.length (fun i => !lightB (s.rules.getD i default)) = true from (idxP_pos _ _).1 (by rw [he]; omega)]
      refine summW Try.func7 rfl rfl 22 rfl (by simp) (fun M0 => ?_)
      repeat (first
    | (apply s_a TY; exact rfl)
    | (apply s_f; exact rfl; (first | assumption | omega))
    | apply w_seq
    | apply w_region
    | apply s_nil
    | apply t_norm
    | apply w_block
    | apply w_skip
    | (apply w_condF; exact rfl; exact rfl))
      apply w_loop (fun k : Nat => ⟨(Ab.upd (Ab.upd (fun _ => .bot) 1 (.f (.pt (setL s) 0))) 3 (.f (iv (k : Nat)))), (fun _ => none), 0⟩) (fun k => k ≤ q) (fun k => q - k) 0 (Nat.zero_le _) (gh_le ⟨le_upd rfl trivial (le_upd rfl trivial (le_nil _)), le_h0 _ _⟩)
      intro k hk
      have hc : k < s.rules.length := by omega
      have HL := light_s s.rules[k]
      by_cases hkq : k = q
      · subst hkq
        rw [getD_at hc] at hp
        rw [show lightB s.rules[k] = false by cases hx : lightB s.rules[k] with | false => rfl | true => rw [hx] at hp; cases hp] at HL
        repeat (first
    | (apply s_a TY; exact rfl)
    | (apply s_t; exact rfl; (first | assumption | omega))
    | apply w_seq
    | apply w_region
    | apply s_nil
    | apply t_norm
    | apply t_ret
    | apply k_ret
    | apply w_block
    | apply w_ret
    | apply w_skip
    | (apply w_condT; exact rfl; exact rfl)
    | (apply s_k (HL); exact rfl)
    | (apply s_c TY; exact rfl; (first | omega | exact ⟨by omega, by (first | with_reducible assumption | ((with_reducible apply rulesF_ne); omega) | assumption)⟩))
    | (apply s_m TY; exact rfl; (first | with_reducible assumption | ((with_reducible apply rulesF_sub); omega) | exact rfl); exact rfl))
        exact lv_ret (ret1 rfl (res_tmp rfl))
      · have hb := hz k (by omega)
        rw [getD_at hc] at hb
        rw [show lightB s.rules[k] = true by cases hx : lightB s.rules[k] with | true => rfl | false => rw [hx] at hb; cases hb] at HL
        repeat (first
    | (apply s_a TY; exact rfl)
    | (apply s_t; exact rfl; (first | assumption | omega))
    | apply w_seq
    | apply w_region
    | apply s_nil
    | apply t_norm
    | apply k_norm
    | apply w_block
    | apply w_skip
    | (apply w_condT; exact rfl; exact rfl)
    | (apply w_condF; exact rfl; exact rfl)
    | (apply s_k (HL); exact rfl)
    | (apply s_c TY; exact rfl; (first | omega | exact ⟨by omega, by (first | with_reducible assumption | ((with_reducible apply rulesF_ne); omega) | assumption)⟩))
    | (apply s_m TY; exact rfl; (first | with_reducible assumption | ((with_reducible apply rulesF_sub); omega) | exact rfl); exact rfl))
        exact ⟨k + 1, by omega, by omega, gh_le ⟨le_upd rfl trivial (le_upd rfl trivial (le_nil _)), le_h0 _ _⟩⟩
  · rw [decide_eq_false h6, Bool.false_and]
    refine summW Try.func7 rfl rfl 22 rfl (by simp) (fun M0 => ?_)
    repeat (first
    | (apply s_a TY; exact rfl)
    | (apply s_t; exact rfl; (first | assumption | omega))
    | apply w_seq
    | apply w_region
    | apply s_nil
    | apply t_norm
    | apply t_ret
    | apply w_ret
    | (apply w_condT; exact rfl; exact rfl))
    exact lv_ret (ret1 rfl (res_tmp rfl))
end Go.Proofs.Ytkgmmlecacbnjaa
namespace Go.Proofs.Ytkgmmlecacbnjaa
open Go Go.RowKit Go.Proofs Go.Shelf Go.Ab
set_option maxRecDepth 100000 in
set_option maxHeartbeats 6400000 in
theorem TriggerLive_s (s : Setup) (ws : List Rng) (r : Rng) : Summ Try.prog GG 4 [setF s, .sl ws.length (rngsF ws), .agg (rngF r)] (bv true) := by
  have HF := FewRules_s s
  have HA := awake_s
  cases hf : fewRulesB s with
  | false =>
    rw [hf] at HF
    refine summW Try.func4 rfl rfl 123 rfl (by simp) (fun M0 => ?_)
    repeat (first
    | (apply s_a TY; exact rfl)
    | apply w_seq
    | apply w_region
    | apply s_nil
    | apply t_norm
    | apply t_ret
    | apply w_ret
    | apply w_skip
    | (apply w_condT; exact rfl; exact rfl)
    | (apply w_condF; exact rfl; exact rfl)
    | (apply s_k (HA); exact rfl)
    | (apply s_k (HF); exact rfl)
    | (apply s_s; exact rfl))
    exact lv_ret (ret1 rfl (res_tmp rfl))
  | true =>
    rw [hf] at HF
    have hr6 : s.rules.length ≤ 6 := by
      unfold fewRulesB at hf
      rw [Bool.and_eq_true, decide_eq_true_eq] at hf
      exact hf.1
    by_cases h42 : 42 < ws.length
    · refine summW Try.func4 rfl rfl 123 rfl (by simp) (fun M0 => ?_)
      repeat (first
    | (apply s_a TY; exact rfl)
    | (apply s_t; exact rfl; (first | assumption | omega))
    | (apply s_f; exact rfl; (first | assumption | omega))
    | apply w_seq
    | apply w_region
    | apply s_nil
    | apply t_norm
    | apply t_ret
    | apply w_ret
    | apply w_skip
    | (apply w_condT; exact rfl; exact rfl)
    | (apply w_condF; exact rfl; exact rfl)
    | (apply s_k (HA); exact rfl)
    | (apply s_k (HF); exact rfl))
      exact lv_ret (ret1 rfl (res_tmp rfl))
    have HS := SetupErr_s s (by omega)
    have HE := LiveErr_s ws r
    have HC := CopySetup_s s (by omega)
    have HR := CopyRanges_s ws (by omega)
    have HL := LiveIn_s s ws r (by omega) (by omega)
    by_cases h12 : 12 < ws.length
    · by_cases h40 : ws.length ≤ 40
      · refine summW Try.func4 rfl rfl 123 rfl (by simp) (fun M0 => ?_)
        repeat (first
    | (apply s_a TY; exact rfl)
    | (apply s_t; exact rfl; (first | assumption | omega))
    | apply w_seq
    | apply w_region
    | apply s_nil
    | apply t_norm
    | apply t_ret
    | apply w_ret
    | apply w_skip
    | (apply w_condT; exact rfl; exact rfl)
    | (apply w_condF; exact rfl; exact rfl)
    | (apply s_k (HA); exact rfl)
    | (apply s_k (HF); exact rfl)
    | (apply s_s; exact rfl))
        exact lv_ret (ret1 rfl (res_tmp rfl))
      · by_cases h1 : (setupChk s).2 = 0
        · have h2 : lErrV ws r = 8 := lErr_len h40
          have h3 : liveErrV s ws r = 8 := by rw [liveErr_b h1, h2]
          rw [h1] at HS
          rw [h2] at HE
          rw [h3, if_neg (by decide)] at HL
          refine summW Try.func4 rfl rfl 123 rfl (by simp) (fun M0 => ?_)
          repeat (first
    | (apply s_a TY; exact rfl)
    | (apply s_t; exact rfl; (first | assumption | omega))
    | (apply s_f; exact rfl; (first | assumption | omega))
    | apply w_seq
    | apply w_region
    | (apply w_draw (id := 5) 10 rfl (by kernel_rfl))
    | apply s_nil
    | apply t_norm
    | apply t_ret
    | apply w_ret
    | apply w_skip
    | (apply w_condT; exact rfl; exact rfl)
    | (apply w_condF; exact rfl; exact rfl)
    | (apply s_k (HA); exact rfl)
    | (apply s_k (HF); exact rfl)
    | (apply s_k (HS); exact rfl)
    | (apply s_k (HE); exact rfl)
    | (apply s_k (HC); exact rfl)
    | (apply s_k (HR); exact rfl)
    | (apply s_k (HL); exact rfl))
          exact lv_ret (ret1 rfl (res_tmp rfl))
        · rw [liveErr_a h1, if_neg h1] at HL
          refine summW Try.func4 rfl rfl 123 rfl (by simp) (fun M0 => ?_)
          repeat (first
    | (apply s_a TY; exact rfl)
    | (apply s_t; exact rfl; (first | assumption | omega))
    | (apply s_f; exact rfl; (first | assumption | omega))
    | apply w_seq
    | apply w_region
    | (apply w_draw (id := 5) 10 rfl (by kernel_rfl))
    | apply s_nil
    | apply t_norm
    | apply t_ret
    | apply w_ret
    | apply w_skip
    | (apply w_condT; exact rfl; exact rfl)
    | (apply w_condF; exact rfl; exact rfl)
    | (apply s_k (HA); exact rfl)
    | (apply s_k (HF); exact rfl)
    | (apply s_k (HS); exact rfl)
    | (apply s_k (HC); exact rfl)
    | (apply s_k (HR); exact rfl)
    | (apply s_k (HL); exact rfl))
          exact lv_ret (ret1 rfl (res_tmp rfl))
    · by_cases h1 : (setupChk s).2 = 0
      · by_cases h2 : lErrV ws r = 0
        · have h3 : liveErrV s ws r = 0 := by rw [liveErr_b h1, h2]
          rw [h1] at HS
          rw [h2] at HE
          rw [h3, if_pos rfl] at HL
          have HV := Live_s s ws r h3
          obtain ⟨z1, z2, z3, z4, z5⟩ := liveErr_parts h3
          have hs := setOk_of z1
          have hdd := hs.dead
          have h4 := liveErr_dead (d := 0) h3 (by omega)
          have h5 := liveErr_dead (d := min 1000000 (s.dead + 1)) h3 (by omega)
          have HL0 := LiveIn_s (withDead s 0) ws r (by show s.rules.length ≤ _; omega) (by omega)
          have HL1 := LiveIn_s (withDead s (min 1000000 (s.dead + 1))) ws r (by show s.rules.length ≤ _; omega) (by omega)
          rw [h4, if_pos rfl, show liveV (withDead s 0) ws r = r.hi - r.lo + 1 by unfold liveV; rw [live_z (by show (0 : Int) ≤ 0; omega)]] at HL0
          rw [h5, if_pos rfl] at HL1
          have hb0 := liveK_bd (s := s) (ws := ws) z5 ws.length
          have hb1 := liveK_bd (s := withDead s (min 1000000 (s.dead + 1))) (ws := ws) z5 ws.length
          have hm := liveV_mono (s := s) (s' := withDead s (min 1000000 (s.dead + 1))) (ws := ws) (r := r) (by show s.dead ≤ min 1000000 (s.dead + 1); omega) z3
          have hb2 : liveV s ws r ≤ r.hi - r.lo + 1 := by unfold liveV; omega
          have hb3 : 0 ≤ liveV (withDead s (min 1000000 (s.dead + 1))) ws r := by unfold liveV; omega
          have HW := bwithin_T (liveV (withDead s (min 1000000 (s.dead + 1))) ws r) 0 (liveV s ws r) ⟨hb3, hm⟩
          clear hb0 hb1 hm z3 h4 h5
          refine summW Try.func4 rfl rfl 123 rfl (by simp) (fun M0 => ?_)
          repeat (first
    | (apply s_a TY; exact rfl)
    | (apply s_t; exact rfl; (first | assumption | omega))
    | (apply s_f; exact rfl; (first | assumption | omega))
    | apply w_seq
    | apply w_region
    | (apply w_draw (id := 5) 10 rfl (by kernel_rfl))
    | (apply w_draw (id := 13) 6 rfl (by kernel_rfl))
    | apply s_nil
    | apply t_norm
    | apply w_skip
    | (apply w_condT; exact rfl; exact rfl)
    | (apply w_condF; exact rfl; exact rfl)
    | (apply s_k (HA); exact rfl)
    | (apply s_k (HF); exact rfl)
    | (apply s_k (HS); exact rfl)
    | (apply s_k (HE); exact rfl)
    | (apply s_k (HC); exact rfl)
    | (apply s_k (HR); exact rfl)
    | (apply s_k (HL); exact rfl)
    | (apply s_k (HV); exact rfl)
    | (apply s_s; exact rfl)
    | (apply s_alloc TY; exact rfl; exact rfl; exact rfl)
    | (apply s_store TY; exact rfl; exact rfl; exact rfl; exact rfl; exact rfl; exact rfl))
          apply w_gh (gh_bots 0 [3] rfl)
          repeat (first
    | (apply s_a TY; exact rfl)
    | (apply s_t; exact rfl; (first | assumption | omega))
    | apply w_seq
    | apply w_region
    | (apply w_draw1 (id := 14) 5 rfl (by kernel_rfl); exact rfl; kernel_rfl)
    | (apply s_sto TY; exact rfl; exact rfl; exact rfl; exact rfl; exact rfl; exact rfl; exact rfl)
    | (apply w_draw (id := 15) 9 rfl (by kernel_rfl))
    | (apply w_draw (id := 16) 9 rfl (by kernel_rfl))
    | apply s_nil
    | apply t_norm
    | apply w_ret
    | (apply s_k (HR); exact rfl)
    | (apply s_k (HL0); exact rfl)
    | (apply s_k (HL1); exact rfl)
    | (apply s_k (HW); exact rfl)
    | (apply s_c TY; exact rfl; omega)
    | (apply s_store TY; exact rfl; exact rfl; exact rfl; exact rfl; exact rfl; exact rfl))
          exact lv_ret (ret1 rfl (res_tmp rfl))
        · rw [h1] at HS
          rw [liveErr_b h1, if_neg h2] at HL
          refine summW Try.func4 rfl rfl 123 rfl (by simp) (fun M0 => ?_)
          repeat (first
    | (apply s_a TY; exact rfl)
    | (apply s_t; exact rfl; (first | assumption | omega))
    | (apply s_f; exact rfl; (first | assumption | omega))
    | apply w_seq
    | apply w_region
    | (apply w_draw (id := 5) 10 rfl (by kernel_rfl))
    | apply s_nil
    | apply t_norm
    | apply t_ret
    | apply w_ret
    | apply w_skip
    | (apply w_condT; exact rfl; exact rfl)
    | (apply w_condF; exact rfl; exact rfl)
    | (apply s_k (HA); exact rfl)
    | (apply s_k (HF); exact rfl)
    | (apply s_k (HS); exact rfl)
    | (apply s_k (HE); exact rfl)
    | (apply s_k (HC); exact rfl)
    | (apply s_k (HR); exact rfl)
    | (apply s_k (HL); exact rfl)
    | (apply s_s; exact rfl))
          exact lv_ret (ret1 rfl (res_tmp rfl))
      · rw [liveErr_a h1, if_neg h1] at HL
        refine summW Try.func4 rfl rfl 123 rfl (by simp) (fun M0 => ?_)
        repeat (first
    | (apply s_a TY; exact rfl)
    | (apply s_t; exact rfl; (first | assumption | omega))
    | (apply s_f; exact rfl; (first | assumption | omega))
    | apply w_seq
    | apply w_region
    | (apply w_draw (id := 5) 10 rfl (by kernel_rfl))
    | apply s_nil
    | apply t_norm
    | apply t_ret
    | apply w_ret
    | apply w_skip
    | (apply w_condT; exact rfl; exact rfl)
    | (apply w_condF; exact rfl; exact rfl)
    | (apply s_k (HA); exact rfl)
    | (apply s_k (HF); exact rfl)
    | (apply s_k (HS); exact rfl)
    | (apply s_k (HC); exact rfl)
    | (apply s_k (HR); exact rfl)
    | (apply s_k (HL); exact rfl)
    | (apply s_s; exact rfl))
        exact lv_ret (ret1 rfl (res_tmp rfl))
end Go.Proofs.Ytkgmmlecacbnjaa
namespace Go.Ab
open Go Go.RowKit Go.Shelf Go.Proofs
def OpensFs (P : Program) (w : World) (fs : List Field) (off tot : Nat) {α : Type} (k : α → List FV) : Prop :=
  ∀ (H : Type) (enc : TypeId × Value → H) (base : Nat) (sp : Nat → Bool) (hd : Bool) (n : Nat) (cs : List Value), cs.length = off + tot → (∀ (i : Nat) (f : Field), fs[i]? = some f → ∃ x, DataW.trod enc P w base sp hd n f.type ((cs.drop f.offset).take (P.cellsOf f.type)) = some x) → ∃ a : α, RepL w (fun _ => False) (cs.drop off) (k a) ∧ ∀ u ∈ cs.drop off, u.oneCell'
section
variable {P : Program} {w : World}
theorem ofs_nil {off : Nat} : OpensFs P w [] off 0 (fun _ : Unit => []) := fun H enc base sp hd n cs hl _ => by
  rw [List.drop_eq_nil_of_le (by omega)]
  exact ⟨(), RepL.nil _ _, by simp⟩
theorem ofs_cons {f : Field} {fs : List Field} {off s tot : Nat} {α β : Type} {g : α → List FV} {k : β → List FV} (hc : P.cellsOf f.type = s) (ho : f.offset = off) (h : Opens P w f.type g) (hr : OpensFs P w fs (off + s) tot k) : OpensFs P w (f :: fs) off (s + tot) (fun p : α × β => g p.1 ++ k p.2) := fun H enc base sp hd n cs hl hx => by
  obtain ⟨x, hx0⟩ := hx 0 f rfl
  obtain ⟨a, r0, q0⟩ := h H enc base sp hd n _ _ hx0
  obtain ⟨b, r1, q1⟩ := hr H enc base sp hd n cs (by omega) (fun i f' hf => hx (i + 1) f' hf)
  rw [ho, hc] at r0 q0
  have hs : cs.drop off = (cs.drop off).take s ++ cs.drop (off + s) := by rw [← List.drop_drop, List.take_append_drop]
  refine ⟨(a, b), ?_, fun u hu => ?_⟩
  · rw [hs]; exact RepL.append r0 r1
  · rw [hs] at hu
    rcases List.mem_append.1 hu with h | h
    · exact q0 u h
    · exact q1 u h
theorem opens_st {T : TypeId} {fs : Array Field} {tot : Nat} {α : Type} {k : α → List FV} (ht : P.underlying T = some (.struct fs)) (ct : P.cellsOf T = tot) (h : OpensFs P w fs.toList 0 tot k) : Opens P w T k := fun H enc base sp hd fuel cs x hx => by
  obtain ⟨xs, n, _, _, hlen, hxl, hf⟩ := DataW.trod_struct ht hx
  have := h H enc base sp hd n cs (by rw [hlen, ct]; omega) (fun i f hi => by
    have hi' : fs[i]? = some f := by rw [← hi]; simp
    have e := hf i f hi'
    have hlt : i < xs.length := by
      rw [hxl]
      exact (Array.getElem?_eq_some_iff.1 hi').1
    rw [List.getElem?_eq_getElem hlt] at e
    exact ⟨_, e⟩)
  rwa [List.drop_zero] at this
end
end Go.Ab
namespace Go.Proofs.Ytkgmmlecacbnjaa
open Go Go.Ab Go.ChangeShapes Go.WideShapes Go.ChangeAt Go.RowKit
theorem ownKnobT : ownKnob Try.prog.godebug = none := by kernel_rfl
theorem laidOutT : laidOutB Try.prog = true := by kernel_rfl
theorem trodAll_stays {H : Type} {enc : TypeId × Value → H} {W W' : World} {sp : Nat → Bool} (hb : Below W.heap.size W W') : ∀ {ts : List TypeId} {vs : List Value} {ds : List (DataW H)} {ps : List MemPlace}, (∀ t ∈ ts, Try.prog.readableRec t = true ∧ t < Try.prog.types.size) → DataW.TrodAll enc Try.prog W 0 (fun _ => true) true ts vs ds ps → (∀ p ∈ ps, p.block < W.heap.size) → (∀ p ∈ ps, sp p.block = true) → DataW.TrodAll enc Try.prog W' 0 sp true ts vs ds ps
  | [], [], [], _, _, h, _, _ => h
  | t :: ts, v :: vs, d :: ds, ps, ht, ⟨p, q, h1, h2, e⟩, hlt, hsp => by
    have hp : ∀ x ∈ p, x ∈ ps := fun x hx => by rw [e]; exact List.mem_append_left _ hx
    have hq : ∀ x ∈ q, x ∈ ps := fun x hx => by rw [e]; exact List.mem_append_right _ hx
    exact ⟨p, q, WideElems.Trod_stays laidOutT (ht t (by simp)).1 (ht t (by simp)).2 h1 (fun x hx => hb.same (hlt x (hp x hx))) (fun x hx => hsp x (hp x hx)),
      trodAll_stays hb (fun u hu => ht u (by simp [hu])) h2 (fun x hx => hlt x (hq x hx)) (fun x hx => hsp x (hq x hx)), e⟩
theorem post_law {H : Type} {enc : TypeId × Value → H} {f : Func} {s : ChangeSpec} {W W' : World} {args : Array Value} {ds gs : List (DataW H)} {before : List MemPlace}
    (hW : DataW.Whole enc Try.prog f.params.toList s.vars false W args.toList ds gs before) (hv : s.vars = []) (hr : f.resultTypes = #[4])
    (ht : ∀ t ∈ f.params.toList, Try.prog.readableRec t = true ∧ t < Try.prog.types.size)
    (hres : (s.fn H (ds ++ gs)).results = [.lit (.bool true)]) (hargs : (s.fn H (ds ++ gs)).args = ds) (hvs : (s.fn H (ds ++ gs)).vars = [])
    (hb : Below W.heap.size W W') : s.post enc Try.prog f false true false false W args (.bool true) W' := by
  have hlt := hW.lt
  have hW0 := hW
  obtain ⟨p, q, h1, h2, e, hz, hn⟩ := hW
  have h2' := h2
  rw [hv] at h2'
  have hq : gs = [] ∧ q = [] := by
    cases gs with
    | nil => exact ⟨rfl, h2'⟩
    | cons g r => exact absurd h2' (by intro h; cases h)
  obtain ⟨rfl, rfl⟩ := hq
  rw [List.append_nil] at e
  subst e
  refine ⟨ds, [], before, [], before, [], hW0, ?_, ?_, ?_, Below.frame hb _, fun h => by cases h⟩
  · rw [hr, hres]; exact trodAll_mk1 (shut_bool Try.underlying4 true)
  · rw [hargs]
    exact trodAll_stays hb ht h1 hlt (fun x hx => by simpa using hlt x hx)
  · rw [hv, hvs]; rfl
section
variable {W : World}
theorem opens_i : Opens Try.prog W 3 (fun z : Int => [iv z]) := opens_int Try.underlying3
theorem opens_rule : Opens Try.prog W 52 ruleF := (opens_st Try.underlying52 (by kernel_rfl) (ofs_cons (s := 1) (by kernel_rfl) rfl opens_i (ofs_cons (s := 1) (by kernel_rfl) rfl opens_i (ofs_cons (s := 1) (by kernel_rfl) rfl opens_i (ofs_cons (s := 1) (by kernel_rfl) rfl opens_i (ofs_cons (s := 1) (by kernel_rfl) rfl opens_i (ofs_nil))))))).map (fun p => ⟨p.1, p.2.1, p.2.2.1, p.2.2.2.1, p.2.2.2.2.1⟩) fun _ => rfl
theorem opens_rules : Opens Try.prog W 25 (fun l : List Rule => [.sl l.length (rulesF l)]) := opens_sl (s := 5) Try.underlying25 (by kernel_rfl) (by decide) opens_rule
theorem opens_setup : Opens Try.prog W 27 setL := (opens_st Try.underlying27 (by kernel_rfl) (ofs_cons (s := 1) (by kernel_rfl) rfl opens_rules (ofs_cons (s := 1) (by kernel_rfl) rfl opens_i (ofs_cons (s := 1) (by kernel_rfl) rfl opens_i (ofs_cons (s := 1) (by kernel_rfl) rfl opens_i (ofs_nil)))))).map (fun p => ⟨p.1, p.2.1, p.2.2.1, p.2.2.2.1⟩) fun _ => rfl
theorem opens_rng : Opens Try.prog W 42 rngF := (opens_st Try.underlying42 (by kernel_rfl) (ofs_cons (s := 1) (by kernel_rfl) rfl opens_i (ofs_cons (s := 1) (by kernel_rfl) rfl opens_i (ofs_nil)))).map (fun p => ⟨p.1, p.2.1⟩) fun _ => rfl
theorem opens_rngs : Opens Try.prog W 57 (fun l : List Rng => [.sl l.length (rngsF l)]) := opens_sl (s := 2) Try.underlying57 (by kernel_rfl) (by decide) opens_rng
end
set_option maxRecDepth 100000 in
theorem arg_st {H : Type} {enc : TypeId × Value → H} {W : World} {base : Nat} {T : TypeId} {fs : Array Field} {α : Type} {f : α → List FV} {v : Value} {d : DataW H} {ps : List MemPlace} (h : Opens Try.prog W T f) (ht : Try.prog.underlying T = some (.struct fs)) (hv : Value.okWide Try.prog W .any base T v) (hd : DataW.Trod enc Try.prog W 0 (fun _ => true) true T v d ps) : ∃ a, RepF W (fun _ => False) v (.agg (f a)) := by
  obtain ⟨cs, e, _⟩ := okWide_struct ht hv
  exact arg_agg h e hd
set_option maxRecDepth 100000 in
theorem arg_sl {H : Type} {enc : TypeId × Value → H} {W : World} {base : Nat} {T E : TypeId} {α : Type} {f : α → FV} {v : Value} {d : DataW H} {ps : List MemPlace} (h : Opens Try.prog W T (fun a => [f a])) (ht : Try.prog.underlying T = some (.slice E)) (hv : Value.okWide Try.prog W .any base T v) (hd : DataW.Trod enc Try.prog W 0 (fun _ => true) true T v d ps) : ∃ a, RepF W (fun _ => False) v (f a) := by
  obtain ⟨a, n, c, rfl⟩ := okWide_slice ht hv
  exact arg_one h rfl hd
theorem law_calls {f : Nat} {xs : List FV} (S : Summ Try.prog GG f xs (.v (.bool true))) {W : World} {args : Array Value} (R : RepL W (fun _ => False) args.toList xs) : Calls Try.prog f args W fun e W' => e = .returned (.bool true) ∧ Below W.heap.size W W' := by
  have := S.call W (fun _ => False) args.toList (fun _ h => h.elim) (fun g cs h => by cases h) R
  simp only [Array.toArray_toList] at this
  refine this.mono fun e w' ⟨v, h1, h2, h3⟩ => ⟨?_, h3⟩
  rw [h1, repV h2]
end Go.Proofs.Ytkgmmlecacbnjaa
