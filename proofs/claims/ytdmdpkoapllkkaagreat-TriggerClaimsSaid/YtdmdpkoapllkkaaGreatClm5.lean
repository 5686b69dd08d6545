/- Laws on which the proofs of this seat stand. No condition. -/
import Derived.Test.YtdmdpkoapllkkaaGreatClm4
import Derived.Shelf.SlSortCmp.NoneTotal
import Derived.Lib.SliceRun
import Derived.DataShut
import Derived.Test.YtdmdpkoapllkkaaGreatRows
import Derived.WalkKit
import Derived.ProofKit
import Derived.OpenShut
import Derived.Stop.Joined
namespace Go.Proofs.YtdmdpkoapllkkaaGreat
open Go Go.RowKit Go.Proofs Go.Shelf Go.Ab
theorem Size_s (n : Int) (h : -1000000000000000 ≤ n ∧ n ≤ 1000000000000000) : Summ Tryz.prog GG 176 [iv n] (iv (max n (-n))) := by
  refine summW Tryz.func176 rfl rfl 7 rfl (by simp) (fun M0 => ?_)
  repeat (first
    | (apply s_a TY; exact rfl)
    | apply w_seq
    | apply w_region
    | apply s_nil
    | apply t_norm
    | apply w_ret
    | (apply s_c TY; exact rfl; omega))
  exact lv_ret (ret1 rfl (res_tmp rfl))
set_option maxRecDepth 100000 in
set_option maxHeartbeats 6400000 in
theorem chain_s (l : List Site) (r : Rule) (h : List Hit) (way : Int) (hw : -1 ≤ way ∧ way ≤ 1) (ho : HitsOk l h) : ∀ (m : Nat) (z : Int) (a : Nat), a < h.length → z = (m : Int) + 1 → m ≤ 100 → Summ Tryz.prog GG 158 [.agg (ruleF r), .sl h.length (hitsF h), iv (a : Nat), iv z, iv way] (iv (chainV r h way m a))
  | 0, z, a, ha, hz, _ => by
    rw [show chainV r h way 0 a = h[a].tm by unfold chainV; rw [getD_at ha]]
    refine summW Tryz.func158 rfl rfl 97 rfl (by simp) (fun M0 => ?_)
    repeat (first
    | (apply s_a TY; exact rfl)
    | (apply s_t; exact rfl; (first | assumption | omega))
    | apply w_seq
    | apply w_region
    | apply s_nil
    | apply t_norm
    | apply t_ret
    | apply w_ret
    | (apply w_condT; exact rfl; exact rfl)
    | (apply s_c TY; exact rfl; (first | omega | exact ⟨by omega, by (first | with_reducible assumption | ((with_reducible apply hitsF_ne); omega) | assumption)⟩))
    | (apply s_l TY; exact rfl; (first | exact rfl | with_reducible assumption | ((with_reducible apply hitsF_f0); omega) | ((with_reducible apply hitsF_f1); omega) | ((with_reducible apply hitsF_f2); omega) | assumption)))
    exact lv_ret (ret1 rfl (res_tmp rfl))
  | m + 1, z, a, ha, hz, hm => by
    rw [chainV_chK]
    have h40 := ho.len
    have Ha := ho.hit a ha
    have Ha1 := Ha.tm
    have Ha2 := Ha.sensor
    refine summW Tryz.func158 rfl rfl 97 rfl (by simp) (fun M0 => ?_)
    repeat (first
    | (apply s_a TY; exact rfl)
    | (apply s_f; exact rfl; (first | assumption | omega))
    | apply w_seq
    | apply w_region
    | apply s_nil
    | apply t_norm
    | apply w_block
    | apply w_skip
    | (apply w_condF; exact rfl; exact rfl))
    apply w_loop (fun k : Nat => ⟨(Ab.upd (Ab.upd (Ab.upd (Ab.upd (Ab.upd (Ab.upd (Ab.upd (fun _ => .bot) 1 (.f (.sl h.length (hitsF h)))) 2 (.f (iv (a : Nat)))) 3 (.f (iv z))) 4 (.f (iv way))) 5 (.f (.pt (ruleF r) 0))) 11 (.f (iv (chK r h way m a (k : Nat))))) 12 (.f (iv ((k : Nat) : Int)))), (fun _ => none), 0⟩) (fun k => k ≤ h.length) (fun k => h.length - k) 0 (Nat.zero_le _) (gh_le ⟨le_upd rfl trivial (le_upd rfl trivial (le_upd rfl trivial (le_upd rfl trivial (le_upd rfl trivial (le_upd rfl trivial (le_upd rfl trivial (le_nil _))))))), le_h0 _ _⟩)
    intro k hk
    by_cases hc : k < h.length
    · have Hk := ho.hit k hc
      have Hk1 := Hk.tm
      have Hk2 := Hk.sensor
      have IHk := fun z (hz : z = (m : Int) + 1) => chain_s l r h way hw ho m z k hc hz (by omega)
      by_cases c1 : h[k].line = h[a].line
      · by_cases c2 : h[k].sensor = h[a].sensor + way
        · by_cases c3 : r.reach ≤ h[k].tm - h[a].tm
          · by_cases c4 : h[k].tm - h[a].tm ≤ r.window
            · by_cases c5 : 0 ≤ chainV r h way m k
              · by_cases c6 : chK r h way m a k < 0
                · have hl : chK r h way m a (k + 1) = chainV r h way m k := by rw [chK_succ, if_pos (by unfold folB withinB; rw [getD_at hc, getD_at ha, decide_eq_true c1, decide_eq_true c2, decide_eq_true c3, decide_eq_true c4]; rfl)]; unfold bestA; exact if_pos (by omega)
                  repeat (first
    | (apply s_a TY; exact rfl)
    | (apply s_t; exact rfl; (first | assumption | omega))
    | apply w_seq
    | apply w_region
    | (apply w_draw (id := 7) 10 rfl (by kernel_rfl))
    | (apply w_draw (id := 8) 36 rfl (by kernel_rfl))
    | apply s_nil
    | apply t_norm
    | apply k_norm
    | apply w_block
    | apply w_skip
    | (apply w_condT; exact rfl; exact rfl)
    | (apply s_k1 (IHk _); exact rfl; (first | assumption | omega | decide))
    | (apply s_s; exact rfl)
    | (apply s_c TY; exact rfl; (first | omega | exact ⟨by omega, by (first | with_reducible assumption | ((with_reducible apply hitsF_ne); omega) | assumption)⟩))
    | (apply s_l TY; exact rfl; (first | exact rfl | with_reducible assumption | ((with_reducible apply hitsF_f0); omega) | ((with_reducible apply hitsF_f1); omega) | ((with_reducible apply hitsF_f2); omega) | assumption)))
                  exact ⟨k + 1, by omega, by omega, gh_le ⟨le_upd rfl trivial (le_upd (congrArg (fun z : Int => AV.f (iv z)) hl) trivial (le_upd rfl trivial (le_upd rfl trivial (le_upd rfl trivial (le_upd rfl trivial (le_upd rfl trivial (le_nil _))))))), le_h0 _ _⟩⟩
                · by_cases c7 : chainV r h way m k < chK r h way m a k
                  · have hl : chK r h way m a (k + 1) = chainV r h way m k := by rw [chK_succ, if_pos (by unfold folB withinB; rw [getD_at hc, getD_at ha, decide_eq_true c1, decide_eq_true c2, decide_eq_true c3, decide_eq_true c4]; rfl)]; unfold bestA; exact if_pos (by omega)
                    repeat (first
    | (apply s_a TY; exact rfl)
    | (apply s_t; exact rfl; (first | assumption | omega))
    | (apply s_f; exact rfl; (first | assumption | omega))
    | apply w_seq
    | apply w_region
    | (apply w_draw (id := 7) 10 rfl (by kernel_rfl))
    | (apply w_draw (id := 8) 36 rfl (by kernel_rfl))
    | apply s_nil
    | apply t_norm
    | apply k_norm
    | apply w_block
    | apply w_skip
    | (apply w_condT; exact rfl; exact rfl)
    | (apply s_k1 (IHk _); exact rfl; (first | assumption | omega | decide))
    | (apply s_c TY; exact rfl; (first | omega | exact ⟨by omega, by (first | with_reducible assumption | ((with_reducible apply hitsF_ne); omega) | assumption)⟩))
    | (apply s_l TY; exact rfl; (first | exact rfl | with_reducible assumption | ((with_reducible apply hitsF_f0); omega) | ((with_reducible apply hitsF_f1); omega) | ((with_reducible apply hitsF_f2); omega) | assumption)))
                    exact ⟨k + 1, by omega, by omega, gh_le ⟨le_upd rfl trivial (le_upd (congrArg (fun z : Int => AV.f (iv z)) hl) trivial (le_upd rfl trivial (le_upd rfl trivial (le_upd rfl trivial (le_upd rfl trivial (le_upd rfl trivial (le_nil _))))))), le_h0 _ _⟩⟩
                  · have hl : chK r h way m a (k + 1) = chK r h way m a k := by rw [chK_succ, if_pos (by unfold folB withinB; rw [getD_at hc, getD_at ha, decide_eq_true c1, decide_eq_true c2, decide_eq_true c3, decide_eq_true c4]; rfl)]; unfold bestA; exact if_neg (by omega)
                    repeat (first
    | (apply s_a TY; exact rfl)
    | (apply s_t; exact rfl; (first | assumption | omega))
    | (apply s_f; exact rfl; (first | assumption | omega))
    | apply w_seq
    | apply w_region
    | (apply w_draw (id := 7) 10 rfl (by kernel_rfl))
    | (apply w_draw (id := 8) 36 rfl (by kernel_rfl))
    | apply s_nil
    | apply t_norm
    | apply k_norm
    | apply w_block
    | apply w_skip
    | (apply w_condT; exact rfl; exact rfl)
    | (apply w_condF; exact rfl; exact rfl)
    | (apply s_k1 (IHk _); exact rfl; (first | assumption | omega | decide))
    | (apply s_c TY; exact rfl; (first | omega | exact ⟨by omega, by (first | with_reducible assumption | ((with_reducible apply hitsF_ne); omega) | assumption)⟩))
    | (apply s_l TY; exact rfl; (first | exact rfl | with_reducible assumption | ((with_reducible apply hitsF_f0); omega) | ((with_reducible apply hitsF_f1); omega) | ((with_reducible apply hitsF_f2); omega) | assumption)))
                    exact ⟨k + 1, by omega, by omega, gh_le ⟨le_upd rfl trivial (le_upd (congrArg (fun z : Int => AV.f (iv z)) hl) trivial (le_upd rfl trivial (le_upd rfl trivial (le_upd rfl trivial (le_upd rfl trivial (le_upd rfl trivial (le_nil _))))))), le_h0 _ _⟩⟩
              · have hl : chK r h way m a (k + 1) = chK r h way m a k := by rw [chK_succ, if_pos (by unfold folB withinB; rw [getD_at hc, getD_at ha, decide_eq_true c1, decide_eq_true c2, decide_eq_true c3, decide_eq_true c4]; rfl)]; unfold bestA; exact if_neg (by omega)
                repeat (first
    | (apply s_a TY; exact rfl)
    | (apply s_t; exact rfl; (first | assumption | omega))
    | (apply s_f; exact rfl; (first | assumption | omega))
    | apply w_seq
    | apply w_region
    | (apply w_draw (id := 7) 10 rfl (by kernel_rfl))
    | (apply w_draw (id := 8) 36 rfl (by kernel_rfl))
    | apply s_nil
    | apply t_norm
    | apply k_norm
    | apply w_block
    | apply w_skip
    | (apply w_condT; exact rfl; exact rfl)
    | (apply w_condF; exact rfl; exact rfl)
    | (apply s_k1 (IHk _); exact rfl; (first | assumption | omega | decide))
    | (apply s_s; exact rfl)
    | (apply s_c TY; exact rfl; (first | omega | exact ⟨by omega, by (first | with_reducible assumption | ((with_reducible apply hitsF_ne); omega) | assumption)⟩))
    | (apply s_l TY; exact rfl; (first | exact rfl | with_reducible assumption | ((with_reducible apply hitsF_f0); omega) | ((with_reducible apply hitsF_f1); omega) | ((with_reducible apply hitsF_f2); omega) | assumption)))
                exact ⟨k + 1, by omega, by omega, gh_le ⟨le_upd rfl trivial (le_upd (congrArg (fun z : Int => AV.f (iv z)) hl) trivial (le_upd rfl trivial (le_upd rfl trivial (le_upd rfl trivial (le_upd rfl trivial (le_upd rfl trivial (le_nil _))))))), le_h0 _ _⟩⟩
            · have hl : chK r h way m a (k + 1) = chK r h way m a k := by
                rw [chK_succ, if_neg]
                unfold folB withinB
                rw [getD_at hc, getD_at ha]
                simp only [Bool.and_eq_true, decide_eq_true_eq]
                omega
              repeat (first
    | (apply s_a TY; exact rfl)
    | (apply s_t; exact rfl; (first | assumption | omega))
    | (apply s_f; exact rfl; (first | assumption | omega))
    | apply w_seq
    | apply w_region
    | (apply w_draw (id := 7) 10 rfl (by kernel_rfl))
    | (apply w_draw (id := 8) 36 rfl (by kernel_rfl))
    | apply s_nil
    | apply t_norm
    | apply k_norm
    | apply w_block
    | apply w_skip
    | (apply w_condT; exact rfl; exact rfl)
    | (apply w_condF; exact rfl; exact rfl)
    | (apply s_c TY; exact rfl; (first | omega | exact ⟨by omega, by (first | with_reducible assumption | ((with_reducible apply hitsF_ne); omega) | assumption)⟩))
    | (apply s_l TY; exact rfl; (first | exact rfl | with_reducible assumption | ((with_reducible apply hitsF_f0); omega) | ((with_reducible apply hitsF_f1); omega) | ((with_reducible apply hitsF_f2); omega) | assumption)))
              exact ⟨k + 1, by omega, by omega, gh_le ⟨le_upd rfl trivial (le_upd (congrArg (fun z : Int => AV.f (iv z)) hl) trivial (le_upd rfl trivial (le_upd rfl trivial (le_upd rfl trivial (le_upd rfl trivial (le_upd rfl trivial (le_nil _))))))), le_h0 _ _⟩⟩
          · have hl : chK r h way m a (k + 1) = chK r h way m a k := by
              rw [chK_succ, if_neg]
              unfold folB withinB
              rw [getD_at hc, getD_at ha]
              simp only [Bool.and_eq_true, decide_eq_true_eq]
              omega
            repeat (first
    | (apply s_a TY; exact rfl)
    | (apply s_t; exact rfl; (first | assumption | omega))
    | (apply s_f; exact rfl; (first | assumption | omega))
    | apply w_seq
    | apply w_region
    | (apply w_draw (id := 7) 10 rfl (by kernel_rfl))
    | (apply w_draw (id := 8) 36 rfl (by kernel_rfl))
    | apply s_nil
    | apply t_norm
    | apply k_norm
    | apply w_block
    | apply w_skip
    | (apply w_condT; exact rfl; exact rfl)
    | (apply w_condF; exact rfl; exact rfl)
    | (apply s_s; exact rfl)
    | (apply s_c TY; exact rfl; (first | omega | exact ⟨by omega, by (first | with_reducible assumption | ((with_reducible apply hitsF_ne); omega) | assumption)⟩))
    | (apply s_l TY; exact rfl; (first | exact rfl | with_reducible assumption | ((with_reducible apply hitsF_f0); omega) | ((with_reducible apply hitsF_f1); omega) | ((with_reducible apply hitsF_f2); omega) | assumption)))
            exact ⟨k + 1, by omega, by omega, gh_le ⟨le_upd rfl trivial (le_upd (congrArg (fun z : Int => AV.f (iv z)) hl) trivial (le_upd rfl trivial (le_upd rfl trivial (le_upd rfl trivial (le_upd rfl trivial (le_upd rfl trivial (le_nil _))))))), le_h0 _ _⟩⟩
        · have hl : chK r h way m a (k + 1) = chK r h way m a k := by
            rw [chK_succ, if_neg]
            unfold folB withinB
            rw [getD_at hc, getD_at ha]
            simp only [Bool.and_eq_true, decide_eq_true_eq]
            omega
          repeat (first
    | (apply s_a TY; exact rfl)
    | (apply s_t; exact rfl; (first | assumption | omega))
    | (apply s_f; exact rfl; (first | assumption | omega))
    | apply w_seq
    | apply w_region
    | (apply w_draw (id := 7) 10 rfl (by kernel_rfl))
    | (apply w_draw (id := 8) 36 rfl (by kernel_rfl))
    | apply s_nil
    | apply t_norm
    | apply k_norm
    | apply w_block
    | apply w_skip
    | (apply w_condT; exact rfl; exact rfl)
    | (apply w_condF; exact rfl; exact rfl)
    | (apply s_s; exact rfl)
    | (apply s_c TY; exact rfl; (first | omega | exact ⟨by omega, by (first | with_reducible assumption | ((with_reducible apply hitsF_ne); omega) | assumption)⟩))
    | (apply s_l TY; exact rfl; (first | exact rfl | with_reducible assumption | ((with_reducible apply hitsF_f0); omega) | ((with_reducible apply hitsF_f1); omega) | ((with_reducible apply hitsF_f2); omega) | assumption)))
          exact ⟨k + 1, by omega, by omega, gh_le ⟨le_upd rfl trivial (le_upd (congrArg (fun z : Int => AV.f (iv z)) hl) trivial (le_upd rfl trivial (le_upd rfl trivial (le_upd rfl trivial (le_upd rfl trivial (le_upd rfl trivial (le_nil _))))))), le_h0 _ _⟩⟩
      · have hl : chK r h way m a (k + 1) = chK r h way m a k := by
          rw [chK_succ, if_neg]
          unfold folB withinB
          rw [getD_at hc, getD_at ha]
          simp only [Bool.and_eq_true, decide_eq_true_eq]
          omega
        repeat (first
    | (apply s_a TY; exact rfl)
    | (apply s_t; exact rfl; (first | assumption | omega))
    | (apply s_f; exact rfl; (first | assumption | omega))
    | apply w_seq
    | apply w_region
    | (apply w_draw (id := 7) 10 rfl (by kernel_rfl))
    | (apply w_draw (id := 8) 36 rfl (by kernel_rfl))
    | apply s_nil
    | apply t_norm
    | apply k_norm
    | apply w_block
    | apply w_skip
    | (apply w_condT; exact rfl; exact rfl)
    | (apply w_condF; exact rfl; exact rfl)
    | (apply s_s; exact rfl)
    | (apply s_c TY; exact rfl; (first | omega | exact ⟨by omega, by (first | with_reducible assumption | ((with_reducible apply hitsF_ne); omega) | assumption)⟩))
    | (apply s_l TY; exact rfl; (first | exact rfl | with_reducible assumption | ((with_reducible apply hitsF_f0); omega) | ((with_reducible apply hitsF_f1); omega) | ((with_reducible apply hitsF_f2); omega) | assumption)))
        exact ⟨k + 1, by omega, by omega, gh_le ⟨le_upd rfl trivial (le_upd (congrArg (fun z : Int => AV.f (iv z)) hl) trivial (le_upd rfl trivial (le_upd rfl trivial (le_upd rfl trivial (le_upd rfl trivial (le_upd rfl trivial (le_nil _))))))), le_h0 _ _⟩⟩
    · have hke : k = h.length := by omega
      subst hke
      repeat (first
    | (apply s_a TY; exact rfl)
    | (apply s_f; exact rfl; (first | assumption | omega))
    | apply w_seq
    | apply w_region
    | apply s_nil
    | apply t_norm
    | apply t_exit
    | apply k_hit
    | apply w_exit
    | apply w_ret
    | (apply w_condF; exact rfl; exact rfl))
      exact lv_ret (ret1 rfl (res_tmp rfl))
def cntB (l : List Site) (r : Rule) (a b : Hit) : Bool := !(decide (b.tm < a.tm) || decide (a.tm + r.window < b.tm) || decide (before b a)) && nearB l r a b
theorem cntB_T {l : List Site} {r : Rule} {a b : Hit} {v : Bool} (h1 : ¬ b.tm < a.tm) (h2 : ¬ a.tm + r.window < b.tm) (h3 : ¬ before b a) (h : nearB l r a b = v) : cntB l r a b = v := by
  unfold cntB
  rw [decide_eq_false h1, decide_eq_false h2, decide_eq_false h3, h]; rfl
theorem cntB_F {l : List Site} {r : Rule} {a b : Hit} (h : b.tm < a.tm ∨ a.tm + r.window < b.tm ∨ before b a) : cntB l r a b = false := by
  unfold cntB
  rcases h with h | h | h
  · rw [decide_eq_true h]; rfl
  · rw [decide_eq_true h, Bool.or_true]; rfl
  · rw [decide_eq_true h, Bool.or_true]; rfl
theorem near_line {l : List Site} {r : Rule} {a b : Hit} (k1 : r.kind = 1) (hl : b.line = a.line) : nearB l r a b = decide (max (b.sensor - a.sensor) (-(b.sensor - a.sensor)) ≤ r.reach) := by
  unfold nearB withinB
  rw [if_pos k1, decide_eq_true hl.symm, Bool.true_and, Bool.eq_iff_iff]
  simp only [Bool.and_eq_true, decide_eq_true_eq]
  omega
theorem near_lineF {l : List Site} {r : Rule} {a b : Hit} (k1 : r.kind = 1) (hl : ¬ b.line = a.line) : nearB l r a b = false := by
  unfold nearB
  rw [if_pos k1, decide_eq_false (fun e => hl e.symm)]; rfl
theorem near_cyl {l : List Site} {r : Rule} {a b : Hit} (k1 : ¬ r.kind = 1) (k2 : r.kind = 2) {s t : Site} (ea : siteAt l a = s) (eb : siteAt l b = t) (hx : (s.x - t.x) * (s.x - t.x) + (s.y - t.y) * (s.y - t.y) ≤ r.reach * r.reach) : nearB l r a b = decide (max (s.z - t.z) (-(s.z - t.z)) ≤ r.height) := by
  unfold nearB withinB
  rw [if_neg k1, if_pos k2, ea, eb, decide_eq_true hx, Bool.true_and, Bool.eq_iff_iff]
  simp only [Bool.and_eq_true, decide_eq_true_eq]
  omega
theorem near_cylF {l : List Site} {r : Rule} {a b : Hit} (k1 : ¬ r.kind = 1) (k2 : r.kind = 2) {s t : Site} (ea : siteAt l a = s) (eb : siteAt l b = t) (hx : ¬ (s.x - t.x) * (s.x - t.x) + (s.y - t.y) * (s.y - t.y) ≤ r.reach * r.reach) : nearB l r a b = false := by
  unfold nearB
  rw [if_neg k1, if_pos k2, ea, eb, decide_eq_false hx]; rfl
theorem near_any {l : List Site} {r : Rule} {a b : Hit} (k1 : ¬ r.kind = 1) (k2 : ¬ r.kind = 2) : nearB l r a b = true := by
  unfold nearB
  rw [if_neg k1, if_neg k2]
set_option maxRecDepth 100000 in
set_option maxHeartbeats 3200000 in
theorem Counts_s (l : List Site) (r : Rule) (a b : Hit) (hl0 : ArrOk l) (hr : ruleErr r = 0) (ha : HitOk l a) (hb : HitOk l b) : Summ Tryz.prog GG 159 [arrF l, .agg (ruleF r), .agg (hitF a), .agg (hitF b)] (bv (cntB l r a b)) := by
  obtain ⟨r1, r2, r3, r4, r5, r6⟩ := ruleOk_of hr
  obtain ⟨ka, hka, sa, _⟩ := ha.site
  obtain ⟨kb, hkb, sb, _⟩ := hb.site
  have hlen := hl0.len
  have HA := SiteOf_s l a (by omega)
  have HB := SiteOf_s l b (by omega)
  rw [siteX_N hl0 ha, show siteN l a = (ka : Int) by unfold siteN; rw [sa]; rfl] at HA
  rw [siteX_N hl0 hb, show siteN l b = (kb : Int) by unfold siteN; rw [sb]; rfl] at HB
  have ea : siteAt l a = l[ka] := by unfold siteAt; rw [sa]; exact getD_at hka
  have eb : siteAt l b = l[kb] := by unfold siteAt; rw [sb]; exact getD_at hkb
  have ra := hl0.right ka hka
  have rb := hl0.right kb hkb
  rw [getD_at hka] at ra
  rw [getD_at hkb] at rb
  unfold siteRight at ra rb
  have lal := ha.line
  have las := ha.sensor
  have lat := ha.tm
  have lbl := hb.line
  have lbs := hb.sensor
  have lbt := hb.tm
  have px := sq_le (a := l[ka].x - l[kb].x) (b := 200000) (by omega)
  have py := sq_le (a := l[ka].y - l[kb].y) (b := 200000) (by omega)
  have pr := sq_le (a := r.reach) (b := 1000000) (by omega)
  by_cases t1 : b.tm < a.tm
  · rw [cntB_F (.inl t1)]
    refine summW Tryz.func159 rfl rfl 103 rfl (by simp) (fun M0 => ?_)
    repeat (first
    | (apply s_a TY; exact rfl)
    | (apply s_t; exact rfl; (first | assumption | omega))
    | apply w_seq
    | apply w_region
    | apply s_nil
    | apply t_norm
    | apply t_ret
    | apply w_ret
    | (apply w_condT; exact rfl; exact rfl)
    | (apply s_s; exact rfl))
    exact lv_ret (ret1 rfl (res_tmp rfl))
  · by_cases t2 : a.tm + r.window < b.tm
    · rw [cntB_F (.inr (.inl t2))]
      refine summW Tryz.func159 rfl rfl 103 rfl (by simp) (fun M0 => ?_)
      repeat (first
    | (apply s_a TY; exact rfl)
    | (apply s_t; exact rfl; (first | assumption | omega))
    | (apply s_f; exact rfl; (first | assumption | omega))
    | apply w_seq
    | apply w_region
    | apply s_nil
    | apply t_norm
    | apply t_ret
    | apply w_ret
    | (apply w_condT; exact rfl; exact rfl)
    | (apply s_s; exact rfl)
    | (apply s_c TY; exact rfl; (first | omega | exact ⟨by omega, by (first | with_reducible assumption | ((with_reducible apply sitesF_ne); omega) | assumption)⟩)))
      exact lv_ret (ret1 rfl (res_tmp rfl))
    · by_cases t3 : before b a
      · rw [cntB_F (.inr (.inr t3))]
        refine summW Tryz.func159 rfl rfl 103 rfl (by simp) (fun M0 => ?_)
        repeat (first
    | (apply s_a TY; exact rfl)
    | (apply s_f; exact rfl; (first | assumption | omega))
    | apply w_seq
    | apply w_region
    | apply s_nil
    | apply t_norm
    | apply t_ret
    | apply w_ret
    | (apply w_condT; exact rfl; exact rfl)
    | (apply s_k1 (isBefore_T _ _); exact rfl; (first | assumption | omega | decide))
    | (apply s_c TY; exact rfl; (first | omega | exact ⟨by omega, by (first | with_reducible assumption | ((with_reducible apply sitesF_ne); omega) | assumption)⟩)))
        exact lv_ret (ret1 rfl (res_tmp rfl))
      · by_cases k1 : r.kind = 1
        · by_cases hl : b.line = a.line
          · by_cases hs : max (b.sensor - a.sensor) (-(b.sensor - a.sensor)) ≤ r.reach
            · rw [cntB_T t1 t2 t3 ((near_line k1 hl).trans (decide_eq_true hs))]
              refine summW Tryz.func159 rfl rfl 103 rfl (by simp) (fun M0 => ?_)
              repeat (first
    | (apply s_a TY; exact rfl)
    | (apply s_t; exact rfl; (first | assumption | omega))
    | (apply s_f; exact rfl; (first | assumption | omega))
    | apply w_seq
    | apply w_region
    | (apply w_draw (id := 4) 14 rfl (by kernel_rfl))
    | apply s_nil
    | apply t_norm
    | apply t_ret
    | apply w_ret
    | apply w_skip
    | (apply w_condT; exact rfl; exact rfl)
    | (apply w_condF; exact rfl; exact rfl)
    | (apply s_k1 (isBefore_F _ _); exact rfl; (first | assumption | omega | decide))
    | (apply s_k1 (Size_s _); exact rfl; (first | assumption | omega | decide))
    | (apply s_c TY; exact rfl; (first | omega | exact ⟨by omega, by (first | with_reducible assumption | ((with_reducible apply sitesF_ne); omega) | assumption)⟩)))
              exact lv_ret (ret1 rfl (res_tmp rfl))
            · rw [cntB_T t1 t2 t3 ((near_line k1 hl).trans (decide_eq_false hs))]
              refine summW Tryz.func159 rfl rfl 103 rfl (by simp) (fun M0 => ?_)
              repeat (first
    | (apply s_a TY; exact rfl)
    | (apply s_t; exact rfl; (first | assumption | omega))
    | (apply s_f; exact rfl; (first | assumption | omega))
    | apply w_seq
    | apply w_region
    | (apply w_draw (id := 4) 14 rfl (by kernel_rfl))
    | apply s_nil
    | apply t_norm
    | apply t_ret
    | apply w_ret
    | apply w_skip
    | (apply w_condT; exact rfl; exact rfl)
    | (apply w_condF; exact rfl; exact rfl)
    | (apply s_k1 (isBefore_F _ _); exact rfl; (first | assumption | omega | decide))
    | (apply s_k1 (Size_s _); exact rfl; (first | assumption | omega | decide))
    | (apply s_c TY; exact rfl; (first | omega | exact ⟨by omega, by (first | with_reducible assumption | ((with_reducible apply sitesF_ne); omega) | assumption)⟩)))
              exact lv_ret (ret1 rfl (res_tmp rfl))
          · rw [cntB_T t1 t2 t3 (near_lineF k1 hl)]
            refine summW Tryz.func159 rfl rfl 103 rfl (by simp) (fun M0 => ?_)
            repeat (first
    | (apply s_a TY; exact rfl)
    | (apply s_t; exact rfl; (first | assumption | omega))
    | (apply s_f; exact rfl; (first | assumption | omega))
    | apply w_seq
    | apply w_region
    | (apply w_draw (id := 4) 14 rfl (by kernel_rfl))
    | apply s_nil
    | apply t_norm
    | apply t_ret
    | apply w_ret
    | apply w_skip
    | (apply w_condT; exact rfl; exact rfl)
    | (apply w_condF; exact rfl; exact rfl)
    | (apply s_k1 (isBefore_F _ _); exact rfl; (first | assumption | omega | decide))
    | (apply s_s; exact rfl)
    | (apply s_c TY; exact rfl; (first | omega | exact ⟨by omega, by (first | with_reducible assumption | ((with_reducible apply sitesF_ne); omega) | assumption)⟩)))
            exact lv_ret (ret1 rfl (res_tmp rfl))
        · by_cases k2 : r.kind = 2
          · by_cases hx : (l[ka].x - l[kb].x) * (l[ka].x - l[kb].x) + (l[ka].y - l[kb].y) * (l[ka].y - l[kb].y) ≤ r.reach * r.reach
            · by_cases hs : max (l[ka].z - l[kb].z) (-(l[ka].z - l[kb].z)) ≤ r.height
              · rw [cntB_T t1 t2 t3 ((near_cyl k1 k2 ea eb hx).trans (decide_eq_true hs))]
                refine summW Tryz.func159 rfl rfl 103 rfl (by simp) (fun M0 => ?_)
                repeat (first
    | (apply s_a TY; exact rfl)
    | (apply s_t; exact rfl; (first | assumption | omega))
    | (apply s_f; exact rfl; (first | assumption | omega))
    | apply w_seq
    | apply w_region
    | (apply w_draw1 (id := 6) 16 rfl (by kernel_rfl); exact rfl; kernel_rfl)
    | (apply s_allocB TY (d := some 9); exact rfl; exact rfl; exact rfl)
    | (apply s_sto TY; exact rfl; exact rfl; exact rfl; exact rfl; exact rfl; exact rfl; exact rfl)
    | (apply w_draw (id := 7) 11 rfl (by kernel_rfl))
    | (apply w_draw (id := 8) 22 rfl (by kernel_rfl))
    | apply s_nil
    | apply t_norm
    | apply t_ret
    | apply w_ret
    | apply w_skip
    | (apply w_condT; exact rfl; exact rfl)
    | (apply w_condF; exact rfl; exact rfl)
    | (apply s_k (HA); exact rfl)
    | (apply s_k (HB); exact rfl)
    | (apply s_k1 (isBefore_F _ _); exact rfl; (first | assumption | omega | decide))
    | (apply s_k1 (Size_s _); exact rfl; (first | assumption | omega | decide))
    | (apply s_c TY; exact rfl; (first | omega | exact ⟨by omega, by (first | with_reducible assumption | ((with_reducible apply sitesF_ne); omega) | assumption)⟩))
    | (apply s_m TY; exact rfl; (first | with_reducible assumption | ((with_reducible apply sitesF_sub); omega) | exact rfl); exact rfl)
    | (apply s_alloc TY; exact rfl; exact rfl; exact rfl)
    | (apply s_store TY; exact rfl; exact rfl; exact rfl; exact rfl; exact rfl; exact rfl))
                exact lv_ret (ret1 rfl (res_tmp rfl))
              · rw [cntB_T t1 t2 t3 ((near_cyl k1 k2 ea eb hx).trans (decide_eq_false hs))]
                refine summW Tryz.func159 rfl rfl 103 rfl (by simp) (fun M0 => ?_)
                repeat (first
    | (apply s_a TY; exact rfl)
    | (apply s_t; exact rfl; (first | assumption | omega))
    | (apply s_f; exact rfl; (first | assumption | omega))
    | apply w_seq
    | apply w_region
    | (apply w_draw1 (id := 6) 16 rfl (by kernel_rfl); exact rfl; kernel_rfl)
    | (apply s_allocB TY (d := some 9); exact rfl; exact rfl; exact rfl)
    | (apply s_sto TY; exact rfl; exact rfl; exact rfl; exact rfl; exact rfl; exact rfl; exact rfl)
    | (apply w_draw (id := 7) 11 rfl (by kernel_rfl))
    | (apply w_draw (id := 8) 22 rfl (by kernel_rfl))
    | apply s_nil
    | apply t_norm
    | apply t_ret
    | apply w_ret
    | apply w_skip
    | (apply w_condT; exact rfl; exact rfl)
    | (apply w_condF; exact rfl; exact rfl)
    | (apply s_k (HA); exact rfl)
    | (apply s_k (HB); exact rfl)
    | (apply s_k1 (isBefore_F _ _); exact rfl; (first | assumption | omega | decide))
    | (apply s_k1 (Size_s _); exact rfl; (first | assumption | omega | decide))
    | (apply s_c TY; exact rfl; (first | omega | exact ⟨by omega, by (first | with_reducible assumption | ((with_reducible apply sitesF_ne); omega) | assumption)⟩))
    | (apply s_m TY; exact rfl; (first | with_reducible assumption | ((with_reducible apply sitesF_sub); omega) | exact rfl); exact rfl)
    | (apply s_alloc TY; exact rfl; exact rfl; exact rfl)
    | (apply s_store TY; exact rfl; exact rfl; exact rfl; exact rfl; exact rfl; exact rfl))
                exact lv_ret (ret1 rfl (res_tmp rfl))
            · rw [cntB_T t1 t2 t3 (near_cylF k1 k2 ea eb hx)]
              refine summW Tryz.func159 rfl rfl 103 rfl (by simp) (fun M0 => ?_)
              repeat (first
    | (apply s_a TY; exact rfl)
    | (apply s_t; exact rfl; (first | assumption | omega))
    | (apply s_f; exact rfl; (first | assumption | omega))
    | apply w_seq
    | apply w_region
    | (apply w_draw1 (id := 6) 16 rfl (by kernel_rfl); exact rfl; kernel_rfl)
    | (apply s_allocB TY (d := some 9); exact rfl; exact rfl; exact rfl)
    | (apply s_sto TY; exact rfl; exact rfl; exact rfl; exact rfl; exact rfl; exact rfl; exact rfl)
    | (apply w_draw (id := 7) 11 rfl (by kernel_rfl))
    | (apply w_draw (id := 8) 22 rfl (by kernel_rfl))
    | apply s_nil
    | apply t_norm
    | apply t_ret
    | apply w_ret
    | apply w_skip
    | (apply w_condT; exact rfl; exact rfl)
    | (apply w_condF; exact rfl; exact rfl)
    | (apply s_k (HA); exact rfl)
    | (apply s_k (HB); exact rfl)
    | (apply s_k1 (isBefore_F _ _); exact rfl; (first | assumption | omega | decide))
    | (apply s_s; exact rfl)
    | (apply s_c TY; exact rfl; (first | omega | exact ⟨by omega, by (first | with_reducible assumption | ((with_reducible apply sitesF_ne); omega) | assumption)⟩))
    | (apply s_m TY; exact rfl; (first | with_reducible assumption | ((with_reducible apply sitesF_sub); omega) | exact rfl); exact rfl)
    | (apply s_alloc TY; exact rfl; exact rfl; exact rfl)
    | (apply s_store TY; exact rfl; exact rfl; exact rfl; exact rfl; exact rfl; exact rfl))
              exact lv_ret (ret1 rfl (res_tmp rfl))
          · rw [cntB_T t1 t2 t3 (near_any k1 k2)]
            refine summW Tryz.func159 rfl rfl 103 rfl (by simp) (fun M0 => ?_)
            repeat (first
    | (apply s_a TY; exact rfl)
    | (apply s_f; exact rfl; (first | assumption | omega))
    | apply w_seq
    | apply w_region
    | apply s_nil
    | apply t_norm
    | apply w_ret
    | apply w_skip
    | (apply w_condF; exact rfl; exact rfl)
    | (apply s_k1 (isBefore_F _ _); exact rfl; (first | assumption | omega | decide))
    | (apply s_c TY; exact rfl; (first | omega | exact ⟨by omega, by (first | with_reducible assumption | ((with_reducible apply sitesF_ne); omega) | assumption)⟩)))
            exact lv_ret (ret1 rfl (res_tmp rfl))
def nrx (l : List Site) (r : Rule) (a x : Hit) : Bool := decide (x.tm - a.tm ≤ r.window) && nearB l r a x
theorem cnt_nrx {l : List Site} {r : Rule} {h : List Hit} (ho : HitsOk l h) {a i : Nat} (hai : a ≤ i) (hi : i < h.length) : cntB l r (h[a]'(by omega)) h[i] = nrx l r (h[a]'(by omega)) h[i] := by
  have h1 := ho.tm a i hai hi
  have h2 : ¬ before h[i] (h[a]'(by omega)) := by
    by_cases e : a = i
    · subst e; exact before_irr
    · exact fun hb => before_irr (before_trans hb (ho.lt i a hi (by omega)))
  unfold cntB nrx
  rw [decide_eq_false (show ¬ h[i].tm < (h[a]'(by omega)).tm by omega), decide_eq_false h2, Bool.false_or, Bool.or_false]
  congr 1
  rw [Bool.eq_iff_iff]
  simp only [Bool.not_eq_true', decide_eq_false_iff_not, decide_eq_true_eq]
  omega
theorem endV_endL {l : List Site} {r : Rule} {h : List Hit} (ho : HitsOk l h) (hk : ¬ r.kind = 3) (hc : 1 ≤ r.count) {a : Nat} (ha : a < h.length) : endV l r h a = endL (nrx l r h[a]) r.count (h.drop a) := by
  unfold endV fireV
  rw [if_neg hk, getD_at ha]
  exact (endL_fire (h.drop a) r.count hc (drop_tm ho a)).symm
set_option maxRecDepth 100000 in
set_option maxHeartbeats 3200000 in
theorem EndOf_s (l : List Site) (r : Rule) (h : List Hit) (a : Nat) (hr : ruleErr r = 0) (hl0 : ArrOk l) (ho : HitsOk l h) (ha : a < h.length) : Summ Tryz.prog GG 127 [arrF l, .agg (ruleF r), .sl h.length (hitsF h), iv (a : Nat)] (iv (endV l r h a)) := by
  obtain ⟨r1, r2, r3, r4, r5, r6⟩ := ruleOk_of hr
  have h40 := ho.len
  by_cases hk3 : r.kind = 3
  · have HU := fun z (hz : z = (((r.count - 1).toNat : Nat) : Int) + 1) => chain_s l r h 1 (by omega) ho (r.count - 1).toNat z a ha hz (by omega)
    have HD := fun z (hz : z = (((r.count - 1).toNat : Nat) : Int) + 1) => chain_s l r h (-1) (by omega) ho (r.count - 1).toNat z a ha hz (by omega)
    rw [show endV l r h a = _ from (show endV l r h a = (slowV r h a).getD (-1) by unfold endV fireV; rw [if_pos hk3]).trans (slow_end (fun k hk => by rw [getD_at hk]; exact (ho.hit k hk).tm.1) ha)]
    by_cases c1 : chainV r h 1 (r.count - 1).toNat a < 0
    · rw [if_pos (by omega)]
      refine summW Tryz.func127 rfl rfl 70 rfl (by simp) (fun M0 => ?_)
      repeat (first
    | (apply s_a TY; exact rfl)
    | (apply s_t; exact rfl; (first | assumption | omega))
    | apply w_seq
    | apply w_region
    | (apply w_draw (id := 2) 11 rfl (by kernel_rfl))
    | apply s_nil
    | apply t_norm
    | apply t_ret
    | apply w_ret
    | (apply w_condT; exact rfl; exact rfl)
    | (apply s_k1 (HU _); exact rfl; (first | assumption | omega | decide))
    | (apply s_k1 (HD _); exact rfl; (first | assumption | omega | decide))
    | (apply s_s; exact rfl))
      exact lv_ret (ret1 rfl (res_tmp rfl))
    · by_cases c2 : 0 ≤ chainV r h (-1) (r.count - 1).toNat a
      · by_cases c3 : chainV r h (-1) (r.count - 1).toNat a < chainV r h 1 (r.count - 1).toNat a
        · rw [if_pos (by omega)]
          refine summW Tryz.func127 rfl rfl 70 rfl (by simp) (fun M0 => ?_)
          repeat (first
    | (apply s_a TY; exact rfl)
    | (apply s_t; exact rfl; (first | assumption | omega))
    | (apply s_f; exact rfl; (first | assumption | omega))
    | apply w_seq
    | apply w_region
    | (apply w_draw (id := 2) 11 rfl (by kernel_rfl))
    | apply s_nil
    | apply t_norm
    | apply t_ret
    | apply w_ret
    | (apply w_condT; exact rfl; exact rfl)
    | (apply s_k1 (HU _); exact rfl; (first | assumption | omega | decide))
    | (apply s_k1 (HD _); exact rfl; (first | assumption | omega | decide)))
          exact lv_ret (ret1 rfl (res_tmp rfl))
        · rw [if_neg (by omega)]
          refine summW Tryz.func127 rfl rfl 70 rfl (by simp) (fun M0 => ?_)
          repeat (first
    | (apply s_a TY; exact rfl)
    | (apply s_t; exact rfl; (first | assumption | omega))
    | (apply s_f; exact rfl; (first | assumption | omega))
    | apply w_seq
    | apply w_region
    | (apply w_draw (id := 2) 11 rfl (by kernel_rfl))
    | apply s_nil
    | apply t_norm
    | apply t_ret
    | apply w_ret
    | apply w_skip
    | (apply w_condT; exact rfl; exact rfl)
    | (apply w_condF; exact rfl; exact rfl)
    | (apply s_k1 (HU _); exact rfl; (first | assumption | omega | decide))
    | (apply s_k1 (HD _); exact rfl; (first | assumption | omega | decide)))
          exact lv_ret (ret1 rfl (res_tmp rfl))
      · rw [if_neg (by omega)]
        refine summW Tryz.func127 rfl rfl 70 rfl (by simp) (fun M0 => ?_)
        repeat (first
    | (apply s_a TY; exact rfl)
    | (apply s_t; exact rfl; (first | assumption | omega))
    | (apply s_f; exact rfl; (first | assumption | omega))
    | apply w_seq
    | apply w_region
    | (apply w_draw (id := 2) 11 rfl (by kernel_rfl))
    | apply s_nil
    | apply t_norm
    | apply t_ret
    | apply w_ret
    | apply w_skip
    | (apply w_condT; exact rfl; exact rfl)
    | (apply w_condF; exact rfl; exact rfl)
    | (apply s_k1 (HU _); exact rfl; (first | assumption | omega | decide))
    | (apply s_k1 (HD _); exact rfl; (first | assumption | omega | decide))
    | (apply s_s; exact rfl))
        exact lv_ret (ret1 rfl (res_tmp rfl))
  · have hE := endV_endL ho hk3 r2.1 ha
    refine summW Tryz.func127 rfl rfl 70 rfl (by simp) (fun M0 => ?_)
    repeat (first
    | (apply s_a TY; exact rfl)
    | (apply s_f; exact rfl; (first | assumption | omega))
    | apply w_seq
    | apply w_region
    | apply s_nil
    | apply t_norm
    | apply w_block
    | apply w_skip
    | (apply w_condF; exact rfl; exact rfl))
    apply w_loop (fun p : Nat × Int => ⟨(Ab.upd (Ab.upd (Ab.upd (Ab.upd (Ab.upd (Ab.upd (fun _ => .bot) 2 (.f (.sl h.length (hitsF h)))) 3 (.f (iv (a : Nat)))) 4 (.f (.pt [.sl l.length (sitesF l)] 0))) 5 (.f (.pt (ruleF r) 0))) 11 (.f (iv (p.2 : Int)))) 12 (.f (iv ((p.1 : Nat) : Int)))), (fun _ => none), 0⟩) (fun p => a ≤ p.1 ∧ p.1 ≤ h.length ∧ 0 ≤ p.2 ∧ p.2 < r.count ∧ endV l r h a = endL (nrx l r h[a]) (r.count - p.2) (h.drop p.1)) (fun p => h.length - p.1) (a, 0) (⟨Nat.le_refl _, by omega, Int.le_refl _, by omega, by rw [Int.sub_zero]; exact hE⟩) (gh_le ⟨le_upd rfl trivial (le_upd rfl trivial (le_upd rfl trivial (le_upd rfl trivial (le_upd rfl trivial (le_upd rfl trivial (le_nil _)))))), le_h0 _ _⟩)
    rintro ⟨i, n⟩ ⟨hai, hil, hn0, hnc, hv⟩
    simp only at hai hil hn0 hnc hv
    by_cases hc : i < h.length
    · have HC := Counts_s l r h[a] h[i] hl0 hr (ho.hit a ha) (ho.hit i hc)
      rw [cnt_nrx ho hai hc] at HC
      rw [List.drop_eq_getElem_cons hc] at hv
      unfold endL at hv
      cases hb : nrx l r h[a] h[i] with
      | true =>
        rw [hb] at HC hv
        rw [if_pos rfl] at hv
        by_cases h1 : r.count - n = 1
        · rw [if_pos h1] at hv
          rw [hv]
          repeat (first
    | (apply s_a TY; exact rfl)
    | (apply s_t; exact rfl; (first | assumption | omega))
    | apply w_seq
    | apply w_region
    | (apply w_draw (id := 10) 10 rfl (by kernel_rfl))
    | apply s_nil
    | apply t_norm
    | apply t_ret
    | apply k_ret
    | apply w_block
    | apply w_ret
    | apply w_skip
    | (apply w_condT; exact rfl; exact rfl)
    | (apply s_k (HC); exact rfl)
    | (apply s_c TY; exact rfl; (first | omega | exact ⟨by omega, by (first | with_reducible assumption | ((with_reducible apply hitsF_ne); omega) | assumption)⟩))
    | (apply s_l TY; exact rfl; (first | exact rfl | with_reducible assumption | ((with_reducible apply hitsF_f0); omega) | ((with_reducible apply hitsF_f1); omega) | ((with_reducible apply hitsF_f2); omega) | assumption))
    | (apply s_m TY; exact rfl; (first | with_reducible assumption | ((with_reducible apply hitsF_sub); omega) | exact rfl); exact rfl))
          exact lv_ret (ret1 rfl (res_tmp rfl))
        · rw [if_neg h1] at hv
          repeat (first
    | (apply s_a TY; exact rfl)
    | (apply s_t; exact rfl; (first | assumption | omega))
    | (apply s_f; exact rfl; (first | assumption | omega))
    | apply w_seq
    | apply w_region
    | (apply w_draw (id := 10) 10 rfl (by kernel_rfl))
    | apply s_nil
    | apply t_norm
    | apply k_norm
    | apply w_block
    | apply w_skip
    | (apply w_condT; exact rfl; exact rfl)
    | (apply w_condF; exact rfl; exact rfl)
    | (apply s_k (HC); exact rfl)
    | (apply s_c TY; exact rfl; (first | omega | exact ⟨by omega, by (first | with_reducible assumption | ((with_reducible apply hitsF_ne); omega) | assumption)⟩))
    | (apply s_m TY; exact rfl; (first | with_reducible assumption | ((with_reducible apply hitsF_sub); omega) | exact rfl); exact rfl))
          exact ⟨(i + 1, n + 1), ⟨by simp only; omega, by simp only; omega, by simp only; omega, by simp only; omega, by simp only; rw [hv]; congr 1; omega⟩, by simp only; omega, gh_le ⟨le_upd rfl trivial (le_upd rfl trivial (le_upd rfl trivial (le_upd rfl trivial (le_upd rfl trivial (le_upd rfl trivial (le_nil _)))))), le_h0 _ _⟩⟩
      | false =>
        rw [hb] at HC hv
        rw [if_neg (by decide)] at hv
        repeat (first
    | (apply s_a TY; exact rfl)
    | (apply s_t; exact rfl; (first | assumption | omega))
    | apply w_seq
    | apply w_region
    | (apply w_draw (id := 10) 10 rfl (by kernel_rfl))
    | apply s_nil
    | apply t_norm
    | apply k_norm
    | apply w_block
    | apply w_skip
    | (apply w_condT; exact rfl; exact rfl)
    | (apply w_condF; exact rfl; exact rfl)
    | (apply s_k (HC); exact rfl)
    | (apply s_c TY; exact rfl; (first | omega | exact ⟨by omega, by (first | with_reducible assumption | ((with_reducible apply hitsF_ne); omega) | assumption)⟩))
    | (apply s_m TY; exact rfl; (first | with_reducible assumption | ((with_reducible apply hitsF_sub); omega) | exact rfl); exact rfl))
        exact ⟨(i + 1, n), ⟨by simp only; omega, by simp only; omega, hn0, hnc, hv⟩, by simp only; omega, gh_le ⟨le_upd rfl trivial (le_upd rfl trivial (le_upd rfl trivial (le_upd rfl trivial (le_upd rfl trivial (le_upd rfl trivial (le_nil _)))))), le_h0 _ _⟩⟩
    · rw [List.drop_eq_nil_of_le (by omega)] at hv
      rw [show endV l r h a = -1 from hv]
      repeat (first
    | (apply s_a TY; exact rfl)
    | (apply s_f; exact rfl; (first | assumption | omega))
    | apply w_seq
    | apply w_region
    | apply s_nil
    | apply t_norm
    | apply t_exit
    | apply k_hit
    | apply w_exit
    | apply w_ret
    | (apply w_condF; exact rfl; exact rfl))
      exact lv_ret (ret1 rfl (res_tmp rfl))
end Go.Proofs.YtdmdpkoapllkkaaGreat
namespace Go.Proofs.YtdmdpkoapllkkaaGreat
open Go Go.RowKit Go.Proofs Go.Shelf Go.Ab
theorem fewB_le {n : Nat} (h : fewB (n : Nat) = true) : n ≤ 42 := by
  unfold fewB at h
  simp only [Bool.or_eq_true, Bool.and_eq_true, decide_eq_true_eq] at h
  omega
end Go.Proofs.YtdmdpkoapllkkaaGreat
namespace Go.Proofs.YtdmdpkoapllkkaaGreat
open Go Go.RowKit Go.Proofs Go.Shelf Go.Ab
theorem rwin_step {l : List Site} {s : Setup} {h : List Hit} {i k : Nat} {e : Int} {r : Rule} (hs : rwinI l s h i (k + 1) = rwinI l s h i k ++ (match fireV l r h i with | some e => [⟨(h.getD i default).tm - s.before, e + s.after⟩] | none => [])) (hv : fireV l r h i = some e) : some (Blk.row 65 2 ((rwinsN l s h i ++ rwinI l s h i k).length + 1) (rngsF (rwinsN l s h i ++ rwinI l s h i k) ++ [iv ((h.getD i default).tm - s.before), iv (e + s.after)])) = some (Blk.row 65 2 (rwinsN l s h i ++ rwinI l s h i (k + 1)).length (rngsF (rwinsN l s h i ++ rwinI l s h i (k + 1)))) := by
  rw [hv] at hs
  simp only at hs
  rw [hs, ← List.append_assoc, rngsF_snoc, List.length_append (bs := [_])]; rfl
theorem rwin_stay {l : List Site} {s : Setup} {h : List Hit} {i k : Nat} {r : Rule} (hs : rwinI l s h i (k + 1) = rwinI l s h i k ++ (match fireV l r h i with | some e => [⟨(h.getD i default).tm - s.before, e + s.after⟩] | none => [])) (hv : fireV l r h i = none) : rwinI l s h i (k + 1) = rwinI l s h i k := by
  rw [hv] at hs
  simpa using hs
set_option maxRecDepth 100000 in
set_option maxHeartbeats 3200000 in
theorem rwindows_s (l : List Site) (s : Setup) (h : List Hit) (hs : SetOk s) (hl0 : ArrOk l) (ho : HitsOk l h) : Summ Tryz.prog GG 91 [arrF l, setF s, .sl h.length (hitsF h)] (.sl (rwinsV l s h).length (rngsF (rwinsV l s h))) := by
  have h40 := ho.len
  have h4 := hs.len
  have hbf := hs.before
  have haf := hs.after
  refine summW Tryz.func91 rfl rfl 52 rfl (by simp) (fun M0 => ?_)
  repeat (first
    | (apply s_a TY; exact rfl)
    | apply w_seq
    | apply w_region
    | apply s_nil
    | apply t_norm
    | apply w_block)
  apply w_gh (gh_own 7 65 2 rfl rfl)
  apply w_loop (fun i : Nat => ⟨(Ab.upd (Ab.upd (Ab.upd (Ab.upd (Ab.upd (fun _ => .bot) 2 (.f (.sl h.length (hitsF h)))) 3 (.f (.pt [.sl l.length (sitesF l)] 0))) 4 (.f (.pt (setL s) 0))) 7 (.ow 0)) 8 (.f (iv ((i : Nat) : Int)))), (Ab.upd (fun _ => none) 0 (some (.row 65 2 (rwinsN l s h i).length (rngsF (rwinsN l s h i))))), 1⟩) (fun i => i ≤ h.length) (fun i => h.length - i) 0 (Nat.zero_le _) (gh_le ⟨le_upd rfl trivial (le_upd rfl rfl (le_upd rfl trivial (le_upd rfl trivial (le_upd rfl trivial (le_nil _))))), le_hupd rfl trivial (le_h0 _ _)⟩)
  intro i hi0
  have hln := rwinsN_len l s h i
  have hmul : i * s.rules.length ≤ 40 * 4 := Nat.mul_le_mul (by omega) (by omega)
  by_cases hc : i < h.length
  · have hti := (ho.hit i hc).tm
    repeat (first
    | (apply s_a TY; exact rfl)
    | (apply s_t; exact rfl; (first | assumption | omega))
    | apply w_seq
    | apply w_region
    | apply s_nil
    | apply t_norm
    | apply w_block
    | apply w_skip
    | (apply w_condT; exact rfl; exact rfl))
    apply w_loop (fun k : Nat => ⟨(Ab.upd (Ab.upd (Ab.upd (Ab.upd (Ab.upd (Ab.upd (fun _ => .bot) 2 (.f (.sl h.length (hitsF h)))) 3 (.f (.pt [.sl l.length (sitesF l)] 0))) 4 (.f (.pt (setL s) 0))) 7 (.ow 0)) 8 (.f (iv ((i : Nat) : Int)))) 9 (.f (iv ((k : Nat) : Int)))), (Ab.upd (fun _ => none) 0 (some (.row 65 2 (rwinsN l s h i ++ rwinI l s h i k).length (rngsF (rwinsN l s h i ++ rwinI l s h i k))))), 1⟩) (fun k => k ≤ s.rules.length) (fun k => s.rules.length - k) 0 (Nat.zero_le _) (gh_le ⟨le_upd rfl trivial (le_upd rfl trivial (le_upd rfl rfl (le_upd rfl trivial (le_upd rfl trivial (le_upd rfl trivial (le_nil _)))))), le_hupd (congrArg (fun M : List Rng => some (Blk.row 65 2 M.length (rngsF M))) (show rwinsN l s h i = rwinsN l s h i ++ rwinI l s h i 0 by simp [rwinI])) trivial (le_h0 _ _)⟩)
    intro k hk0
    have hlk := rwinI_len l s h i k
    by_cases hk : k < s.rules.length
    · have hrok := hs.rule k hk
      have HE := EndOf_s l s.rules[k] h i hrok hl0 ho hc
      have hsu := rwinI_succ (l := l) (h := h) (i := i) hk
      have hlen : (rwinsN l s h i ++ rwinI l s h i k).length ≤ 200 := by rw [List.length_append]; omega
      unfold endV at HE
      cases hv : fireV l s.rules[k] h i with
      | none =>
        have hst := rwin_stay hsu hv
        rw [hv] at HE
        rw [show (none : Option Int).getD (-1) = -1 from rfl] at HE
        repeat (first
    | (apply s_a TY; exact rfl)
    | (apply s_t; exact rfl; (first | assumption | omega))
    | (apply s_f; exact rfl; (first | assumption | omega))
    | apply w_seq
    | apply w_region
    | (apply w_draw (id := 8) 8 rfl (by kernel_rfl))
    | apply s_nil
    | apply t_norm
    | apply k_norm
    | apply w_block
    | apply w_skip
    | (apply w_condT; exact rfl; exact rfl)
    | (apply w_condF; exact rfl; exact rfl)
    | (apply s_k (HE); exact rfl)
    | (apply s_c TY; exact rfl; (first | omega | exact ⟨by omega, by (first | with_reducible assumption | ((with_reducible apply hitsF_ne); omega) | ((with_reducible apply rulesF_ne); omega) | assumption)⟩))
    | (apply s_m TY; exact rfl; (first | with_reducible assumption | ((with_reducible apply hitsF_sub); omega) | ((with_reducible apply rulesF_sub); omega) | exact rfl); exact rfl))
        exact ⟨k + 1, by omega, by omega, gh_le ⟨le_upd rfl trivial (le_upd rfl trivial (le_upd rfl rfl (le_upd rfl trivial (le_upd rfl trivial (le_upd rfl trivial (le_nil _)))))), le_hupd (congrArg (fun M : List Rng => some (Blk.row 65 2 M.length (rngsF M))) (show rwinsN l s h i ++ rwinI l s h i k = rwinsN l s h i ++ rwinI l s h i (k + 1) by rw [hst])) trivial (le_h0 _ _)⟩⟩
      | some e =>
        have hst := rwin_step hsu hv
        obtain ⟨q, hq, heq⟩ := fireV_mem hc hv
        have hte := (ho.hit q hq).tm
        rw [getD_at hq] at heq
        rw [getD_at hc] at hst
        rw [hv] at HE
        rw [show (some e : Option Int).getD (-1) = e from rfl] at HE
        repeat (first
    | (apply s_append TY; exact rfl; exact rfl; exact rfl; exact rfl; exact rfl; exact rfl; exact rfl; exact rfl; exact rfl; (unfold maxLen; omega); omega)
    | (apply s_a TY; exact rfl)
    | (apply s_t; exact rfl; (first | assumption | omega))
    | apply w_seq
    | apply w_region
    | (apply w_draw (id := 8) 8 rfl (by kernel_rfl))
    | (apply w_draw (id := 10) 15 rfl (by kernel_rfl))
    | apply s_nil
    | apply t_norm
    | apply k_norm
    | apply w_block
    | apply w_skip
    | (apply w_condT; exact rfl; exact rfl)
    | (apply s_k (HE); exact rfl)
    | (apply s_c TY; exact rfl; (first | omega | exact ⟨by omega, by (first | with_reducible assumption | ((with_reducible apply hitsF_ne); omega) | ((with_reducible apply rulesF_ne); omega) | assumption)⟩))
    | (apply s_l TY; exact rfl; (first | exact rfl | with_reducible assumption | ((with_reducible apply hitsF_f0); omega) | ((with_reducible apply hitsF_f1); omega) | ((with_reducible apply hitsF_f2); omega) | ((with_reducible apply rulesF_f0); omega) | ((with_reducible apply rulesF_f1); omega) | ((with_reducible apply rulesF_f2); omega) | ((with_reducible apply rulesF_f3); omega) | ((with_reducible apply rulesF_f4); omega) | assumption))
    | (apply s_m TY; exact rfl; (first | with_reducible assumption | ((with_reducible apply hitsF_sub); omega) | ((with_reducible apply rulesF_sub); omega) | exact rfl); exact rfl))
        exact ⟨k + 1, by omega, by omega, gh_le ⟨le_upd rfl trivial (le_upd rfl trivial (le_upd rfl rfl (le_upd rfl trivial (le_upd rfl trivial (le_upd rfl trivial (le_nil _)))))), le_hupd hst trivial (le_h0 _ _)⟩⟩
    · have hke : k = s.rules.length := by omega
      subst hke
      repeat (first
    | (apply s_a TY; exact rfl)
    | (apply s_f; exact rfl; (first | assumption | omega))
    | apply w_seq
    | apply w_region
    | apply s_nil
    | apply t_norm
    | apply t_exit
    | apply k_hit
    | apply k_norm
    | apply w_exit
    | (apply w_condF; exact rfl; exact rfl)
    | (apply s_c TY; exact rfl; (first | omega | exact ⟨by omega, by (first | with_reducible assumption | ((with_reducible apply hitsF_ne); omega) | ((with_reducible apply rulesF_ne); omega) | assumption)⟩)))
      exact ⟨i + 1, by omega, by omega, gh_le ⟨le_upd rfl trivial (le_upd rfl rfl (le_upd rfl trivial (le_upd rfl trivial (le_upd rfl trivial (le_nil _))))), le_hupd (congrArg (fun M : List Rng => some (Blk.row 65 2 M.length (rngsF M))) (rwinsN_succ l s h i).symm) trivial (le_h0 _ _)⟩⟩
  · have hie : i = h.length := by omega
    subst hie
    repeat (first
    | (apply s_a TY; exact rfl)
    | (apply s_f; exact rfl; (first | assumption | omega))
    | apply w_seq
    | apply w_region
    | apply s_nil
    | apply t_norm
    | apply t_exit
    | apply k_hit
    | apply w_exit
    | apply w_ret
    | (apply w_condF; exact rfl; exact rfl))
    exact lv_ret (ret_gh (gh_row 0 rfl) (ret1 rfl (res_tmp rfl)))
set_option maxRecDepth 100000 in
set_option maxHeartbeats 3200000 in
theorem merged_s (L : List Rng) (hlo : LoOk L) (hhi : HiOk L) (h60 : L.length < 1000000) : Summ Tryz.prog GG 94 [.sl L.length (rngsF L)] (.sl (mergeV L).length (rngsF (mergeV L))) := by
  refine summW Tryz.func94 rfl rfl 56 rfl (by simp) (fun M0 => ?_)
  repeat (first
    | (apply s_a TY; exact rfl)
    | apply w_seq
    | apply w_region
    | apply s_nil
    | apply t_norm
    | apply w_block)
  apply w_gh (gh_own 3 65 2 rfl rfl)
  apply w_loop (fun k : Nat => ⟨(Ab.upd (Ab.upd (Ab.upd (fun _ => .bot) 0 (.f (.sl L.length (rngsF L)))) 3 (.ow 0)) 4 (.f (iv ((k : Nat) : Int)))), (Ab.upd (fun _ => none) 0 (some (.row 65 2 (mgK L k).length (rngsF (mgK L k))))), 1⟩) (fun k => k ≤ L.length) (fun k => L.length - k) 0 (Nat.zero_le _) (gh_le ⟨le_upd rfl trivial (le_upd rfl rfl (le_upd rfl trivial (le_nil _))), le_hupd rfl trivial (le_h0 _ _)⟩)
  intro k hk
  by_cases hc : k < L.length
  · have hs := mgK_succ hc
    have hlk := mgK_len L k
    have hhk := mgK_hi hhi k
    have h1 := hlo _ (List.getElem_mem hc)
    have h2 := hhi _ (List.getElem_mem hc)
    rcases List.eq_nil_or_concat (mgK L k) with e | ⟨pre, x, e⟩
    · rw [e, mrg_nil] at hs
      rw [e]
      have hn0 : ([] : List Rng).length = 0 := rfl
      repeat (first
    | (apply s_a TY; exact rfl)
    | (apply s_t; exact rfl; (first | assumption | omega))
    | (apply s_f; exact rfl; (first | assumption | omega))
    | apply w_seq
    | apply w_region
    | (apply w_draw (id := 6) 15 rfl (by kernel_rfl))
    | apply s_nil
    | apply t_norm
    | apply k_norm
    | apply w_block
    | apply w_skip
    | (apply w_condT; exact rfl; exact rfl)
    | (apply w_condF; exact rfl; exact rfl)
    | (apply s_s; exact rfl)
    | (apply s_c TY; exact rfl; (first | omega | exact ⟨by omega, by (first | with_reducible assumption | ((with_reducible apply rngsF_ne); omega) | assumption)⟩))
    | (apply s_m TY; exact rfl; (first | with_reducible assumption | ((with_reducible apply rngsF_sub); omega) | exact rfl); exact rfl)
    | (apply s_append TY; exact rfl; exact rfl; exact rfl; exact rfl; exact rfl; exact rfl; exact rfl; exact rfl; exact rfl; (unfold maxLen; omega); omega))
      exact ⟨k + 1, by omega, by omega, gh_le ⟨le_upd rfl trivial (le_upd rfl rfl (le_upd rfl trivial (le_nil _))), le_hupd ((rowR _ _ hs).symm) trivial (le_h0 _ _)⟩⟩
    · rw [List.concat_eq_append] at e
      rw [e, mrg_snoc] at hs
      rw [e] at hlk hhk ⊢
      have h3 := hhk x (by simp)
      have hpl : (pre ++ [x]).length = pre.length + 1 := by simp
      have hat : (rngsF (pre ++ [x]))[(((pre.length + 1 : Nat) : Int) - 1).toNat * 2 + 1]? = some (iv x.hi) := by
        rw [show (((pre.length + 1 : Nat) : Int) - 1).toNat = pre.length by omega, rngsF_f1 (show pre.length < (pre ++ [x]).length by omega)]
        simp
      rw [hpl]
      by_cases hj : L[k].lo ≤ x.hi + 1
      · rw [if_pos hj] at hs
        have hrl : (rngsF (pre ++ [x])).length = (pre.length + 1) * 2 := by rw [rngsF_len, hpl]
        repeat (first
    | (apply s_storeR TY; exact rfl; exact rfl; exact rfl; exact rfl; exact rfl; (show _ + 1 ≤ _; omega))
    | (apply s_a TY; exact rfl)
    | (apply s_t; exact rfl; (first | assumption | omega))
    | apply w_seq
    | apply w_region
    | (apply w_draw (id := 6) 15 rfl (by kernel_rfl))
    | (apply w_draw (id := 7) 15 rfl (by kernel_rfl))
    | apply s_nil
    | apply t_norm
    | apply k_norm
    | apply w_block
    | apply w_skip
    | (apply w_condT; exact rfl; exact rfl)
    | (apply s_c TY; exact rfl; (first | omega | exact ⟨by omega, by (first | with_reducible assumption | ((with_reducible apply rngsF_ne); omega) | assumption)⟩))
    | (apply s_z TY; exact rfl; (first | omega | exact ⟨by omega, by (first | with_reducible assumption | ((with_reducible apply rngsF_ne); omega) | assumption)⟩))
    | (apply s_l TY; exact rfl; (first | exact rfl | with_reducible assumption | ((with_reducible apply rngsF_f0); omega) | ((with_reducible apply rngsF_f1); omega) | assumption))
    | (apply s_r TY; exact rfl; (first | exact rfl | with_reducible assumption | ((with_reducible apply rngsF_f0); omega) | ((with_reducible apply rngsF_f1); omega) | assumption)))
        exact ⟨k + 1, by omega, by omega, gh_le ⟨le_upd rfl trivial (le_upd rfl rfl (le_upd rfl trivial (le_nil _))), le_hupd ((rngs_setHi pre x (show (((pre.length + 1 : Nat) : Int) - 1).toNat = pre.length by omega) _ hs)) trivial (le_h0 _ _)⟩⟩
      · rw [if_neg hj] at hs
        repeat (first
    | (apply s_a TY; exact rfl)
    | (apply s_t; exact rfl; (first | assumption | omega))
    | (apply s_f; exact rfl; (first | assumption | omega))
    | apply w_seq
    | apply w_region
    | (apply w_draw (id := 6) 15 rfl (by kernel_rfl))
    | apply s_nil
    | apply t_norm
    | apply k_norm
    | apply w_block
    | apply w_skip
    | (apply w_condT; exact rfl; exact rfl)
    | (apply w_condF; exact rfl; exact rfl)
    | (apply s_c TY; exact rfl; (first | omega | exact ⟨by omega, by (first | with_reducible assumption | ((with_reducible apply rngsF_ne); omega) | assumption)⟩))
    | (apply s_z TY; exact rfl; (first | omega | exact ⟨by omega, by (first | with_reducible assumption | ((with_reducible apply rngsF_ne); omega) | assumption)⟩))
    | (apply s_l TY; exact rfl; (first | exact rfl | with_reducible assumption | ((with_reducible apply rngsF_f0); omega) | ((with_reducible apply rngsF_f1); omega) | assumption))
    | (apply s_m TY; exact rfl; (first | with_reducible assumption | ((with_reducible apply rngsF_sub); omega) | exact rfl); exact rfl)
    | (apply s_r TY; exact rfl; (first | exact rfl | with_reducible assumption | ((with_reducible apply rngsF_f0); omega) | ((with_reducible apply rngsF_f1); omega) | assumption))
    | (apply s_append TY; exact rfl; exact rfl; exact rfl; exact rfl; exact rfl; exact rfl; exact rfl; exact rfl; exact rfl; (unfold maxLen; omega); omega))
        exact ⟨k + 1, by omega, by omega, gh_le ⟨le_upd rfl trivial (le_upd rfl rfl (le_upd rfl trivial (le_nil _))), le_hupd (row_app3 hs) trivial (le_h0 _ _)⟩⟩
  · have hke : k = L.length := by omega
    subst hke
    rw [mgK_all]
    repeat (first
    | (apply s_a TY; exact rfl)
    | (apply s_f; exact rfl; (first | assumption | omega))
    | apply w_seq
    | apply w_region
    | apply s_nil
    | apply t_norm
    | apply t_exit
    | apply k_hit
    | apply w_exit
    | apply w_ret
    | (apply w_condF; exact rfl; exact rfl))
    exact lv_ret (ret_gh (gh_row 0 rfl) (ret1 rfl (res_tmp rfl)))
theorem rwins_bd {l : List Site} {s : Setup} {h : List Hit} (hs : SetOk s) (ho : HitsOk l h) : LoOk (rwinsV l s h) ∧ HiOk (rwinsV l s h) ∧ (rwinsV l s h).length ≤ 160 := by
  refine ⟨fun r hr => single_lo hs ho r (rwins_mem.2 hr), fun r hr => single_hi hs ho r (rwins_mem.2 hr), ?_⟩
  have := rwinsN_len l s h h.length
  have h1 := ho.len
  have h2 := hs.len
  have : h.length * s.rules.length ≤ 40 * 4 := Nat.mul_le_mul (by omega) (by omega)
  unfold rwinsV
  omega
set_option maxRecDepth 100000 in
theorem rIn_s (h : List Hit) (w : Rng) (hh : h.length ≤ 1000000) : Summ Tryz.prog GG 92 [.sl h.length (hitsF h), .agg (rngF w)] (.sl (hitsInV h w).length (intsF (hitsInV h w))) := by
  refine summW Tryz.func92 rfl rfl 28 rfl (by simp) (fun M0 => ?_)
  repeat (first
    | (apply s_a TY; exact rfl)
    | apply w_seq
    | apply w_region
    | apply s_nil
    | apply t_norm
    | apply w_block)
  apply w_gh (gh_own 5 3 1 rfl rfl)
  apply w_loop (fun k : Nat => ⟨(Ab.upd (Ab.upd (Ab.upd (Ab.upd (fun _ => .bot) 0 (.f (.sl h.length (hitsF h)))) 3 (.f (.pt (rngF w) 0))) 5 (.ow 0)) 6 (.f (iv ((k : Nat) : Int)))), (Ab.upd (fun _ => none) 0 (some (.row 3 1 (hitsInN h w k).length (intsF (hitsInN h w k))))), 1⟩) (fun k => k ≤ h.length) (fun k => h.length - k) 0 (Nat.zero_le _) (gh_le ⟨le_upd rfl trivial (le_upd rfl rfl (le_upd rfl trivial (le_upd rfl trivial (le_nil _)))), le_hupd rfl trivial (le_h0 _ _)⟩)
  intro k hk
  have hln := hitsInN_len h w k
  by_cases hc : k < h.length
  · have hs := hitsInN_succ h w k
    rw [getD_at hc] at hs
    have HB := bwithin_s h[k].tm w.lo w.hi
    cases hb : withinB h[k].tm w.lo w.hi with
    | true =>
      rw [hb] at HB hs
      rw [if_pos rfl] at hs
      repeat (first
    | (apply s_a TY; exact rfl)
    | (apply s_t; exact rfl; (first | assumption | omega))
    | apply w_seq
    | apply w_region
    | (apply w_draw (id := 5) 9 rfl (by kernel_rfl))
    | apply s_nil
    | apply t_norm
    | apply k_norm
    | apply w_block
    | apply w_skip
    | (apply w_condT; exact rfl; exact rfl)
    | (apply s_k (HB); exact rfl)
    | (apply s_c TY; exact rfl; (first | omega | exact ⟨by omega, by (first | with_reducible assumption | ((with_reducible apply hitsF_ne); omega) | assumption)⟩))
    | (apply s_l TY; exact rfl; (first | exact rfl | with_reducible assumption | ((with_reducible apply hitsF_f0); omega) | ((with_reducible apply hitsF_f1); omega) | ((with_reducible apply hitsF_f2); omega) | assumption))
    | (apply s_append TY; exact rfl; exact rfl; exact rfl; exact rfl; exact rfl; exact rfl; exact rfl; exact rfl; exact rfl; (unfold maxLen; omega); omega))
      exact ⟨k + 1, by omega, by omega, gh_le ⟨le_upd rfl trivial (le_upd rfl rfl (le_upd rfl trivial (le_upd rfl trivial (le_nil _)))), le_hupd (rowI_app hs) trivial (le_h0 _ _)⟩⟩
    | false =>
      rw [hb] at HB hs
      rw [if_neg (by decide), List.append_nil] at hs
      repeat (first
    | (apply s_a TY; exact rfl)
    | (apply s_t; exact rfl; (first | assumption | omega))
    | apply w_seq
    | apply w_region
    | (apply w_draw (id := 5) 9 rfl (by kernel_rfl))
    | apply s_nil
    | apply t_norm
    | apply k_norm
    | apply w_block
    | apply w_skip
    | (apply w_condT; exact rfl; exact rfl)
    | (apply w_condF; exact rfl; exact rfl)
    | (apply s_k (HB); exact rfl)
    | (apply s_c TY; exact rfl; (first | omega | exact ⟨by omega, by (first | with_reducible assumption | ((with_reducible apply hitsF_ne); omega) | assumption)⟩))
    | (apply s_l TY; exact rfl; (first | exact rfl | with_reducible assumption | ((with_reducible apply hitsF_f0); omega) | ((with_reducible apply hitsF_f1); omega) | ((with_reducible apply hitsF_f2); omega) | assumption)))
      exact ⟨k + 1, by omega, by omega, gh_le ⟨le_upd rfl trivial (le_upd rfl rfl (le_upd rfl trivial (le_upd rfl trivial (le_nil _)))), le_hupd (rowI _ _ hs.symm) trivial (le_h0 _ _)⟩⟩
  · have hke : k = h.length := by omega
    subst hke
    repeat (first
    | (apply s_a TY; exact rfl)
    | (apply s_f; exact rfl; (first | assumption | omega))
    | apply w_seq
    | apply w_region
    | apply s_nil
    | apply t_norm
    | apply t_exit
    | apply k_hit
    | apply w_exit
    | apply w_ret
    | (apply w_condF; exact rfl; exact rfl))
    exact lv_ret (ret_gh (gh_row 0 rfl) (ret1 rfl (res_tmp rfl)))
end Go.Proofs.YtdmdpkoapllkkaaGreat
namespace Go.Proofs.YtdmdpkoapllkkaaGreat
open Go Go.RowKit Go.Proofs Go.Shelf Go.Ab
end Go.Proofs.YtdmdpkoapllkkaaGreat
namespace Go.Ab
open Go Go.RowKit Go.Shelf Go.Proofs
section
variable {C : Ctx} {N : Nat}
variable {Q : Exit → St → Prop} {st : St} {ops : Array Oper} {pr : Bool} {K : St → Prop} {rest : List Oper}
end
end Go.Ab
namespace Go.Ab
open Go Go.RowKit Go.Shelf Go.Proofs
section
variable {C : Ctx} {N : Nat}
theorem v_load_rows {o : Oper} {st : St} {T : TypeId} {x : Operand} {cs sub : List FV} {e sz m i off n : Nat} (ty : Ty C.P) (ho : o.op = .load T x) (hd : dstB N o.dst = true) (hT : (ty.ty T).agg = some n) (hx : st.ev C x = .bx i off) (hi : st.h i = some (.row e sz m cs)) (hc : (cs.drop off).take n = sub) (hl : sub.length = n) : ValOp C N o st (.f (.agg sub)) :=
  valop_run hd fun w0 a w J st' hA S => by
    have e1 := S.eval x
    rw [hA.ev x (by simp [ho, Op.operands]), hx] at e1
    obtain ⟨hlv, b, hb, hv⟩ := e1
    obtain ⟨xs, q1, q0, q2, q3⟩ := blkOf hA S hi hlv
    have hown : (J i).ownBlock = some b := by
      obtain ⟨a1, c1, e2⟩ := q1.isSlice
      rw [e2] at hb ⊢
      cases a1 <;> simp [bk, Value.ownBlock] at hb ⊢; exact hb
    have R := (RepL.drop (n := off) q3).take n
    rw [hc] at R
    have hlen : ((xs.drop off).take n).length = n := R.1.trans hl
    refine ⟨.agg ((xs.drop off).take n).toArray, w, ?_, Ext.refl _, RepF.agg _ _ R.1 (fun u hu => q2 u (List.mem_of_mem_drop (List.mem_of_mem_take hu))) R.2⟩
    simp only [execOp, ho, hv, Sem.run_bind]
    rw [run_load_agg ((ty.ok T).agg n hT) ((xs.drop off).take n) hlen (fun k hk => ?_)]
    · rfl
    · rw [hlen] at hk
      have hl2 : off + k < xs.length := by simp [List.length_take, List.length_drop] at hlen; omega
      have hcell := q1.cells hown (off + k) xs[off + k] (List.getElem?_eq_getElem hl2)
      rw [addr_add, Nat.zero_add] at hcell
      rw [hcell, List.getElem?_take, if_pos hk, List.getElem?_drop, List.getElem?_eq_getElem hl2]
theorem v_slice_ow {o : Oper} {st : St} {T E s bs : Nat} {x y : Operand} {cs : List FV} {n i e sz : Nat} {l : Int} {k : IntKind} (ty : Ty C.P) (ho : o.op = .slice T x (some y) none none) (hd : dstB N o.dst = true) (hT : (ty.ty T).sl = some (E, s, bs)) (hx : st.ev C x = .ow i) (hi : st.h i = some (.row e sz n cs))
    (hy : st.ev C y = .f (.v (.int k l))) (h0 : 0 ≤ l) (hlh : l ≤ n) : ValOp C N o st (.sv i (l.toNat * s) (n - l.toNat)) :=
  valop_run hd fun w0 a w J st' hA S => by
    have e1 := S.eval x
    rw [hA.ev x (by simp [ho, Op.operands]), hx] at e1
    obtain ⟨hlv, hv⟩ := e1
    have e2 := evV S ((hA.ev y (by simp [ho, Op.operands])).trans hy)
    obtain ⟨hu, it, hi1, rfl, _⟩ := slE_spec ((ty.ok T).sl _ hT)
    obtain ⟨xs, q1, q0, q2, q3⟩ := blkOf hA S hi hlv
    rcases q1.2 with ⟨hj, rfl⟩ | ⟨g, cap, cur, hj, g1, g2, g3, g4, g5, g6⟩
    · have hl0 : l = 0 := by omega
      subst hl0
      refine ⟨.slice none 0 0, w, ?_, Ext.refl _, hlv, none, 0, by simp, Nat.le_refl _, fun h => absurd rfl h⟩
      simp [execOp, ho, hv, hj, e2, Instr.sliceAt, Instr.slice, run_underlying hu, Instr.sliceBounds, Instr.sliceBound, asIntOf, sizeOf, typeInfo, hi1]
    · refine ⟨.slice (if cap = l.toNat then some ⟨g, 0, none⟩ else some ((⟨g, 0, none⟩ : Addr).add (l.toNat * it.size))) (n - l.toNat) (cap - l.toNat), w, ?_, Ext.refl _, hlv, _, _, rfl, by omega, fun h => ⟨g, by rw [hj]; rfl, ?_⟩⟩
      · simp [execOp, ho, hv, hj, e2, Instr.sliceAt, Instr.slice, run_underlying hu, Instr.sliceBounds, Instr.sliceBound, asIntOf, sizeOf, typeInfo, hi1, h0, hlh]
      · have : ¬ cap = l.toNat := by omega
        rw [if_neg this, addr_add, Nat.zero_add]
def zerosF (zs : List Value) (n : Nat) : List FV := (Builtin.zeroCells zs.toArray n).toList.map FV.v
theorem repL_vs {w : World} {M : Nat → Prop} (us : List Value) : RepL w M us (us.map FV.v) := ⟨by simp, fun k u x h1 h2 => by
  rw [List.getElem?_map, h1] at h2
  simp at h2; subst h2; exact RepF.v _⟩
theorem setAt_nil {α : Type} (cs : List α) (o : Nat) : setAt cs o [] = cs := rfl
theorem take_setAt_ge {α : Type} : ∀ (r cs : List α) (o k : Nat), k ≤ o → (setAt cs o r).take k = cs.take k
  | [], _, _, _, _ => rfl
  | x :: r, cs, o, k, h => by rw [setAt, take_setAt_ge r _ _ _ (by omega), List.take_set_of_le h]
theorem e_clear_sv {o : Oper} {st : St} {T i off n e sz m E s bs : Nat} {x : Operand} {cs : List FV} {zs : List Value} (ty : Ty C.P) (ho : o.op = .call { callee := .builtin .clear, args := #[x], argTypes := #[T] }) (hd : o.dst = none) (hT : (ty.ty T).sl = some (E, s, bs)) (hz : (ty.ty E).zero = some zs) (h1c : zs.all Value.oneCell' = true)
    (hx : st.ev C x = .sv i off n) (hi : st.h i = some (.row e sz m cs)) (hl : off + n * zs.length ≤ cs.length) :
    EffOp C N o st { st with h := upd st.h i (some (.row e sz m (setAt cs off (zerosF zs n)))) } :=
  effop_run fun w0 a w J S => by
    have e1 := S.eval x
    rw [hx] at e1
    obtain ⟨hlv, ad, c, hv, hc, hb⟩ := e1
    obtain ⟨hu, it, hi1, rfl, _⟩ := slE_spec ((ty.ok T).sl _ hT)
    obtain ⟨it', z, hi4, hzz, hzl'⟩ := zero_spec ((ty.ok E).zero zs hz)
    rw [hi1] at hi4; cases hi4
    by_cases hn0 : n = 0
    · subst hn0
      have e0 : zerosF zs 0 = [] := by simp [zerosF, Builtin.zeroCells]
      refine ⟨.value (.tuple #[]), .tuple #[], w, ?_, .inl rfl, J, ?_⟩
      · cases ad <;> simp [execOp, ho, resolve, invoke, builtin, Builtin.clear_, hv, run_underlying hu]
      · rw [hd, e0, setAt_nil]
        have : (fun j => upd st.h i (some (.row e sz m cs)) j) = st.h := by
          funext j
          by_cases ej : j = i
          · subst ej; rw [upd_same, hi]
          · rw [upd_other _ _ ej]
        show Sim C w0 N { st with h := fun j => upd st.h i (some (.row e sz m cs)) j } a w J
        rw [this]; exact S
    · obtain ⟨b, hb1, rfl⟩ := hb hn0
      obtain ⟨xs, q1, q0, q2, q3⟩ := S.blk i _ hi
      rcases q1.2 with ⟨hj, _⟩ | ⟨g, cap, cur, hj, h1, h2, h3, h4, h5, h6⟩
      · rw [hj] at hb1; simp [bk] at hb1
      have hbg : b = g := by rw [hj] at hb1; simpa [bk] using hb1.symm
      subst hbg
      have hxl : xs.length ≤ cur.size := by rw [← h6]; simp [List.length_take]; omega
      have hzc : z.cells = zs.toArray := by rw [← hzl']
      have hZ : (Builtin.zeroCells z.cells n).toList.length = n * zs.length := by rw [hzc]; simp [Builtin.zeroCells]
      have r2 : ∀ u ∈ (Builtin.zeroCells z.cells n).toList, u.oneCell' = true := fun u hu => by
        rw [hzc] at hu
        simp only [Builtin.zeroCells, Array.toList_map, List.mem_map] at hu
        obtain ⟨j, hj, rfl⟩ := hu
        have hj' : j < n * zs.length := by simpa using hj
        have h0 : 0 < zs.length := by
          rcases Nat.eq_zero_or_pos zs.length with h | h
          · rw [h] at hj'; simp at hj'
          · exact h
        have hlt := Nat.mod_lt j h0
        have := List.all_eq_true.1 h1c zs[j % zs.length] (List.getElem_mem hlt)
        simpa [hlt] using this
      have hst := run_storeCells_cells (P := C.P) b off (Builtin.zeroCells z.cells n).toList 0 w (fun j hj => by
        have : off + 0 + j < cur.size := by have := q3.1; rw [hZ] at hj; omega
        simp [World.cell?, h2]; omega) (fun j hj => by simp [World.frozen?, h2]) r2
      have hrun : (execOp a.eval o).run C.P w = .ok (.value (.tuple #[])) (w.setCells b off (Builtin.zeroCells z.cells n).toList) := by
        simp only [Nat.add_zero] at hst
        cases n with
        | zero => exact absurd rfl hn0
        | succ n => simp [execOp, ho, resolve, invoke, builtin, Builtin.clear_, hv, run_underlying hu, zeroValue, typeInfo, hi1, hzz, hst]
      refine ⟨_, _, _, hrun, .inl rfl, J, ?_⟩
      rw [hd]
      obtain ⟨us', g1, g2⟩ := setCells_heap (vs := (Builtin.zeroCells z.cells n).toList) (o := off) h2
      have gr : w.grownBy (w.setCells b off (Builtin.zeroCells z.cells n).toList) (some b) := setCells_grown _ _ _
      have us_len : us'.size = cur.size := by
        have := congrArg List.length g2
        rw [setAt_length] at this
        simpa using this
      have live : ∀ j, (upd st.h i (some (.row e sz m (setAt cs off (zerosF zs n)))) j).isSome = (st.h j).isSome := fun j => by
        by_cases e : j = i
        · subst e; rw [upd_same, hlv]; rfl
        · rw [upd_other _ _ e]
      refine S.write (B := .row e sz m (setAt cs off (zerosF zs n))) hlv hb1 gr ⟨setAt xs off (Builtin.zeroCells z.cells n).toList, ⟨by rw [setAt_length]; exact q1.1, .inr ⟨b, cap, us', hj, h1, g1, h3, h4, by rw [us_len, h5], ?_⟩⟩, q0, setAt_mem q2 r2, ?_⟩ (fun e => by cases e)
      · rw [g2, take_setAt _ _ _ _ (by rw [hZ, ← q1.1, q3.1]; exact hl), h6]
      · refine RepL.setAt off ?_ ?_
        · exact q3.mono (fun c hcl hm => gr.block c hcl (fun e => by cases e; exact hm (.inr ⟨i, hlv, hb1⟩))) gr.size (fun c _ h => h.imp id fun ⟨j, hj, hjb⟩ => ⟨j, by rw [← live]; exact hj, hjb⟩)
        · rw [zerosF, ← hzc]; exact repL_vs _
theorem e_slice_head {o : Oper} {st : St} {T E s bs d : Nat} {x y : Operand} {cs : List FV} {n i e sz : Nat} {h : Int} {k : IntKind} (ty : Ty C.P) (ho : o.op = .slice T x none (some y) none) (hd : o.dst = some d) (hdN : dstB N o.dst = true) (hT : (ty.ty T).sl = some (E, s, bs)) (hx : st.ev C x = .ow i) (hi : st.h i = some (.row e sz n cs))
    (hy : st.ev C y = .f (.v (.int k h))) (h0 : 0 ≤ h) (hn : h ≤ n) (hp : 0 < n) (_hsz : 0 < sz) : EffOp C N o st ((st.grow i (.row e sz h.toNat (cs.take (h.toNat * sz)))).put (some d) (.ow i)) :=
  effop_run fun w0 a w J S => by
    have e1 := S.eval x
    rw [hx] at e1
    obtain ⟨hlv, hv⟩ := e1
    have e2 := evV S hy
    obtain ⟨hu, it, hi1, rfl, _⟩ := slE_spec ((ty.ok T).sl _ hT)
    obtain ⟨xs, q1, q0, q2, q3⟩ := S.blk i _ hi
    rcases q1.2 with ⟨_, rfl⟩ | ⟨g, cap, cur, hj, g1, g2, g3, g4, g5, g6⟩
    · exact absurd hp (by omega)
    have hle : h.toNat ≤ n := by omega
    have hle2 : h.toNat * sz ≤ n * sz := Nat.mul_le_mul_right _ hle
    have hle3 : n * sz ≤ cap * sz := Nat.mul_le_mul_right _ g3
    have hhc : h ≤ (cap : Int) := by omega
    have hrun : (execOp a.eval o).run C.P w = .ok (.value (.slice (if cap = 0 then some ⟨g, 0, none⟩ else some ((⟨g, 0, none⟩ : Addr).add 0)) h.toNat cap)) w := by
      simp [execOp, ho, hv, hj, e2, Instr.sliceAt, Instr.slice, run_underlying hu, Instr.sliceBounds, Instr.sliceBound, asIntOf, sizeOf, typeInfo, hi1, h0, hhc]
    have hva : (if cap = 0 then some (⟨g, 0, none⟩ : Addr) else some ((⟨g, 0, none⟩ : Addr).add 0)) = some ⟨g, 0, none⟩ := by
      split
      · rfl
      · rw [addr_add, Nat.zero_add]
    rw [hva] at hrun
    refine ⟨_, _, w, hrun, .inl rfl, upd J i (.slice (some ⟨g, 0, none⟩) h.toNat cap), ?_⟩
    have hbk : bk (J i) = some g := by rw [hj]; rfl
    have G : Sim C w0 N (st.grow i (.row e sz h.toNat (cs.take (h.toNat * sz)))) a w (upd J i (.slice (some ⟨g, 0, none⟩) h.toNat cap)) := S.regrow hlv (World.grownBy.refl _ _) (fun c hc => .inl (by rw [hbk]; simpa [bk] using hc)) ⟨xs.take (h.toNat * sz), ⟨?_, .inr ⟨g, cap, cur, rfl, g1, g2, by omega, g4, g5, ?_⟩⟩, fun b hb => q0 b (by rw [hbk]; simpa [bk] using hb), fun u hu => q2 u (List.mem_of_mem_take hu), ?_⟩ rfl
    · rw [hd] at hdN ⊢
      refine G.put hdN ⟨?_, ?_⟩
      · show ((st.grow i _).h i).isSome = true
        simp [St.grow]
      · rw [upd_same]
    · rw [List.length_take, q1.1]; omega
    · rw [← g6, List.take_take, Nat.min_eq_left hle2]
    · refine (q3.take _).mono (fun _ _ _ => rfl) (Nat.le_refl _) (fun b hb hm => ?_)
      rcases hm with h0 | ⟨j, hj', hjb⟩
      · exact .inl h0
      by_cases ej : j = i
      · subst ej
        rw [upd_same] at hjb
        exact .inr ⟨j, hlv, by rw [hbk]; simpa [bk] using hjb⟩
      · rw [upd_other _ _ ej] at hjb
        exact .inr ⟨j, by simpa [St.grow, killA_ne ej] using hj', hjb⟩
theorem ev_frz {st : St} {i : Nat} {r : Option FV} {cs : List FV} (x : Operand) : (st.frz i r cs).ev C x = frzA i r cs (st.ev C x) := by
  cases x with
  | tmp t => rfl
  | const v => rfl
  | global g => show (match C.G g with | some cs => AV.f (.pt cs 0) | none => .bot) = frzA i r cs (match C.G g with | some cs => .f (.pt cs 0) | none => .bot); cases C.G g <;> rfl
  | func f => rfl
theorem v_callR {o : Oper} {st : St} {f x0 : Operand} {args : Array Operand} {ts : Array TypeId} {g i e sz n : Nat} {cs : List FV} {caps xs ys : List FV} {r : Value} (K : Summ C.P C.G g ys (.v r)) (ho : o.op = .call { callee := .value f, args := args, argTypes := ts }) (hd : dstB N o.dst = true) (hx : st.ev C x0 = .ow i) (hm : x0 ∈ args.toList) (hi : st.h i = some (.row e sz n cs))
    (hf : (st.frz i (some (.sl n cs)) cs).ev C f = .f (.fn g caps)) (hxs : (st.frz i (some (.sl n cs)) cs).evL C args.toList = some xs) (hys : xs ++ caps = ys) : ValOp C N o st (.f (.v r)) := by
  intro w0 a w st' hA ⟨J, S⟩ K1 Q hK
  have hop : ∀ x ∈ args.toList, st'.ev C x = st.ev C x := fun x hx => hA.ev x (by simp [ho, Op.operands, Call.operands]; exact .inr (by simpa using hx))
  have e0 := S.eval x0
  rw [hop x0 hm, hx] at e0
  have hi' : st'.h i = some (.row e sz n cs) := by
    rcases hA.hp i _ hi with e' | ⟨B', e', m⟩
    · have e1 := e0.1; rw [e'] at e1; cases e1
    · rcases m with rfl | ⟨_, _, e2, _⟩
      · exact e'
      · cases e2
  have S2 := S.frz_row hi'
  have hfz : ∀ x, st'.ev C x = st.ev C x → (st'.frz i (some (.sl n cs)) cs).ev C x = (st.frz i (some (.sl n cs)) cs).ev C x := fun x h => by rw [ev_frz, ev_frz, h]
  have e1 := evF S2 ((hfz f (hA.ev f (by simp [ho, Op.operands, Call.operands]))).trans hf)
  have R := evL_rep (st := st.frz i (some (.sl n cs)) cs) S2 (fun x hx => hfz x (hop x hx)) hxs
  generalize hv : a.eval f = v at e1
  cases e1 with
  | fn _ _ us h1 h2 =>
    subst hys
    have RR := RepL.append R ⟨h1, h2⟩
    have hrun : (execOp a.eval o).run C.P w = .ok (.enter g (args.toList.map a.eval ++ us).toArray) w := by
      have e2 : (args.map a.eval ++ us.toArray) = (args.toList.map a.eval ++ us).toArray := by
        apply Array.ext'; simp
      simp only [execOp, ho, resolve, hv, Deferred.ofValue, Sem.run_bind, Sem.run_pure, Result.andThen_ok, invoke]
      rw [show (#[] : Array Value) ++ args.map a.eval = args.map a.eval by simp, e2]
      exact K.enters _ _
    refine op_enter hrun ?_
    refine Calls.mono (K.call w (Mb C (st'.frz i (some (.sl n cs)) cs).h J) _ (mb_lt S2) S2.glob RR) ?_
    rintro e w' ⟨v', rfl, hr, he⟩
    have := repV hr
    subst this
    exact hK v' w' ⟨J, (S.toExt he).put hd (RepF.v _)⟩
variable {Q : Exit → St → Prop} {st : St} {ops : Array Oper} {pr : Bool} {K : St → Prop} {rest : List Oper} {d : Option Tmp} {T0 : TypeId} {pos : String} {af : Array Edge} {g : Option (Nat × Bool)}
theorem s_ldrs (ty : Ty C.P) {T : TypeId} {x : Operand} {cs sub : List FV} {e sz m i off n : Nat} (hw : wantB st ops ⟨d, .load T x, T0, pos, af, g⟩ = some true) (hd : dstB N d = true) (hT : (ty.ty T).agg = some n) (hx : st.ev C x = .bx i off) (hi : st.h i = some (.row e sz m cs)) (hc : (cs.drop off).take n = sub) (hl : sub.length = n)
    (h : R C N ops pr K rest (st.put d (.f (.agg sub)))) : R C N ops pr K (⟨d, .load T x, T0, pos, af, g⟩ :: rest) st := ⟨r_val hw (v_load_rows ty rfl hd hT hx hi hc hl) h.out⟩
theorem s_slice_ow (ty : Ty C.P) {T E s bs : Nat} {x y : Operand} {cs : List FV} {n i e sz : Nat} {l : Int} {k : IntKind} (hd : dstB N d = true) (hT : (ty.ty T).sl = some (E, s, bs)) (hx : st.ev C x = .ow i) (hi : st.h i = some (.row e sz n cs)) (hy : st.ev C y = .f (.v (.int k l))) (h0 : 0 ≤ l) (hlh : l ≤ n)
    (h : R C N ops pr K rest (st.put d (.sv i (l.toNat * s) (n - l.toNat)))) : R C N ops pr K (⟨d, .slice T x (some y) none none, T0, pos, af, none⟩ :: rest) st := ⟨r_val rfl (v_slice_ow ty rfl hd hT hx hi hy h0 hlh) h.out⟩
theorem s_clear_sv (ty : Ty C.P) {T i off n e sz m E s bs : Nat} {x : Operand} {cs : List FV} {zs : List Value} (hT : (ty.ty T).sl = some (E, s, bs)) (hz : (ty.ty E).zero = some zs) (h1c : zs.all Value.oneCell' = true) (hx : st.ev C x = .sv i off n) (hi : st.h i = some (.row e sz m cs)) (hl : off + n * zs.length ≤ cs.length)
    (h : R C N ops false K rest { st with h := upd st.h i (some (.row e sz m (setAt cs off (zerosF zs n)))) }) : R C N ops false K (⟨none, .call { callee := .builtin .clear, args := #[x], argTypes := #[T] }, T0, pos, af, none⟩ :: rest) st := ⟨r_eff rfl (e_clear_sv ty rfl rfl hT hz h1c hx hi hl) h.out⟩
theorem s_slice_head (ty : Ty C.P) {T E s bs d : Nat} {x y : Operand} {cs : List FV} {n i e sz : Nat} {l : Int} {k : IntKind} (hdN : dstB N (some d) = true) (hT : (ty.ty T).sl = some (E, s, bs)) (hx : st.ev C x = .ow i) (hi : st.h i = some (.row e sz n cs)) (hy : st.ev C y = .f (.v (.int k l))) (h0 : 0 ≤ l) (hn : l ≤ n) (hp : 0 < n) (hsz : Nat.blt 0 sz = true)
    (h : R C N ops false K rest ((st.grow i (.row e sz l.toNat (cs.take (l.toNat * sz)))).put (some d) (.ow i))) : R C N ops false K (⟨some d, .slice T x none (some y) none, T0, pos, af, none⟩ :: rest) st := ⟨r_eff rfl (e_slice_head ty rfl rfl hdN hT hx hi hy h0 hn hp (Nat.le_of_ble_eq_true hsz)) h.out⟩
theorem s_callR {f : Operand} {args : Array Operand} {ts : Array TypeId} {gf e sz n : Nat} {cs : List FV} {caps xs ys : List FV} {r : Value} (i : Nat) (x0 : Operand) (S : Summ C.P C.G gf ys (.v r)) (hw : wantB st ops ⟨d, .call { callee := .value f, args := args, argTypes := ts }, T0, pos, af, g⟩ = some true) (hd : dstB N d = true) (hx : st.ev C x0 = .ow i) (hm : x0 ∈ args.toList) (hi : st.h i = some (.row e sz n cs))
    (hf : (st.frz i (some (.sl n cs)) cs).ev C f = .f (.fn gf caps)) (hxs : (st.frz i (some (.sl n cs)) cs).evL C args.toList = some xs) (hys : xs ++ caps = ys)
    (h : R C N ops pr K rest (st.put d (.f (.v r)))) : R C N ops pr K (⟨d, .call { callee := .value f, args := args, argTypes := ts }, T0, pos, af, g⟩ :: rest) st := ⟨r_val hw (v_callR S rfl hd hx hm hi hf hxs hys) h.out⟩
end
end Go.Ab
namespace Go.Ab
open Go Go.RowKit Go.Shelf Go.Proofs
section
variable {C : Ctx} {N : Nat}
def GroOp (C : Ctx) (N : Nat) (o : Oper) (st : St) (i : Nat) (B : Blk) (d : Nat) : Prop := o.guard = none ∧ o.dst = some d ∧
  ∀ w0 a w st', Agree C o st st' → (∀ k, st'.h k = st.h k) → SimE C w0 N st' a w → ∀ K Q, (∀ v w', SimE C w0 N ((st'.grow i B).put (some d) (.ow i)) (a.put o.dst v) w' → K (a.put o.dst v) w') → o.wpIn (Fence.wr C.ro) 7 C.P a w K Q
def dstsB (l : List Oper) (s1 s2 : Nat → AV) (i : Nat) : Prop := match l with
  | [] => True
  | o :: l => (match o.dst with | some t => killA i (s1 t) = s2 t | none => True) ∧ dstsB l s1 s2 i
variable {l : List Oper} {n0 : Nat}
structure GD (C : Ctx) (N : Nat) (ops : Array Oper) (o : Oper) (mid : List Oper) (K : St → Prop) (st : St) : Prop where
  out : ∃ i B d, GroOp C N o st i B d ∧ Run C N ops true (fun st1 => Run C N ops true (fun st2 => (dstsB mid st1.s st2.s i ∧ st1.nx = st.nx ∧ st2.nx = st.nx) ∧ K st2) mid ((st.grow i B).put (some d) (.ow i))) mid st
structure KD (mid : List Oper) (i n : Nat) (K : St → Prop) (st1 st2 : St) : Prop where
  eqs : dstsB mid st1.s st2.s i
  nx1 : st1.nx = n
  nx2 : st2.nx = n
  out : K st2
end
end Go.Ab
namespace Go.Proofs.YtdmdpkoapllkkaaGreat
open Go Go.RowKit Go.Proofs Go.Shelf Go.Ab Go.Sort
theorem setAt_mid {α : Type} : ∀ (r b a c : List α), b.length = r.length → setAt (a ++ b ++ c) a.length r = a ++ r ++ c
  | [], [], _, _, _ => rfl
  | x :: r, y :: b, a, c, h => by
    have e : (a ++ y :: b ++ c).set a.length x = (a ++ [x]) ++ b ++ c := by
      rw [List.append_assoc, List.set_append_right _ _ (Nat.le_refl _), Nat.sub_self]; simp
    have ih := setAt_mid r b (a ++ [x]) c (by simpa using h)
    rw [List.length_append] at ih
    rw [setAt, e]
    exact ih.trans (by simp)
end Go.Proofs.YtdmdpkoapllkkaaGreat
namespace Go.Proofs.YtdmdpkoapllkkaaGreat
open Go Go.RowKit Go.Proofs Go.Shelf Go.Ab
end Go.Proofs.YtdmdpkoapllkkaaGreat
namespace Go.Proofs.YtdmdpkoapllkkaaGreat
open Go Go.RowKit Go.Proofs Go.Shelf Go.Ab
theorem HitsOk.mem {l : List Site} {h : List Hit} (o : HitsOk l h) {x : Hit} (hx : x ∈ h) : HitOk l x := by
  obtain ⟨i, hi, rfl⟩ := List.getElem_of_mem hx
  exact o.hit i hi
end Go.Proofs.YtdmdpkoapllkkaaGreat
namespace Go.Proofs.YtdmdpkoapllkkaaGreat
open Go Go.RowKit Go.Proofs Go.Shelf Go.Ab
set_option maxRecDepth 100000 in
theorem idxdelE_s (l : List Ev) (g : Nat) (caps : List FV) (p : Nat → Bool) (hl : l.length ≤ 1000000) (hg : ∀ i (hi : i < l.length), Summ Tryz.prog GG g ([.agg (evF l[i])] ++ caps) (bv (p i))) : Summ Tryz.prog GG 132 [.sl l.length (evsF l), .fn g caps] (iv (idxP l.length p)) := by
  refine summW Tryz.func132 rfl rfl 19 rfl (by simp) (fun M0 => ?_)
  repeat (first
    | (apply s_a TY; exact rfl)
    | apply w_seq
    | apply w_region
    | apply s_nil
    | apply t_norm
    | apply w_block)
  apply w_loop (fun k : Nat => ⟨(Ab.upd (Ab.upd (Ab.upd (Ab.upd (fun _ => .bot) 0 (.f (.sl l.length (evsF l)))) 1 (.f (.fn g caps))) 7 (.f (iv l.length))) 8 (.f (iv (k : Nat)))), (fun _ => none), 0⟩) (fun k => k ≤ l.length ∧ ∀ i, i < k → p i = false) (fun k => l.length - k) 0 (⟨Nat.zero_le _, fun j h => absurd h (Nat.not_lt_zero j)⟩) (gh_le ⟨le_upd rfl trivial (le_upd rfl trivial (le_upd rfl trivial (le_upd rfl trivial (le_nil _)))), le_h0 _ _⟩)
  intro k ⟨hk, hz⟩
  by_cases hc : k < l.length
  · have Hc := hg k hc
    cases hp : p k with
    | true =>
      rw [hp] at Hc
      rw [idxP_at hc hz hp]
      repeat (first
    | (apply s_a TY; exact rfl)
    | (apply s_t; exact rfl; (first | assumption | omega))
    | apply w_seq
    | apply w_region
    | apply s_nil
    | apply t_norm
    | apply t_ret
    | apply k_ret
    | apply w_block
    | apply w_ret
    | apply w_skip
    | (apply w_condT; exact rfl; exact rfl)
    | (apply s_k (Hc); exact rfl)
    | (apply s_c TY; exact rfl; (first | omega | exact ⟨by omega, by (first | with_reducible assumption | ((with_reducible apply evsF_ne); omega) | assumption)⟩))
    | (apply s_m TY; exact rfl; (first | with_reducible assumption | ((with_reducible apply evsF_sub); omega) | exact rfl); exact rfl))
      exact lv_ret (ret1 rfl (res_tmp rfl))
    | false =>
      rw [hp] at Hc
      repeat (first
    | (apply s_a TY; exact rfl)
    | (apply s_t; exact rfl; (first | assumption | omega))
    | apply w_seq
    | apply w_region
    | apply s_nil
    | apply t_norm
    | apply k_norm
    | apply w_block
    | apply w_skip
    | (apply w_condT; exact rfl; exact rfl)
    | (apply w_condF; exact rfl; exact rfl)
    | (apply s_k (Hc); exact rfl)
    | (apply s_c TY; exact rfl; (first | omega | exact ⟨by omega, by (first | with_reducible assumption | ((with_reducible apply evsF_ne); omega) | assumption)⟩))
    | (apply s_m TY; exact rfl; (first | with_reducible assumption | ((with_reducible apply evsF_sub); omega) | exact rfl); exact rfl))
      exact ⟨k + 1, ⟨by omega, fun i hi => by
        by_cases e : i = k
        · subst e; exact hp
        · exact hz i (by omega)⟩, by omega, gh_le ⟨le_upd rfl trivial (le_upd rfl trivial (le_upd rfl trivial (le_upd rfl trivial (le_nil _)))), le_h0 _ _⟩⟩
  · rw [idxP_no fun i hi => hz i (by omega)]
    repeat (first
    | (apply s_a TY; exact rfl)
    | (apply s_f; exact rfl; (first | assumption | omega))
    | apply w_seq
    | apply w_region
    | apply s_nil
    | apply t_norm
    | apply t_exit
    | apply k_hit
    | apply w_exit
    | apply w_ret
    | (apply w_condF; exact rfl; exact rfl))
    exact lv_ret (ret1 rfl (res_tmp rfl))
set_option maxRecDepth 100000 in
theorem idxdelEC_s (l : List Ev) (g : Nat) (caps : List FV) (p : Nat → Bool) (hl : l.length ≤ 1000000) (hg : ∀ i (hi : i < l.length), Summ Tryz.prog GG g ([.agg (evF l[i])] ++ caps) (bv (p i))) : Summ Tryz.prog GG 89 [.sl l.length (evsF l), .fn g caps] (bv (anyP l.length p)) := by
  have HI := idxdelE_s l g caps p hl hg
  cases ha : anyP l.length p with
  | true =>
    have h0 := (idxP_pos l.length p).2 ha
    refine summW Tryz.func89 rfl rfl 9 rfl (by simp) (fun M0 => ?_)
    repeat (first
    | (apply s_a TY; exact rfl)
    | (apply s_t; exact rfl; (first | assumption | omega))
    | apply w_seq
    | apply w_region
    | apply s_nil
    | apply t_norm
    | apply w_ret
    | (apply s_k (HI); exact rfl))
    exact lv_ret (ret1 rfl (res_tmp rfl))
  | false =>
    have h0 : ¬ 0 ≤ idxP l.length p := fun h => by rw [(idxP_pos l.length p).1 h] at ha; cases ha
    refine summW Tryz.func89 rfl rfl 9 rfl (by simp) (fun M0 => ?_)
    repeat (first
    | (apply s_a TY; exact rfl)
    | (apply s_f; exact rfl; (first | assumption | omega))
    | apply w_seq
    | apply w_region
    | apply s_nil
    | apply t_norm
    | apply w_ret
    | (apply s_k (HI); exact rfl))
    exact lv_ret (ret1 rfl (res_tmp rfl))
set_option maxRecDepth 100000 in
theorem idxdelR_s (l : List Rng) (g : Nat) (caps : List FV) (p : Nat → Bool) (hl : l.length ≤ 1000000) (hg : ∀ i (hi : i < l.length), Summ Tryz.prog GG g ([.agg (rngF l[i])] ++ caps) (bv (p i))) : Summ Tryz.prog GG 131 [.sl l.length (rngsF l), .fn g caps] (iv (idxP l.length p)) := by
  refine summW Tryz.func131 rfl rfl 19 rfl (by simp) (fun M0 => ?_)
  repeat (first
    | (apply s_a TY; exact rfl)
    | apply w_seq
    | apply w_region
    | apply s_nil
    | apply t_norm
    | apply w_block)
  apply w_loop (fun k : Nat => ⟨(Ab.upd (Ab.upd (Ab.upd (Ab.upd (fun _ => .bot) 0 (.f (.sl l.length (rngsF l)))) 1 (.f (.fn g caps))) 7 (.f (iv l.length))) 8 (.f (iv (k : Nat)))), (fun _ => none), 0⟩) (fun k => k ≤ l.length ∧ ∀ i, i < k → p i = false) (fun k => l.length - k) 0 (⟨Nat.zero_le _, fun j h => absurd h (Nat.not_lt_zero j)⟩) (gh_le ⟨le_upd rfl trivial (le_upd rfl trivial (le_upd rfl trivial (le_upd rfl trivial (le_nil _)))), le_h0 _ _⟩)
  intro k ⟨hk, hz⟩
  by_cases hc : k < l.length
  · have Hc := hg k hc
    cases hp : p k with
    | true =>
      rw [hp] at Hc
      rw [idxP_at hc hz hp]
      repeat (first
    | (apply s_a TY; exact rfl)
    | (apply s_t; exact rfl; (first | assumption | omega))
    | apply w_seq
    | apply w_region
    | apply s_nil
    | apply t_norm
    | apply t_ret
    | apply k_ret
    | apply w_block
    | apply w_ret
    | apply w_skip
    | (apply w_condT; exact rfl; exact rfl)
    | (apply s_k (Hc); exact rfl)
    | (apply s_c TY; exact rfl; (first | omega | exact ⟨by omega, by (first | with_reducible assumption | ((with_reducible apply rngsF_ne); omega) | assumption)⟩))
    | (apply s_m TY; exact rfl; (first | with_reducible assumption | ((with_reducible apply rngsF_sub); omega) | exact rfl); exact rfl))
      exact lv_ret (ret1 rfl (res_tmp rfl))
    | false =>
      rw [hp] at Hc
      repeat (first
    | (apply s_a TY; exact rfl)
    | (apply s_t; exact rfl; (first | assumption | omega))
    | apply w_seq
    | apply w_region
    | apply s_nil
    | apply t_norm
    | apply k_norm
    | apply w_block
    | apply w_skip
    | (apply w_condT; exact rfl; exact rfl)
    | (apply w_condF; exact rfl; exact rfl)
    | (apply s_k (Hc); exact rfl)
    | (apply s_c TY; exact rfl; (first | omega | exact ⟨by omega, by (first | with_reducible assumption | ((with_reducible apply rngsF_ne); omega) | assumption)⟩))
    | (apply s_m TY; exact rfl; (first | with_reducible assumption | ((with_reducible apply rngsF_sub); omega) | exact rfl); exact rfl))
      exact ⟨k + 1, ⟨by omega, fun i hi => by
        by_cases e : i = k
        · subst e; exact hp
        · exact hz i (by omega)⟩, by omega, gh_le ⟨le_upd rfl trivial (le_upd rfl trivial (le_upd rfl trivial (le_upd rfl trivial (le_nil _)))), le_h0 _ _⟩⟩
  · rw [idxP_no fun i hi => hz i (by omega)]
    repeat (first
    | (apply s_a TY; exact rfl)
    | (apply s_f; exact rfl; (first | assumption | omega))
    | apply w_seq
    | apply w_region
    | apply s_nil
    | apply t_norm
    | apply t_exit
    | apply k_hit
    | apply w_exit
    | apply w_ret
    | (apply w_condF; exact rfl; exact rfl))
    exact lv_ret (ret1 rfl (res_tmp rfl))
set_option maxRecDepth 100000 in
theorem idxdelRC_s (l : List Rng) (g : Nat) (caps : List FV) (p : Nat → Bool) (hl : l.length ≤ 1000000) (hg : ∀ i (hi : i < l.length), Summ Tryz.prog GG g ([.agg (rngF l[i])] ++ caps) (bv (p i))) : Summ Tryz.prog GG 87 [.sl l.length (rngsF l), .fn g caps] (bv (anyP l.length p)) := by
  have HI := idxdelR_s l g caps p hl hg
  cases ha : anyP l.length p with
  | true =>
    have h0 := (idxP_pos l.length p).2 ha
    refine summW Tryz.func87 rfl rfl 9 rfl (by simp) (fun M0 => ?_)
    repeat (first
    | (apply s_a TY; exact rfl)
    | (apply s_t; exact rfl; (first | assumption | omega))
    | apply w_seq
    | apply w_region
    | apply s_nil
    | apply t_norm
    | apply w_ret
    | (apply s_k (HI); exact rfl))
    exact lv_ret (ret1 rfl (res_tmp rfl))
  | false =>
    have h0 : ¬ 0 ≤ idxP l.length p := fun h => by rw [(idxP_pos l.length p).1 h] at ha; cases ha
    refine summW Tryz.func87 rfl rfl 9 rfl (by simp) (fun M0 => ?_)
    repeat (first
    | (apply s_a TY; exact rfl)
    | (apply s_f; exact rfl; (first | assumption | omega))
    | apply w_seq
    | apply w_region
    | apply s_nil
    | apply t_norm
    | apply w_ret
    | (apply s_k (HI); exact rfl))
    exact lv_ret (ret1 rfl (res_tmp rfl))
theorem delR_sub (K l : List Rng) (i : Nat) (hn : K.length ≤ i) (hi : i < l.length) : ((rngsF (K ++ l.drop K.length)).drop (i * 2)).take 2 = rngF l[i] := by
  have hl : i < (K ++ l.drop K.length).length := by rw [List.length_append, List.length_drop]; omega
  rw [rngsF_sub hl]
  congr 1
  rw [List.getElem_append_right hn, List.getElem_drop]
  congr 1; omega
theorem delR_len (K l : List Rng) (hn : K.length ≤ l.length) : (rngsF (K ++ l.drop K.length)).length = l.length * 2 := by
  rw [rngsF_len, List.length_append, List.length_drop]; congr 1; omega
theorem delR_set (pre post : List Rng) (y x : Rng) : setAt (rngsF (pre ++ y :: post)) (pre.length * 2) (rngF x) = rngsF (pre ++ x :: post) := by
  rw [rngsF_app, rngsF_app, show rngsF (y :: post) = rngF y ++ rngsF post from rfl, show rngsF (x :: post) = rngF x ++ rngsF post from rfl]
  rw [← rngsF_len pre, ← List.append_assoc, ← List.append_assoc]
  exact setAt_mid (rngF x) (rngF y) _ _ rfl
theorem delR_store (K l : List Rng) (x : Rng) (hm : K.length < l.length) : setAt (rngsF (K ++ l.drop K.length)) (K.length * 2) (rngF x) = rngsF (K ++ [x] ++ l.drop (K ++ [x]).length) := by
  rw [List.drop_eq_getElem_cons hm, delR_set, List.length_append, List.length_singleton, List.append_assoc]; rfl
theorem delR_row {n m : Nat} {cs cs' : List FV} (hn : n = m) (h : cs = cs') : some (Blk.row 65 2 n cs) = some (Blk.row 65 2 m cs') := by rw [h, hn]
set_option maxRecDepth 100000 in
set_option maxHeartbeats 3200000 in
theorem delR_g (l : List Rng) (g : Nat) (caps : List FV) (q : Rng → Bool) (h60 : l.length ≤ 1000000) (hg : ∀ i (hi : i < l.length), Summ Tryz.prog GG g ([.agg (rngF l[i])] ++ caps) (bv (q l[i]))) : SummG Tryz.prog GG 83 [.row 65 2 l.length (rngsF l)] [.ow 0, .f (.fn g caps)] (.ow 0) [.row 65 2 (l.filter (fun x => !q x)).length (rngsF (l.filter (fun x => !q x)))] := by
  have hsl := rngsF_len l
  have HI := idxdelR_s l g caps (fun i => q (l.getD i default)) h60 (fun i hi => by rw [getD_at hi]; exact hg i hi)
  rcases idxP_cases l.length (fun i => q (l.getD i default)) with ⟨hi, hz⟩ | ⟨k, hk, hz, hp, hi⟩
  · have hfe : (l.filter (fun x => !q x)) = l := List.filter_eq_self.2 fun x hx => by
      obtain ⟨i, hi, rfl⟩ := List.getElem_of_mem hx
      have := hz i hi
      rw [getD_at hi] at this
      rw [this]; rfl
    rw [hi] at HI
    rw [hfe]
    refine summG_of Tryz.func83 rfl rfl 42 rfl (by simp) (by simp) (fun i B B' h1 h2 => by
        match i, h1, h2 with
    | 0, h1, h2 => cases h1; cases h2; rfl
    | _ + 1, h1, _ => simp at h1) (fun M X J => ?_)
    repeat (first
    | (apply s_callR 0 (.tmp 8) HI; exact rfl; exact rfl; exact rfl; simp; exact rfl; exact rfl; exact rfl; exact rfl)
    | (apply s_a TY; exact rfl)
    | (apply s_t; exact rfl; (first | assumption | omega))
    | apply w_seq
    | apply w_region
    | apply s_nil
    | apply t_norm
    | apply t_ret
    | apply w_ret
    | (apply w_condT; exact rfl; exact rfl))
    exact lvG_ret (gh_one 0 4 rfl rfl) (rg1 rfl (rv_tmp rfl))
  · rw [hi] at HI
    simp only [getD_at hk] at hp
    have hz2 : ∀ i, i < k → q (l.getD i default) = false := hz
    have hfk : (l.take k).filter (fun x => !q x) = l.take k := List.filter_eq_self.2 fun x hx => by
      obtain ⟨i, hi, rfl⟩ := List.getElem_of_mem hx
      have hik : i < k := by rw [List.length_take] at hi; omega
      have := hz2 i hik
      rw [getD_at (show i < l.length by omega)] at this
      rw [List.getElem_take, this]; rfl
    have hk1 : (l.take (k + 1)).filter (fun x => !q x) = l.take k := by
      rw [List.take_succ_eq_append_getElem hk, List.filter_append, hfk, List.filter_cons_of_neg (by simp [hp])]; simp
    have hkl : ((l.take (k + 1)).filter (fun x => !q x)).length = k := by rw [hk1, List.length_take]; omega
    refine summG_of Tryz.func83 rfl rfl 42 rfl (by simp) (by simp) (fun i B B' h1 h2 => by
        match i, h1, h2 with
    | 0, h1, h2 => cases h1; cases h2; rfl
    | _ + 1, h1, _ => simp at h1) (fun M X J => ?_)
    repeat (first
    | (apply s_callR 0 (.tmp 8) HI; exact rfl; exact rfl; exact rfl; simp; exact rfl; exact rfl; exact rfl; exact rfl)
    | (apply s_a TY; exact rfl)
    | (apply s_f; exact rfl; (first | assumption | omega))
    | apply w_seq
    | apply w_region
    | apply s_nil
    | apply t_norm
    | apply w_block
    | apply w_skip
    | (apply w_condF; exact rfl; exact rfl)
    | (apply s_c TY; exact rfl; (first | omega | exact ⟨by omega, by (first | with_reducible assumption | ((with_reducible apply rngsF_ne); omega) | assumption)⟩)))
    apply w_loop (fun j : Nat => ⟨(Ab.upd (Ab.upd (Ab.upd (Ab.upd (fun _ => .bot) 0 (.ow 0)) 1 (.f (.fn g caps))) 5 (.f (iv ((((l.take j).filter (fun x => !q x)).length : Nat) : Int)))) 6 (.f (iv ((j : Nat) : Int)))), (Ab.upd (fun _ => none) 0 (some (.row 65 2 l.length (rngsF (((l.take j).filter (fun x => !q x)) ++ l.drop ((l.take j).filter (fun x => !q x)).length))))), 1⟩) (fun j => k + 1 ≤ j ∧ j ≤ l.length ∧ ((l.take j).filter (fun x => !q x)).length + 1 ≤ j) (fun j => l.length - j) (k + 1) (⟨Nat.le_refl _, by omega, by omega⟩) (gh_le ⟨le_upd rfl trivial (le_upd (by rw [hkl]; rfl) trivial (le_upd rfl trivial (le_upd rfl rfl (le_nil _)))), le_hupd (delR_row rfl (by rw [hkl, hk1, List.take_append_drop])) trivial (le_h0 _ _)⟩)
    intro j ⟨hj1, hj, hm⟩
    by_cases hjc : j < l.length
    · have f1 : ((rngsF (((l.take j).filter (fun x => !q x)) ++ l.drop ((l.take j).filter (fun x => !q x)).length)).drop (((j : Nat) : Int).toNat * 2)).take 2 = rngF l[j] := by
        rw [show ((j : Nat) : Int).toNat = j by omega]; exact delR_sub ((l.take j).filter (fun x => !q x)) l j (by omega) hjc
      have Hc := hg j hjc
      have hsuc : (l.take (j + 1)).filter (fun x => !q x) = ((l.take j).filter (fun x => !q x)) ++ (if q l[j] = true then [] else [l[j]]) := by
        rw [List.take_succ_eq_append_getElem hjc, List.filter_append]
        congr 1
        by_cases h : q l[j] = true
        · rw [if_pos h, List.filter_cons_of_neg (by simp [h])]; rfl
        · rw [if_neg h, List.filter_cons_of_pos (by simpa using h)]; rfl
      cases hq : q l[j] with
      | true =>
        rw [hq] at Hc
        rw [hq, if_pos rfl, List.append_nil] at hsuc
        repeat (first
    | (apply s_ldrs TY; exact rfl; exact rfl; exact rfl; exact rfl; exact rfl; exact f1; exact rfl)
    | (apply s_a TY; exact rfl)
    | (apply s_t; exact rfl; (first | assumption | omega))
    | apply w_seq
    | apply w_region
    | apply s_nil
    | apply t_norm
    | apply k_norm
    | apply w_block
    | apply w_skip
    | (apply w_condT; exact rfl; exact rfl)
    | (apply w_condF; exact rfl; exact rfl)
    | (apply s_k (Hc); exact rfl)
    | (apply s_c TY; exact rfl; (first | omega | exact ⟨by omega, by (first | with_reducible assumption | ((with_reducible apply rngsF_ne); omega) | assumption)⟩))
    | (apply s_alloc TY; exact rfl; exact rfl; exact rfl)
    | (apply s_store TY; exact rfl; exact rfl; exact rfl; exact rfl; exact rfl; exact rfl))
        exact ⟨j + 1, ⟨by omega, by omega, by rw [hsuc]; omega⟩, by omega, gh_le ⟨le_upd rfl trivial (le_upd (by rw [hsuc]; rfl) trivial (le_upd rfl trivial (le_upd rfl rfl (le_nil _)))), le_hupd (delR_row rfl (by rw [hsuc])) trivial (le_h0 _ _)⟩⟩
      | false =>
        rw [hq] at Hc
        rw [hq, if_neg (by decide)] at hsuc
        have hX := delR_len ((l.take j).filter (fun x => !q x)) l (by omega)
        have hst : ((((l.take j).filter (fun x => !q x)).length : Nat) : Int).toNat * 2 + (rngF l[j]).length ≤ (rngsF (((l.take j).filter (fun x => !q x)) ++ l.drop ((l.take j).filter (fun x => !q x)).length)).length := by rw [hX]; show _ + 2 ≤ _; omega
        have hset := delR_store ((l.take j).filter (fun x => !q x)) l l[j] (by omega)
        rw [← hsuc] at hset
        have hsl2 : ((l.take (j + 1)).filter (fun x => !q x)).length = ((l.take j).filter (fun x => !q x)).length + 1 := by rw [hsuc, List.length_append]; rfl
        repeat (first
    | (apply s_ldrs TY; exact rfl; exact rfl; exact rfl; exact rfl; exact rfl; exact f1; exact rfl)
    | (apply s_storeR TY; exact rfl; exact rfl; exact rfl; exact rfl; exact rfl; exact hst)
    | (apply s_a TY; exact rfl)
    | (apply s_t; exact rfl; (first | assumption | omega))
    | apply w_seq
    | apply w_region
    | apply s_nil
    | apply t_norm
    | apply k_norm
    | apply w_block
    | apply w_skip
    | (apply w_condT; exact rfl; exact rfl)
    | (apply s_k (Hc); exact rfl)
    | (apply s_c TY; exact rfl; (first | omega | exact ⟨by omega, by (first | with_reducible assumption | ((with_reducible apply rngsF_ne); omega) | assumption)⟩))
    | (apply s_alloc TY; exact rfl; exact rfl; exact rfl)
    | (apply s_store TY; exact rfl; exact rfl; exact rfl; exact rfl; exact rfl; exact rfl))
        exact ⟨j + 1, ⟨by omega, by omega, by omega⟩, by omega, gh_le ⟨le_upd rfl trivial (le_upd (by rw [hsl2]; rfl) trivial (le_upd rfl trivial (le_upd rfl rfl (le_nil _)))), le_hupd (delR_row rfl hset) trivial (le_h0 _ _)⟩⟩
    · have hje : j = l.length := by omega
      subst hje
      have hX := delR_len ((l.take l.length).filter (fun x => !q x)) l (by omega)
      repeat (first
    | (apply s_slice_ow TY; exact rfl; exact rfl; exact rfl; exact rfl; exact rfl; omega; omega)
    | (apply s_clear_sv TY; exact rfl; exact rfl; exact rfl; exact rfl; exact rfl; (show _ + _ * 2 ≤ _; omega))
    | (apply s_slice_head TY; exact rfl; exact rfl; exact rfl; exact rfl; exact rfl; omega; omega; omega; exact rfl)
    | (apply s_a TY; exact rfl)
    | (apply s_f; exact rfl; (first | assumption | omega))
    | apply w_seq
    | apply w_region
    | apply s_nil
    | apply t_norm
    | apply t_exit
    | apply k_hit
    | apply w_exit
    | apply w_ret
    | (apply w_condF; exact rfl; exact rfl))
      exact lvG_ret (gh_one 0 4 rfl (delR_row (by rw [List.take_length]; omega) (by rw [take_setAt_ge _ _ _ _ (Nat.le_refl _), show (((((l.take l.length).filter (fun x => !q x)).length : Nat) : Int)).toNat = ((l.take l.length).filter (fun x => !q x)).length by omega, rngsF_take, List.take_left, List.take_length]))) (rg1 rfl (rv_tmp rfl))
end Go.Proofs.YtdmdpkoapllkkaaGreat
namespace Go.Proofs.YtdmdpkoapllkkaaGreat
open Go Go.RowKit Go.Proofs Go.Shelf Go.Ab
theorem detC_append : ∀ {a b : List FV} {p q : List Value}, detC a = some p → detC b = some q → detC (a ++ b) = some (p ++ q)
  | [], b, p, q, h, h' => by simp [detC] at h; subst h; simpa using h'
  | .v x :: a, b, p, q, h, h' => by
    cases hr : detC a with
    | none => simp [detC, hr] at h
    | some l => simp [detC, hr] at h; subst h; simp [detC, detC_append hr h']
  | .sl _ _ :: _, _, _, _, h, _ => by simp [detC] at h
  | .agg _ :: _, _, _, _, h, _ => by simp [detC] at h
  | .tup _ :: _, _, _, _, h, _ => by simp [detC] at h
  | .pt _ _ :: _, _, _, _, h, _ => by simp [detC] at h
  | .fn _ _ :: _, _, _, _, h, _ => by simp [detC] at h
  | .slc _ _ :: _, _, _, _, h, _ => by simp [detC] at h
  | .mp _ :: _, _, _, _, h, _ => by simp [detC] at h
theorem detC_flat {α : Type} {f : α → List FV} {e : α → List Value} (h : ∀ x, detC (f x) = some (e x)) : ∀ l : List α, detC (l.flatMap f) = some (l.flatMap e)
  | [] => rfl
  | x :: l => by rw [List.flatMap_cons, List.flatMap_cons]; exact detC_append (h x) (detC_flat h l)
theorem rep_row {w : World} {M : Nat → Prop} {v : Value} {n : Nat} {cs : List FV} {us : List Value} (h : RepF w M v (.sl n cs)) (hd : detC cs = some us) : ∃ a c, v = .slice a n c ∧ n ≤ c ∧ Row w a us := by
  cases h with
  | sl a _ c _ vs h1 h2 h3 h4 h5 =>
    have := detC_spec ⟨h2, h5⟩ hd
    subst this
    refine ⟨a, c, rfl, h1, ⟨fun hn => ?_⟩⟩
    obtain ⟨b, off, e, L⟩ := h4 hn
    exact ⟨b, off, e, L.lt, L.at_⟩
theorem repL_det {w : World} {M : Nat → Prop} {us : List Value} : ∀ {cs : List FV}, detC cs = some us → RepL w M us cs
  | [], h => by simp [detC] at h; subst h; exact RepL.nil _ _
  | .v x :: r, h => by
    cases hr : detC r with
    | none => simp [detC, hr] at h
    | some l => simp [detC, hr] at h; subst h; exact RepL.cons (RepF.v x) (repL_det hr)
  | .sl _ _ :: _, h => by simp [detC] at h
  | .agg _ :: _, h => by simp [detC] at h
  | .tup _ :: _, h => by simp [detC] at h
  | .pt _ _ :: _, h => by simp [detC] at h
  | .fn _ _ :: _, h => by simp [detC] at h
  | .slc _ _ :: _, h => by simp [detC] at h
  | .mp _ :: _, h => by simp [detC] at h
end Go.Proofs.YtdmdpkoapllkkaaGreat
namespace Go.Ab
open Go Go.RowKit
section
variable {P : Program} {w : World}
def InW (z : Int) : Prop := -9223372036854775808 ≤ z ∧ z < 9223372036854775808
theorem wf_inW {z : Int} (h : (Lit.int .i64 z).wf = true) : InW z := by
  have h2 := (Lit.wf_int_iff .i64 z).1 h
  have a : IntKind.i64.min = -9223372036854775808 := rfl
  have b : IntKind.i64.max = 9223372036854775807 := rfl
  rw [a, b] at h2
  unfold InW; omega
theorem opens_intw {T : TypeId} (ht : P.underlying T = some (.int .i64)) : Opens P w T (fun z : { z : Int // InW z } => [.v (.int .i64 z.1)]) := fun H enc base sp hd fuel cs x h => by
  obtain ⟨n, rfl, _, hw⟩ := DataW.trod_int ht h
  exact ⟨⟨n, wf_inW hw⟩, repL_one (RepF.v _), by simp [Value.oneCell']⟩
end
end Go.Ab
namespace Go.Proofs.YtdmdpkoapllkkaaGreat
open Go Go.RowKit Go.Proofs Go.Shelf Go.Ab
theorem eq_rng {x y : Operand} {a b : Rng} {c : Bool} (h : decide (a = b) = c) : ∀ w, (do eqGuard .eql 65 x y (.agg #[.int .i64 a.lo, .int .i64 a.hi]) (.agg #[.int .i64 b.lo, .int .i64 b.hi]); binOp .eql 65 (.agg #[.int .i64 a.lo, .int .i64 a.hi]) (.agg #[.int .i64 b.lo, .int .i64 b.hi]) : Sem Value).run Tryz.prog w = .ok (.bool c) w := fun w => by
  have h1 := equalIn_rng 9998 a b w
  rw [h] at h1
  first
  | (simp [eqGuard, run_eql_struct, h1]; done)
  | simp [eqGuard, guard_rng, run_eql_struct, h1]
theorem holds_s (w r : Rng) : Summ Tryz.prog GG 86 [.agg (rngF w), .agg (rngF r)] (bv (insideB w r)) := by
  unfold insideB
  by_cases h1 : w.lo ≤ r.lo
  · by_cases h2 : r.hi ≤ w.hi
    · rw [decide_eq_true h1, decide_eq_true h2]
      refine summW Tryz.func86 rfl rfl 17 rfl (by simp) (fun M0 => ?_)
      repeat (first
    | (apply s_a TY; exact rfl)
    | (apply s_t; exact rfl; (first | assumption | omega))
    | apply w_seq
    | apply w_region
    | apply s_nil
    | apply t_norm
    | apply w_ret)
      exact lv_ret (ret1 rfl (res_tmp rfl))
    · rw [decide_eq_true h1, decide_eq_false h2]
      refine summW Tryz.func86 rfl rfl 17 rfl (by simp) (fun M0 => ?_)
      repeat (first
    | (apply s_a TY; exact rfl)
    | (apply s_t; exact rfl; (first | assumption | omega))
    | (apply s_f; exact rfl; (first | assumption | omega))
    | apply w_seq
    | apply w_region
    | apply s_nil
    | apply t_norm
    | apply w_ret)
      exact lv_ret (ret1 rfl (res_tmp rfl))
  · rw [decide_eq_false h1]
    refine summW Tryz.func86 rfl rfl 17 rfl (by simp) (fun M0 => ?_)
    repeat (first
    | (apply s_a TY; exact rfl)
    | (apply s_f; exact rfl; (first | assumption | omega))
    | apply w_seq
    | apply w_region
    | apply s_nil
    | apply t_norm
    | apply w_ret
    | (apply s_s; exact rfl))
    exact lv_ret (ret1 rfl (res_tmp rfl))
theorem isWithin_s (w r : Rng) : Summ Tryz.prog GG 93 [.agg (rngF r), .agg (rngF w)] (bv (insideB w r)) := by
  unfold insideB
  by_cases h1 : w.lo ≤ r.lo
  · by_cases h2 : r.hi ≤ w.hi
    · rw [decide_eq_true h1, decide_eq_true h2]
      refine summW Tryz.func93 rfl rfl 17 rfl (by simp) (fun M0 => ?_)
      repeat (first
    | (apply s_a TY; exact rfl)
    | (apply s_t; exact rfl; (first | assumption | omega))
    | apply w_seq
    | apply w_region
    | apply s_nil
    | apply t_norm
    | apply w_ret)
      exact lv_ret (ret1 rfl (res_tmp rfl))
    · rw [decide_eq_true h1, decide_eq_false h2]
      refine summW Tryz.func93 rfl rfl 17 rfl (by simp) (fun M0 => ?_)
      repeat (first
    | (apply s_a TY; exact rfl)
    | (apply s_t; exact rfl; (first | assumption | omega))
    | (apply s_f; exact rfl; (first | assumption | omega))
    | apply w_seq
    | apply w_region
    | apply s_nil
    | apply t_norm
    | apply w_ret)
      exact lv_ret (ret1 rfl (res_tmp rfl))
  · rw [decide_eq_false h1]
    refine summW Tryz.func93 rfl rfl 17 rfl (by simp) (fun M0 => ?_)
    repeat (first
    | (apply s_a TY; exact rfl)
    | (apply s_f; exact rfl; (first | assumption | omega))
    | apply w_seq
    | apply w_region
    | apply s_nil
    | apply t_norm
    | apply w_ret
    | (apply s_s; exact rfl))
    exact lv_ret (ret1 rfl (res_tmp rfl))
theorem chk11_s (w r : Rng) : Summ Tryz.prog GG 85 [.agg (rngF r), .pt (rngF w) 0] (bv (!insideB w r)) := by
  have H := holds_s w r
  cases h : insideB w r with
  | true =>
    rw [h] at H
    refine summW Tryz.func85 rfl rfl 8 rfl (by simp) (fun M0 => ?_)
    repeat (first
    | (apply s_a TY; exact rfl)
    | apply w_seq
    | apply w_region
    | apply s_nil
    | apply t_norm
    | apply w_ret
    | (apply s_k (H); exact rfl))
    exact lv_ret (ret1 rfl (res_tmp rfl))
  | false =>
    rw [h] at H
    refine summW Tryz.func85 rfl rfl 8 rfl (by simp) (fun M0 => ?_)
    repeat (first
    | (apply s_a TY; exact rfl)
    | apply w_seq
    | apply w_region
    | apply s_nil
    | apply t_norm
    | apply w_ret
    | (apply s_k (H); exact rfl))
    exact lv_ret (ret1 rfl (res_tmp rfl))
theorem chk21_s (v : Ev) (r : Rng) : Summ Tryz.prog GG 90 [.agg (evF v), .pt (rngF r) 0] (bv (insideB (evW v) r)) := by
  have H := holds_s (evW v) r
  refine summW Tryz.func90 rfl rfl 8 rfl (by simp) (fun M0 => ?_)
  repeat (first
    | (apply s_a TY; exact rfl)
    | apply w_seq
    | apply w_region
    | apply s_nil
    | apply t_norm
    | apply w_ret
    | (apply s_k (H); exact rfl))
  exact lv_ret (ret1 rfl (res_tmp rfl))
theorem chk2_s (h : List Hit) (c : List Ev) (r : Rng) (hc : c.length ≤ 1000000) : Summ Tryz.prog GG 88 [.agg (rngF r), .pt [.sl h.length (hitsF h), .sl c.length (evsF c)] 0] (bv (!readB c r)) := by
  have H := idxdelEC_s c 90 [.pt (rngF r) 0] (fun k => insideB (evW (c.getD k default)) r) hc (fun i hi => by rw [getD_at hi]; exact chk21_s c[i] r)
  rw [show anyP c.length (fun k => insideB (evW (c.getD k default)) r) = readB c r from rfl] at H
  cases hq : readB c r with
  | true =>
    rw [hq] at H
    refine summW Tryz.func88 rfl rfl 9 rfl (by simp) (fun M0 => ?_)
    repeat (first
    | (apply s_a TY; exact rfl)
    | (apply s_makefn; exact rfl; exact rfl)
    | apply w_seq
    | apply w_region
    | apply s_nil
    | apply t_norm
    | apply w_ret
    | (apply s_k (H); exact rfl))
    exact lv_ret (ret1 rfl (res_tmp rfl))
  | false =>
    rw [hq] at H
    refine summW Tryz.func88 rfl rfl 9 rfl (by simp) (fun M0 => ?_)
    repeat (first
    | (apply s_a TY; exact rfl)
    | (apply s_makefn; exact rfl; exact rfl)
    | apply w_seq
    | apply w_region
    | apply s_nil
    | apply t_norm
    | apply w_ret
    | (apply s_k (H); exact rfl))
    exact lv_ret (ret1 rfl (res_tmp rfl))
set_option maxRecDepth 100000 in
theorem equalI_s (a b : List Int) (ha : a.length ≤ 1000000) (hb : b.length ≤ 1000000) : Summ Tryz.prog GG 80 [.sl a.length (intsF a), .sl b.length (intsF b)] (bv (decide (a = b))) := by
  by_cases hl : a.length = b.length
  · refine summW Tryz.func80 rfl rfl 26 rfl (by simp) (fun M0 => ?_)
    repeat (first
    | (apply s_a TY; exact rfl)
    | (apply s_t; exact rfl; (first | assumption | omega))
    | apply w_seq
    | apply w_region
    | apply s_nil
    | apply t_norm
    | apply w_block
    | apply w_skip
    | (apply w_condF; exact rfl; exact rfl))
    apply w_loop (fun k : Nat => ⟨(Ab.upd (Ab.upd (Ab.upd (Ab.upd (fun _ => .bot) 0 (.f (.sl a.length (intsF a)))) 1 (.f (.sl b.length (intsF b)))) 12 (.f (iv a.length))) 13 (.f (iv ((k : Nat) : Int)))), (fun _ => none), 0⟩) (fun k => k ≤ a.length ∧ a.take k = b.take k) (fun k => a.length - k) 0 (⟨Nat.zero_le _, rfl⟩) (gh_le ⟨le_upd rfl trivial (le_upd rfl trivial (le_upd rfl trivial (le_upd rfl trivial (le_nil _)))), le_h0 _ _⟩)
    intro k ⟨hk, ht⟩
    by_cases hc : k < a.length
    · have hcb : k < b.length := by omega
      by_cases he : a[k] = b[k]
      · repeat (first
    | (apply s_a TY; exact rfl)
    | (apply s_t; exact rfl; (first | assumption | omega))
    | apply w_seq
    | apply w_region
    | (apply w_draw (id := 6) 8 rfl (by kernel_rfl))
    | apply s_nil
    | apply t_norm
    | apply k_norm
    | apply w_block
    | apply w_skip
    | (apply w_condT; exact rfl; exact rfl)
    | (apply w_condF; exact rfl; exact rfl)
    | (apply s_c TY; exact rfl; (first | omega | exact ⟨by omega, by (first | with_reducible assumption | ((with_reducible apply intsF_ne); omega) | assumption)⟩))
    | (apply s_l TY; exact rfl; (first | exact rfl | with_reducible assumption | ((with_reducible apply intsF_at); omega) | assumption)))
        exact ⟨k + 1, ⟨by omega, take_eq_succ hc hcb ht he⟩, by omega, gh_le ⟨le_upd rfl trivial (le_upd rfl trivial (le_upd rfl trivial (le_upd rfl trivial (le_nil _)))), le_h0 _ _⟩⟩
      · rw [decide_eq_false (fun e : a = b => he (by subst e; rfl))]
        repeat (first
    | (apply s_a TY; exact rfl)
    | (apply s_t; exact rfl; (first | assumption | omega))
    | (apply s_f; exact rfl; (first | assumption | omega))
    | apply w_seq
    | apply w_region
    | (apply w_draw (id := 6) 8 rfl (by kernel_rfl))
    | apply s_nil
    | apply t_norm
    | apply t_ret
    | apply k_ret
    | apply w_block
    | apply w_ret
    | apply w_skip
    | (apply w_condT; exact rfl; exact rfl)
    | (apply s_c TY; exact rfl; (first | omega | exact ⟨by omega, by (first | with_reducible assumption | ((with_reducible apply intsF_ne); omega) | assumption)⟩))
    | (apply s_l TY; exact rfl; (first | exact rfl | with_reducible assumption | ((with_reducible apply intsF_at); omega) | assumption)))
        exact lv_ret (ret1 rfl (res_tmp rfl))
    · rw [decide_eq_true (take_all_eq hl (by omega) ht)]
      repeat (first
    | (apply s_a TY; exact rfl)
    | (apply s_f; exact rfl; (first | assumption | omega))
    | apply w_seq
    | apply w_region
    | apply s_nil
    | apply t_norm
    | apply t_exit
    | apply k_hit
    | apply w_exit
    | apply w_ret
    | (apply w_condF; exact rfl; exact rfl))
      exact lv_ret (ret1 rfl (res_tmp rfl))
  · rw [decide_eq_false (fun e : a = b => hl (by rw [e]))]
    refine summW Tryz.func80 rfl rfl 26 rfl (by simp) (fun M0 => ?_)
    repeat (first
    | (apply s_a TY; exact rfl)
    | (apply s_f; exact rfl; (first | assumption | omega))
    | apply w_seq
    | apply w_region
    | apply s_nil
    | apply t_norm
    | apply t_ret
    | apply w_ret
    | (apply w_condT; exact rfl; exact rfl))
    exact lv_ret (ret1 rfl (res_tmp rfl))
def encQ (r : Rng) : List Value := [.int .i64 r.lo, .int .i64 r.hi]
theorem encQ_len : ∀ x, (encQ x).length = 2 := fun _ => rfl
theorem encQ_one (l : List Rng) : ∀ u ∈ l.flatMap encQ, u.oneCell' = true := by
  intro u hu
  obtain ⟨z, _, h⟩ := List.mem_flatMap.1 hu
  simp [encQ] at h
  rcases h with rfl | rfl <;> rfl
theorem infoQ : (Tryz.prog.info? 65).map (fun i => (i.zero, i.size, i.bytes)) = some (some (.agg #[.int .i64 0, .int .i64 0]), 2, 16) := by kernel_rfl
theorem detC_rngs (l : List Rng) : detC (rngsF l) = some (l.flatMap encQ) := detC_flat (f := rngF) (e := encQ) (fun _ => rfl) l
set_option maxRecDepth 100000 in
set_option maxHeartbeats 1000000 in
theorem cloneQ (a : Option Addr) (l : List Rng) (c : Nat) (w : World) (hr : RowS encQ w a l) (hl : l.length ≤ 1000000) :
    Calls Tryz.prog 84 #[.slice a l.length c] w fun e w' => ∃ a' c', e = .returned (.slice a' l.length c') ∧ w'.ownsRow w.heap.size 65 2 (.slice a' l.length c') l.length (l.flatMap encQ) ∧ Ext w w' := by
  obtain ⟨i0, hi, hz0, hz1, hz2⟩ := info_parts infoQ
  have HI := Lib.hid hi
  have HZ0 := Lib.hid hz0
  have HZ1 := Lib.hid hz1
  have HZ2 := Lib.hid hz2
  clear hi hz0 hz1 hz2
  have HR := Lib.hid hr
  clear hr
  have hnil := fun (w : World) (a : Option Addr) (n c : Nat) => Lib.run_eql_slice_nil (P := Tryz.prog) w 107 65 a n c 0 0 Tryz.underlying107
  cases ha : a with
  | none =>
    subst ha
    have hl : l = [] := Classical.byContradiction fun hne => by
      cases l with
      | nil => exact hne rfl
      | cons x l =>
        obtain ⟨_, _, e, _⟩ := HR.out.at_ (by simp [List.flatMap_cons, encQ])
        cases e
    subst hl
    go_enter Tryz.func84, Tryz.ntmps84
    go_wp2_with fail
    go_ret
    exact ⟨none, 0, rfl, World.ownsRow_nil _ _ _ _, Ext.refl _⟩
  | some ad =>
    subst ha
    go_enter Tryz.func84, Tryz.ntmps84
    have hown0 := Lib.hid (World.ownsRow_lit (base := w.heap.size) (size := 2) (e := 65) w #[] 0 (Nat.le_refl _) (by decide) (by simp))
    go_wp2_with (refine wpList_append_row rfl (.tmp 5) (.tmp 6) 107 rfl w.heap.size 65 i0 (.agg #[.int .i64 0, .int .i64 0]) 2 16 Tryz.underlying107 HI.out HZ0.out HZ1.out HZ2.out rfl (by decide) _ 0 _ rfl hown0.out (some ad) l.length c (l.flatMap encQ) rfl (flatMap_length encQ_len l) (HR.out.ext (Ext.alloc _ _)) (encQ_one l) ?m1 ?m2 ?m3 ?_)
    case m1 => unfold maxLen; omega
    case m2 => omega
    intro v' w1 hown hgrow
    have hx := Lib.hid ((Ext.alloc w _).grown hgrow (fun k e => by simp [Value.ownBlock] at e; omega))
    obtain ⟨a', c', rfl⟩ := hown.isSlice
    have HO := Lib.hid hown
    clear hown hgrow hown0
    go_wp2_with fail
    go_ret
    exact ⟨a', c', rfl, HO.out, hx.out⟩
theorem cloneQ_n (l : List Rng) (hl : l.length ≤ 1000000) : SummN Tryz.prog GG 84 [.sl l.length (rngsF l)] 65 2 l.length (rngsF l) := by
  refine ⟨enters_of Tryz.func84 (by kernel_rfl) rfl, fun w M us hM hG R => ?_⟩
  obtain ⟨u1, us1, rfl, r1, R1⟩ := R.head
  have := R1.end; subst this
  obtain ⟨a, c, rfl, _, rr⟩ := rep_row r1 (detC_rngs l)
  exact (cloneQ a l c w rr hl).mono fun e w' ⟨a', c', h1, h2, h3⟩ => ⟨_, _, h1, h2, encQ_one l, repL_det (detC_rngs l), h3⟩
theorem own_q (S : List Rng) (w : Rng) : S.filter (fun x => !(!insideB w x)) = ownV S w := by
  unfold ownV; congr 1; funext x; rw [Bool.not_not]
set_option maxRecDepth 100000 in
set_option maxHeartbeats 6400000 in
theorem chk1_s (S : List Rng) (h : List Hit) (c : List Ev) (i : Nat) (hi : i < c.length) (hS3 : S.length ≤ 1000) (hh6 : h.length ≤ 1000000) (hc6 : c.length ≤ 1000000) (hv6 : c[i].hits.length ≤ 1000000) (hlo : LoOk S) (hhi : HiOk S) (hb : ∀ k (hk : k < c.length), InW c[k].lo ∧ InW c[k].hi) : Summ Tryz.prog GG 79 [iv i, .agg (evF c[i]), .pt [.sl h.length (hitsF h), .sl c.length (evsF c)] 0, .pt [.sl S.length (rngsF S)] 0] (iv (clmE S h c i)) := by
  have hS6 : S.length ≤ 1000000 := by omega
  have hg := getD_at hi
  have HI := hitsIn_s h (evW c[i]) hh6
  have HE := equalI_s c[i].hits (hitsInV h (evW c[i])) hv6 (Nat.le_trans (hitsInN_len h (evW c[i]) h.length) hh6)
  have HJ := joined_s (ownV S (evW c[i])) (fun r hr => hlo r (own_sub r hr)) (fun r hr => hhi r (own_sub r hr)) (by
    have : (ownV S (evW c[i])).length ≤ S.length := List.length_filter_le _ _
    omega)
  have hbi := hb i hi
  unfold InW at hbi
  by_cases h1 : c[i].lo ≤ c[i].hi
  · by_cases h0 : i = 0
    · subst h0
      have hord : ordE c 0 := ⟨by rw [hg]; exact h1, .inl rfl⟩
      by_cases he : c[0].hits = hitsInV h (evW c[0])
      · rw [decide_eq_true he] at HE
        have HD := delR_g S 85 [.pt (rngF (evW c[0])) 0] (fun r => !insideB (evW c[0]) r) hS6 (fun k hk => chk11_s (evW c[0]) S[k])
        rw [own_q] at HD
        have HCl := cloneQ_n S hS6
        by_cases hj : (joinedV (ownV S (evW c[0]))) = [(evW c[0])]
        · rw [hj] at HJ
          have hl1 : ((([(evW c[0])] : List Rng).length : Nat) : Int) = 1 := rfl
          have hne1 : rngsF [(evW c[0])] ≠ [] := by simp [rngsF, rngF]
          rw [show clmE S h c 0 = 0 by rw [clmE_ok, getD_at hi]; exact ⟨hord, he, hj⟩]
          refine summW Tryz.func79 rfl rfl 74 rfl (by simp) (fun M0 => ?_)
          repeat (first
    | (refine s_ghost (o := ⟨some 14, _, _, _, _, none⟩) rfl (gh_box 0 (cs := [iv c[0].lo, iv c[0].hi]) rfl rfl) ?_)
    | (apply s_callN HCl; exact rfl; exact rfl; exact rfl; exact rfl; exact rfl)
    | (apply s_a TY; exact rfl)
    | (apply s_makefn; exact rfl; exact rfl)
    | (apply s_t; exact rfl; (first | assumption | omega))
    | (apply s_f; exact rfl; (first | assumption | omega))
    | apply w_seq
    | apply w_region
    | (apply w_draw (id := 6) 8 rfl (by kernel_rfl))
    | apply s_nil
    | apply t_norm
    | apply w_skip
    | (apply w_condF; exact rfl; exact rfl)
    | (apply s_k (HI); exact rfl)
    | (apply s_k (HE); exact rfl)
    | (apply s_k1 (first2_1 _ _); exact rfl; (first | assumption | omega | decide))
    | (apply s_k (unless_T _); exact rfl)
    | (apply s_alloc TY; exact rfl; exact rfl; exact rfl)
    | (apply s_store TY; exact rfl; exact rfl; exact rfl; exact rfl; exact rfl; exact rfl))
          repeat (first
    | (apply s_callG [1] (HD); exact rfl; exact rfl; exact rfl; exact ⟨rfl, trivial⟩; exact rfl; (first | exact ⟨rfl, rfl⟩ | exact ⟨⟨rfl, rfl⟩, ⟨rfl, rfl⟩⟩ | exact ⟨⟨rfl, rfl⟩, ⟨rfl, rfl⟩, ⟨rfl, rfl⟩⟩)))
          refine s_ghost rfl (gh_row 1 rfl) ?_
          repeat (first
    | (apply s_m TY; exact rfl; exact rfl; exact rfl)
    | (apply s_bind; exact rfl; exact rfl; exact rfl; exact rfl; exact rfl; exact rfl; exact eq_rng (a := (evW c[0])) (b := (evW c[0])) (c := true) (decide_eq_true rfl))
    | (apply s_a TY; exact rfl)
    | (apply s_t; exact rfl; (first | assumption | omega))
    | apply w_seq
    | (apply w_draw (id := 10) 8 rfl (by kernel_rfl))
    | apply s_nil
    | apply t_norm
    | apply w_ret
    | (apply s_k (HJ); exact rfl)
    | (apply s_k (unless_T _); exact rfl)
    | (apply s_z TY; exact rfl; (first | omega | exact ⟨by omega, by (first | with_reducible assumption | ((with_reducible apply evsF_ne); omega) | ((with_reducible apply rngsF_ne); omega) | assumption)⟩)))
          exact lv_ret (ret1 rfl (res_tmp rfl))
        · rw [show clmE S h c 0 = 19 by unfold clmE; rw [getD_at hi, if_neg (by simpa using hord), if_neg (by simpa using he), if_pos hj]]
          rcases hjl : (joinedV (ownV S (evW c[0]))) with _ | ⟨x, _ | ⟨y, t⟩⟩
          · rw [hjl] at HJ
            have hl1 : ((([] : List Rng).length : Nat) : Int) = 0 := rfl
            refine summW Tryz.func79 rfl rfl 74 rfl (by simp) (fun M0 => ?_)
            repeat (first
    | (refine s_ghost (o := ⟨some 14, _, _, _, _, none⟩) rfl (gh_box 0 (cs := [iv c[0].lo, iv c[0].hi]) rfl rfl) ?_)
    | (apply s_callN HCl; exact rfl; exact rfl; exact rfl; exact rfl; exact rfl)
    | (apply s_a TY; exact rfl)
    | (apply s_makefn; exact rfl; exact rfl)
    | (apply s_t; exact rfl; (first | assumption | omega))
    | (apply s_f; exact rfl; (first | assumption | omega))
    | apply w_seq
    | apply w_region
    | (apply w_draw (id := 6) 8 rfl (by kernel_rfl))
    | apply s_nil
    | apply t_norm
    | apply w_skip
    | (apply w_condF; exact rfl; exact rfl)
    | (apply s_k (HI); exact rfl)
    | (apply s_k (HE); exact rfl)
    | (apply s_k1 (first2_1 _ _); exact rfl; (first | assumption | omega | decide))
    | (apply s_k (unless_T _); exact rfl)
    | (apply s_alloc TY; exact rfl; exact rfl; exact rfl)
    | (apply s_store TY; exact rfl; exact rfl; exact rfl; exact rfl; exact rfl; exact rfl))
            repeat (first
    | (apply s_callG [1] (HD); exact rfl; exact rfl; exact rfl; exact ⟨rfl, trivial⟩; exact rfl; (first | exact ⟨rfl, rfl⟩ | exact ⟨⟨rfl, rfl⟩, ⟨rfl, rfl⟩⟩ | exact ⟨⟨rfl, rfl⟩, ⟨rfl, rfl⟩, ⟨rfl, rfl⟩⟩)))
            refine s_ghost rfl (gh_row 1 rfl) ?_
            repeat (first
    | (apply s_a TY; exact rfl)
    | (apply s_f; exact rfl; (first | assumption | omega))
    | apply w_seq
    | (apply w_draw (id := 10) 8 rfl (by kernel_rfl))
    | apply s_nil
    | apply t_norm
    | apply w_ret
    | (apply s_k (HJ); exact rfl)
    | (apply s_k (unless_F _); exact rfl)
    | (apply s_s; exact rfl))
            exact lv_ret (ret1 rfl (res_tmp rfl))
          · rw [hjl] at HJ
            have hl1 : ((([x] : List Rng).length : Nat) : Int) = 1 := rfl
            have hne1 : rngsF [x] ≠ [] := by simp [rngsF, rngF]
            have hxw : ¬ x = (evW c[0]) := fun e => hj (by rw [hjl, e])
            refine summW Tryz.func79 rfl rfl 74 rfl (by simp) (fun M0 => ?_)
            repeat (first
    | (refine s_ghost (o := ⟨some 14, _, _, _, _, none⟩) rfl (gh_box 0 (cs := [iv c[0].lo, iv c[0].hi]) rfl rfl) ?_)
    | (apply s_callN HCl; exact rfl; exact rfl; exact rfl; exact rfl; exact rfl)
    | (apply s_a TY; exact rfl)
    | (apply s_makefn; exact rfl; exact rfl)
    | (apply s_t; exact rfl; (first | assumption | omega))
    | (apply s_f; exact rfl; (first | assumption | omega))
    | apply w_seq
    | apply w_region
    | (apply w_draw (id := 6) 8 rfl (by kernel_rfl))
    | apply s_nil
    | apply t_norm
    | apply w_skip
    | (apply w_condF; exact rfl; exact rfl)
    | (apply s_k (HI); exact rfl)
    | (apply s_k (HE); exact rfl)
    | (apply s_k1 (first2_1 _ _); exact rfl; (first | assumption | omega | decide))
    | (apply s_k (unless_T _); exact rfl)
    | (apply s_alloc TY; exact rfl; exact rfl; exact rfl)
    | (apply s_store TY; exact rfl; exact rfl; exact rfl; exact rfl; exact rfl; exact rfl))
            repeat (first
    | (apply s_callG [1] (HD); exact rfl; exact rfl; exact rfl; exact ⟨rfl, trivial⟩; exact rfl; (first | exact ⟨rfl, rfl⟩ | exact ⟨⟨rfl, rfl⟩, ⟨rfl, rfl⟩⟩ | exact ⟨⟨rfl, rfl⟩, ⟨rfl, rfl⟩, ⟨rfl, rfl⟩⟩)))
            refine s_ghost rfl (gh_row 1 rfl) ?_
            repeat (first
    | (apply s_m TY; exact rfl; exact rfl; exact rfl)
    | (apply s_bind; exact rfl; exact rfl; exact rfl; exact rfl; exact rfl; exact rfl; exact eq_rng (a := x) (b := (evW c[0])) (c := false) (decide_eq_false hxw))
    | (apply s_a TY; exact rfl)
    | (apply s_t; exact rfl; (first | assumption | omega))
    | apply w_seq
    | (apply w_draw (id := 10) 8 rfl (by kernel_rfl))
    | apply s_nil
    | apply t_norm
    | apply w_ret
    | (apply s_k (HJ); exact rfl)
    | (apply s_k (unless_F _); exact rfl)
    | (apply s_z TY; exact rfl; (first | omega | exact ⟨by omega, by (first | with_reducible assumption | ((with_reducible apply evsF_ne); omega) | ((with_reducible apply rngsF_ne); omega) | assumption)⟩)))
            exact lv_ret (ret1 rfl (res_tmp rfl))
          · rw [hjl] at HJ
            have hl2 : ¬ (((x :: y :: t).length : Nat) : Int) = 1 := by simp; omega
            refine summW Tryz.func79 rfl rfl 74 rfl (by simp) (fun M0 => ?_)
            repeat (first
    | (refine s_ghost (o := ⟨some 14, _, _, _, _, none⟩) rfl (gh_box 0 (cs := [iv c[0].lo, iv c[0].hi]) rfl rfl) ?_)
    | (apply s_callN HCl; exact rfl; exact rfl; exact rfl; exact rfl; exact rfl)
    | (apply s_a TY; exact rfl)
    | (apply s_makefn; exact rfl; exact rfl)
    | (apply s_t; exact rfl; (first | assumption | omega))
    | (apply s_f; exact rfl; (first | assumption | omega))
    | apply w_seq
    | apply w_region
    | (apply w_draw (id := 6) 8 rfl (by kernel_rfl))
    | apply s_nil
    | apply t_norm
    | apply w_skip
    | (apply w_condF; exact rfl; exact rfl)
    | (apply s_k (HI); exact rfl)
    | (apply s_k (HE); exact rfl)
    | (apply s_k1 (first2_1 _ _); exact rfl; (first | assumption | omega | decide))
    | (apply s_k (unless_T _); exact rfl)
    | (apply s_alloc TY; exact rfl; exact rfl; exact rfl)
    | (apply s_store TY; exact rfl; exact rfl; exact rfl; exact rfl; exact rfl; exact rfl))
            repeat (first
    | (apply s_callG [1] (HD); exact rfl; exact rfl; exact rfl; exact ⟨rfl, trivial⟩; exact rfl; (first | exact ⟨rfl, rfl⟩ | exact ⟨⟨rfl, rfl⟩, ⟨rfl, rfl⟩⟩ | exact ⟨⟨rfl, rfl⟩, ⟨rfl, rfl⟩, ⟨rfl, rfl⟩⟩)))
            refine s_ghost rfl (gh_row 1 rfl) ?_
            repeat (first
    | (apply s_a TY; exact rfl)
    | (apply s_f; exact rfl; (first | assumption | omega))
    | apply w_seq
    | (apply w_draw (id := 10) 8 rfl (by kernel_rfl))
    | apply s_nil
    | apply t_norm
    | apply w_ret
    | (apply s_k (HJ); exact rfl)
    | (apply s_k (unless_F _); exact rfl)
    | (apply s_s; exact rfl))
            exact lv_ret (ret1 rfl (res_tmp rfl))
      · rw [decide_eq_false he] at HE
        rw [show clmE S h c 0 = 3 by unfold clmE; rw [getD_at hi, if_neg (by simpa using hord), if_pos he]]
        refine summW Tryz.func79 rfl rfl 74 rfl (by simp) (fun M0 => ?_)
        repeat (first
    | (refine s_ghost (o := ⟨some 14, _, _, _, _, none⟩) rfl (gh_box 0 (cs := [iv c[0].lo, iv c[0].hi]) rfl rfl) ?_)
    | (apply s_a TY; exact rfl)
    | (apply s_t; exact rfl; (first | assumption | omega))
    | (apply s_f; exact rfl; (first | assumption | omega))
    | apply w_seq
    | apply w_region
    | (apply w_draw (id := 6) 8 rfl (by kernel_rfl))
    | apply s_nil
    | apply t_norm
    | apply t_ret
    | apply w_ret
    | apply w_skip
    | (apply w_condT; exact rfl; exact rfl)
    | (apply w_condF; exact rfl; exact rfl)
    | (apply s_k (HI); exact rfl)
    | (apply s_k (HE); exact rfl)
    | (apply s_k1 (first2_1 _ _); exact rfl; (first | assumption | omega | decide))
    | (apply s_k (unless_T _); exact rfl)
    | (apply s_k (unless_F _); exact rfl)
    | (apply s_alloc TY; exact rfl; exact rfl; exact rfl)
    | (apply s_store TY; exact rfl; exact rfl; exact rfl; exact rfl; exact rfl; exact rfl))
        exact lv_ret (ret1 rfl (res_tmp rfl))
    · have hq : ((i : Int) - 1).toNat = i - 1 := by omega
      have hbq := hb ((i : Int) - 1).toNat (by omega)
      unfold InW at hbq
      have hgp : (c.getD (i - 1) default).hi = (c[((i : Int) - 1).toNat]'(by omega)).hi := by
        rw [getD_at (show i - 1 < c.length by omega)]; simp only [hq]
      by_cases h2 : (c[((i : Int) - 1).toNat]'(by omega)).hi < c[i].lo
      · by_cases h3 : (c[((i : Int) - 1).toNat]'(by omega)).hi < c[i].lo - 1
        · have hord : ordE c i := ⟨by rw [hg]; exact h1, .inr (by rw [hg, hgp]; omega)⟩
          by_cases he : c[i].hits = hitsInV h (evW c[i])
          · rw [decide_eq_true he] at HE
            have HD := delR_g S 85 [.pt (rngF (evW c[i])) 0] (fun r => !insideB (evW c[i]) r) hS6 (fun k hk => chk11_s (evW c[i]) S[k])
            rw [own_q] at HD
            have HCl := cloneQ_n S hS6
            by_cases hj : (joinedV (ownV S (evW c[i]))) = [(evW c[i])]
            · rw [hj] at HJ
              have hl1 : ((([(evW c[i])] : List Rng).length : Nat) : Int) = 1 := rfl
              have hne1 : rngsF [(evW c[i])] ≠ [] := by simp [rngsF, rngF]
              rw [show clmE S h c i = 0 by rw [clmE_ok, getD_at hi]; exact ⟨hord, he, hj⟩]
              refine summW Tryz.func79 rfl rfl 74 rfl (by simp) (fun M0 => ?_)
              repeat (first
    | (refine s_ghost (o := ⟨some 14, _, _, _, _, none⟩) rfl (gh_box 0 (cs := [iv c[i].lo, iv c[i].hi]) rfl rfl) ?_)
    | (apply s_callN HCl; exact rfl; exact rfl; exact rfl; exact rfl; exact rfl)
    | (apply s_a TY; exact rfl)
    | (apply s_makefn; exact rfl; exact rfl)
    | (apply s_t; exact rfl; (first | assumption | omega))
    | apply w_seq
    | apply w_region
    | (apply w_draw (id := 6) 8 rfl (by kernel_rfl))
    | apply s_nil
    | apply t_norm
    | apply w_skip
    | (apply w_condT; exact rfl; exact rfl)
    | (apply w_condF; exact rfl; exact rfl)
    | (apply s_k (HI); exact rfl)
    | (apply s_k (HE); exact rfl)
    | (apply s_k1 (first2_1 _ _); exact rfl; (first | assumption | omega | decide))
    | (apply s_k (unless_T _); exact rfl)
    | (apply s_c TY; exact rfl; (first | omega | exact ⟨by omega, by (first | with_reducible assumption | ((with_reducible apply evsF_ne); omega) | ((with_reducible apply rngsF_ne); omega) | assumption)⟩))
    | (apply s_z TY; exact rfl; (first | omega | exact ⟨by omega, by (first | with_reducible assumption | ((with_reducible apply evsF_ne); omega) | ((with_reducible apply rngsF_ne); omega) | assumption)⟩))
    | (apply s_l TY; exact rfl; (first | exact rfl | with_reducible assumption | ((with_reducible apply evsF_f0); omega) | ((with_reducible apply evsF_f1); omega) | ((with_reducible apply evsF_f2); omega) | ((with_reducible apply rngsF_f0); omega) | ((with_reducible apply rngsF_f1); omega) | assumption))
    | (apply s_alloc TY; exact rfl; exact rfl; exact rfl)
    | (apply s_store TY; exact rfl; exact rfl; exact rfl; exact rfl; exact rfl; exact rfl))
              repeat (first
    | (apply s_callG [1] (HD); exact rfl; exact rfl; exact rfl; exact ⟨rfl, trivial⟩; exact rfl; (first | exact ⟨rfl, rfl⟩ | exact ⟨⟨rfl, rfl⟩, ⟨rfl, rfl⟩⟩ | exact ⟨⟨rfl, rfl⟩, ⟨rfl, rfl⟩, ⟨rfl, rfl⟩⟩)))
              refine s_ghost rfl (gh_row 1 rfl) ?_
              repeat (first
    | (apply s_m TY; exact rfl; exact rfl; exact rfl)
    | (apply s_bind; exact rfl; exact rfl; exact rfl; exact rfl; exact rfl; exact rfl; exact eq_rng (a := (evW c[i])) (b := (evW c[i])) (c := true) (decide_eq_true rfl))
    | (apply s_a TY; exact rfl)
    | (apply s_t; exact rfl; (first | assumption | omega))
    | apply w_seq
    | (apply w_draw (id := 10) 8 rfl (by kernel_rfl))
    | apply s_nil
    | apply t_norm
    | apply w_ret
    | (apply s_k (HJ); exact rfl)
    | (apply s_k (unless_T _); exact rfl)
    | (apply s_z TY; exact rfl; (first | omega | exact ⟨by omega, by (first | with_reducible assumption | ((with_reducible apply evsF_ne); omega) | ((with_reducible apply rngsF_ne); omega) | assumption)⟩)))
              exact lv_ret (ret1 rfl (res_tmp rfl))
            · rw [show clmE S h c i = 19 by unfold clmE; rw [getD_at hi, if_neg (by simpa using hord), if_neg (by simpa using he), if_pos hj]]
              rcases hjl : (joinedV (ownV S (evW c[i]))) with _ | ⟨x, _ | ⟨y, t⟩⟩
              · rw [hjl] at HJ
                have hl1 : ((([] : List Rng).length : Nat) : Int) = 0 := rfl
                refine summW Tryz.func79 rfl rfl 74 rfl (by simp) (fun M0 => ?_)
                repeat (first
    | (refine s_ghost (o := ⟨some 14, _, _, _, _, none⟩) rfl (gh_box 0 (cs := [iv c[i].lo, iv c[i].hi]) rfl rfl) ?_)
    | (apply s_callN HCl; exact rfl; exact rfl; exact rfl; exact rfl; exact rfl)
    | (apply s_a TY; exact rfl)
    | (apply s_makefn; exact rfl; exact rfl)
    | (apply s_t; exact rfl; (first | assumption | omega))
    | apply w_seq
    | apply w_region
    | (apply w_draw (id := 6) 8 rfl (by kernel_rfl))
    | apply s_nil
    | apply t_norm
    | apply w_skip
    | (apply w_condT; exact rfl; exact rfl)
    | (apply w_condF; exact rfl; exact rfl)
    | (apply s_k (HI); exact rfl)
    | (apply s_k (HE); exact rfl)
    | (apply s_k1 (first2_1 _ _); exact rfl; (first | assumption | omega | decide))
    | (apply s_k (unless_T _); exact rfl)
    | (apply s_c TY; exact rfl; (first | omega | exact ⟨by omega, by (first | with_reducible assumption | ((with_reducible apply evsF_ne); omega) | ((with_reducible apply rngsF_ne); omega) | assumption)⟩))
    | (apply s_z TY; exact rfl; (first | omega | exact ⟨by omega, by (first | with_reducible assumption | ((with_reducible apply evsF_ne); omega) | ((with_reducible apply rngsF_ne); omega) | assumption)⟩))
    | (apply s_l TY; exact rfl; (first | exact rfl | with_reducible assumption | ((with_reducible apply evsF_f0); omega) | ((with_reducible apply evsF_f1); omega) | ((with_reducible apply evsF_f2); omega) | ((with_reducible apply rngsF_f0); omega) | ((with_reducible apply rngsF_f1); omega) | assumption))
    | (apply s_alloc TY; exact rfl; exact rfl; exact rfl)
    | (apply s_store TY; exact rfl; exact rfl; exact rfl; exact rfl; exact rfl; exact rfl))
                repeat (first
    | (apply s_callG [1] (HD); exact rfl; exact rfl; exact rfl; exact ⟨rfl, trivial⟩; exact rfl; (first | exact ⟨rfl, rfl⟩ | exact ⟨⟨rfl, rfl⟩, ⟨rfl, rfl⟩⟩ | exact ⟨⟨rfl, rfl⟩, ⟨rfl, rfl⟩, ⟨rfl, rfl⟩⟩)))
                refine s_ghost rfl (gh_row 1 rfl) ?_
                repeat (first
    | (apply s_a TY; exact rfl)
    | (apply s_f; exact rfl; (first | assumption | omega))
    | apply w_seq
    | (apply w_draw (id := 10) 8 rfl (by kernel_rfl))
    | apply s_nil
    | apply t_norm
    | apply w_ret
    | (apply s_k (HJ); exact rfl)
    | (apply s_k (unless_F _); exact rfl)
    | (apply s_s; exact rfl))
                exact lv_ret (ret1 rfl (res_tmp rfl))
              · rw [hjl] at HJ
                have hl1 : ((([x] : List Rng).length : Nat) : Int) = 1 := rfl
                have hne1 : rngsF [x] ≠ [] := by simp [rngsF, rngF]
                have hxw : ¬ x = (evW c[i]) := fun e => hj (by rw [hjl, e])
                refine summW Tryz.func79 rfl rfl 74 rfl (by simp) (fun M0 => ?_)
                repeat (first
    | (refine s_ghost (o := ⟨some 14, _, _, _, _, none⟩) rfl (gh_box 0 (cs := [iv c[i].lo, iv c[i].hi]) rfl rfl) ?_)
    | (apply s_callN HCl; exact rfl; exact rfl; exact rfl; exact rfl; exact rfl)
    | (apply s_a TY; exact rfl)
    | (apply s_makefn; exact rfl; exact rfl)
    | (apply s_t; exact rfl; (first | assumption | omega))
    | apply w_seq
    | apply w_region
    | (apply w_draw (id := 6) 8 rfl (by kernel_rfl))
    | apply s_nil
    | apply t_norm
    | apply w_skip
    | (apply w_condT; exact rfl; exact rfl)
    | (apply w_condF; exact rfl; exact rfl)
    | (apply s_k (HI); exact rfl)
    | (apply s_k (HE); exact rfl)
    | (apply s_k1 (first2_1 _ _); exact rfl; (first | assumption | omega | decide))
    | (apply s_k (unless_T _); exact rfl)
    | (apply s_c TY; exact rfl; (first | omega | exact ⟨by omega, by (first | with_reducible assumption | ((with_reducible apply evsF_ne); omega) | ((with_reducible apply rngsF_ne); omega) | assumption)⟩))
    | (apply s_z TY; exact rfl; (first | omega | exact ⟨by omega, by (first | with_reducible assumption | ((with_reducible apply evsF_ne); omega) | ((with_reducible apply rngsF_ne); omega) | assumption)⟩))
    | (apply s_l TY; exact rfl; (first | exact rfl | with_reducible assumption | ((with_reducible apply evsF_f0); omega) | ((with_reducible apply evsF_f1); omega) | ((with_reducible apply evsF_f2); omega) | ((with_reducible apply rngsF_f0); omega) | ((with_reducible apply rngsF_f1); omega) | assumption))
    | (apply s_alloc TY; exact rfl; exact rfl; exact rfl)
    | (apply s_store TY; exact rfl; exact rfl; exact rfl; exact rfl; exact rfl; exact rfl))
                repeat (first
    | (apply s_callG [1] (HD); exact rfl; exact rfl; exact rfl; exact ⟨rfl, trivial⟩; exact rfl; (first | exact ⟨rfl, rfl⟩ | exact ⟨⟨rfl, rfl⟩, ⟨rfl, rfl⟩⟩ | exact ⟨⟨rfl, rfl⟩, ⟨rfl, rfl⟩, ⟨rfl, rfl⟩⟩)))
                refine s_ghost rfl (gh_row 1 rfl) ?_
                repeat (first
    | (apply s_m TY; exact rfl; exact rfl; exact rfl)
    | (apply s_bind; exact rfl; exact rfl; exact rfl; exact rfl; exact rfl; exact rfl; exact eq_rng (a := x) (b := (evW c[i])) (c := false) (decide_eq_false hxw))
    | (apply s_a TY; exact rfl)
    | (apply s_t; exact rfl; (first | assumption | omega))
    | apply w_seq
    | (apply w_draw (id := 10) 8 rfl (by kernel_rfl))
    | apply s_nil
    | apply t_norm
    | apply w_ret
    | (apply s_k (HJ); exact rfl)
    | (apply s_k (unless_F _); exact rfl)
    | (apply s_z TY; exact rfl; (first | omega | exact ⟨by omega, by (first | with_reducible assumption | ((with_reducible apply evsF_ne); omega) | ((with_reducible apply rngsF_ne); omega) | assumption)⟩)))
                exact lv_ret (ret1 rfl (res_tmp rfl))
              · rw [hjl] at HJ
                have hl2 : ¬ (((x :: y :: t).length : Nat) : Int) = 1 := by simp; omega
                refine summW Tryz.func79 rfl rfl 74 rfl (by simp) (fun M0 => ?_)
                repeat (first
    | (refine s_ghost (o := ⟨some 14, _, _, _, _, none⟩) rfl (gh_box 0 (cs := [iv c[i].lo, iv c[i].hi]) rfl rfl) ?_)
    | (apply s_callN HCl; exact rfl; exact rfl; exact rfl; exact rfl; exact rfl)
    | (apply s_a TY; exact rfl)
    | (apply s_makefn; exact rfl; exact rfl)
    | (apply s_t; exact rfl; (first | assumption | omega))
    | apply w_seq
    | apply w_region
    | (apply w_draw (id := 6) 8 rfl (by kernel_rfl))
    | apply s_nil
    | apply t_norm
    | apply w_skip
    | (apply w_condT; exact rfl; exact rfl)
    | (apply w_condF; exact rfl; exact rfl)
    | (apply s_k (HI); exact rfl)
    | (apply s_k (HE); exact rfl)
    | (apply s_k1 (first2_1 _ _); exact rfl; (first | assumption | omega | decide))
    | (apply s_k (unless_T _); exact rfl)
    | (apply s_c TY; exact rfl; (first | omega | exact ⟨by omega, by (first | with_reducible assumption | ((with_reducible apply evsF_ne); omega) | ((with_reducible apply rngsF_ne); omega) | assumption)⟩))
    | (apply s_z TY; exact rfl; (first | omega | exact ⟨by omega, by (first | with_reducible assumption | ((with_reducible apply evsF_ne); omega) | ((with_reducible apply rngsF_ne); omega) | assumption)⟩))
    | (apply s_l TY; exact rfl; (first | exact rfl | with_reducible assumption | ((with_reducible apply evsF_f0); omega) | ((with_reducible apply evsF_f1); omega) | ((with_reducible apply evsF_f2); omega) | ((with_reducible apply rngsF_f0); omega) | ((with_reducible apply rngsF_f1); omega) | assumption))
    | (apply s_alloc TY; exact rfl; exact rfl; exact rfl)
    | (apply s_store TY; exact rfl; exact rfl; exact rfl; exact rfl; exact rfl; exact rfl))
                repeat (first
    | (apply s_callG [1] (HD); exact rfl; exact rfl; exact rfl; exact ⟨rfl, trivial⟩; exact rfl; (first | exact ⟨rfl, rfl⟩ | exact ⟨⟨rfl, rfl⟩, ⟨rfl, rfl⟩⟩ | exact ⟨⟨rfl, rfl⟩, ⟨rfl, rfl⟩, ⟨rfl, rfl⟩⟩)))
                refine s_ghost rfl (gh_row 1 rfl) ?_
                repeat (first
    | (apply s_a TY; exact rfl)
    | (apply s_f; exact rfl; (first | assumption | omega))
    | apply w_seq
    | (apply w_draw (id := 10) 8 rfl (by kernel_rfl))
    | apply s_nil
    | apply t_norm
    | apply w_ret
    | (apply s_k (HJ); exact rfl)
    | (apply s_k (unless_F _); exact rfl)
    | (apply s_s; exact rfl))
                exact lv_ret (ret1 rfl (res_tmp rfl))
          · rw [decide_eq_false he] at HE
            rw [show clmE S h c i = 3 by unfold clmE; rw [getD_at hi, if_neg (by simpa using hord), if_pos he]]
            refine summW Tryz.func79 rfl rfl 74 rfl (by simp) (fun M0 => ?_)
            repeat (first
    | (refine s_ghost (o := ⟨some 14, _, _, _, _, none⟩) rfl (gh_box 0 (cs := [iv c[i].lo, iv c[i].hi]) rfl rfl) ?_)
    | (apply s_a TY; exact rfl)
    | (apply s_t; exact rfl; (first | assumption | omega))
    | (apply s_f; exact rfl; (first | assumption | omega))
    | apply w_seq
    | apply w_region
    | (apply w_draw (id := 6) 8 rfl (by kernel_rfl))
    | apply s_nil
    | apply t_norm
    | apply t_ret
    | apply w_ret
    | (apply w_condT; exact rfl; exact rfl)
    | (apply s_k (HI); exact rfl)
    | (apply s_k (HE); exact rfl)
    | (apply s_k1 (first2_1 _ _); exact rfl; (first | assumption | omega | decide))
    | (apply s_k (unless_T _); exact rfl)
    | (apply s_k (unless_F _); exact rfl)
    | (apply s_c TY; exact rfl; (first | omega | exact ⟨by omega, by (first | with_reducible assumption | ((with_reducible apply evsF_ne); omega) | ((with_reducible apply rngsF_ne); omega) | assumption)⟩))
    | (apply s_z TY; exact rfl; (first | omega | exact ⟨by omega, by (first | with_reducible assumption | ((with_reducible apply evsF_ne); omega) | ((with_reducible apply rngsF_ne); omega) | assumption)⟩))
    | (apply s_l TY; exact rfl; (first | exact rfl | with_reducible assumption | ((with_reducible apply evsF_f0); omega) | ((with_reducible apply evsF_f1); omega) | ((with_reducible apply evsF_f2); omega) | ((with_reducible apply rngsF_f0); omega) | ((with_reducible apply rngsF_f1); omega) | assumption))
    | (apply s_alloc TY; exact rfl; exact rfl; exact rfl)
    | (apply s_store TY; exact rfl; exact rfl; exact rfl; exact rfl; exact rfl; exact rfl))
            exact lv_ret (ret1 rfl (res_tmp rfl))
        · rw [show clmE S h c i = 9 by unfold clmE; rw [if_pos (show ¬ ordE c i from fun ho => by have := ho.2; rw [hg, hgp] at this; omega)]]
          refine summW Tryz.func79 rfl rfl 74 rfl (by simp) (fun M0 => ?_)
          repeat (first
    | (refine s_ghost (o := ⟨some 14, _, _, _, _, none⟩) rfl (gh_box 0 (cs := [iv c[i].lo, iv c[i].hi]) rfl rfl) ?_)
    | (apply s_a TY; exact rfl)
    | (apply s_t; exact rfl; (first | assumption | omega))
    | (apply s_f; exact rfl; (first | assumption | omega))
    | apply w_seq
    | apply w_region
    | (apply w_draw (id := 6) 8 rfl (by kernel_rfl))
    | apply s_nil
    | apply t_norm
    | apply t_ret
    | apply w_ret
    | (apply w_condT; exact rfl; exact rfl)
    | (apply s_k (HI); exact rfl)
    | (apply s_k (HE); exact rfl)
    | (apply s_k1 (first2_0 _ _); exact rfl; (first | assumption | omega | decide))
    | (apply s_k (unless_F _); exact rfl)
    | (apply s_k (unless_s _ _); exact rfl)
    | (apply s_c TY; exact rfl; (first | omega | exact ⟨by omega, by (first | with_reducible assumption | ((with_reducible apply evsF_ne); omega) | ((with_reducible apply rngsF_ne); omega) | assumption)⟩))
    | (apply s_z TY; exact rfl; (first | omega | exact ⟨by omega, by (first | with_reducible assumption | ((with_reducible apply evsF_ne); omega) | ((with_reducible apply rngsF_ne); omega) | assumption)⟩))
    | (apply s_l TY; exact rfl; (first | exact rfl | with_reducible assumption | ((with_reducible apply evsF_f0); omega) | ((with_reducible apply evsF_f1); omega) | ((with_reducible apply evsF_f2); omega) | ((with_reducible apply rngsF_f0); omega) | ((with_reducible apply rngsF_f1); omega) | assumption))
    | (apply s_alloc TY; exact rfl; exact rfl; exact rfl)
    | (apply s_store TY; exact rfl; exact rfl; exact rfl; exact rfl; exact rfl; exact rfl))
          exact lv_ret (ret1 rfl (res_tmp rfl))
      · rw [show clmE S h c i = 9 by unfold clmE; rw [if_pos (show ¬ ordE c i from fun ho => by have := ho.2; rw [hg, hgp] at this; omega)]]
        refine summW Tryz.func79 rfl rfl 74 rfl (by simp) (fun M0 => ?_)
        repeat (first
    | (refine s_ghost (o := ⟨some 14, _, _, _, _, none⟩) rfl (gh_box 0 (cs := [iv c[i].lo, iv c[i].hi]) rfl rfl) ?_)
    | (apply s_a TY; exact rfl)
    | (apply s_t; exact rfl; (first | assumption | omega))
    | (apply s_f; exact rfl; (first | assumption | omega))
    | apply w_seq
    | apply w_region
    | (apply w_draw (id := 6) 8 rfl (by kernel_rfl))
    | apply s_nil
    | apply t_norm
    | apply t_ret
    | apply w_ret
    | (apply w_condT; exact rfl; exact rfl)
    | (apply s_k (HI); exact rfl)
    | (apply s_k (HE); exact rfl)
    | (apply s_k1 (first2_0 _ _); exact rfl; (first | assumption | omega | decide))
    | (apply s_k (unless_F _); exact rfl)
    | (apply s_k (unless_s _ _); exact rfl)
    | (apply s_s; exact rfl)
    | (apply s_c TY; exact rfl; (first | omega | exact ⟨by omega, by (first | with_reducible assumption | ((with_reducible apply evsF_ne); omega) | ((with_reducible apply rngsF_ne); omega) | assumption)⟩))
    | (apply s_z TY; exact rfl; (first | omega | exact ⟨by omega, by (first | with_reducible assumption | ((with_reducible apply evsF_ne); omega) | ((with_reducible apply rngsF_ne); omega) | assumption)⟩))
    | (apply s_l TY; exact rfl; (first | exact rfl | with_reducible assumption | ((with_reducible apply evsF_f0); omega) | ((with_reducible apply evsF_f1); omega) | ((with_reducible apply evsF_f2); omega) | ((with_reducible apply rngsF_f0); omega) | ((with_reducible apply rngsF_f1); omega) | assumption))
    | (apply s_alloc TY; exact rfl; exact rfl; exact rfl)
    | (apply s_store TY; exact rfl; exact rfl; exact rfl; exact rfl; exact rfl; exact rfl))
        exact lv_ret (ret1 rfl (res_tmp rfl))
  · by_cases h0 : i = 0
    · subst h0
      rw [show clmE S h c 0 = 9 by unfold clmE; rw [if_pos (show ¬ ordE c 0 from fun ho => h1 (by have := ho.1; rwa [hg] at this))]]
      refine summW Tryz.func79 rfl rfl 74 rfl (by simp) (fun M0 => ?_)
      repeat (first
    | (refine s_ghost (o := ⟨some 14, _, _, _, _, none⟩) rfl (gh_box 0 (cs := [iv c[0].lo, iv c[0].hi]) rfl rfl) ?_)
    | (apply s_a TY; exact rfl)
    | (apply s_f; exact rfl; (first | assumption | omega))
    | apply w_seq
    | apply w_region
    | (apply w_draw (id := 6) 8 rfl (by kernel_rfl))
    | apply s_nil
    | apply t_norm
    | apply t_ret
    | apply w_ret
    | apply w_skip
    | (apply w_condT; exact rfl; exact rfl)
    | (apply w_condF; exact rfl; exact rfl)
    | (apply s_k (HI); exact rfl)
    | (apply s_k (HE); exact rfl)
    | (apply s_k1 (first2_0 _ _); exact rfl; (first | assumption | omega | decide))
    | (apply s_k (unless_F _); exact rfl)
    | (apply s_k (unless_s _ _); exact rfl)
    | (apply s_alloc TY; exact rfl; exact rfl; exact rfl)
    | (apply s_store TY; exact rfl; exact rfl; exact rfl; exact rfl; exact rfl; exact rfl))
      exact lv_ret (ret1 rfl (res_tmp rfl))
    · have hq : ((i : Int) - 1).toNat = i - 1 := by omega
      rw [show clmE S h c i = 9 by unfold clmE; rw [if_pos (show ¬ ordE c i from fun ho => h1 (by have := ho.1; rwa [hg] at this))]]
      refine summW Tryz.func79 rfl rfl 74 rfl (by simp) (fun M0 => ?_)
      repeat (first
    | (refine s_ghost (o := ⟨some 14, _, _, _, _, none⟩) rfl (gh_box 0 (cs := [iv c[i].lo, iv c[i].hi]) rfl rfl) ?_)
    | (apply s_a TY; exact rfl)
    | (apply s_t; exact rfl; (first | assumption | omega))
    | (apply s_f; exact rfl; (first | assumption | omega))
    | apply w_seq
    | apply w_region
    | (apply w_draw (id := 6) 8 rfl (by kernel_rfl))
    | apply s_nil
    | apply t_norm
    | apply t_ret
    | apply w_ret
    | (apply w_condT; exact rfl; exact rfl)
    | (apply s_k (HI); exact rfl)
    | (apply s_k (HE); exact rfl)
    | (apply s_k1 (first2_0 _ _); exact rfl; (first | assumption | omega | decide))
    | (apply s_k (unless_F _); exact rfl)
    | (apply s_k (unless_s _ _); exact rfl)
    | (apply s_s; exact rfl)
    | (apply s_c TY; exact rfl; (first | omega | exact ⟨by omega, by (first | with_reducible assumption | ((with_reducible apply evsF_ne); omega) | ((with_reducible apply rngsF_ne); omega) | assumption)⟩))
    | (apply s_z TY; exact rfl; (first | omega | exact ⟨by omega, by (first | with_reducible assumption | ((with_reducible apply evsF_ne); omega) | ((with_reducible apply rngsF_ne); omega) | assumption)⟩))
    | (apply s_l TY; exact rfl; (first | exact rfl | with_reducible assumption | ((with_reducible apply evsF_f0); omega) | ((with_reducible apply evsF_f1); omega) | ((with_reducible apply evsF_f2); omega) | ((with_reducible apply rngsF_f0); omega) | ((with_reducible apply rngsF_f1); omega) | assumption))
    | (apply s_alloc TY; exact rfl; exact rfl; exact rfl)
    | (apply s_store TY; exact rfl; exact rfl; exact rfl; exact rfl; exact rfl; exact rfl))
      exact lv_ret (ret1 rfl (res_tmp rfl))
end Go.Proofs.YtdmdpkoapllkkaaGreat
namespace Go.Proofs.YtdmdpkoapllkkaaGreat
open Go Go.RowKit Go.Proofs Go.Shelf Go.Ab
end Go.Proofs.YtdmdpkoapllkkaaGreat
namespace Go.Proofs.YtdmdpkoapllkkaaGreat
open Go Go.RowKit Go.Proofs Go.Shelf Go.Ab
end Go.Proofs.YtdmdpkoapllkkaaGreat
namespace Go.Proofs.YtdmdpkoapllkkaaGreat
open Go Go.RowKit Go.Proofs Go.Shelf Go.Ab
end Go.Proofs.YtdmdpkoapllkkaaGreat
namespace Go.Proofs.YtdmdpkoapllkkaaGreat
open Go Go.RowKit Go.Proofs Go.Shelf Go.Ab
end Go.Proofs.YtdmdpkoapllkkaaGreat
namespace Go.Proofs.YtdmdpkoapllkkaaGreat
open Go Go.RowKit Go.Proofs Go.Shelf Go.Ab
set_option maxRecDepth 100000 in
theorem CheckEvents_err (l : List Site) (s : Setup) (h : List Hit) (c : List Ev) (hl : l.length ≤ 1000000) (hsl : s.rules.length ≤ 1000000) (hh : h.length ≤ 1000000) (hn : c.length ≤ 1000000) (e : setErr l s h ≠ 0) : Summ Tryz.prog GG 27 [arrF l, setF s, .agg [.sl h.length (hitsF h), .sl c.length (evsF c)]] (.tup [iv 0, iv (setErr l s h)]) := by
  by_cases h1 : (arrChk l).2 = 0
  · have HO := openSetup_errB l s h hl hsl hh h1 e
    by_cases h40 : c.length ≤ 40
    · refine summW Tryz.func27 rfl rfl 53 rfl (by simp) (fun M0 => ?_)
      repeat (first
    | (apply s_a TY; exact rfl)
    | (apply s_t; exact rfl; (first | assumption | omega))
    | (apply s_f; exact rfl; (first | assumption | omega))
    | apply w_seq
    | apply w_region
    | apply s_nil
    | apply t_norm
    | apply t_ret
    | apply w_ret
    | (apply w_condT; exact rfl; exact rfl)
    | (apply s_k (HO); exact rfl)
    | (apply s_k1 (first2_0 _ _); exact rfl; (first | assumption | omega | decide))
    | (apply s_k (unless_T _); exact rfl)
    | (apply s_alloc TY; exact rfl; exact rfl; exact rfl)
    | (apply s_store TY; exact rfl; exact rfl; exact rfl; exact rfl; exact rfl; exact rfl))
      exact lv_ret (ret2 rfl (res_tmp rfl) (res_tmp rfl))
    · refine summW Tryz.func27 rfl rfl 53 rfl (by simp) (fun M0 => ?_)
      repeat (first
    | (apply s_a TY; exact rfl)
    | (apply s_f; exact rfl; (first | assumption | omega))
    | apply w_seq
    | apply w_region
    | apply s_nil
    | apply t_norm
    | apply t_ret
    | apply w_ret
    | (apply w_condT; exact rfl; exact rfl)
    | (apply s_k (HO); exact rfl)
    | (apply s_k1 (first2_0 _ _); exact rfl; (first | assumption | omega | decide))
    | (apply s_k (unless_F _); exact rfl)
    | (apply s_alloc TY; exact rfl; exact rfl; exact rfl)
    | (apply s_store TY; exact rfl; exact rfl; exact rfl; exact rfl; exact rfl; exact rfl))
      exact lv_ret (ret2 rfl (res_tmp rfl) (res_tmp rfl))
  · have HO := openSetup_errA l s h hl hsl hh h1
    by_cases h40 : c.length ≤ 40
    · refine summW Tryz.func27 rfl rfl 53 rfl (by simp) (fun M0 => ?_)
      repeat (first
    | (apply s_a TY; exact rfl)
    | (apply s_t; exact rfl; (first | assumption | omega))
    | (apply s_f; exact rfl; (first | assumption | omega))
    | apply w_seq
    | apply w_region
    | apply s_nil
    | apply t_norm
    | apply t_ret
    | apply w_ret
    | (apply w_condT; exact rfl; exact rfl)
    | (apply s_k (HO); exact rfl)
    | (apply s_k1 (first2_0 _ _); exact rfl; (first | assumption | omega | decide))
    | (apply s_k (unless_T _); exact rfl)
    | (apply s_alloc TY; exact rfl; exact rfl; exact rfl)
    | (apply s_store TY; exact rfl; exact rfl; exact rfl; exact rfl; exact rfl; exact rfl))
      exact lv_ret (ret2 rfl (res_tmp rfl) (res_tmp rfl))
    · refine summW Tryz.func27 rfl rfl 53 rfl (by simp) (fun M0 => ?_)
      repeat (first
    | (apply s_a TY; exact rfl)
    | (apply s_f; exact rfl; (first | assumption | omega))
    | apply w_seq
    | apply w_region
    | apply s_nil
    | apply t_norm
    | apply t_ret
    | apply w_ret
    | (apply w_condT; exact rfl; exact rfl)
    | (apply s_k (HO); exact rfl)
    | (apply s_k1 (first2_0 _ _); exact rfl; (first | assumption | omega | decide))
    | (apply s_k (unless_F _); exact rfl)
    | (apply s_alloc TY; exact rfl; exact rfl; exact rfl)
    | (apply s_store TY; exact rfl; exact rfl; exact rfl; exact rfl; exact rfl; exact rfl))
      exact lv_ret (ret2 rfl (res_tmp rfl) (res_tmp rfl))
set_option maxRecDepth 100000 in
set_option maxHeartbeats 3200000 in
theorem CheckEvents_ok (l : List Site) (s : Setup) (h : List Hit) (c : List Ev) (hl : l.length ≤ 1000000) (hsl : s.rules.length ≤ 1000000) (hh : h.length ≤ 1000000) (hn : c.length ≤ 1000000) (hv : ∀ i (hi : i < c.length), c[i].hits.length ≤ 1000000) (hb : ∀ i (hi : i < c.length), InW c[i].lo ∧ InW c[i].hi) (e : setErr l s h = 0) : Summ Tryz.prog GG 27 [arrF l, setF s, .agg [.sl h.length (hitsF h), .sl c.length (evsF c)]] (.tup [iv (clmChk l s h c).1, iv (clmChk l s h c).2]) := by
  obtain ⟨e1, e2, e3⟩ := setErr_parts e
  have hl0 := arrOk_of e1
  have hs := setOk_of e2
  have ho := hitsOk_of hl0 e3
  have HO := openSetup_ok l s h hl hsl hh e
  by_cases h40 : 40 < c.length
  · rw [show clmChk l s h c = (0, 8) by unfold clmChk; rw [if_pos h40]]
    refine summW Tryz.func27 rfl rfl 53 rfl (by simp) (fun M0 => ?_)
    repeat (first
    | (apply s_a TY; exact rfl)
    | (apply s_f; exact rfl; (first | assumption | omega))
    | apply w_seq
    | apply w_region
    | apply s_nil
    | apply t_norm
    | apply t_ret
    | apply w_ret
    | (apply w_condT; exact rfl; exact rfl)
    | (apply s_k (HO); exact rfl)
    | (apply s_k1 (first2_1 _ _); exact rfl; (first | assumption | omega | decide))
    | (apply s_k (unless_F _); exact rfl)
    | (apply s_alloc TY; exact rfl; exact rfl; exact rfl)
    | (apply s_store TY; exact rfl; exact rfl; exact rfl; exact rfl; exact rfl; exact rfl))
    exact lv_ret (ret2 rfl (res_tmp rfl) (res_tmp rfl))
  · have h160 := single_len hs ho (l := l)
    have HS := single_s l s h hs hl0 ho
    have HE := eachEv_s c 79 [.pt [.sl h.length (hitsF h), .sl c.length (evsF c)] 0, .pt [.sl (singleV l s h).length (rngsF (singleV l s h))] 0] (clmE (singleV l s h) h c) hn (fun i hi => chk1_s (singleV l s h) h c i hi (by omega) hh hn (hv i hi) (single_lo hs ho) (single_hi hs ho) hb)
    by_cases he : (eachE c.length (clmE (singleV l s h) h c)).2 = 0
    · have hef := eachE_fst he
      have HL := idxdelRC_s (singleV l s h) 88 [.pt [.sl h.length (hitsF h), .sl c.length (evsF c)] 0] (fun k => !readB c ((singleV l s h).getD k default)) (by omega) (fun i hi => by rw [getD_at hi]; exact chk2_s h c (singleV l s h)[i] hn)
      rw [show anyP (singleV l s h).length (fun k => !readB c ((singleV l s h).getD k default)) = lostB (singleV l s h) c from rfl] at HL
      rw [hef] at HE
      cases hlo : lostB (singleV l s h) c with
      | true =>
        rw [hlo] at HL
        rw [show clmChk l s h c = (0, 14) by unfold clmChk; rw [if_neg h40, if_neg (by simpa using he), if_pos hlo]]
        refine summW Tryz.func27 rfl rfl 53 rfl (by simp) (fun M0 => ?_)
        repeat (first
    | (refine s_ghost (o := ⟨some 37, _, _, _, _, none⟩) rfl (gh_box 1 (cs := [.sl (singleV l s h).length (rngsF (singleV l s h))]) rfl rfl) ?_)
    | (apply s_a TY; exact rfl)
    | (apply s_makefn; exact rfl; exact rfl)
    | (apply s_t; exact rfl; (first | assumption | omega))
    | apply w_seq
    | apply w_region
    | apply s_nil
    | apply t_norm
    | apply w_ret
    | apply w_skip
    | (apply w_condF; exact rfl; exact rfl)
    | (apply s_k (HO); exact rfl)
    | (apply s_k (HS); exact rfl)
    | (apply s_k (HE); exact rfl)
    | (apply s_k (HL); exact rfl)
    | (apply s_k1 (first2_1 _ _); exact rfl; (first | assumption | omega | decide))
    | (apply s_k (unless_T _); exact rfl)
    | (apply s_k (unless_F _); exact rfl)
    | (apply s_alloc TY; exact rfl; exact rfl; exact rfl)
    | (apply s_store TY; exact rfl; exact rfl; exact rfl; exact rfl; exact rfl; exact rfl))
        exact lv_ret (ret2 rfl (res_tmp rfl) (res_tmp rfl))
      | false =>
        rw [hlo] at HL
        rw [show clmChk l s h c = (0, 0) by unfold clmChk; rw [if_neg h40, if_neg (by simpa using he), if_neg (by rw [hlo]; decide)]]
        refine summW Tryz.func27 rfl rfl 53 rfl (by simp) (fun M0 => ?_)
        repeat (first
    | (refine s_ghost (o := ⟨some 37, _, _, _, _, none⟩) rfl (gh_box 1 (cs := [.sl (singleV l s h).length (rngsF (singleV l s h))]) rfl rfl) ?_)
    | (apply s_a TY; exact rfl)
    | (apply s_makefn; exact rfl; exact rfl)
    | (apply s_t; exact rfl; (first | assumption | omega))
    | apply w_seq
    | apply w_region
    | apply s_nil
    | apply t_norm
    | apply w_ret
    | apply w_skip
    | (apply w_condF; exact rfl; exact rfl)
    | (apply s_k (HO); exact rfl)
    | (apply s_k (HS); exact rfl)
    | (apply s_k (HE); exact rfl)
    | (apply s_k (HL); exact rfl)
    | (apply s_k1 (first2_1 _ _); exact rfl; (first | assumption | omega | decide))
    | (apply s_k (unless_T _); exact rfl)
    | (apply s_alloc TY; exact rfl; exact rfl; exact rfl)
    | (apply s_store TY; exact rfl; exact rfl; exact rfl; exact rfl; exact rfl; exact rfl))
        exact lv_ret (ret2 rfl (res_tmp rfl) (res_tmp rfl))
    · rw [show clmChk l s h c = (eachE c.length (clmE (singleV l s h) h c)) by unfold clmChk; rw [if_neg h40, if_pos he]]
      refine summW Tryz.func27 rfl rfl 53 rfl (by simp) (fun M0 => ?_)
      repeat (first
    | (refine s_ghost (o := ⟨some 37, _, _, _, _, none⟩) rfl (gh_box 1 (cs := [.sl (singleV l s h).length (rngsF (singleV l s h))]) rfl rfl) ?_)
    | (apply s_a TY; exact rfl)
    | (apply s_makefn; exact rfl; exact rfl)
    | (apply s_t; exact rfl; (first | assumption | omega))
    | (apply s_f; exact rfl; (first | assumption | omega))
    | apply w_seq
    | apply w_region
    | apply s_nil
    | apply t_norm
    | apply t_ret
    | apply w_ret
    | apply w_skip
    | (apply w_condT; exact rfl; exact rfl)
    | (apply w_condF; exact rfl; exact rfl)
    | (apply s_k (HO); exact rfl)
    | (apply s_k (HS); exact rfl)
    | (apply s_k (HE); exact rfl)
    | (apply s_k1 (first2_1 _ _); exact rfl; (first | assumption | omega | decide))
    | (apply s_k (unless_T _); exact rfl)
    | (apply s_alloc TY; exact rfl; exact rfl; exact rfl)
    | (apply s_store TY; exact rfl; exact rfl; exact rfl; exact rfl; exact rfl; exact rfl))
      exact lv_ret (ret2 rfl (res_tmp rfl) (res_tmp rfl))
theorem evs_sub2 {c : List Ev} {k : Nat} (hk : k < c.length) : ((evsF c).drop (k * 3 + 0)).take 2 = rngF (evW c[k]) := by
  have := congrArg (List.take 2) (evsF_sub hk)
  rw [List.take_take] at this
  exact this
theorem row_tkE {L : List Ev} {k : Nat} (h : k < L.length) : some (Blk.row 67 3 ((L.take k).length + 1) (evsF (L.take k) ++ [iv L[k].lo, iv L[k].hi, .sl L[k].hits.length (intsF L[k].hits)])) = some (Blk.row 67 3 (L.take (k + 1)).length (evsF (L.take (k + 1)))) := by
  rw [evsF_tk h, List.take_succ_eq_append_getElem h, List.length_append]; rfl
set_option maxRecDepth 100000 in
set_option maxHeartbeats 1600000 in
theorem CopyEvents_s (c : List Ev) (hn : c.length ≤ 1000000) (hv : ∀ i (hi : i < c.length), c[i].hits.length ≤ 1000000) : Summ Tryz.prog GG 33 [.sl c.length (evsF c)] (.sl c.length (evsF c)) := by
  refine summW Tryz.func33 rfl rfl 27 rfl (by simp) (fun M0 => ?_)
  repeat (first
    | (apply s_a TY; exact rfl)
    | apply w_seq
    | apply w_region
    | apply s_nil
    | apply t_norm
    | apply w_block)
  apply w_gh (gh_own 3 67 3 rfl rfl)
  apply w_loop (fun k : Nat => ⟨(Ab.upd (Ab.upd (Ab.upd (fun _ => .bot) 0 (.f (.sl c.length (evsF c)))) 3 (.ow 0)) 4 (.f (iv ((k : Nat) : Int)))), (Ab.upd (fun _ => none) 0 (some (.row 67 3 (c.take k).length (evsF (c.take k))))), 1⟩) (fun k => k ≤ c.length) (fun k => c.length - k) 0 (Nat.zero_le _) (gh_le ⟨le_upd rfl trivial (le_upd rfl rfl (le_upd rfl trivial (le_nil _))), le_hupd rfl trivial (le_h0 _ _)⟩)
  intro k hk
  have hlk : (c.take k).length = k := by rw [List.length_take]; omega
  by_cases hc : k < c.length
  · have HC := CopyInts_s c[k].hits (hv k hc)
    have hs2 := evs_sub2 hc
    repeat (first
    | (apply s_a TY; exact rfl)
    | (apply s_t; exact rfl; (first | assumption | omega))
    | apply w_seq
    | apply w_region
    | (apply w_draw (id := 5) 14 rfl (by kernel_rfl))
    | apply s_nil
    | apply t_norm
    | apply k_norm
    | apply w_block
    | apply w_skip
    | (apply w_condT; exact rfl; exact rfl)
    | (apply s_k (HC); exact rfl)
    | (apply s_c TY; exact rfl; (first | omega | exact ⟨by omega, by (first | with_reducible assumption | ((with_reducible apply evsF_ne); omega) | assumption)⟩))
    | (apply s_l TY; exact rfl; (first | exact rfl | with_reducible assumption | ((with_reducible apply evsF_f0); omega) | ((with_reducible apply evsF_f1); omega) | ((with_reducible apply evsF_f2); omega) | assumption))
    | (apply s_m TY; exact rfl; (first | with_reducible assumption | ((with_reducible apply evsF_sub); omega) | exact rfl); exact rfl)
    | (apply s_append TY; exact rfl; exact rfl; exact rfl; exact rfl; exact rfl; exact rfl; exact rfl; exact rfl; exact rfl; (unfold maxLen; omega); omega))
    exact ⟨k + 1, by omega, by omega, gh_le ⟨le_upd rfl trivial (le_upd rfl rfl (le_upd rfl trivial (le_nil _))), le_hupd (row_tkE hc) trivial (le_h0 _ _)⟩⟩
  · have hke : k = c.length := by omega
    subst hke
    rw [List.take_length]
    repeat (first
    | (apply s_a TY; exact rfl)
    | (apply s_f; exact rfl; (first | assumption | omega))
    | apply w_seq
    | apply w_region
    | apply s_nil
    | apply t_norm
    | apply t_exit
    | apply k_hit
    | apply w_exit
    | apply w_ret
    | (apply w_condF; exact rfl; exact rfl))
    exact lv_ret (ret_gh (gh_row 0 rfl) (ret1 rfl (res_tmp rfl)))
set_option maxRecDepth 100000 in
theorem CopyClaim_s (h : List Hit) (c : List Ev) (hh : h.length ≤ 1000000) (hn : c.length ≤ 1000000) (hv : ∀ i (hi : i < c.length), c[i].hits.length ≤ 1000000) : Summ Tryz.prog GG 29 [.agg [.sl h.length (hitsF h), .sl c.length (evsF c)]] (.agg [.sl h.length (hitsF h), .sl c.length (evsF c)]) := by
  have H1 := CopyHits_s h hh
  have H2 := CopyEvents_s c hn hv
  refine summW Tryz.func29 rfl rfl 10 rfl (by simp) (fun M0 => ?_)
  repeat (first
    | (apply s_a TY; exact rfl)
    | apply w_seq
    | apply w_region
    | (apply w_draw (id := 1) 5 rfl (by kernel_rfl))
    | apply s_nil
    | apply t_norm
    | apply w_ret
    | (apply s_k (H1); exact rfl)
    | (apply s_k (H2); exact rfl)
    | (apply s_alloc TY; exact rfl; exact rfl; exact rfl)
    | (apply s_store TY; exact rfl; exact rfl; exact rfl; exact rfl; exact rfl; exact rfl))
  exact lv_ret (ret1 rfl (res_bxs (sub := [.sl h.length (hitsF h), .sl c.length (evsF c)]) TY rfl rfl rfl rfl rfl))
theorem clm_bd {l : List Site} {s : Setup} {h : List Hit} {c : List Ev} {j : Nat} (hs : SetOk s) (ho : HitsOk l h) (he : clmE (singleV l s h) h c j = 0) : -1152921504606846976 ≤ (c.getD j default).hi ∧ (c.getD j default).hi ≤ 1152921504606846976 := by
  obtain ⟨_, _, hj⟩ := clmE_ok.1 he
  have hho : HiOk (mergeV (sortRng (ownV (singleV l s h) (evW (c.getD j default))))) := by
    rw [← mgK_all]
    exact mgK_hi (fun r hr => single_hi hs ho r (own_sub r ((sortRng_perm _).mem_iff.1 hr))) _
  have : evW (c.getD j default) ∈ joinedV (ownV (singleV l s h) (evW (c.getD j default))) := by rw [hj]; simp
  exact hho _ this
set_option maxRecDepth 100000 in
set_option maxHeartbeats 12800000 in
theorem rCheckEvents_s (l : List Site) (s : Setup) (h : List Hit) (c : List Ev) (hn : c.length ≤ 1000000) (hv : ∀ i (hi : i < c.length), c[i].hits.length ≤ 1000000) (hb : ∀ i (hi : i < c.length), InW c[i].lo ∧ InW c[i].hi) (e : setErr l s h = 0) : Summ Tryz.prog GG 31 [arrF l, setF s, .agg [.sl h.length (hitsF h), .sl c.length (evsF c)]] (.tup [iv (clmChk l s h c).1, iv (clmChk l s h c).2]) := by
  obtain ⟨e1, e2, e3⟩ := setErr_parts e
  have hl0 := arrOk_of e1
  have hs := setOk_of e2
  have ho := hitsOk_of hl0 e3
  have hh40 := ho.len
  by_cases h40 : 40 < c.length
  · rw [show clmChk l s h c = (0, 8) by unfold clmChk; rw [if_pos h40]]
    refine summW Tryz.func31 rfl rfl 137 rfl (by simp) (fun M0 => ?_)
    repeat (first
    | (apply s_a TY; exact rfl)
    | (apply s_t; exact rfl; (first | assumption | omega))
    | apply w_seq
    | apply w_region
    | apply s_nil
    | apply t_norm
    | apply t_ret
    | apply w_ret
    | (apply w_condT; exact rfl; exact rfl))
    exact lv_ret (ret2 rfl (res_tmp rfl) (res_tmp rfl))
  obtain ⟨hrlo, hrhi, hr160⟩ := rwins_bd (l := l) hs ho
  have HR := rwindows_s l s h hs hl0 ho
  have hE : (eachE c.length (clmE (singleV l s h) h c)).2 ≠ 0 → clmChk l s h c = (eachE c.length (clmE (singleV l s h) h c)) := fun he => by unfold clmChk; rw [if_neg h40, if_pos he]
  refine summW Tryz.func31 rfl rfl 137 rfl (by simp) (fun M0 => ?_)
  repeat (first
    | (apply s_a TY; exact rfl)
    | (apply s_f; exact rfl; (first | assumption | omega))
    | apply w_seq
    | apply w_region
    | apply s_nil
    | apply t_norm
    | apply w_block
    | apply w_skip
    | (apply w_condF; exact rfl; exact rfl)
    | (apply s_k (HR); exact rfl))
  apply w_loop (fun i : Nat => ⟨(Ab.upd (Ab.upd (Ab.upd (fun _ => .bot) 5 (.f (.pt [.sl h.length (hitsF h), .sl c.length (evsF c)] 0))) 8 (.f (.sl (rwinsV l s h).length (rngsF (rwinsV l s h))))) 9 (.f (iv ((i : Nat) : Int)))), (fun _ => none), 0⟩) (fun i => i ≤ c.length ∧ ∀ j, j < i → clmE (singleV l s h) h c j = 0) (fun i => c.length - i) 0 (⟨Nat.zero_le _, fun j h => absurd h (Nat.not_lt_zero j)⟩) (gh_le ⟨le_upd rfl trivial (le_upd rfl trivial (le_upd rfl trivial (le_nil _))), le_h0 _ _⟩)
  intro i ⟨hi, hz⟩
  by_cases hc : i < c.length
  · have hg := getD_at hc
    have HI := rIn_s h (evW c[i]) (by omega)
    have HIs := Ints_s c[i].hits (hitsInV h (evW c[i])) (hv i hc) (Nat.le_trans (hitsInN_len h (evW c[i]) h.length) (by omega))
    have hof : (ownV (rwinsV l s h) (evW c[i])).length ≤ (rwinsV l s h).length := List.length_filter_le _ _
    have HM := merged_s (ownV (rwinsV l s h) (evW c[i])) (fun r hr => hrlo r (own_sub r hr)) (fun r hr => hrhi r (own_sub r hr)) (by omega)
    repeat (first
    | (apply s_a TY; exact rfl)
    | (apply s_t; exact rfl; (first | assumption | omega))
    | apply w_seq
    | apply w_region
    | apply s_nil
    | apply t_norm
    | apply w_block
    | apply w_skip
    | (apply w_condT; exact rfl; exact rfl)
    | (apply s_c TY; exact rfl; (first | omega | exact ⟨by omega, by (first | with_reducible assumption | ((with_reducible apply evsF_ne); omega) | ((with_reducible apply rngsF_ne); omega) | assumption)⟩))
    | (apply s_m TY; exact rfl; (first | with_reducible assumption | ((with_reducible apply evsF_sub); omega) | ((with_reducible apply rngsF_sub); omega) | exact rfl); exact rfl)
    | (apply s_alloc TY; exact rfl; exact rfl; exact rfl)
    | (apply s_store TY; exact rfl; exact rfl; exact rfl; exact rfl; exact rfl; exact rfl))
    apply w_gh (gh_box 0 (cs := evF c[i]) rfl rfl)
    by_cases h1 : c[i].lo ≤ c[i].hi
    · by_cases h0 : i = 0
      · subst h0
        have hord : ordE c 0 := ⟨by rw [hg]; exact h1, .inl rfl⟩
        by_cases hhe : c[0].hits = hitsInV h (evW c[0])
        · rw [decide_eq_true hhe] at HIs
          repeat (first
    | (apply s_a TY; exact rfl)
    | (apply s_f; exact rfl; (first | assumption | omega))
    | apply w_seq
    | apply w_region
    | (apply w_draw (id := 8) 23 rfl (by kernel_rfl))
    | (apply w_draw (id := 10) 7 rfl (by kernel_rfl))
    | apply s_nil
    | apply t_norm
    | apply w_block
    | apply w_skip
    | (apply w_condF; exact rfl; exact rfl)
    | (apply s_k (HI); exact rfl)
    | (apply s_k (HIs); exact rfl)
    | (apply s_s; exact rfl))
          apply w_gh (gh_own 11 65 2 rfl rfl)
          apply w_loop (fun k : Nat => ⟨(Ab.upd (Ab.upd (Ab.upd (Ab.upd (Ab.upd (Ab.upd (fun _ => .bot) 5 (.f (.pt [.sl h.length (hitsF h), .sl c.length (evsF c)] 0))) 8 (.f (.sl (rwinsV l s h).length (rngsF (rwinsV l s h))))) 9 (.f (iv ((0 : Nat) : Int)))) 10 (.f (.pt (evF c[0]) 0))) 11 (.ow 1)) 12 (.f (iv ((k : Nat) : Int)))), (Ab.upd (fun _ => none) 1 (some (.row 65 2 (((rwinsV l s h).take k).filter (insideB (evW c[0]))).length (rngsF (((rwinsV l s h).take k).filter (insideB (evW c[0]))))))), 2⟩) (fun k => k ≤ (rwinsV l s h).length) (fun k => (rwinsV l s h).length - k) 0 (Nat.zero_le _) (gh_le ⟨le_upd rfl trivial (le_upd rfl rfl (le_upd rfl trivial (le_upd rfl trivial (le_upd rfl trivial (le_upd rfl trivial (le_nil _)))))), le_hupd rfl trivial (le_h0 _ _)⟩)
          intro k hk
          have hfl : (((rwinsV l s h).take k).filter (insideB (evW c[0]))).length ≤ k := Nat.le_trans (List.length_filter_le _ _) (by rw [List.length_take]; omega)
          by_cases hkc : k < (rwinsV l s h).length
          · have HW := isWithin_s (evW c[0]) (rwinsV l s h)[k]
            have hsu : (((rwinsV l s h).take (k + 1)).filter (insideB (evW c[0]))) = (((rwinsV l s h).take k).filter (insideB (evW c[0]))) ++ (if insideB (evW c[0]) (rwinsV l s h)[k] = true then [(rwinsV l s h)[k]] else []) := by
              rw [List.take_succ_eq_append_getElem hkc, List.filter_append]
              congr 1
              by_cases h : insideB (evW c[0]) (rwinsV l s h)[k] = true
              · rw [if_pos h, List.filter_cons_of_pos h]; rfl
              · rw [if_neg h, List.filter_cons_of_neg h]; rfl
            cases hw : insideB (evW c[0]) (rwinsV l s h)[k] with
    | true =>
              rw [hw] at HW
              rw [hw, if_pos rfl] at hsu
              repeat (first
    | (apply s_a TY; exact rfl)
    | (apply s_t; exact rfl; (first | assumption | omega))
    | apply w_seq
    | apply w_region
    | (apply w_draw (id := 16) 6 rfl (by kernel_rfl))
    | apply s_nil
    | apply t_norm
    | apply k_norm
    | apply w_block
    | apply w_skip
    | (apply w_condT; exact rfl; exact rfl)
    | (apply s_k (HW); exact rfl)
    | (apply s_c TY; exact rfl; (first | omega | exact ⟨by omega, by (first | with_reducible assumption | ((with_reducible apply evsF_ne); omega) | ((with_reducible apply rngsF_ne); omega) | assumption)⟩))
    | (apply s_m TY; exact rfl; (first | with_reducible assumption | ((with_reducible apply evsF_sub); omega) | ((with_reducible apply rngsF_sub); omega) | exact rfl); exact rfl)
    | (apply s_append TY; exact rfl; exact rfl; exact rfl; exact rfl; exact rfl; exact rfl; exact rfl; exact rfl; exact rfl; (unfold maxLen; omega); omega))
              exact ⟨k + 1, by omega, by omega, gh_le ⟨le_upd rfl trivial (le_upd rfl rfl (le_upd rfl trivial (le_upd rfl trivial (le_upd rfl trivial (le_upd rfl trivial (le_nil _)))))), le_hupd (delR_row (by rw [hsu, List.length_append]; rfl) (by rw [hsu, rngsF_snoc]; rfl)) trivial (le_h0 _ _)⟩⟩
    | false =>
              rw [hw] at HW
              rw [hw, if_neg (by decide), List.append_nil] at hsu
              repeat (first
    | (apply s_a TY; exact rfl)
    | (apply s_t; exact rfl; (first | assumption | omega))
    | apply w_seq
    | apply w_region
    | (apply w_draw (id := 16) 6 rfl (by kernel_rfl))
    | apply s_nil
    | apply t_norm
    | apply k_norm
    | apply w_block
    | apply w_skip
    | (apply w_condT; exact rfl; exact rfl)
    | (apply w_condF; exact rfl; exact rfl)
    | (apply s_k (HW); exact rfl)
    | (apply s_c TY; exact rfl; (first | omega | exact ⟨by omega, by (first | with_reducible assumption | ((with_reducible apply evsF_ne); omega) | ((with_reducible apply rngsF_ne); omega) | assumption)⟩))
    | (apply s_m TY; exact rfl; (first | with_reducible assumption | ((with_reducible apply evsF_sub); omega) | ((with_reducible apply rngsF_sub); omega) | exact rfl); exact rfl))
              exact ⟨k + 1, by omega, by omega, gh_le ⟨le_upd rfl trivial (le_upd rfl rfl (le_upd rfl trivial (le_upd rfl trivial (le_upd rfl trivial (le_upd rfl trivial (le_nil _)))))), le_hupd (delR_row (by rw [hsu]) (by rw [hsu])) trivial (le_h0 _ _)⟩⟩
          have hke : k = (rwinsV l s h).length := by omega
          subst hke
          rw [show (((rwinsV l s h).take (rwinsV l s h).length).filter (insideB (evW c[0]))) = ownV (rwinsV l s h) (evW c[0]) by rw [List.take_length]; rfl]
          repeat (first
    | (apply s_a TY; exact rfl)
    | (apply s_f; exact rfl; (first | assumption | omega))
    | apply w_seq
    | apply w_region
    | apply s_nil
    | apply t_norm
    | apply t_exit
    | apply k_hit
    | apply w_exit
    | (apply w_condF; exact rfl; exact rfl))
          refine s_ghost rfl (gh_row 1 rfl) ?_
          by_cases hj : (mergeV (ownV (rwinsV l s h) (evW c[0]))) = [(evW c[0])]
          · rw [hj] at HM
            have hl1 : ((([(evW c[0])] : List Rng).length : Nat) : Int) = 1 := rfl
            have hne1 : rngsF [(evW c[0])] ≠ [] := by simp [rngsF, rngF]
            repeat (first
    | (apply s_m TY; exact rfl; exact rfl; exact rfl)
    | (apply s_bind; exact rfl; exact rfl; exact rfl; exact rfl; exact rfl; exact rfl; exact ne_rng (a := (evW c[0])) (b := (evW c[0])) (c := false) (by simp))
    | (apply s_a TY; exact rfl)
    | (apply s_t; exact rfl; (first | assumption | omega))
    | apply w_seq
    | apply w_region
    | (apply w_draw (id := 19) 9 rfl (by kernel_rfl))
    | apply s_nil
    | apply t_norm
    | apply k_norm
    | apply w_skip
    | (apply w_condF; exact rfl; exact rfl)
    | (apply s_k (HM); exact rfl)
    | (apply s_c TY; exact rfl; (first | omega | exact ⟨by omega, by (first | with_reducible assumption | ((with_reducible apply evsF_ne); omega) | ((with_reducible apply rngsF_ne); omega) | assumption)⟩))
    | (apply s_z TY; exact rfl; (first | omega | exact ⟨by omega, by (first | with_reducible assumption | ((with_reducible apply evsF_ne); omega) | ((with_reducible apply rngsF_ne); omega) | assumption)⟩)))
            exact ⟨0 + 1, ⟨by omega, fun j hjj => by
              by_cases e : j = 0
              · subst e; rw [clmE_ok, getD_at hc]; exact ⟨hord, hhe, by rw [own_ref hs ho]; exact hj⟩
              · exact hz j (by omega)⟩, by omega, gh_le ⟨le_upd rfl trivial (le_upd rfl trivial (le_upd rfl trivial (le_nil _))), le_h0 _ _⟩⟩
          · have hcl : clmE (singleV l s h) h c 0 = 19 := by unfold clmE; rw [getD_at hc, if_neg (by simpa using hord), if_neg (by simpa using hhe), if_pos (by rw [own_ref hs ho]; exact hj)]
            rw [hE (by rw [eachE_at hc hz (by rw [hcl]; decide), hcl]; simp), eachE_at hc hz (by rw [hcl]; decide), hcl]
            rcases hjl : (mergeV (ownV (rwinsV l s h) (evW c[0]))) with _ | ⟨x, _ | ⟨y, t⟩⟩
            · rw [hjl] at HM
              have hl1 : ((([] : List Rng).length : Nat) : Int) = 0 := rfl
              repeat (first
    | (apply s_a TY; exact rfl)
    | (apply s_f; exact rfl; (first | assumption | omega))
    | apply w_seq
    | apply w_region
    | (apply w_draw (id := 19) 9 rfl (by kernel_rfl))
    | apply s_nil
    | apply t_norm
    | apply t_ret
    | apply k_ret
    | apply w_ret
    | (apply w_condT; exact rfl; exact rfl)
    | (apply s_k (HM); exact rfl)
    | (apply s_s; exact rfl))
              exact lv_ret (ret2 rfl (res_tmp rfl) (res_tmp rfl))
            · rw [hjl] at HM
              have hl1 : ((([x] : List Rng).length : Nat) : Int) = 1 := rfl
              have hne1 : rngsF [x] ≠ [] := by simp [rngsF, rngF]
              have hxw : ¬ x = (evW c[0]) := fun e => hj (by rw [hjl, e])
              repeat (first
    | (apply s_m TY; exact rfl; exact rfl; exact rfl)
    | (apply s_bind; exact rfl; exact rfl; exact rfl; exact rfl; exact rfl; exact rfl; exact ne_rng (a := x) (b := (evW c[0])) (c := true) (by rw [decide_eq_false hxw]; rfl))
    | (apply s_a TY; exact rfl)
    | (apply s_t; exact rfl; (first | assumption | omega))
    | apply w_seq
    | apply w_region
    | (apply w_draw (id := 19) 9 rfl (by kernel_rfl))
    | apply s_nil
    | apply t_norm
    | apply t_ret
    | apply k_ret
    | apply w_ret
    | (apply w_condT; exact rfl; exact rfl)
    | (apply s_k (HM); exact rfl)
    | (apply s_z TY; exact rfl; (first | omega | exact ⟨by omega, by (first | with_reducible assumption | ((with_reducible apply evsF_ne); omega) | ((with_reducible apply rngsF_ne); omega) | assumption)⟩)))
              exact lv_ret (ret2 rfl (res_tmp rfl) (res_tmp rfl))
            · rw [hjl] at HM
              have hl2 : ¬ (((x :: y :: t).length : Nat) : Int) = 1 := by simp; omega
              repeat (first
    | (apply s_a TY; exact rfl)
    | (apply s_f; exact rfl; (first | assumption | omega))
    | apply w_seq
    | apply w_region
    | (apply w_draw (id := 19) 9 rfl (by kernel_rfl))
    | apply s_nil
    | apply t_norm
    | apply t_ret
    | apply k_ret
    | apply w_ret
    | (apply w_condT; exact rfl; exact rfl)
    | (apply s_k (HM); exact rfl)
    | (apply s_s; exact rfl))
              exact lv_ret (ret2 rfl (res_tmp rfl) (res_tmp rfl))
        · rw [decide_eq_false hhe] at HIs
          have hcl : clmE (singleV l s h) h c 0 = 3 := by unfold clmE; rw [getD_at hc, if_neg (by simpa using hord), if_pos hhe]
          rw [hE (by rw [eachE_at hc hz (by rw [hcl]; decide), hcl]; simp), eachE_at hc hz (by rw [hcl]; decide), hcl]
          repeat (first
    | (apply s_a TY; exact rfl)
    | (apply s_f; exact rfl; (first | assumption | omega))
    | apply w_seq
    | apply w_region
    | (apply w_draw (id := 8) 23 rfl (by kernel_rfl))
    | (apply w_draw (id := 10) 7 rfl (by kernel_rfl))
    | apply s_nil
    | apply t_norm
    | apply t_ret
    | apply k_ret
    | apply w_ret
    | apply w_skip
    | (apply w_condT; exact rfl; exact rfl)
    | (apply w_condF; exact rfl; exact rfl)
    | (apply s_k (HI); exact rfl)
    | (apply s_k (HIs); exact rfl)
    | (apply s_s; exact rfl))
          exact lv_ret (ret2 rfl (res_tmp rfl) (res_tmp rfl))
      · have hq : ((i : Int) - 1).toNat = i - 1 := by omega
        have hgp : (c.getD (i - 1) default).hi = (c[((i : Int) - 1).toNat]'(by omega)).hi := by
          rw [getD_at (show i - 1 < c.length by omega)]; simp only [hq]
        have hbd := clm_bd hs ho (hz (i - 1) (by omega))
        rw [hgp] at hbd
        by_cases h2 : (c[((i : Int) - 1).toNat]'(by omega)).hi + 2 ≤ c[i].lo
        · have hord : ordE c i := ⟨by rw [hg]; exact h1, .inr (by rw [hg, hgp]; omega)⟩
          by_cases hhe : c[i].hits = hitsInV h (evW c[i])
          · rw [decide_eq_true hhe] at HIs
            repeat (first
    | (apply s_a TY; exact rfl)
    | (apply s_t; exact rfl; (first | assumption | omega))
    | (apply s_f; exact rfl; (first | assumption | omega))
    | apply w_seq
    | apply w_region
    | (apply w_draw (id := 8) 23 rfl (by kernel_rfl))
    | (apply w_draw (id := 10) 7 rfl (by kernel_rfl))
    | apply s_nil
    | apply t_norm
    | apply w_block
    | apply w_skip
    | (apply w_condF; exact rfl; exact rfl)
    | (apply s_k (HI); exact rfl)
    | (apply s_k (HIs); exact rfl)
    | (apply s_c TY; exact rfl; (first | omega | exact ⟨by omega, by (first | with_reducible assumption | ((with_reducible apply evsF_ne); omega) | ((with_reducible apply rngsF_ne); omega) | assumption)⟩))
    | (apply s_z TY; exact rfl; (first | omega | exact ⟨by omega, by (first | with_reducible assumption | ((with_reducible apply evsF_ne); omega) | ((with_reducible apply rngsF_ne); omega) | assumption)⟩))
    | (apply s_l TY; exact rfl; (first | exact rfl | with_reducible assumption | ((with_reducible apply evsF_f0); omega) | ((with_reducible apply evsF_f1); omega) | ((with_reducible apply evsF_f2); omega) | ((with_reducible apply rngsF_f0); omega) | ((with_reducible apply rngsF_f1); omega) | assumption)))
            apply w_gh (gh_own 11 65 2 rfl rfl)
            apply w_loop (fun k : Nat => ⟨(Ab.upd (Ab.upd (Ab.upd (Ab.upd (Ab.upd (Ab.upd (fun _ => .bot) 5 (.f (.pt [.sl h.length (hitsF h), .sl c.length (evsF c)] 0))) 8 (.f (.sl (rwinsV l s h).length (rngsF (rwinsV l s h))))) 9 (.f (iv ((i : Nat) : Int)))) 10 (.f (.pt (evF c[i]) 0))) 11 (.ow 1)) 12 (.f (iv ((k : Nat) : Int)))), (Ab.upd (fun _ => none) 1 (some (.row 65 2 (((rwinsV l s h).take k).filter (insideB (evW c[i]))).length (rngsF (((rwinsV l s h).take k).filter (insideB (evW c[i]))))))), 2⟩) (fun k => k ≤ (rwinsV l s h).length) (fun k => (rwinsV l s h).length - k) 0 (Nat.zero_le _) (gh_le ⟨le_upd rfl trivial (le_upd rfl rfl (le_upd rfl trivial (le_upd rfl trivial (le_upd rfl trivial (le_upd rfl trivial (le_nil _)))))), le_hupd rfl trivial (le_h0 _ _)⟩)
            intro k hk
            have hfl : (((rwinsV l s h).take k).filter (insideB (evW c[i]))).length ≤ k := Nat.le_trans (List.length_filter_le _ _) (by rw [List.length_take]; omega)
            by_cases hkc : k < (rwinsV l s h).length
            · have HW := isWithin_s (evW c[i]) (rwinsV l s h)[k]
              have hsu : (((rwinsV l s h).take (k + 1)).filter (insideB (evW c[i]))) = (((rwinsV l s h).take k).filter (insideB (evW c[i]))) ++ (if insideB (evW c[i]) (rwinsV l s h)[k] = true then [(rwinsV l s h)[k]] else []) := by
                rw [List.take_succ_eq_append_getElem hkc, List.filter_append]
                congr 1
                by_cases h : insideB (evW c[i]) (rwinsV l s h)[k] = true
                · rw [if_pos h, List.filter_cons_of_pos h]; rfl
                · rw [if_neg h, List.filter_cons_of_neg h]; rfl
              cases hw : insideB (evW c[i]) (rwinsV l s h)[k] with
    | true =>
                rw [hw] at HW
                rw [hw, if_pos rfl] at hsu
                repeat (first
    | (apply s_a TY; exact rfl)
    | (apply s_t; exact rfl; (first | assumption | omega))
    | apply w_seq
    | apply w_region
    | (apply w_draw (id := 16) 6 rfl (by kernel_rfl))
    | apply s_nil
    | apply t_norm
    | apply k_norm
    | apply w_block
    | apply w_skip
    | (apply w_condT; exact rfl; exact rfl)
    | (apply s_k (HW); exact rfl)
    | (apply s_c TY; exact rfl; (first | omega | exact ⟨by omega, by (first | with_reducible assumption | ((with_reducible apply evsF_ne); omega) | ((with_reducible apply rngsF_ne); omega) | assumption)⟩))
    | (apply s_m TY; exact rfl; (first | with_reducible assumption | ((with_reducible apply evsF_sub); omega) | ((with_reducible apply rngsF_sub); omega) | exact rfl); exact rfl)
    | (apply s_append TY; exact rfl; exact rfl; exact rfl; exact rfl; exact rfl; exact rfl; exact rfl; exact rfl; exact rfl; (unfold maxLen; omega); omega))
                exact ⟨k + 1, by omega, by omega, gh_le ⟨le_upd rfl trivial (le_upd rfl rfl (le_upd rfl trivial (le_upd rfl trivial (le_upd rfl trivial (le_upd rfl trivial (le_nil _)))))), le_hupd (delR_row (by rw [hsu, List.length_append]; rfl) (by rw [hsu, rngsF_snoc]; rfl)) trivial (le_h0 _ _)⟩⟩
    | false =>
                rw [hw] at HW
                rw [hw, if_neg (by decide), List.append_nil] at hsu
                repeat (first
    | (apply s_a TY; exact rfl)
    | (apply s_t; exact rfl; (first | assumption | omega))
    | apply w_seq
    | apply w_region
    | (apply w_draw (id := 16) 6 rfl (by kernel_rfl))
    | apply s_nil
    | apply t_norm
    | apply k_norm
    | apply w_block
    | apply w_skip
    | (apply w_condT; exact rfl; exact rfl)
    | (apply w_condF; exact rfl; exact rfl)
    | (apply s_k (HW); exact rfl)
    | (apply s_c TY; exact rfl; (first | omega | exact ⟨by omega, by (first | with_reducible assumption | ((with_reducible apply evsF_ne); omega) | ((with_reducible apply rngsF_ne); omega) | assumption)⟩))
    | (apply s_m TY; exact rfl; (first | with_reducible assumption | ((with_reducible apply evsF_sub); omega) | ((with_reducible apply rngsF_sub); omega) | exact rfl); exact rfl))
                exact ⟨k + 1, by omega, by omega, gh_le ⟨le_upd rfl trivial (le_upd rfl rfl (le_upd rfl trivial (le_upd rfl trivial (le_upd rfl trivial (le_upd rfl trivial (le_nil _)))))), le_hupd (delR_row (by rw [hsu]) (by rw [hsu])) trivial (le_h0 _ _)⟩⟩
            have hke : k = (rwinsV l s h).length := by omega
            subst hke
            rw [show (((rwinsV l s h).take (rwinsV l s h).length).filter (insideB (evW c[i]))) = ownV (rwinsV l s h) (evW c[i]) by rw [List.take_length]; rfl]
            repeat (first
    | (apply s_a TY; exact rfl)
    | (apply s_f; exact rfl; (first | assumption | omega))
    | apply w_seq
    | apply w_region
    | apply s_nil
    | apply t_norm
    | apply t_exit
    | apply k_hit
    | apply w_exit
    | (apply w_condF; exact rfl; exact rfl))
            refine s_ghost rfl (gh_row 1 rfl) ?_
            by_cases hj : (mergeV (ownV (rwinsV l s h) (evW c[i]))) = [(evW c[i])]
            · rw [hj] at HM
              have hl1 : ((([(evW c[i])] : List Rng).length : Nat) : Int) = 1 := rfl
              have hne1 : rngsF [(evW c[i])] ≠ [] := by simp [rngsF, rngF]
              repeat (first
    | (apply s_m TY; exact rfl; exact rfl; exact rfl)
    | (apply s_bind; exact rfl; exact rfl; exact rfl; exact rfl; exact rfl; exact rfl; exact ne_rng (a := (evW c[i])) (b := (evW c[i])) (c := false) (by simp))
    | (apply s_a TY; exact rfl)
    | (apply s_t; exact rfl; (first | assumption | omega))
    | apply w_seq
    | apply w_region
    | (apply w_draw (id := 19) 9 rfl (by kernel_rfl))
    | apply s_nil
    | apply t_norm
    | apply k_norm
    | apply w_skip
    | (apply w_condF; exact rfl; exact rfl)
    | (apply s_k (HM); exact rfl)
    | (apply s_c TY; exact rfl; (first | omega | exact ⟨by omega, by (first | with_reducible assumption | ((with_reducible apply evsF_ne); omega) | ((with_reducible apply rngsF_ne); omega) | assumption)⟩))
    | (apply s_z TY; exact rfl; (first | omega | exact ⟨by omega, by (first | with_reducible assumption | ((with_reducible apply evsF_ne); omega) | ((with_reducible apply rngsF_ne); omega) | assumption)⟩)))
              exact ⟨i + 1, ⟨by omega, fun j hjj => by
                by_cases e : j = i
                · subst e; rw [clmE_ok, getD_at hc]; exact ⟨hord, hhe, by rw [own_ref hs ho]; exact hj⟩
                · exact hz j (by omega)⟩, by omega, gh_le ⟨le_upd rfl trivial (le_upd rfl trivial (le_upd rfl trivial (le_nil _))), le_h0 _ _⟩⟩
            · have hcl : clmE (singleV l s h) h c i = 19 := by unfold clmE; rw [getD_at hc, if_neg (by simpa using hord), if_neg (by simpa using hhe), if_pos (by rw [own_ref hs ho]; exact hj)]
              rw [hE (by rw [eachE_at hc hz (by rw [hcl]; decide), hcl]; simp), eachE_at hc hz (by rw [hcl]; decide), hcl]
              rcases hjl : (mergeV (ownV (rwinsV l s h) (evW c[i]))) with _ | ⟨x, _ | ⟨y, t⟩⟩
              · rw [hjl] at HM
                have hl1 : ((([] : List Rng).length : Nat) : Int) = 0 := rfl
                repeat (first
    | (apply s_a TY; exact rfl)
    | (apply s_f; exact rfl; (first | assumption | omega))
    | apply w_seq
    | apply w_region
    | (apply w_draw (id := 19) 9 rfl (by kernel_rfl))
    | apply s_nil
    | apply t_norm
    | apply t_ret
    | apply k_ret
    | apply w_ret
    | (apply w_condT; exact rfl; exact rfl)
    | (apply s_k (HM); exact rfl)
    | (apply s_s; exact rfl))
                exact lv_ret (ret2 rfl (res_tmp rfl) (res_tmp rfl))
              · rw [hjl] at HM
                have hl1 : ((([x] : List Rng).length : Nat) : Int) = 1 := rfl
                have hne1 : rngsF [x] ≠ [] := by simp [rngsF, rngF]
                have hxw : ¬ x = (evW c[i]) := fun e => hj (by rw [hjl, e])
                repeat (first
    | (apply s_m TY; exact rfl; exact rfl; exact rfl)
    | (apply s_bind; exact rfl; exact rfl; exact rfl; exact rfl; exact rfl; exact rfl; exact ne_rng (a := x) (b := (evW c[i])) (c := true) (by rw [decide_eq_false hxw]; rfl))
    | (apply s_a TY; exact rfl)
    | (apply s_t; exact rfl; (first | assumption | omega))
    | apply w_seq
    | apply w_region
    | (apply w_draw (id := 19) 9 rfl (by kernel_rfl))
    | apply s_nil
    | apply t_norm
    | apply t_ret
    | apply k_ret
    | apply w_ret
    | (apply w_condT; exact rfl; exact rfl)
    | (apply s_k (HM); exact rfl)
    | (apply s_z TY; exact rfl; (first | omega | exact ⟨by omega, by (first | with_reducible assumption | ((with_reducible apply evsF_ne); omega) | ((with_reducible apply rngsF_ne); omega) | assumption)⟩)))
                exact lv_ret (ret2 rfl (res_tmp rfl) (res_tmp rfl))
              · rw [hjl] at HM
                have hl2 : ¬ (((x :: y :: t).length : Nat) : Int) = 1 := by simp; omega
                repeat (first
    | (apply s_a TY; exact rfl)
    | (apply s_f; exact rfl; (first | assumption | omega))
    | apply w_seq
    | apply w_region
    | (apply w_draw (id := 19) 9 rfl (by kernel_rfl))
    | apply s_nil
    | apply t_norm
    | apply t_ret
    | apply k_ret
    | apply w_ret
    | (apply w_condT; exact rfl; exact rfl)
    | (apply s_k (HM); exact rfl)
    | (apply s_s; exact rfl))
                exact lv_ret (ret2 rfl (res_tmp rfl) (res_tmp rfl))
          · rw [decide_eq_false hhe] at HIs
            have hcl : clmE (singleV l s h) h c i = 3 := by unfold clmE; rw [getD_at hc, if_neg (by simpa using hord), if_pos hhe]
            rw [hE (by rw [eachE_at hc hz (by rw [hcl]; decide), hcl]; simp), eachE_at hc hz (by rw [hcl]; decide), hcl]
            repeat (first
    | (apply s_a TY; exact rfl)
    | (apply s_t; exact rfl; (first | assumption | omega))
    | (apply s_f; exact rfl; (first | assumption | omega))
    | apply w_seq
    | apply w_region
    | (apply w_draw (id := 8) 23 rfl (by kernel_rfl))
    | (apply w_draw (id := 10) 7 rfl (by kernel_rfl))
    | apply s_nil
    | apply t_norm
    | apply t_ret
    | apply k_ret
    | apply w_ret
    | apply w_skip
    | (apply w_condT; exact rfl; exact rfl)
    | (apply w_condF; exact rfl; exact rfl)
    | (apply s_k (HI); exact rfl)
    | (apply s_k (HIs); exact rfl)
    | (apply s_c TY; exact rfl; (first | omega | exact ⟨by omega, by (first | with_reducible assumption | ((with_reducible apply evsF_ne); omega) | ((with_reducible apply rngsF_ne); omega) | assumption)⟩))
    | (apply s_z TY; exact rfl; (first | omega | exact ⟨by omega, by (first | with_reducible assumption | ((with_reducible apply evsF_ne); omega) | ((with_reducible apply rngsF_ne); omega) | assumption)⟩))
    | (apply s_l TY; exact rfl; (first | exact rfl | with_reducible assumption | ((with_reducible apply evsF_f0); omega) | ((with_reducible apply evsF_f1); omega) | ((with_reducible apply evsF_f2); omega) | ((with_reducible apply rngsF_f0); omega) | ((with_reducible apply rngsF_f1); omega) | assumption)))
            exact lv_ret (ret2 rfl (res_tmp rfl) (res_tmp rfl))
        · have hcl : clmE (singleV l s h) h c i = 9 := by unfold clmE; rw [if_pos (show ¬ ordE c i from fun ho => by have := ho.2; rw [hg, hgp] at this; omega)]
          rw [hE (by rw [eachE_at hc hz (by rw [hcl]; decide), hcl]; simp), eachE_at hc hz (by rw [hcl]; decide), hcl]
          repeat (first
    | (apply s_a TY; exact rfl)
    | (apply s_t; exact rfl; (first | assumption | omega))
    | (apply s_f; exact rfl; (first | assumption | omega))
    | apply w_seq
    | apply w_region
    | (apply w_draw (id := 8) 23 rfl (by kernel_rfl))
    | apply s_nil
    | apply t_norm
    | apply t_ret
    | apply k_ret
    | apply w_ret
    | (apply w_condT; exact rfl; exact rfl)
    | (apply s_c TY; exact rfl; (first | omega | exact ⟨by omega, by (first | with_reducible assumption | ((with_reducible apply evsF_ne); omega) | ((with_reducible apply rngsF_ne); omega) | assumption)⟩))
    | (apply s_z TY; exact rfl; (first | omega | exact ⟨by omega, by (first | with_reducible assumption | ((with_reducible apply evsF_ne); omega) | ((with_reducible apply rngsF_ne); omega) | assumption)⟩))
    | (apply s_l TY; exact rfl; (first | exact rfl | with_reducible assumption | ((with_reducible apply evsF_f0); omega) | ((with_reducible apply evsF_f1); omega) | ((with_reducible apply evsF_f2); omega) | ((with_reducible apply rngsF_f0); omega) | ((with_reducible apply rngsF_f1); omega) | assumption)))
          exact lv_ret (ret2 rfl (res_tmp rfl) (res_tmp rfl))
    · by_cases h0 : i = 0
      · subst h0
        have hcl : clmE (singleV l s h) h c 0 = 9 := by unfold clmE; rw [if_pos (show ¬ ordE c 0 from fun ho => h1 (by have := ho.1; rwa [hg] at this))]
        rw [hE (by rw [eachE_at hc hz (by rw [hcl]; decide), hcl]; simp), eachE_at hc hz (by rw [hcl]; decide), hcl]
        repeat (first
    | (apply s_a TY; exact rfl)
    | (apply s_t; exact rfl; (first | assumption | omega))
    | apply w_seq
    | apply w_region
    | (apply w_draw (id := 8) 23 rfl (by kernel_rfl))
    | apply s_nil
    | apply t_norm
    | apply t_ret
    | apply k_ret
    | apply w_ret
    | (apply w_condT; exact rfl; exact rfl)
    | (apply s_s; exact rfl))
        exact lv_ret (ret2 rfl (res_tmp rfl) (res_tmp rfl))
      · have hq : ((i : Int) - 1).toNat = i - 1 := by omega
        have hcl : clmE (singleV l s h) h c i = 9 := by unfold clmE; rw [if_pos (show ¬ ordE c i from fun ho => h1 (by have := ho.1; rwa [hg] at this))]
        rw [hE (by rw [eachE_at hc hz (by rw [hcl]; decide), hcl]; simp), eachE_at hc hz (by rw [hcl]; decide), hcl]
        repeat (first
    | (apply s_a TY; exact rfl)
    | (apply s_t; exact rfl; (first | assumption | omega))
    | apply w_seq
    | apply w_region
    | (apply w_draw (id := 8) 23 rfl (by kernel_rfl))
    | apply s_nil
    | apply t_norm
    | apply t_ret
    | apply k_ret
    | apply w_ret
    | (apply w_condT; exact rfl; exact rfl)
    | (apply s_s; exact rfl))
        exact lv_ret (ret2 rfl (res_tmp rfl) (res_tmp rfl))
  · have he : (eachE c.length (clmE (singleV l s h) h c)).2 = 0 := eachE_ok0.2 fun j hj => hz j (by omega)
    repeat (first
    | (apply s_a TY; exact rfl)
    | (apply s_f; exact rfl; (first | assumption | omega))
    | apply w_seq
    | apply w_region
    | apply s_nil
    | apply t_norm
    | apply t_exit
    | apply k_hit
    | apply w_block
    | apply w_exit
    | (apply w_condF; exact rfl; exact rfl))
    apply w_loop (fun k : Nat => ⟨(Ab.upd (Ab.upd (Ab.upd (fun _ => .bot) 5 (.f (.pt [.sl h.length (hitsF h), .sl c.length (evsF c)] 0))) 8 (.f (.sl (rwinsV l s h).length (rngsF (rwinsV l s h))))) 13 (.f (iv ((k : Nat) : Int)))), (fun _ => none), 0⟩) (fun k => k ≤ (rwinsV l s h).length ∧ ∀ j (hj : j < (rwinsV l s h).length), j < k → readB c (rwinsV l s h)[j] = true) (fun k => (rwinsV l s h).length - k) 0 (⟨Nat.zero_le _, fun j _ h => absurd h (Nat.not_lt_zero j)⟩) (gh_le ⟨le_upd rfl trivial (le_upd rfl trivial (le_upd rfl trivial (le_nil _))), le_h0 _ _⟩)
    intro k ⟨hk, hrd⟩
    by_cases hkc : k < (rwinsV l s h).length
    · repeat (first
    | (apply s_a TY; exact rfl)
    | (apply s_t; exact rfl; (first | assumption | omega))
    | apply w_seq
    | apply w_region
    | apply s_nil
    | apply t_norm
    | apply w_block
    | apply w_skip
    | (apply w_condT; exact rfl; exact rfl))
      apply w_loop (fun q : Nat × Bool => ⟨(Ab.upd (Ab.upd (Ab.upd (Ab.upd (Ab.upd (fun _ => .bot) 5 (.f (.pt [.sl h.length (hitsF h), .sl c.length (evsF c)] 0))) 8 (.f (.sl (rwinsV l s h).length (rngsF (rwinsV l s h))))) 13 (.f (iv ((k : Nat) : Int)))) 14 (.f (.v (.bool q.2)))) 15 (.f (iv ((q.1 : Nat) : Int)))), (fun _ => none), 0⟩) (fun q => q.1 ≤ c.length ∧ (q.2 = true ↔ ∃ j, j < q.1 ∧ insideB (evW (c.getD j default)) (rwinsV l s h)[k] = true)) (fun q => c.length - q.1) (0, false) (⟨Nat.zero_le _, by simp⟩) (gh_le ⟨le_upd rfl trivial (le_upd rfl trivial (le_upd rfl trivial (le_upd rfl trivial (le_upd rfl trivial (le_nil _))))), le_h0 _ _⟩)
      rintro ⟨m, b⟩ ⟨hm, hbb⟩
      simp only at hm hbb
      change W _ _ _ _ (⟨(Ab.upd (Ab.upd (Ab.upd (Ab.upd (Ab.upd (fun _ => .bot) 5 (.f (.pt [.sl h.length (hitsF h), .sl c.length (evsF c)] 0))) 8 (.f (.sl (rwinsV l s h).length (rngsF (rwinsV l s h))))) 13 (.f (iv ((k : Nat) : Int)))) 14 (.f (.v (.bool b)))) 15 (.f (iv ((m : Nat) : Int)))), (fun _ => none), 0⟩)
      by_cases hmc : m < c.length
      · have HW := isWithin_s (evW c[m]) (rwinsV l s h)[k]
        have hs2 := evs_sub2 hmc
        cases b with
        | true =>
          repeat (first
    | (apply s_a TY; exact rfl)
    | (apply s_t; exact rfl; (first | assumption | omega))
    | apply w_seq
    | apply w_region
    | (apply w_draw (id := 28) 12 rfl (by kernel_rfl))
    | apply s_nil
    | apply t_norm
    | apply k_norm
    | apply w_block
    | apply w_skip
    | (apply w_condT; exact rfl; exact rfl)
    | (apply s_s; exact rfl)
    | (apply s_c TY; exact rfl; (first | omega | exact ⟨by omega, by (first | with_reducible assumption | ((with_reducible apply evsF_ne); omega) | ((with_reducible apply rngsF_ne); omega) | assumption)⟩)))
          exact ⟨(m + 1, true), ⟨by simp only; omega, ⟨fun _ => (hbb.1 rfl).imp fun j h => ⟨by simp only; omega, h.2⟩, fun _ => rfl⟩⟩, by simp only; omega, gh_le ⟨le_upd rfl trivial (le_upd rfl trivial (le_upd rfl trivial (le_upd rfl trivial (le_upd rfl trivial (le_nil _))))), le_h0 _ _⟩⟩
        | false =>
          cases hw : insideB (evW c[m]) (rwinsV l s h)[k] with
          | true =>
            rw [hw] at HW
            repeat (first
    | (apply s_a TY; exact rfl)
    | (apply s_t; exact rfl; (first | assumption | omega))
    | apply w_seq
    | apply w_region
    | (apply w_draw (id := 28) 12 rfl (by kernel_rfl))
    | apply s_nil
    | apply t_norm
    | apply k_norm
    | apply w_block
    | apply w_skip
    | (apply w_condT; exact rfl; exact rfl)
    | (apply s_k (HW); exact rfl)
    | (apply s_c TY; exact rfl; (first | omega | exact ⟨by omega, by (first | with_reducible assumption | ((with_reducible apply evsF_ne); omega) | ((with_reducible apply rngsF_ne); omega) | assumption)⟩))
    | (apply s_m TY; exact rfl; (first | with_reducible assumption | ((with_reducible apply evsF_sub); omega) | ((with_reducible apply rngsF_sub); omega) | exact rfl); exact rfl))
            exact ⟨(m + 1, true), ⟨by simp only; omega, ⟨fun _ => ⟨m, by simp only; omega, by rw [getD_at hmc]; exact hw⟩, fun _ => rfl⟩⟩, by simp only; omega, gh_le ⟨le_upd rfl trivial (le_upd rfl trivial (le_upd rfl trivial (le_upd rfl trivial (le_upd rfl trivial (le_nil _))))), le_h0 _ _⟩⟩
          | false =>
            rw [hw] at HW
            repeat (first
    | (apply s_a TY; exact rfl)
    | (apply s_t; exact rfl; (first | assumption | omega))
    | apply w_seq
    | apply w_region
    | (apply w_draw (id := 28) 12 rfl (by kernel_rfl))
    | apply s_nil
    | apply t_norm
    | apply k_norm
    | apply w_block
    | apply w_skip
    | (apply w_condT; exact rfl; exact rfl)
    | (apply s_k (HW); exact rfl)
    | (apply s_c TY; exact rfl; (first | omega | exact ⟨by omega, by (first | with_reducible assumption | ((with_reducible apply evsF_ne); omega) | ((with_reducible apply rngsF_ne); omega) | assumption)⟩))
    | (apply s_m TY; exact rfl; (first | with_reducible assumption | ((with_reducible apply evsF_sub); omega) | ((with_reducible apply rngsF_sub); omega) | exact rfl); exact rfl))
            exact ⟨(m + 1, false), ⟨by simp only; omega, ⟨(fun hf => by cases hf), fun ⟨j, hj, hjp⟩ => by
              simp only at hj
              by_cases e : j = m
              · subst e; rw [getD_at hmc, hw] at hjp; cases hjp
              · exact hbb.2 ⟨j, by omega, hjp⟩⟩⟩, by simp only; omega, gh_le ⟨le_upd rfl trivial (le_upd rfl trivial (le_upd rfl trivial (le_upd rfl trivial (le_upd rfl trivial (le_nil _))))), le_h0 _ _⟩⟩
      · cases b with
        | true =>
          have hrk : readB c (rwinsV l s h)[k] = true := anyP_iff.2 ((hbb.1 rfl).imp fun j h => ⟨by omega, h.2⟩)
          repeat (first
    | (apply s_a TY; exact rfl)
    | (apply s_f; exact rfl; (first | assumption | omega))
    | apply w_seq
    | apply w_region
    | apply s_nil
    | apply t_norm
    | apply t_exit
    | apply k_hit
    | apply k_norm
    | apply w_exit
    | apply w_skip
    | (apply w_condF; exact rfl; exact rfl)
    | (apply s_c TY; exact rfl; (first | omega | exact ⟨by omega, by (first | with_reducible assumption | ((with_reducible apply evsF_ne); omega) | ((with_reducible apply rngsF_ne); omega) | assumption)⟩)))
          exact ⟨k + 1, ⟨by omega, fun j hj hjk => by
            by_cases e : j = k
            · subst e; exact hrk
            · exact hrd j hj (by omega)⟩, by omega, gh_le ⟨le_upd rfl trivial (le_upd rfl trivial (le_upd rfl trivial (le_nil _))), le_h0 _ _⟩⟩
        | false =>
          have hlo : lostB (singleV l s h) c = true := by
            cases hq : lostB (singleV l s h) c with
            | true => rfl
            | false =>
              obtain ⟨v, hvm, hvi⟩ := lostB_iff.1 hq (rwinsV l s h)[k] (rwins_mem.2 (List.getElem_mem hkc))
              obtain ⟨j, hj, rfl⟩ := List.getElem_of_mem hvm
              have := hbb.2 ⟨j, by omega, by rw [getD_at hj]; exact hvi⟩
              cases this
          rw [show clmChk l s h c = (0, 14) by unfold clmChk; rw [if_neg h40, if_neg (by simpa using he), if_pos hlo]]
          repeat (first
    | (apply s_a TY; exact rfl)
    | (apply s_f; exact rfl; (first | assumption | omega))
    | apply w_seq
    | apply w_region
    | apply s_nil
    | apply t_norm
    | apply t_exit
    | apply t_ret
    | apply k_hit
    | apply k_ret
    | apply w_exit
    | apply w_ret
    | (apply w_condT; exact rfl; exact rfl)
    | (apply w_condF; exact rfl; exact rfl))
          exact lv_ret (ret2 rfl (res_tmp rfl) (res_tmp rfl))
    · have hlo : lostB (singleV l s h) c = false := lostB_iff.2 fun r hr => by
        obtain ⟨j, hj, rfl⟩ := List.getElem_of_mem (rwins_mem.1 hr)
        exact readB_iff.1 (hrd j hj (by omega))
      rw [show clmChk l s h c = (0, 0) by unfold clmChk; rw [if_neg h40, if_neg (by simpa using he), if_neg (by rw [hlo]; decide)]]
      repeat (first
    | (apply s_a TY; exact rfl)
    | (apply s_f; exact rfl; (first | assumption | omega))
    | apply w_seq
    | apply w_region
    | apply s_nil
    | apply t_norm
    | apply t_exit
    | apply k_hit
    | apply w_exit
    | apply w_ret
    | (apply w_condF; exact rfl; exact rfl))
      exact lv_ret (ret2 rfl (res_tmp rfl) (res_tmp rfl))
end Go.Proofs.YtdmdpkoapllkkaaGreat
namespace Go.Proofs.YtdmdpkoapllkkaaGreat
open Go Go.RowKit Go.Proofs Go.Shelf Go.Ab
theorem events_le40 {l : List Site} {s : Setup} {h : List Hit} (hs : SetOk s) (ho : HitsOk l h) : (eventsV l s h).length ≤ 40 := by
  have hw := winOk_of (l := l) hs ho
  have h1 := hw.len
  have h2 := ho.len
  unfold eventsV
  rw [List.length_map]; omega
theorem events_inW {l : List Site} {s : Setup} {h : List Hit} (hs : SetOk s) (ho : HitsOk l h) {v : Ev} (hv : v ∈ (eventsV l s h)) : InW v.lo ∧ InW v.hi := by
  unfold eventsV at hv
  obtain ⟨w, hw, rfl⟩ := List.mem_map.1 hv
  have hg := joined_good (single_lo hs ho) (fun r hr => (single_le hs ho hr).1)
  obtain ⟨q, hq, h1, h2⟩ := hg.2.2 w hw
  have b := single_lo hs ho q hq
  have hle := hg.1.1 w hw
  have hho : HiOk (mergeV (sortRng (singleV l s h))) := by
    rw [← mgK_all]
    exact mgK_hi (fun r hr => single_hi hs ho r ((sortRng_perm _).mem_iff.1 hr)) _
  have b2 := hho w hw
  unfold InW evOf
  simp only
  omega
set_option maxRecDepth 100000 in
set_option maxHeartbeats 12800000 in
theorem TriggerClaims_s (l : List Site) (s : Setup) (h : List Hit) (c : List Ev) (hb : ∀ i (hi : i < c.length), InW c[i].lo ∧ InW c[i].hi) : Summ Tryz.prog GG 5 [arrF l, setF s, .agg [.sl h.length (hitsF h), .sl c.length (evsF c)]] (bv true) := by
  have HA := awake_s
  have HFw := Few_s l h
  have HF := FewRules_s s
  cases hfw : FewB l h with
  | false =>
    rw [hfw] at HFw
    refine summW Tryz.func5 rfl rfl 148 rfl (by simp) (fun M0 => ?_)
    repeat (first
    | (apply s_assign_f; exact rfl; exact rfl)
    | (apply s_move_f; exact rfl; exact rfl)
    | (apply s_a TY; exact rfl)
    | apply w_seq
    | apply w_region
    | apply s_nil
    | apply t_norm
    | apply t_ret
    | apply w_ret
    | apply w_skip
    | (apply w_condT; exact rfl; exact rfl)
    | (apply w_condF; exact rfl; exact rfl)
    | (apply s_k (HA); exact rfl)
    | (apply s_k (HFw); exact rfl)
    | (apply s_s; exact rfl))
    exact lv_ret (ret1 rfl (res_tmp rfl))
  | true =>
  rw [hfw] at HFw
  cases hf : fewRulesB s with
  | false =>
    rw [hf] at HF
    refine summW Tryz.func5 rfl rfl 148 rfl (by simp) (fun M0 => ?_)
    repeat (first
    | (apply s_assign_f; exact rfl; exact rfl)
    | (apply s_move_f; exact rfl; exact rfl)
    | (apply s_a TY; exact rfl)
    | apply w_seq
    | apply w_region
    | apply s_nil
    | apply t_norm
    | apply t_ret
    | apply w_ret
    | apply w_skip
    | (apply w_condT; exact rfl; exact rfl)
    | (apply w_condF; exact rfl; exact rfl)
    | (apply s_k (HA); exact rfl)
    | (apply s_k (HFw); exact rfl)
    | (apply s_k (HF); exact rfl)
    | (apply s_s; exact rfl))
    exact lv_ret (ret1 rfl (res_tmp rfl))
  | true =>
  rw [hf] at HF
  by_cases hc1 : 10 < c.length ∧ c.length ≤ 40
  · obtain ⟨hca, hcb⟩ := hc1
    refine summW Tryz.func5 rfl rfl 148 rfl (by simp) (fun M0 => ?_)
    repeat (first
    | (apply s_assign_f; exact rfl; exact rfl)
    | (apply s_move_f; exact rfl; exact rfl)
    | (apply g_move_f; exact rfl; exact rfl; exact rfl; exact rfl)
    | (apply s_a TY; exact rfl)
    | (apply s_t; exact rfl; (first | assumption | omega))
    | apply w_seq
    | apply w_region
    | apply s_nil
    | apply t_norm
    | apply t_ret
    | apply w_ret
    | apply w_skip
    | (apply w_condT; exact rfl; exact rfl)
    | (apply w_condF; exact rfl; exact rfl)
    | (apply s_k (HA); exact rfl)
    | (apply s_k (HFw); exact rfl)
    | (apply s_k (HF); exact rfl)
    | (apply s_s; exact rfl))
    exact lv_ret (ret1 rfl (res_tmp rfl))
  by_cases hc2 : 42 < c.length
  · refine summW Tryz.func5 rfl rfl 148 rfl (by simp) (fun M0 => ?_)
    repeat (first
    | (apply s_assign_f; exact rfl; exact rfl)
    | (apply s_move_f; exact rfl; exact rfl)
    | (apply g_move_f; exact rfl; exact rfl; exact rfl; exact rfl)
    | (apply s_a TY; exact rfl)
    | (apply s_t; exact rfl; (first | assumption | omega))
    | (apply s_f; exact rfl; (first | assumption | omega))
    | apply w_seq
    | apply w_region
    | apply s_nil
    | apply t_norm
    | apply t_ret
    | apply w_ret
    | apply w_skip
    | (apply w_condT; exact rfl; exact rfl)
    | (apply w_condF; exact rfl; exact rfl)
    | (apply s_k (HA); exact rfl)
    | (apply s_k (HFw); exact rfl)
    | (apply s_k (HF); exact rfl))
    exact lv_ret (ret1 rfl (res_tmp rfl))
  have hl32 : l.length ≤ 32 ∧ h.length ≤ 42 := by
    unfold FewB at hfw
    rw [Bool.and_eq_true, decide_eq_true_eq] at hfw
    exact ⟨hfw.1, fewB_le hfw.2⟩
  have hr6 : s.rules.length ≤ 6 := by
    unfold fewRulesB at hf
    rw [Bool.and_eq_true, decide_eq_true_eq] at hf
    exact hf.1
  have hl6 : l.length ≤ 1000000 := by omega
  have hh6 : h.length ≤ 1000000 := by omega
  have hs6 : s.rules.length ≤ 1000000 := by omega
  have hn6 : c.length ≤ 1000000 := by omega
  have hc10 : c.length ≤ 10 ∨ 40 < c.length := by omega
  rcases hc10 with hc10 | hc10
  · refine summW Tryz.func5 rfl rfl 148 rfl (by simp) (fun M0 => ?_)
    repeat (first
    | (apply s_assign_f; exact rfl; exact rfl)
    | (apply s_move_f; exact rfl; exact rfl)
    | (apply g_move_f; exact rfl; exact rfl; exact rfl; exact rfl)
    | (apply s_a TY; exact rfl)
    | (apply s_f; exact rfl; (first | assumption | omega))
    | apply w_seq
    | apply w_region
    | apply s_nil
    | apply t_norm
    | apply w_block
    | apply w_skip
    | (apply w_condF; exact rfl; exact rfl)
    | (apply s_k (HA); exact rfl)
    | (apply s_k (HFw); exact rfl)
    | (apply s_k (HF); exact rfl)
    | (apply s_s; exact rfl))
    apply w_loop (fun k : Nat => ⟨(Ab.upd (Ab.upd (Ab.upd (Ab.upd (fun _ => .bot) 3 (.f (.pt [.sl l.length (sitesF l)] 0))) 4 (.f (.pt (setL s) 0))) 5 (.f (.pt [.sl h.length (hitsF h), .sl c.length (evsF c)] 0))) 7 (.f (iv ((k : Nat) : Int)))), (fun _ => none), 0⟩) (fun k => k ≤ c.length ∧ ∀ j (hj : j < c.length), j < k → c[j].hits.length ≤ 20) (fun k => c.length - k) 0 (⟨Nat.zero_le _, fun j _ h => absurd h (Nat.not_lt_zero j)⟩) (gh_le ⟨le_upd rfl trivial (le_upd rfl trivial (le_upd rfl trivial (le_upd rfl trivial (le_nil _)))), le_h0 _ _⟩)
    intro k ⟨hk, hz⟩
    by_cases hck : k < c.length
    · by_cases h20 : 20 < c[k].hits.length
      · repeat (first
    | (apply s_assign_f; exact rfl; exact rfl)
    | (apply s_move_f; exact rfl; exact rfl)
    | (apply s_a TY; exact rfl)
    | (apply s_t; exact rfl; (first | assumption | omega))
    | apply w_seq
    | apply w_region
    | apply s_nil
    | apply t_norm
    | apply t_ret
    | apply k_ret
    | apply w_block
    | apply w_ret
    | apply w_skip
    | (apply w_condT; exact rfl; exact rfl)
    | (apply s_c TY; exact rfl; (first | omega | exact ⟨by omega, by (first | with_reducible assumption | ((with_reducible apply evsF_ne); omega) | assumption)⟩))
    | (apply s_l TY; exact rfl; (first | exact rfl | with_reducible assumption | ((with_reducible apply evsF_f0); omega) | ((with_reducible apply evsF_f1); omega) | ((with_reducible apply evsF_f2); omega) | assumption)))
        exact lv_ret (ret1 rfl (res_tmp rfl))
      · repeat (first
    | (apply s_assign_f; exact rfl; exact rfl)
    | (apply s_move_f; exact rfl; exact rfl)
    | (apply s_a TY; exact rfl)
    | (apply s_t; exact rfl; (first | assumption | omega))
    | (apply s_f; exact rfl; (first | assumption | omega))
    | apply w_seq
    | apply w_region
    | apply s_nil
    | apply t_norm
    | apply k_norm
    | apply w_block
    | apply w_skip
    | (apply w_condT; exact rfl; exact rfl)
    | (apply w_condF; exact rfl; exact rfl)
    | (apply s_c TY; exact rfl; (first | omega | exact ⟨by omega, by (first | with_reducible assumption | ((with_reducible apply evsF_ne); omega) | assumption)⟩))
    | (apply s_l TY; exact rfl; (first | exact rfl | with_reducible assumption | ((with_reducible apply evsF_f0); omega) | ((with_reducible apply evsF_f1); omega) | ((with_reducible apply evsF_f2); omega) | assumption)))
        exact ⟨k + 1, ⟨by omega, fun j hj hjk => by
          by_cases e : j = k
          · subst e; omega
          · exact hz j hj (by omega)⟩, by omega, gh_le ⟨le_upd rfl trivial (le_upd rfl trivial (le_upd rfl trivial (le_upd rfl trivial (le_nil _)))), le_h0 _ _⟩⟩
    have hv : ∀ i (hi : i < c.length), c[i].hits.length ≤ 1000000 := fun i hi => by have := hz i hi (by omega); omega
    have HC1 := CopyArray_s l hl6
    have HC2 := CopySetup_s s hs6
    have HC3 := CopyHits_s h hh6
    have HC4 := CopyClaim_s h c hh6 hn6 hv
    have HSE := SetErr_s l s h hl6 hs6 hh6
    by_cases he : setErr l s h = 0
    · rw [he] at HSE
      obtain ⟨e1, e2, e3⟩ := setErr_parts he
      have hl0 := arrOk_of e1
      have hs := setOk_of e2
      have ho := hitsOk_of hl0 e3
      have HCe := CheckEvents_ok l s h c hl6 hs6 hh6 hn6 hv hb he
      have HrC := rCheckEvents_s l s h c hn6 hv hb he
      have HEv := EventsOf_ok l s h hl6 hs6 hh6 he
      have hel : (eventsV l s h).length ≤ 40 := events_le40 hs ho
      have hvh : ∀ v, v ∈ (eventsV l s h) → v.hits.length ≤ 1000000 := fun v hv => by
        unfold eventsV at hv
        obtain ⟨w, _, rfl⟩ := List.mem_map.1 hv
        exact Nat.le_trans (hitsInN_len h w h.length) hh6
      have HCo := CheckEvents_ok l s h (eventsV l s h) hl6 hs6 hh6 (by omega) (fun i hi => hvh _ (List.getElem_mem hi)) (fun i hi => events_inW hs ho (List.getElem_mem hi)) he
      rw [claim_own hs ho hel] at HCo
      have HCv := CopyEvents_s (eventsV l s h) (by omega) (fun i hi => hvh _ (List.getElem_mem hi))
      have HSm := SameEvents_s (eventsV l s h) c (by omega) hn6 hvh (fun x hx => by
        obtain ⟨i, hi, rfl⟩ := List.getElem_of_mem hx
        exact hv i hi)
      rcases hcc : clmChk l s h c with ⟨n, z⟩
      have hci : (clmChk l s h c).2 = z := by rw [hcc]
      rw [hcc] at HCe HrC
      have hSm : (z = 0) ↔ decide ((eventsV l s h) = c) = true := by
        rw [decide_eq_true_iff]
        by_cases h40 : 40 < c.length
        · have : z = 8 := by rw [← hci]; unfold clmChk; rw [if_pos h40]
          constructor
          · intro h0; rw [this] at h0; cases h0
          · intro e; rw [← e] at h40; omega
        · rw [← hci, claim_iff hs ho (by omega)]; exact ⟨Eq.symm, Eq.symm⟩
      by_cases hz : z = 0
      · have hd := hSm.1 hz
        rw [hd] at HSm
        subst hz
        repeat (first
    | (apply s_assign_f; exact rfl; exact rfl)
    | (apply s_move_f; exact rfl; exact rfl)
    | (apply g_move_f; exact rfl; exact rfl; exact rfl; exact rfl)
    | (apply s_eqb Tryz.underlying4; exact rfl; exact rfl; exact rfl; exact rfl)
    | (apply s_a TY; exact rfl)
    | (apply s_t; exact rfl; (first | assumption | omega))
    | (apply s_f; exact rfl; (first | assumption | omega))
    | apply w_seq
    | apply w_region
    | (apply w_draw (id := 10) 11 rfl (by kernel_rfl))
    | (apply w_draw (id := 17) 12 rfl (by kernel_rfl))
    | (apply w_draw (id := 20) 15 rfl (by kernel_rfl))
    | apply s_nil
    | apply t_norm
    | apply t_exit
    | apply k_hit
    | apply w_exit
    | apply w_ret
    | apply w_skip
    | (apply w_condF; exact rfl; exact rfl)
    | (apply s_k (HC1); exact rfl)
    | (apply s_k (HC2); exact rfl)
    | (apply s_k (HC3); exact rfl)
    | (apply s_k (HC4); exact rfl)
    | (apply s_k (HSE); exact rfl)
    | (apply s_k (HCe); exact rfl)
    | (apply s_k (HrC); exact rfl)
    | (apply s_k (HEv); exact rfl)
    | (apply s_k (HCo); exact rfl)
    | (apply s_k (HSm); exact rfl)
    | (apply s_k (HCv); exact rfl))
        exact lv_ret (ret1 rfl (res_tmp rfl))
      · have hd : decide ((eventsV l s h) = c) = false := by
          cases hq : decide ((eventsV l s h) = c) with
    | false => rfl
    | true => exact absurd (hSm.2 hq) hz
        rw [hd] at HSm
        repeat (first
    | (apply s_assign_f; exact rfl; exact rfl)
    | (apply s_move_f; exact rfl; exact rfl)
    | (apply g_move_f; exact rfl; exact rfl; exact rfl; exact rfl)
    | (apply s_eqb Tryz.underlying4; exact rfl; exact rfl; exact rfl; exact rfl)
    | (apply s_a TY; exact rfl)
    | (apply s_t; exact rfl; (first | assumption | omega))
    | (apply s_f; exact rfl; (first | assumption | omega))
    | apply w_seq
    | apply w_region
    | (apply w_draw (id := 10) 11 rfl (by kernel_rfl))
    | (apply w_draw (id := 17) 12 rfl (by kernel_rfl))
    | (apply w_draw (id := 20) 15 rfl (by kernel_rfl))
    | apply s_nil
    | apply t_norm
    | apply t_exit
    | apply k_hit
    | apply w_exit
    | apply w_ret
    | apply w_skip
    | (apply w_condF; exact rfl; exact rfl)
    | (apply s_k (HC1); exact rfl)
    | (apply s_k (HC2); exact rfl)
    | (apply s_k (HC3); exact rfl)
    | (apply s_k (HC4); exact rfl)
    | (apply s_k (HSE); exact rfl)
    | (apply s_k (HCe); exact rfl)
    | (apply s_k (HrC); exact rfl)
    | (apply s_k (HEv); exact rfl)
    | (apply s_k (HCo); exact rfl)
    | (apply s_k (HSm); exact rfl)
    | (apply s_k (HCv); exact rfl))
        exact lv_ret (ret1 rfl (res_tmp rfl))
    · have HCe := CheckEvents_err l s h c hl6 hs6 hh6 hn6 he
      repeat (first
    | (apply s_assign_f; exact rfl; exact rfl)
    | (apply s_move_f; exact rfl; exact rfl)
    | (apply g_move_f; exact rfl; exact rfl; exact rfl; exact rfl)
    | (apply s_a TY; exact rfl)
    | (apply s_t; exact rfl; (first | assumption | omega))
    | (apply s_f; exact rfl; (first | assumption | omega))
    | apply w_seq
    | apply w_region
    | (apply w_draw (id := 10) 11 rfl (by kernel_rfl))
    | apply s_nil
    | apply t_norm
    | apply t_exit
    | apply t_ret
    | apply k_hit
    | apply w_exit
    | apply w_ret
    | (apply w_condT; exact rfl; exact rfl)
    | (apply w_condF; exact rfl; exact rfl)
    | (apply s_k (HC1); exact rfl)
    | (apply s_k (HC2); exact rfl)
    | (apply s_k (HC4); exact rfl)
    | (apply s_k (HSE); exact rfl)
    | (apply s_k (HCe); exact rfl))
      exact lv_ret (ret1 rfl (res_tmp rfl))
  · refine summW Tryz.func5 rfl rfl 148 rfl (by simp) (fun M0 => ?_)
    repeat (first
    | (apply s_assign_f; exact rfl; exact rfl)
    | (apply s_move_f; exact rfl; exact rfl)
    | (apply g_move_f; exact rfl; exact rfl; exact rfl; exact rfl)
    | (apply s_a TY; exact rfl)
    | (apply s_t; exact rfl; (first | assumption | omega))
    | (apply s_f; exact rfl; (first | assumption | omega))
    | apply w_seq
    | apply w_region
    | apply s_nil
    | apply t_norm
    | apply w_block
    | apply w_skip
    | (apply w_condF; exact rfl; exact rfl)
    | (apply s_k (HA); exact rfl)
    | (apply s_k (HFw); exact rfl)
    | (apply s_k (HF); exact rfl))
    apply w_loop (fun k : Nat => ⟨(Ab.upd (Ab.upd (Ab.upd (Ab.upd (fun _ => .bot) 3 (.f (.pt [.sl l.length (sitesF l)] 0))) 4 (.f (.pt (setL s) 0))) 5 (.f (.pt [.sl h.length (hitsF h), .sl c.length (evsF c)] 0))) 7 (.f (iv ((k : Nat) : Int)))), (fun _ => none), 0⟩) (fun k => k ≤ c.length ∧ ∀ j (hj : j < c.length), j < k → c[j].hits.length ≤ 20) (fun k => c.length - k) 0 (⟨Nat.zero_le _, fun j _ h => absurd h (Nat.not_lt_zero j)⟩) (gh_le ⟨le_upd rfl trivial (le_upd rfl trivial (le_upd rfl trivial (le_upd rfl trivial (le_nil _)))), le_h0 _ _⟩)
    intro k ⟨hk, hz⟩
    by_cases hck : k < c.length
    · by_cases h20 : 20 < c[k].hits.length
      · repeat (first
    | (apply s_assign_f; exact rfl; exact rfl)
    | (apply s_move_f; exact rfl; exact rfl)
    | (apply s_a TY; exact rfl)
    | (apply s_t; exact rfl; (first | assumption | omega))
    | apply w_seq
    | apply w_region
    | apply s_nil
    | apply t_norm
    | apply t_ret
    | apply k_ret
    | apply w_block
    | apply w_ret
    | apply w_skip
    | (apply w_condT; exact rfl; exact rfl)
    | (apply s_c TY; exact rfl; (first | omega | exact ⟨by omega, by (first | with_reducible assumption | ((with_reducible apply evsF_ne); omega) | assumption)⟩))
    | (apply s_l TY; exact rfl; (first | exact rfl | with_reducible assumption | ((with_reducible apply evsF_f0); omega) | ((with_reducible apply evsF_f1); omega) | ((with_reducible apply evsF_f2); omega) | assumption)))
        exact lv_ret (ret1 rfl (res_tmp rfl))
      · repeat (first
    | (apply s_assign_f; exact rfl; exact rfl)
    | (apply s_move_f; exact rfl; exact rfl)
    | (apply s_a TY; exact rfl)
    | (apply s_t; exact rfl; (first | assumption | omega))
    | (apply s_f; exact rfl; (first | assumption | omega))
    | apply w_seq
    | apply w_region
    | apply s_nil
    | apply t_norm
    | apply k_norm
    | apply w_block
    | apply w_skip
    | (apply w_condT; exact rfl; exact rfl)
    | (apply w_condF; exact rfl; exact rfl)
    | (apply s_c TY; exact rfl; (first | omega | exact ⟨by omega, by (first | with_reducible assumption | ((with_reducible apply evsF_ne); omega) | assumption)⟩))
    | (apply s_l TY; exact rfl; (first | exact rfl | with_reducible assumption | ((with_reducible apply evsF_f0); omega) | ((with_reducible apply evsF_f1); omega) | ((with_reducible apply evsF_f2); omega) | assumption)))
        exact ⟨k + 1, ⟨by omega, fun j hj hjk => by
          by_cases e : j = k
          · subst e; omega
          · exact hz j hj (by omega)⟩, by omega, gh_le ⟨le_upd rfl trivial (le_upd rfl trivial (le_upd rfl trivial (le_upd rfl trivial (le_nil _)))), le_h0 _ _⟩⟩
    have hv : ∀ i (hi : i < c.length), c[i].hits.length ≤ 1000000 := fun i hi => by have := hz i hi (by omega); omega
    have HC1 := CopyArray_s l hl6
    have HC2 := CopySetup_s s hs6
    have HC3 := CopyHits_s h hh6
    have HC4 := CopyClaim_s h c hh6 hn6 hv
    have HSE := SetErr_s l s h hl6 hs6 hh6
    by_cases he : setErr l s h = 0
    · rw [he] at HSE
      obtain ⟨e1, e2, e3⟩ := setErr_parts he
      have hl0 := arrOk_of e1
      have hs := setOk_of e2
      have ho := hitsOk_of hl0 e3
      have HCe := CheckEvents_ok l s h c hl6 hs6 hh6 hn6 hv hb he
      have HrC := rCheckEvents_s l s h c hn6 hv hb he
      have HEv := EventsOf_ok l s h hl6 hs6 hh6 he
      have hel : (eventsV l s h).length ≤ 40 := events_le40 hs ho
      have hvh : ∀ v, v ∈ (eventsV l s h) → v.hits.length ≤ 1000000 := fun v hv => by
        unfold eventsV at hv
        obtain ⟨w, _, rfl⟩ := List.mem_map.1 hv
        exact Nat.le_trans (hitsInN_len h w h.length) hh6
      have HCo := CheckEvents_ok l s h (eventsV l s h) hl6 hs6 hh6 (by omega) (fun i hi => hvh _ (List.getElem_mem hi)) (fun i hi => events_inW hs ho (List.getElem_mem hi)) he
      rw [claim_own hs ho hel] at HCo
      have HCv := CopyEvents_s (eventsV l s h) (by omega) (fun i hi => hvh _ (List.getElem_mem hi))
      have HSm := SameEvents_s (eventsV l s h) c (by omega) hn6 hvh (fun x hx => by
        obtain ⟨i, hi, rfl⟩ := List.getElem_of_mem hx
        exact hv i hi)
      rcases hcc : clmChk l s h c with ⟨n, z⟩
      have hci : (clmChk l s h c).2 = z := by rw [hcc]
      rw [hcc] at HCe HrC
      have hSm : (z = 0) ↔ decide ((eventsV l s h) = c) = true := by
        rw [decide_eq_true_iff]
        by_cases h40 : 40 < c.length
        · have : z = 8 := by rw [← hci]; unfold clmChk; rw [if_pos h40]
          constructor
          · intro h0; rw [this] at h0; cases h0
          · intro e; rw [← e] at h40; omega
        · rw [← hci, claim_iff hs ho (by omega)]; exact ⟨Eq.symm, Eq.symm⟩
      by_cases hz : z = 0
      · have hd := hSm.1 hz
        rw [hd] at HSm
        subst hz
        repeat (first
    | (apply s_assign_f; exact rfl; exact rfl)
    | (apply s_move_f; exact rfl; exact rfl)
    | (apply g_move_f; exact rfl; exact rfl; exact rfl; exact rfl)
    | (apply s_eqb Tryz.underlying4; exact rfl; exact rfl; exact rfl; exact rfl)
    | (apply s_a TY; exact rfl)
    | (apply s_t; exact rfl; (first | assumption | omega))
    | (apply s_f; exact rfl; (first | assumption | omega))
    | apply w_seq
    | apply w_region
    | (apply w_draw (id := 10) 11 rfl (by kernel_rfl))
    | (apply w_draw (id := 17) 12 rfl (by kernel_rfl))
    | (apply w_draw (id := 20) 15 rfl (by kernel_rfl))
    | apply s_nil
    | apply t_norm
    | apply t_exit
    | apply k_hit
    | apply w_exit
    | apply w_ret
    | apply w_skip
    | (apply w_condF; exact rfl; exact rfl)
    | (apply s_k (HC1); exact rfl)
    | (apply s_k (HC2); exact rfl)
    | (apply s_k (HC3); exact rfl)
    | (apply s_k (HC4); exact rfl)
    | (apply s_k (HSE); exact rfl)
    | (apply s_k (HCe); exact rfl)
    | (apply s_k (HrC); exact rfl)
    | (apply s_k (HEv); exact rfl)
    | (apply s_k (HCo); exact rfl)
    | (apply s_k (HSm); exact rfl)
    | (apply s_k (HCv); exact rfl))
        exact lv_ret (ret1 rfl (res_tmp rfl))
      · have hd : decide ((eventsV l s h) = c) = false := by
          cases hq : decide ((eventsV l s h) = c) with
    | false => rfl
    | true => exact absurd (hSm.2 hq) hz
        rw [hd] at HSm
        repeat (first
    | (apply s_assign_f; exact rfl; exact rfl)
    | (apply s_move_f; exact rfl; exact rfl)
    | (apply g_move_f; exact rfl; exact rfl; exact rfl; exact rfl)
    | (apply s_eqb Tryz.underlying4; exact rfl; exact rfl; exact rfl; exact rfl)
    | (apply s_a TY; exact rfl)
    | (apply s_t; exact rfl; (first | assumption | omega))
    | (apply s_f; exact rfl; (first | assumption | omega))
    | apply w_seq
    | apply w_region
    | (apply w_draw (id := 10) 11 rfl (by kernel_rfl))
    | (apply w_draw (id := 17) 12 rfl (by kernel_rfl))
    | (apply w_draw (id := 20) 15 rfl (by kernel_rfl))
    | apply s_nil
    | apply t_norm
    | apply t_exit
    | apply k_hit
    | apply w_exit
    | apply w_ret
    | apply w_skip
    | (apply w_condF; exact rfl; exact rfl)
    | (apply s_k (HC1); exact rfl)
    | (apply s_k (HC2); exact rfl)
    | (apply s_k (HC3); exact rfl)
    | (apply s_k (HC4); exact rfl)
    | (apply s_k (HSE); exact rfl)
    | (apply s_k (HCe); exact rfl)
    | (apply s_k (HrC); exact rfl)
    | (apply s_k (HEv); exact rfl)
    | (apply s_k (HCo); exact rfl)
    | (apply s_k (HSm); exact rfl)
    | (apply s_k (HCv); exact rfl))
        exact lv_ret (ret1 rfl (res_tmp rfl))
    · have HCe := CheckEvents_err l s h c hl6 hs6 hh6 hn6 he
      repeat (first
    | (apply s_assign_f; exact rfl; exact rfl)
    | (apply s_move_f; exact rfl; exact rfl)
    | (apply g_move_f; exact rfl; exact rfl; exact rfl; exact rfl)
    | (apply s_a TY; exact rfl)
    | (apply s_t; exact rfl; (first | assumption | omega))
    | (apply s_f; exact rfl; (first | assumption | omega))
    | apply w_seq
    | apply w_region
    | (apply w_draw (id := 10) 11 rfl (by kernel_rfl))
    | apply s_nil
    | apply t_norm
    | apply t_exit
    | apply t_ret
    | apply k_hit
    | apply w_exit
    | apply w_ret
    | (apply w_condT; exact rfl; exact rfl)
    | (apply w_condF; exact rfl; exact rfl)
    | (apply s_k (HC1); exact rfl)
    | (apply s_k (HC2); exact rfl)
    | (apply s_k (HC4); exact rfl)
    | (apply s_k (HSE); exact rfl)
    | (apply s_k (HCe); exact rfl))
      exact lv_ret (ret1 rfl (res_tmp rfl))
end Go.Proofs.YtdmdpkoapllkkaaGreat
namespace Go.Ab
open Go Go.RowKit Go.Shelf Go.Proofs
def OpensFs (P : Program) (w : World) (fs : List Field) (off tot : Nat) {α : Type} (k : α → List FV) : Prop :=
  ∀ (H : Type) (enc : TypeId × Value → H) (base : Nat) (sp : Nat → Bool) (hd : Bool) (n : Nat) (cs : List Value), cs.length = off + tot → (∀ (i : Nat) (f : Field), fs[i]? = some f → ∃ x, DataW.trod enc P w base sp hd n f.type ((cs.drop f.offset).take (P.cellsOf f.type)) = some x) → ∃ a : α, RepL w (fun _ => False) (cs.drop off) (k a) ∧ ∀ u ∈ cs.drop off, u.oneCell'
section
variable {P : Program} {w : World}
theorem ofs_nil {off : Nat} : OpensFs P w [] off 0 (fun _ : Unit => []) := fun H enc base sp hd n cs hl _ => by
  rw [List.drop_eq_nil_of_le (by omega)]
  exact ⟨(), RepL.nil _ _, by simp⟩
theorem ofs_cons {f : Field} {fs : List Field} {off s tot : Nat} {α β : Type} {g : α → List FV} {k : β → List FV} (hc : P.cellsOf f.type = s) (ho : f.offset = off) (h : Opens P w f.type g) (hr : OpensFs P w fs (off + s) tot k) : OpensFs P w (f :: fs) off (s + tot) (fun p : α × β => g p.1 ++ k p.2) := fun H enc base sp hd n cs hl hx => by
  obtain ⟨x, hx0⟩ := hx 0 f rfl
  obtain ⟨a, r0, q0⟩ := h H enc base sp hd n _ _ hx0
  obtain ⟨b, r1, q1⟩ := hr H enc base sp hd n cs (by omega) (fun i f' hf => hx (i + 1) f' hf)
  rw [ho, hc] at r0 q0
  have hs : cs.drop off = (cs.drop off).take s ++ cs.drop (off + s) := by rw [← List.drop_drop, List.take_append_drop]
  refine ⟨(a, b), ?_, fun u hu => ?_⟩
  · rw [hs]; exact RepL.append r0 r1
  · rw [hs] at hu
    rcases List.mem_append.1 hu with h | h
    · exact q0 u h
    · exact q1 u h
theorem opens_st {T : TypeId} {fs : Array Field} {tot : Nat} {α : Type} {k : α → List FV} (ht : P.underlying T = some (.struct fs)) (ct : P.cellsOf T = tot) (h : OpensFs P w fs.toList 0 tot k) : Opens P w T k := fun H enc base sp hd fuel cs x hx => by
  obtain ⟨xs, n, _, _, hlen, hxl, hf⟩ := DataW.trod_struct ht hx
  have := h H enc base sp hd n cs (by rw [hlen, ct]; omega) (fun i f hi => by
    have hi' : fs[i]? = some f := by rw [← hi]; simp
    have e := hf i f hi'
    have hlt : i < xs.length := by
      rw [hxl]
      exact (Array.getElem?_eq_some_iff.1 hi').1
    rw [List.getElem?_eq_getElem hlt] at e
    exact ⟨_, e⟩)
  rwa [List.drop_zero] at this
end
end Go.Ab
namespace Go.Proofs.YtdmdpkoapllkkaaGreat
open Go Go.Ab Go.ChangeShapes Go.WideShapes Go.ChangeAt Go.RowKit
theorem ownKnobT : ownKnob Tryz.prog.godebug = none := by kernel_rfl
theorem laidOutT : laidOutB Tryz.prog = true := by kernel_rfl
theorem trodAll_stays {H : Type} {enc : TypeId × Value → H} {W W' : World} {sp : Nat → Bool} (hb : Below W.heap.size W W') : ∀ {ts : List TypeId} {vs : List Value} {ds : List (DataW H)} {ps : List MemPlace}, (∀ t ∈ ts, Tryz.prog.readableRec t = true ∧ t < Tryz.prog.types.size) → DataW.TrodAll enc Tryz.prog W 0 (fun _ => true) true ts vs ds ps → (∀ p ∈ ps, p.block < W.heap.size) → (∀ p ∈ ps, sp p.block = true) → DataW.TrodAll enc Tryz.prog W' 0 sp true ts vs ds ps
  | [], [], [], _, _, h, _, _ => h
  | t :: ts, v :: vs, d :: ds, ps, ht, ⟨p, q, h1, h2, e⟩, hlt, hsp => by
    have hp : ∀ x ∈ p, x ∈ ps := fun x hx => by rw [e]; exact List.mem_append_left _ hx
    have hq : ∀ x ∈ q, x ∈ ps := fun x hx => by rw [e]; exact List.mem_append_right _ hx
    exact ⟨p, q, WideElems.Trod_stays laidOutT (ht t (by simp)).1 (ht t (by simp)).2 h1 (fun x hx => hb.same (hlt x (hp x hx))) (fun x hx => hsp x (hp x hx)),
      trodAll_stays hb (fun u hu => ht u (by simp [hu])) h2 (fun x hx => hlt x (hq x hx)) (fun x hx => hsp x (hq x hx)), e⟩
theorem post_law {H : Type} {enc : TypeId × Value → H} {f : Func} {s : ChangeSpec} {W W' : World} {args : Array Value} {ds gs : List (DataW H)} {before : List MemPlace}
    (hW : DataW.Whole enc Tryz.prog f.params.toList s.vars false W args.toList ds gs before) (hv : s.vars = []) (hr : f.resultTypes = #[4])
    (ht : ∀ t ∈ f.params.toList, Tryz.prog.readableRec t = true ∧ t < Tryz.prog.types.size)
    (hres : (s.fn H (ds ++ gs)).results = [.lit (.bool true)]) (hargs : (s.fn H (ds ++ gs)).args = ds) (hvs : (s.fn H (ds ++ gs)).vars = [])
    (hb : Below W.heap.size W W') : s.post enc Tryz.prog f false true false false W args (.bool true) W' := by
  have hlt := hW.lt
  have hW0 := hW
  obtain ⟨p, q, h1, h2, e, hz, hn⟩ := hW
  have h2' := h2
  rw [hv] at h2'
  have hq : gs = [] ∧ q = [] := by
    cases gs with
    | nil => exact ⟨rfl, h2'⟩
    | cons g r => exact absurd h2' (by intro h; cases h)
  obtain ⟨rfl, rfl⟩ := hq
  rw [List.append_nil] at e
  subst e
  refine ⟨ds, [], before, [], before, [], hW0, ?_, ?_, ?_, Below.frame hb _, fun h => by cases h⟩
  · rw [hr, hres]; exact trodAll_mk1 (shut_bool Tryz.underlying4 true)
  · rw [hargs]
    exact trodAll_stays hb ht h1 hlt (fun x hx => by simpa using hlt x hx)
  · rw [hv, hvs]; rfl
theorem sq_map {α : Type} (f : α → FV) : ∀ l : List α, l.flatMap (fun x => [f x]) = l.map f
  | [] => rfl
  | x :: l => by rw [List.flatMap_cons, sq_map f l]; rfl
section
variable {W : World}
theorem opens_i : Opens Tryz.prog W 3 (fun z : Int => [iv z]) := opens_int Tryz.underlying3
theorem opens_site : Opens Tryz.prog W 121 siteF := (opens_st Tryz.underlying121 (by kernel_rfl) (ofs_cons (s := 1) (by kernel_rfl) rfl opens_i (ofs_cons (s := 1) (by kernel_rfl) rfl opens_i (ofs_cons (s := 1) (by kernel_rfl) rfl opens_i (ofs_cons (s := 1) (by kernel_rfl) rfl opens_i (ofs_cons (s := 1) (by kernel_rfl) rfl opens_i (ofs_nil))))))).map (fun p => ⟨p.1, p.2.1, p.2.2.1, p.2.2.2.1, p.2.2.2.2.1⟩) fun _ => rfl
theorem opens_sites : Opens Tryz.prog W 22 (fun l : List Site => [.sl l.length (sitesF l)]) := opens_sl (s := 5) Tryz.underlying22 (by kernel_rfl) (by decide) opens_site
theorem opens_arr : Opens Tryz.prog W 24 (fun l : List Site => [.sl l.length (sitesF l)]) := (opens_st Tryz.underlying24 (by kernel_rfl) (ofs_cons (s := 1) (by kernel_rfl) rfl opens_sites (ofs_nil))).map (fun p => p.1) fun _ => rfl
theorem opens_hit : Opens Tryz.prog W 29 hitF := (opens_st Tryz.underlying29 (by kernel_rfl) (ofs_cons (s := 1) (by kernel_rfl) rfl opens_i (ofs_cons (s := 1) (by kernel_rfl) rfl opens_i (ofs_cons (s := 1) (by kernel_rfl) rfl opens_i (ofs_nil))))).map (fun p => ⟨p.1, p.2.1, p.2.2.1⟩) fun _ => rfl
theorem opens_hits : Opens Tryz.prog W 27 (fun l : List Hit => [.sl l.length (hitsF l)]) := opens_sl (s := 3) Tryz.underlying27 (by kernel_rfl) (by decide) opens_hit
theorem opens_rule : Opens Tryz.prog W 26 ruleF := (opens_st Tryz.underlying26 (by kernel_rfl) (ofs_cons (s := 1) (by kernel_rfl) rfl opens_i (ofs_cons (s := 1) (by kernel_rfl) rfl opens_i (ofs_cons (s := 1) (by kernel_rfl) rfl opens_i (ofs_cons (s := 1) (by kernel_rfl) rfl opens_i (ofs_cons (s := 1) (by kernel_rfl) rfl opens_i (ofs_nil))))))).map (fun p => ⟨p.1, p.2.1, p.2.2.1, p.2.2.2.1, p.2.2.2.2.1⟩) fun _ => rfl
theorem opens_rules : Opens Tryz.prog W 57 (fun l : List Rule => [.sl l.length (rulesF l)]) := opens_sl (s := 5) Tryz.underlying57 (by kernel_rfl) (by decide) opens_rule
theorem opens_setup : Opens Tryz.prog W 59 setL := (opens_st Tryz.underlying59 (by kernel_rfl) (ofs_cons (s := 1) (by kernel_rfl) rfl opens_rules (ofs_cons (s := 1) (by kernel_rfl) rfl opens_i (ofs_cons (s := 1) (by kernel_rfl) rfl opens_i (ofs_cons (s := 1) (by kernel_rfl) rfl opens_i (ofs_nil)))))).map (fun p => ⟨p.1, p.2.1, p.2.2.1, p.2.2.2.1⟩) fun _ => rfl
theorem opens_ints : Opens Tryz.prog W 50 (fun l : List Int => [.sl l.length (intsF l)]) := (opens_sl (s := 1) Tryz.underlying50 (by kernel_rfl) (by decide) opens_i).map id fun l => by rw [sq_map]; rfl
theorem opens_w : Opens Tryz.prog W 3 (fun z : { z : Int // InW z } => [iv z.1]) := opens_intw Tryz.underlying3
theorem opens_rngw : Opens Tryz.prog W 65 (fun r : { r : Rng // InW r.lo ∧ InW r.hi } => rngF r.1) := (opens_st Tryz.underlying65 (by kernel_rfl) (ofs_cons (s := 1) (by kernel_rfl) rfl opens_w (ofs_cons (s := 1) (by kernel_rfl) rfl opens_w ofs_nil))).map (fun p => ⟨⟨p.1.1, p.2.1.1⟩, p.1.2, p.2.1.2⟩) fun _ => rfl
theorem opens_evw : Opens Tryz.prog W 67 (fun e : { e : Ev // InW e.lo ∧ InW e.hi } => evF e.1) := (opens_st Tryz.underlying67 (by kernel_rfl) (ofs_cons (s := 2) (by kernel_rfl) rfl opens_rngw (ofs_cons (s := 1) (by kernel_rfl) rfl opens_ints ofs_nil))).map (fun p => ⟨⟨p.1.1.lo, p.1.1.hi, p.2.1⟩, p.1.2⟩) fun _ => rfl
theorem opens_evsw : Opens Tryz.prog W 60 (fun l : { l : List Ev // ∀ e, e ∈ l → InW e.lo ∧ InW e.hi } => [.sl l.1.length (evsF l.1)]) := (opens_sl (s := 3) Tryz.underlying60 (by kernel_rfl) (by decide) opens_evw).map (fun l => ⟨l.map (·.1), fun e he => by obtain ⟨x, _, rfl⟩ := List.mem_map.1 he; exact x.2⟩) fun l => by simp [evsF, List.flatMap_map]
theorem opens_claimw : Opens Tryz.prog W 62 (fun p : List Hit × { l : List Ev // ∀ e, e ∈ l → InW e.lo ∧ InW e.hi } => [.sl p.1.length (hitsF p.1), .sl p.2.1.length (evsF p.2.1)]) := (opens_st Tryz.underlying62 (by kernel_rfl) (ofs_cons (s := 1) (by kernel_rfl) rfl opens_hits (ofs_cons (s := 1) (by kernel_rfl) rfl opens_evsw ofs_nil))).map (fun p => (p.1, p.2.1)) fun _ => rfl
end
set_option maxRecDepth 100000 in
theorem arg_st {H : Type} {enc : TypeId × Value → H} {W : World} {base : Nat} {T : TypeId} {fs : Array Field} {α : Type} {f : α → List FV} {v : Value} {d : DataW H} {ps : List MemPlace} (h : Opens Tryz.prog W T f) (ht : Tryz.prog.underlying T = some (.struct fs)) (hv : Value.okWide Tryz.prog W .any base T v) (hd : DataW.Trod enc Tryz.prog W 0 (fun _ => true) true T v d ps) : ∃ a, RepF W (fun _ => False) v (.agg (f a)) := by
  obtain ⟨cs, e, _⟩ := okWide_struct ht hv
  exact arg_agg h e hd
theorem law_calls {f : Nat} {xs : List FV} (S : Summ Tryz.prog GG f xs (.v (.bool true))) {W : World} {args : Array Value} (R : RepL W (fun _ => False) args.toList xs) : Calls Tryz.prog f args W fun e W' => e = .returned (.bool true) ∧ Below W.heap.size W W' := by
  have := S.call W (fun _ => False) args.toList (fun _ h => h.elim) (fun g cs h => by cases h) R
  simp only [Array.toArray_toList] at this
  refine this.mono fun e w' ⟨v, h1, h2, h3⟩ => ⟨?_, h3⟩
  rw [h1, repV h2]
end Go.Proofs.YtdmdpkoapllkkaaGreat
