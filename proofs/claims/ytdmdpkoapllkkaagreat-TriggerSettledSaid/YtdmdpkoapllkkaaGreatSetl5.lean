/- Laws on which the proofs of this seat stand. No condition. -/
import Derived.Test.YtdmdpkoapllkkaaGreatSetl4
import Derived.Shelf.SlSortCmp.NoneTotal
import Derived.Test.YtdmdpkoapllkkaaGreatRows
import Derived.WalkKit
import Derived.ProofKit
import Derived.OpenShut
import Derived.Stop.Joined
namespace Go.Proofs.YtdmdpkoapllkkaaGreat
open Go Go.RowKit Go.Proofs Go.Shelf Go.Ab
theorem Size_s (n : Int) (h : -1000000000000000 ≤ n ∧ n ≤ 1000000000000000) : Summ Tryz.prog GG 176 [iv n] (iv (max n (-n))) := by
  refine summW Tryz.func176 rfl rfl 7 rfl (by simp) (fun M0 => ?_)
  repeat (first
    | (apply s_a TY; exact rfl)
    | apply w_seq
    | apply w_region
    | apply s_nil
    | apply t_norm
    | apply w_ret
    | (apply s_c TY; exact rfl; omega))
  exact lv_ret (ret1 rfl (res_tmp rfl))
set_option maxRecDepth 100000 in
set_option maxHeartbeats 6400000 in
theorem chain_s (l : List Site) (r : Rule) (h : List Hit) (way : Int) (hw : -1 ≤ way ∧ way ≤ 1) (ho : HitsOk l h) : ∀ (m : Nat) (z : Int) (a : Nat), a < h.length → z = (m : Int) + 1 → m ≤ 100 → Summ Tryz.prog GG 158 [.agg (ruleF r), .sl h.length (hitsF h), iv (a : Nat), iv z, iv way] (iv (chainV r h way m a))
  | 0, z, a, ha, hz, _ => by
    rw [show chainV r h way 0 a = h[a].tm by unfold chainV; rw [getD_at ha]]
    refine summW Tryz.func158 rfl rfl 97 rfl (by simp) (fun M0 => ?_)
    repeat (first
    | (apply s_a TY; exact rfl)
    | (apply s_t; exact rfl; (first | assumption | omega))
    | apply w_seq
    | apply w_region
    | apply s_nil
    | apply t_norm
    | apply t_ret
    | apply w_ret
    | (apply w_condT; exact rfl; exact rfl)
    | (apply s_c TY; exact rfl; (first | omega | exact ⟨by omega, by (first | with_reducible assumption | ((with_reducible apply hitsF_ne); omega) | assumption)⟩))
    | (apply s_l TY; exact rfl; (first | exact rfl | with_reducible assumption | ((with_reducible apply hitsF_f0); omega) | ((with_reducible apply hitsF_f1); omega) | ((with_reducible apply hitsF_f2); omega) | assumption)))
    exact lv_ret (ret1 rfl (res_tmp rfl))
  | m + 1, z, a, ha, hz, hm => by
    rw [chainV_chK]
    have h40 := ho.len
    have Ha := ho.hit a ha
    have Ha1 := Ha.tm
    have Ha2 := Ha.sensor
    refine summW Tryz.func158 rfl rfl 97 rfl (by simp) (fun M0 => ?_)
    repeat (first
    | (apply s_a TY; exact rfl)
    | (apply s_f; exact rfl; (first | assumption | omega))
    | apply w_seq
    | apply w_region
    | apply s_nil
    | apply t_norm
    | apply w_block
    | apply w_skip
    | (apply w_condF; exact rfl; exact rfl))
    apply w_loop (fun k : Nat => ⟨(Ab.upd (Ab.upd (Ab.upd (Ab.upd (Ab.upd (Ab.upd (Ab.upd (fun _ => .bot) 1 (.f (.sl h.length (hitsF h)))) 2 (.f (iv (a : Nat)))) 3 (.f (iv z))) 4 (.f (iv way))) 5 (.f (.pt (ruleF r) 0))) 11 (.f (iv (chK r h way m a (k : Nat))))) 12 (.f (iv ((k : Nat) : Int)))), (fun _ => none), 0⟩) (fun k => k ≤ h.length) (fun k => h.length - k) 0 (Nat.zero_le _) (gh_le ⟨le_upd rfl trivial (le_upd rfl trivial (le_upd rfl trivial (le_upd rfl trivial (le_upd rfl trivial (le_upd rfl trivial (le_upd rfl trivial (le_nil _))))))), le_h0 _ _⟩)
    intro k hk
    by_cases hc : k < h.length
    · have Hk := ho.hit k hc
      have Hk1 := Hk.tm
      have Hk2 := Hk.sensor
      have IHk := fun z (hz : z = (m : Int) + 1) => chain_s l r h way hw ho m z k hc hz (by omega)
      by_cases c1 : h[k].line = h[a].line
      · by_cases c2 : h[k].sensor = h[a].sensor + way
        · by_cases c3 : r.reach ≤ h[k].tm - h[a].tm
          · by_cases c4 : h[k].tm - h[a].tm ≤ r.window
            · by_cases c5 : 0 ≤ chainV r h way m k
              · by_cases c6 : chK r h way m a k < 0
                · have hl : chK r h way m a (k + 1) = chainV r h way m k := by rw [chK_succ, if_pos (by unfold folB withinB; rw [getD_at hc, getD_at ha, decide_eq_true c1, decide_eq_true c2, decide_eq_true c3, decide_eq_true c4]; rfl)]; unfold bestA; exact if_pos (by omega)
                  repeat (first
    | (apply s_a TY; exact rfl)
    | (apply s_t; exact rfl; (first | assumption | omega))
    | apply w_seq
    | apply w_region
    | (apply w_draw (id := 7) 10 rfl (by kernel_rfl))
    | (apply w_draw (id := 8) 36 rfl (by kernel_rfl))
    | apply s_nil
    | apply t_norm
    | apply k_norm
    | apply w_block
    | apply w_skip
    | (apply w_condT; exact rfl; exact rfl)
    | (apply s_k1 (IHk _); exact rfl; (first | assumption | omega | decide))
    | (apply s_s; exact rfl)
    | (apply s_c TY; exact rfl; (first | omega | exact ⟨by omega, by (first | with_reducible assumption | ((with_reducible apply hitsF_ne); omega) | assumption)⟩))
    | (apply s_l TY; exact rfl; (first | exact rfl | with_reducible assumption | ((with_reducible apply hitsF_f0); omega) | ((with_reducible apply hitsF_f1); omega) | ((with_reducible apply hitsF_f2); omega) | assumption)))
                  exact ⟨k + 1, by omega, by omega, gh_le ⟨le_upd rfl trivial (le_upd (congrArg (fun z : Int => AV.f (iv z)) hl) trivial (le_upd rfl trivial (le_upd rfl trivial (le_upd rfl trivial (le_upd rfl trivial (le_upd rfl trivial (le_nil _))))))), le_h0 _ _⟩⟩
                · by_cases c7 : chainV r h way m k < chK r h way m a k
                  · have hl : chK r h way m a (k + 1) = chainV r h way m k := by rw [chK_succ, if_pos (by unfold folB withinB; rw [getD_at hc, getD_at ha, decide_eq_true c1, decide_eq_true c2, decide_eq_true c3, decide_eq_true c4]; rfl)]; unfold bestA; exact if_pos (by omega)
                    repeat (first
    | (apply s_a TY; exact rfl)
    | (apply s_t; exact rfl; (first | assumption | omega))
    | (apply s_f; exact rfl; (first | assumption | omega))
    | apply w_seq
    | apply w_region
    | (apply w_draw (id := 7) 10 rfl (by kernel_rfl))
    | (apply w_draw (id := 8) 36 rfl (by kernel_rfl))
    | apply s_nil
    | apply t_norm
    | apply k_norm
    | apply w_block
    | apply w_skip
    | (apply w_condT; exact rfl; exact rfl)
    | (apply s_k1 (IHk _); exact rfl; (first | assumption | omega | decide))
    | (apply s_c TY; exact rfl; (first | omega | exact ⟨by omega, by (first | with_reducible assumption | ((with_reducible apply hitsF_ne); omega) | assumption)⟩))
    | (apply s_l TY; exact rfl; (first | exact rfl | with_reducible assumption | ((with_reducible apply hitsF_f0); omega) | ((with_reducible apply hitsF_f1); omega) | ((with_reducible apply hitsF_f2); omega) | assumption)))
                    exact ⟨k + 1, by omega, by omega, gh_le ⟨le_upd rfl trivial (le_upd (congrArg (fun z : Int => AV.f (iv z)) hl) trivial (le_upd rfl trivial (le_upd rfl trivial (le_upd rfl trivial (le_upd rfl trivial (le_upd rfl trivial (le_nil _))))))), le_h0 _ _⟩⟩
                  · have hl : chK r h way m a (k + 1) = chK r h way m a k := by rw [chK_succ, if_pos (by unfold folB withinB; rw [getD_at hc, getD_at ha, decide_eq_true c1, decide_eq_true c2, decide_eq_true c3, decide_eq_true c4]; rfl)]; unfold bestA; exact if_neg (by omega)
                    repeat (first
    | (apply s_a TY; exact rfl)
    | (apply s_t; exact rfl; (first | assumption | omega))
    | (apply s_f; exact rfl; (first | assumption | omega))
    | apply w_seq
    | apply w_region
    | (apply w_draw (id := 7) 10 rfl (by kernel_rfl))
    | (apply w_draw (id := 8) 36 rfl (by kernel_rfl))
    | apply s_nil
    | apply t_norm
    | apply k_norm
    | apply w_block
    | apply w_skip
    | (apply w_condT; exact rfl; exact rfl)
    | (apply w_condF; exact rfl; exact rfl)
    | (apply s_k1 (IHk _); exact rfl; (first | assumption | omega | decide))
    | (apply s_c TY; exact rfl; (first | omega | exact ⟨by omega, by (first | with_reducible assumption | ((with_reducible apply hitsF_ne); omega) | assumption)⟩))
    | (apply s_l TY; exact rfl; (first | exact rfl | with_reducible assumption | ((with_reducible apply hitsF_f0); omega) | ((with_reducible apply hitsF_f1); omega) | ((with_reducible apply hitsF_f2); omega) | assumption)))
                    exact ⟨k + 1, by omega, by omega, gh_le ⟨le_upd rfl trivial (le_upd (congrArg (fun z : Int => AV.f (iv z)) hl) trivial (le_upd rfl trivial (le_upd rfl trivial (le_upd rfl trivial (le_upd rfl trivial (le_upd rfl trivial (le_nil _))))))), le_h0 _ _⟩⟩
              · have hl : chK r h way m a (k + 1) = chK r h way m a k := by rw [chK_succ, if_pos (by unfold folB withinB; rw [getD_at hc, getD_at ha, decide_eq_true c1, decide_eq_true c2, decide_eq_true c3, decide_eq_true c4]; rfl)]; unfold bestA; exact if_neg (by omega)
                repeat (first
    | (apply s_a TY; exact rfl)
    | (apply s_t; exact rfl; (first | assumption | omega))
    | (apply s_f; exact rfl; (first | assumption | omega))
    | apply w_seq
    | apply w_region
    | (apply w_draw (id := 7) 10 rfl (by kernel_rfl))
    | (apply w_draw (id := 8) 36 rfl (by kernel_rfl))
    | apply s_nil
    | apply t_norm
    | apply k_norm
    | apply w_block
    | apply w_skip
    | (apply w_condT; exact rfl; exact rfl)
    | (apply w_condF; exact rfl; exact rfl)
    | (apply s_k1 (IHk _); exact rfl; (first | assumption | omega | decide))
    | (apply s_s; exact rfl)
    | (apply s_c TY; exact rfl; (first | omega | exact ⟨by omega, by (first | with_reducible assumption | ((with_reducible apply hitsF_ne); omega) | assumption)⟩))
    | (apply s_l TY; exact rfl; (first | exact rfl | with_reducible assumption | ((with_reducible apply hitsF_f0); omega) | ((with_reducible apply hitsF_f1); omega) | ((with_reducible apply hitsF_f2); omega) | assumption)))
                exact ⟨k + 1, by omega, by omega, gh_le ⟨le_upd rfl trivial (le_upd (congrArg (fun z : Int => AV.f (iv z)) hl) trivial (le_upd rfl trivial (le_upd rfl trivial (le_upd rfl trivial (le_upd rfl trivial (le_upd rfl trivial (le_nil _))))))), le_h0 _ _⟩⟩
            · have hl : chK r h way m a (k + 1) = chK r h way m a k := by
                rw [chK_succ, if_neg]
                unfold folB withinB
                rw [getD_at hc, getD_at ha]
                simp only [Bool.and_eq_true, decide_eq_true_eq]
                omega
              repeat (first
    | (apply s_a TY; exact rfl)
    | (apply s_t; exact rfl; (first | assumption | omega))
    | (apply s_f; exact rfl; (first | assumption | omega))
    | apply w_seq
    | apply w_region
    | (apply w_draw (id := 7) 10 rfl (by kernel_rfl))
    | (apply w_draw (id := 8) 36 rfl (by kernel_rfl))
    | apply s_nil
    | apply t_norm
    | apply k_norm
    | apply w_block
    | apply w_skip
    | (apply w_condT; exact rfl; exact rfl)
    | (apply w_condF; exact rfl; exact rfl)
    | (apply s_c TY; exact rfl; (first | omega | exact ⟨by omega, by (first | with_reducible assumption | ((with_reducible apply hitsF_ne); omega) | assumption)⟩))
    | (apply s_l TY; exact rfl; (first | exact rfl | with_reducible assumption | ((with_reducible apply hitsF_f0); omega) | ((with_reducible apply hitsF_f1); omega) | ((with_reducible apply hitsF_f2); omega) | assumption)))
              exact ⟨k + 1, by omega, by omega, gh_le ⟨le_upd rfl trivial (le_upd (congrArg (fun z : Int => AV.f (iv z)) hl) trivial (le_upd rfl trivial (le_upd rfl trivial (le_upd rfl trivial (le_upd rfl trivial (le_upd rfl trivial (le_nil _))))))), le_h0 _ _⟩⟩
          · have hl : chK r h way m a (k + 1) = chK r h way m a k := by
              rw [chK_succ, if_neg]
              unfold folB withinB
              rw [getD_at hc, getD_at ha]
              simp only [Bool.and_eq_true, decide_eq_true_eq]
              omega
            repeat (first
    | (apply s_a TY; exact rfl)
    | (apply s_t; exact rfl; (first | assumption | omega))
    | (apply s_f; exact rfl; (first | assumption | omega))
    | apply w_seq
    | apply w_region
    | (apply w_draw (id := 7) 10 rfl (by kernel_rfl))
    | (apply w_draw (id := 8) 36 rfl (by kernel_rfl))
    | apply s_nil
    | apply t_norm
    | apply k_norm
    | apply w_block
    | apply w_skip
    | (apply w_condT; exact rfl; exact rfl)
    | (apply w_condF; exact rfl; exact rfl)
    | (apply s_s; exact rfl)
    | (apply s_c TY; exact rfl; (first | omega | exact ⟨by omega, by (first | with_reducible assumption | ((with_reducible apply hitsF_ne); omega) | assumption)⟩))
    | (apply s_l TY; exact rfl; (first | exact rfl | with_reducible assumption | ((with_reducible apply hitsF_f0); omega) | ((with_reducible apply hitsF_f1); omega) | ((with_reducible apply hitsF_f2); omega) | assumption)))
            exact ⟨k + 1, by omega, by omega, gh_le ⟨le_upd rfl trivial (le_upd (congrArg (fun z : Int => AV.f (iv z)) hl) trivial (le_upd rfl trivial (le_upd rfl trivial (le_upd rfl trivial (le_upd rfl trivial (le_upd rfl trivial (le_nil _))))))), le_h0 _ _⟩⟩
        · have hl : chK r h way m a (k + 1) = chK r h way m a k := by
            rw [chK_succ, if_neg]
            unfold folB withinB
            rw [getD_at hc, getD_at ha]
            simp only [Bool.and_eq_true, decide_eq_true_eq]
            omega
          repeat (first
    | (apply s_a TY; exact rfl)
    | (apply s_t; exact rfl; (first | assumption | omega))
    | (apply s_f; exact rfl; (first | assumption | omega))
    | apply w_seq
    | apply w_region
    | (apply w_draw (id := 7) 10 rfl (by kernel_rfl))
    | (apply w_draw (id := 8) 36 rfl (by kernel_rfl))
    | apply s_nil
    | apply t_norm
    | apply k_norm
    | apply w_block
    | apply w_skip
    | (apply w_condT; exact rfl; exact rfl)
    | (apply w_condF; exact rfl; exact rfl)
    | (apply s_s; exact rfl)
    | (apply s_c TY; exact rfl; (first | omega | exact ⟨by omega, by (first | with_reducible assumption | ((with_reducible apply hitsF_ne); omega) | assumption)⟩))
    | (apply s_l TY; exact rfl; (first | exact rfl | with_reducible assumption | ((with_reducible apply hitsF_f0); omega) | ((with_reducible apply hitsF_f1); omega) | ((with_reducible apply hitsF_f2); omega) | assumption)))
          exact ⟨k + 1, by omega, by omega, gh_le ⟨le_upd rfl trivial (le_upd (congrArg (fun z : Int => AV.f (iv z)) hl) trivial (le_upd rfl trivial (le_upd rfl trivial (le_upd rfl trivial (le_upd rfl trivial (le_upd rfl trivial (le_nil _))))))), le_h0 _ _⟩⟩
      · have hl : chK r h way m a (k + 1) = chK r h way m a k := by
          rw [chK_succ, if_neg]
          unfold folB withinB
          rw [getD_at hc, getD_at ha]
          simp only [Bool.and_eq_true, decide_eq_true_eq]
          omega
        repeat (first
    | (apply s_a TY; exact rfl)
    | (apply s_t; exact rfl; (first | assumption | omega))
    | (apply s_f; exact rfl; (first | assumption | omega))
    | apply w_seq
    | apply w_region
    | (apply w_draw (id := 7) 10 rfl (by kernel_rfl))
    | (apply w_draw (id := 8) 36 rfl (by kernel_rfl))
    | apply s_nil
    | apply t_norm
    | apply k_norm
    | apply w_block
    | apply w_skip
    | (apply w_condT; exact rfl; exact rfl)
    | (apply w_condF; exact rfl; exact rfl)
    | (apply s_s; exact rfl)
    | (apply s_c TY; exact rfl; (first | omega | exact ⟨by omega, by (first | with_reducible assumption | ((with_reducible apply hitsF_ne); omega) | assumption)⟩))
    | (apply s_l TY; exact rfl; (first | exact rfl | with_reducible assumption | ((with_reducible apply hitsF_f0); omega) | ((with_reducible apply hitsF_f1); omega) | ((with_reducible apply hitsF_f2); omega) | assumption)))
        exact ⟨k + 1, by omega, by omega, gh_le ⟨le_upd rfl trivial (le_upd (congrArg (fun z : Int => AV.f (iv z)) hl) trivial (le_upd rfl trivial (le_upd rfl trivial (le_upd rfl trivial (le_upd rfl trivial (le_upd rfl trivial (le_nil _))))))), le_h0 _ _⟩⟩
    · have hke : k = h.length := by omega
      subst hke
      repeat (first
    | (apply s_a TY; exact rfl)
    | (apply s_f; exact rfl; (first | assumption | omega))
    | apply w_seq
    | apply w_region
    | apply s_nil
    | apply t_norm
    | apply t_exit
    | apply k_hit
    | apply w_exit
    | apply w_ret
    | (apply w_condF; exact rfl; exact rfl))
      exact lv_ret (ret1 rfl (res_tmp rfl))
def cntB (l : List Site) (r : Rule) (a b : Hit) : Bool := !(decide (b.tm < a.tm) || decide (a.tm + r.window < b.tm) || decide (before b a)) && nearB l r a b
theorem cntB_T {l : List Site} {r : Rule} {a b : Hit} {v : Bool} (h1 : ¬ b.tm < a.tm) (h2 : ¬ a.tm + r.window < b.tm) (h3 : ¬ before b a) (h : nearB l r a b = v) : cntB l r a b = v := by
  unfold cntB
  rw [decide_eq_false h1, decide_eq_false h2, decide_eq_false h3, h]; rfl
theorem cntB_F {l : List Site} {r : Rule} {a b : Hit} (h : b.tm < a.tm ∨ a.tm + r.window < b.tm ∨ before b a) : cntB l r a b = false := by
  unfold cntB
  rcases h with h | h | h
  · rw [decide_eq_true h]; rfl
  · rw [decide_eq_true h, Bool.or_true]; rfl
  · rw [decide_eq_true h, Bool.or_true]; rfl
theorem near_line {l : List Site} {r : Rule} {a b : Hit} (k1 : r.kind = 1) (hl : b.line = a.line) : nearB l r a b = decide (max (b.sensor - a.sensor) (-(b.sensor - a.sensor)) ≤ r.reach) := by
  unfold nearB withinB
  rw [if_pos k1, decide_eq_true hl.symm, Bool.true_and, Bool.eq_iff_iff]
  simp only [Bool.and_eq_true, decide_eq_true_eq]
  omega
theorem near_lineF {l : List Site} {r : Rule} {a b : Hit} (k1 : r.kind = 1) (hl : ¬ b.line = a.line) : nearB l r a b = false := by
  unfold nearB
  rw [if_pos k1, decide_eq_false (fun e => hl e.symm)]; rfl
theorem near_cyl {l : List Site} {r : Rule} {a b : Hit} (k1 : ¬ r.kind = 1) (k2 : r.kind = 2) {s t : Site} (ea : siteAt l a = s) (eb : siteAt l b = t) (hx : (s.x - t.x) * (s.x - t.x) + (s.y - t.y) * (s.y - t.y) ≤ r.reach * r.reach) : nearB l r a b = decide (max (s.z - t.z) (-(s.z - t.z)) ≤ r.height) := by
  unfold nearB withinB
  rw [if_neg k1, if_pos k2, ea, eb, decide_eq_true hx, Bool.true_and, Bool.eq_iff_iff]
  simp only [Bool.and_eq_true, decide_eq_true_eq]
  omega
theorem near_cylF {l : List Site} {r : Rule} {a b : Hit} (k1 : ¬ r.kind = 1) (k2 : r.kind = 2) {s t : Site} (ea : siteAt l a = s) (eb : siteAt l b = t) (hx : ¬ (s.x - t.x) * (s.x - t.x) + (s.y - t.y) * (s.y - t.y) ≤ r.reach * r.reach) : nearB l r a b = false := by
  unfold nearB
  rw [if_neg k1, if_pos k2, ea, eb, decide_eq_false hx]; rfl
theorem near_any {l : List Site} {r : Rule} {a b : Hit} (k1 : ¬ r.kind = 1) (k2 : ¬ r.kind = 2) : nearB l r a b = true := by
  unfold nearB
  rw [if_neg k1, if_neg k2]
set_option maxRecDepth 100000 in
set_option maxHeartbeats 3200000 in
theorem Counts_s (l : List Site) (r : Rule) (a b : Hit) (hl0 : ArrOk l) (hr : ruleErr r = 0) (ha : HitOk l a) (hb : HitOk l b) : Summ Tryz.prog GG 159 [arrF l, .agg (ruleF r), .agg (hitF a), .agg (hitF b)] (bv (cntB l r a b)) := by
  obtain ⟨r1, r2, r3, r4, r5, r6⟩ := ruleOk_of hr
  obtain ⟨ka, hka, sa, _⟩ := ha.site
  obtain ⟨kb, hkb, sb, _⟩ := hb.site
  have hlen := hl0.len
  have HA := SiteOf_s l a (by omega)
  have HB := SiteOf_s l b (by omega)
  rw [siteX_N hl0 ha, show siteN l a = (ka : Int) by unfold siteN; rw [sa]; rfl] at HA
  rw [siteX_N hl0 hb, show siteN l b = (kb : Int) by unfold siteN; rw [sb]; rfl] at HB
  have ea : siteAt l a = l[ka] := by unfold siteAt; rw [sa]; exact getD_at hka
  have eb : siteAt l b = l[kb] := by unfold siteAt; rw [sb]; exact getD_at hkb
  have ra := hl0.right ka hka
  have rb := hl0.right kb hkb
  rw [getD_at hka] at ra
  rw [getD_at hkb] at rb
  unfold siteRight at ra rb
  have lal := ha.line
  have las := ha.sensor
  have lat := ha.tm
  have lbl := hb.line
  have lbs := hb.sensor
  have lbt := hb.tm
  have px := sq_le (a := l[ka].x - l[kb].x) (b := 200000) (by omega)
  have py := sq_le (a := l[ka].y - l[kb].y) (b := 200000) (by omega)
  have pr := sq_le (a := r.reach) (b := 1000000) (by omega)
  by_cases t1 : b.tm < a.tm
  · rw [cntB_F (.inl t1)]
    refine summW Tryz.func159 rfl rfl 103 rfl (by simp) (fun M0 => ?_)
    repeat (first
    | (apply s_a TY; exact rfl)
    | (apply s_t; exact rfl; (first | assumption | omega))
    | apply w_seq
    | apply w_region
    | apply s_nil
    | apply t_norm
    | apply t_ret
    | apply w_ret
    | (apply w_condT; exact rfl; exact rfl)
    | (apply s_s; exact rfl))
    exact lv_ret (ret1 rfl (res_tmp rfl))
  · by_cases t2 : a.tm + r.window < b.tm
    · rw [cntB_F (.inr (.inl t2))]
      refine summW Tryz.func159 rfl rfl 103 rfl (by simp) (fun M0 => ?_)
      repeat (first
    | (apply s_a TY; exact rfl)
    | (apply s_t; exact rfl; (first | assumption | omega))
    | (apply s_f; exact rfl; (first | assumption | omega))
    | apply w_seq
    | apply w_region
    | apply s_nil
    | apply t_norm
    | apply t_ret
    | apply w_ret
    | (apply w_condT; exact rfl; exact rfl)
    | (apply s_s; exact rfl)
    | (apply s_c TY; exact rfl; (first | omega | exact ⟨by omega, by (first | with_reducible assumption | ((with_reducible apply sitesF_ne); omega) | assumption)⟩)))
      exact lv_ret (ret1 rfl (res_tmp rfl))
    · by_cases t3 : before b a
      · rw [cntB_F (.inr (.inr t3))]
        refine summW Tryz.func159 rfl rfl 103 rfl (by simp) (fun M0 => ?_)
        repeat (first
    | (apply s_a TY; exact rfl)
    | (apply s_f; exact rfl; (first | assumption | omega))
    | apply w_seq
    | apply w_region
    | apply s_nil
    | apply t_norm
    | apply t_ret
    | apply w_ret
    | (apply w_condT; exact rfl; exact rfl)
    | (apply s_k1 (isBefore_T _ _); exact rfl; (first | assumption | omega | decide))
    | (apply s_c TY; exact rfl; (first | omega | exact ⟨by omega, by (first | with_reducible assumption | ((with_reducible apply sitesF_ne); omega) | assumption)⟩)))
        exact lv_ret (ret1 rfl (res_tmp rfl))
      · by_cases k1 : r.kind = 1
        · by_cases hl : b.line = a.line
          · by_cases hs : max (b.sensor - a.sensor) (-(b.sensor - a.sensor)) ≤ r.reach
            · rw [cntB_T t1 t2 t3 ((near_line k1 hl).trans (decide_eq_true hs))]
              refine summW Tryz.func159 rfl rfl 103 rfl (by simp) (fun M0 => ?_)
              repeat (first
    | (apply s_a TY; exact rfl)
    | (apply s_t; exact rfl; (first | assumption | omega))
    | (apply s_f; exact rfl; (first | assumption | omega))
    | apply w_seq
    | apply w_region
    | (apply w_draw (id := 4) 14 rfl (by kernel_rfl))
    | apply s_nil
    | apply t_norm
    | apply t_ret
    | apply w_ret
    | apply w_skip
    | (apply w_condT; exact rfl; exact rfl)
    | (apply w_condF; exact rfl; exact rfl)
    | (apply s_k1 (isBefore_F _ _); exact rfl; (first | assumption | omega | decide))
    | (apply s_k1 (Size_s _); exact rfl; (first | assumption | omega | decide))
    | (apply s_c TY; exact rfl; (first | omega | exact ⟨by omega, by (first | with_reducible assumption | ((with_reducible apply sitesF_ne); omega) | assumption)⟩)))
              exact lv_ret (ret1 rfl (res_tmp rfl))
            · rw [cntB_T t1 t2 t3 ((near_line k1 hl).trans (decide_eq_false hs))]
              refine summW Tryz.func159 rfl rfl 103 rfl (by simp) (fun M0 => ?_)
              repeat (first
    | (apply s_a TY; exact rfl)
    | (apply s_t; exact rfl; (first | assumption | omega))
    | (apply s_f; exact rfl; (first | assumption | omega))
    | apply w_seq
    | apply w_region
    | (apply w_draw (id := 4) 14 rfl (by kernel_rfl))
    | apply s_nil
    | apply t_norm
    | apply t_ret
    | apply w_ret
    | apply w_skip
    | (apply w_condT; exact rfl; exact rfl)
    | (apply w_condF; exact rfl; exact rfl)
    | (apply s_k1 (isBefore_F _ _); exact rfl; (first | assumption | omega | decide))
    | (apply s_k1 (Size_s _); exact rfl; (first | assumption | omega | decide))
    | (apply s_c TY; exact rfl; (first | omega | exact ⟨by omega, by (first | with_reducible assumption | ((with_reducible apply sitesF_ne); omega) | assumption)⟩)))
              exact lv_ret (ret1 rfl (res_tmp rfl))
          · rw [cntB_T t1 t2 t3 (near_lineF k1 hl)]
            refine summW Tryz.func159 rfl rfl 103 rfl (by simp) (fun M0 => ?_)
            repeat (first
    | (apply s_a TY; exact rfl)
    | (apply s_t; exact rfl; (first | assumption | omega))
    | (apply s_f; exact rfl; (first | assumption | omega))
    | apply w_seq
    | apply w_region
    | (apply w_draw (id := 4) 14 rfl (by kernel_rfl))
    | apply s_nil
    | apply t_norm
    | apply t_ret
    | apply w_ret
    | apply w_skip
    | (apply w_condT; exact rfl; exact rfl)
    | (apply w_condF; exact rfl; exact rfl)
    | (apply s_k1 (isBefore_F _ _); exact rfl; (first | assumption | omega | decide))
    | (apply s_s; exact rfl)
    | (apply s_c TY; exact rfl; (first | omega | exact ⟨by omega, by (first | with_reducible assumption | ((with_reducible apply sitesF_ne); omega) | assumption)⟩)))
            exact lv_ret (ret1 rfl (res_tmp rfl))
        · by_cases k2 : r.kind = 2
          · by_cases hx : (l[ka].x - l[kb].x) * (l[ka].x - l[kb].x) + (l[ka].y - l[kb].y) * (l[ka].y - l[kb].y) ≤ r.reach * r.reach
            · by_cases hs : max (l[ka].z - l[kb].z) (-(l[ka].z - l[kb].z)) ≤ r.height
              · rw [cntB_T t1 t2 t3 ((near_cyl k1 k2 ea eb hx).trans (decide_eq_true hs))]
                refine summW Tryz.func159 rfl rfl 103 rfl (by simp) (fun M0 => ?_)
                repeat (first
    | (apply s_a TY; exact rfl)
    | (apply s_t; exact rfl; (first | assumption | omega))
    | (apply s_f; exact rfl; (first | assumption | omega))
    | apply w_seq
    | apply w_region
    | (apply w_draw1 (id := 6) 16 rfl (by kernel_rfl); exact rfl; kernel_rfl)
    | (apply s_allocB TY (d := some 9); exact rfl; exact rfl; exact rfl)
    | (apply s_sto TY; exact rfl; exact rfl; exact rfl; exact rfl; exact rfl; exact rfl; exact rfl)
    | (apply w_draw (id := 7) 11 rfl (by kernel_rfl))
    | (apply w_draw (id := 8) 22 rfl (by kernel_rfl))
    | apply s_nil
    | apply t_norm
    | apply t_ret
    | apply w_ret
    | apply w_skip
    | (apply w_condT; exact rfl; exact rfl)
    | (apply w_condF; exact rfl; exact rfl)
    | (apply s_k (HA); exact rfl)
    | (apply s_k (HB); exact rfl)
    | (apply s_k1 (isBefore_F _ _); exact rfl; (first | assumption | omega | decide))
    | (apply s_k1 (Size_s _); exact rfl; (first | assumption | omega | decide))
    | (apply s_c TY; exact rfl; (first | omega | exact ⟨by omega, by (first | with_reducible assumption | ((with_reducible apply sitesF_ne); omega) | assumption)⟩))
    | (apply s_m TY; exact rfl; (first | with_reducible assumption | ((with_reducible apply sitesF_sub); omega) | exact rfl); exact rfl)
    | (apply s_alloc TY; exact rfl; exact rfl; exact rfl)
    | (apply s_store TY; exact rfl; exact rfl; exact rfl; exact rfl; exact rfl; exact rfl))
                exact lv_ret (ret1 rfl (res_tmp rfl))
              · rw [cntB_T t1 t2 t3 ((near_cyl k1 k2 ea eb hx).trans (decide_eq_false hs))]
                refine summW Tryz.func159 rfl rfl 103 rfl (by simp) (fun M0 => ?_)
                repeat (first
    | (apply s_a TY; exact rfl)
    | (apply s_t; exact rfl; (first | assumption | omega))
    | (apply s_f; exact rfl; (first | assumption | omega))
    | apply w_seq
    | apply w_region
    | (apply w_draw1 (id := 6) 16 rfl (by kernel_rfl); exact rfl; kernel_rfl)
    | (apply s_allocB TY (d := some 9); exact rfl; exact rfl; exact rfl)
    | (apply s_sto TY; exact rfl; exact rfl; exact rfl; exact rfl; exact rfl; exact rfl; exact rfl)
    | (apply w_draw (id := 7) 11 rfl (by kernel_rfl))
    | (apply w_draw (id := 8) 22 rfl (by kernel_rfl))
    | apply s_nil
    | apply t_norm
    | apply t_ret
    | apply w_ret
    | apply w_skip
    | (apply w_condT; exact rfl; exact rfl)
    | (apply w_condF; exact rfl; exact rfl)
    | (apply s_k (HA); exact rfl)
    | (apply s_k (HB); exact rfl)
    | (apply s_k1 (isBefore_F _ _); exact rfl; (first | assumption | omega | decide))
    | (apply s_k1 (Size_s _); exact rfl; (first | assumption | omega | decide))
    | (apply s_c TY; exact rfl; (first | omega | exact ⟨by omega, by (first | with_reducible assumption | ((with_reducible apply sitesF_ne); omega) | assumption)⟩))
    | (apply s_m TY; exact rfl; (first | with_reducible assumption | ((with_reducible apply sitesF_sub); omega) | exact rfl); exact rfl)
    | (apply s_alloc TY; exact rfl; exact rfl; exact rfl)
    | (apply s_store TY; exact rfl; exact rfl; exact rfl; exact rfl; exact rfl; exact rfl))
                exact lv_ret (ret1 rfl (res_tmp rfl))
            · rw [cntB_T t1 t2 t3 (near_cylF k1 k2 ea eb hx)]
              refine summW Tryz.func159 rfl rfl 103 rfl (by simp) (fun M0 => ?_)
              repeat (first
    | (apply s_a TY; exact rfl)
    | (apply s_t; exact rfl; (first | assumption | omega))
    | (apply s_f; exact rfl; (first | assumption | omega))
    | apply w_seq
    | apply w_region
    | (apply w_draw1 (id := 6) 16 rfl (by kernel_rfl); exact rfl; kernel_rfl)
    | (apply s_allocB TY (d := some 9); exact rfl; exact rfl; exact rfl)
    | (apply s_sto TY; exact rfl; exact rfl; exact rfl; exact rfl; exact rfl; exact rfl; exact rfl)
    | (apply w_draw (id := 7) 11 rfl (by kernel_rfl))
    | (apply w_draw (id := 8) 22 rfl (by kernel_rfl))
    | apply s_nil
    | apply t_norm
    | apply t_ret
    | apply w_ret
    | apply w_skip
    | (apply w_condT; exact rfl; exact rfl)
    | (apply w_condF; exact rfl; exact rfl)
    | (apply s_k (HA); exact rfl)
    | (apply s_k (HB); exact rfl)
    | (apply s_k1 (isBefore_F _ _); exact rfl; (first | assumption | omega | decide))
    | (apply s_s; exact rfl)
    | (apply s_c TY; exact rfl; (first | omega | exact ⟨by omega, by (first | with_reducible assumption | ((with_reducible apply sitesF_ne); omega) | assumption)⟩))
    | (apply s_m TY; exact rfl; (first | with_reducible assumption | ((with_reducible apply sitesF_sub); omega) | exact rfl); exact rfl)
    | (apply s_alloc TY; exact rfl; exact rfl; exact rfl)
    | (apply s_store TY; exact rfl; exact rfl; exact rfl; exact rfl; exact rfl; exact rfl))
              exact lv_ret (ret1 rfl (res_tmp rfl))
          · rw [cntB_T t1 t2 t3 (near_any k1 k2)]
            refine summW Tryz.func159 rfl rfl 103 rfl (by simp) (fun M0 => ?_)
            repeat (first
    | (apply s_a TY; exact rfl)
    | (apply s_f; exact rfl; (first | assumption | omega))
    | apply w_seq
    | apply w_region
    | apply s_nil
    | apply t_norm
    | apply w_ret
    | apply w_skip
    | (apply w_condF; exact rfl; exact rfl)
    | (apply s_k1 (isBefore_F _ _); exact rfl; (first | assumption | omega | decide))
    | (apply s_c TY; exact rfl; (first | omega | exact ⟨by omega, by (first | with_reducible assumption | ((with_reducible apply sitesF_ne); omega) | assumption)⟩)))
            exact lv_ret (ret1 rfl (res_tmp rfl))
def nrx (l : List Site) (r : Rule) (a x : Hit) : Bool := decide (x.tm - a.tm ≤ r.window) && nearB l r a x
theorem cnt_nrx {l : List Site} {r : Rule} {h : List Hit} (ho : HitsOk l h) {a i : Nat} (hai : a ≤ i) (hi : i < h.length) : cntB l r (h[a]'(by omega)) h[i] = nrx l r (h[a]'(by omega)) h[i] := by
  have h1 := ho.tm a i hai hi
  have h2 : ¬ before h[i] (h[a]'(by omega)) := by
    by_cases e : a = i
    · subst e; exact before_irr
    · exact fun hb => before_irr (before_trans hb (ho.lt i a hi (by omega)))
  unfold cntB nrx
  rw [decide_eq_false (show ¬ h[i].tm < (h[a]'(by omega)).tm by omega), decide_eq_false h2, Bool.false_or, Bool.or_false]
  congr 1
  rw [Bool.eq_iff_iff]
  simp only [Bool.not_eq_true', decide_eq_false_iff_not, decide_eq_true_eq]
  omega
theorem endV_endL {l : List Site} {r : Rule} {h : List Hit} (ho : HitsOk l h) (hk : ¬ r.kind = 3) (hc : 1 ≤ r.count) {a : Nat} (ha : a < h.length) : endV l r h a = endL (nrx l r h[a]) r.count (h.drop a) := by
  unfold endV fireV
  rw [if_neg hk, getD_at ha]
  exact (endL_fire (h.drop a) r.count hc (drop_tm ho a)).symm
set_option maxRecDepth 100000 in
set_option maxHeartbeats 3200000 in
theorem EndOf_s (l : List Site) (r : Rule) (h : List Hit) (a : Nat) (hr : ruleErr r = 0) (hl0 : ArrOk l) (ho : HitsOk l h) (ha : a < h.length) : Summ Tryz.prog GG 127 [arrF l, .agg (ruleF r), .sl h.length (hitsF h), iv (a : Nat)] (iv (endV l r h a)) := by
  obtain ⟨r1, r2, r3, r4, r5, r6⟩ := ruleOk_of hr
  have h40 := ho.len
  by_cases hk3 : r.kind = 3
  · have HU := fun z (hz : z = (((r.count - 1).toNat : Nat) : Int) + 1) => chain_s l r h 1 (by omega) ho (r.count - 1).toNat z a ha hz (by omega)
    have HD := fun z (hz : z = (((r.count - 1).toNat : Nat) : Int) + 1) => chain_s l r h (-1) (by omega) ho (r.count - 1).toNat z a ha hz (by omega)
    rw [show endV l r h a = _ from (show endV l r h a = (slowV r h a).getD (-1) by unfold endV fireV; rw [if_pos hk3]).trans (slow_end (fun k hk => by rw [getD_at hk]; exact (ho.hit k hk).tm.1) ha)]
    by_cases c1 : chainV r h 1 (r.count - 1).toNat a < 0
    · rw [if_pos (by omega)]
      refine summW Tryz.func127 rfl rfl 70 rfl (by simp) (fun M0 => ?_)
      repeat (first
    | (apply s_a TY; exact rfl)
    | (apply s_t; exact rfl; (first | assumption | omega))
    | apply w_seq
    | apply w_region
    | (apply w_draw (id := 2) 11 rfl (by kernel_rfl))
    | apply s_nil
    | apply t_norm
    | apply t_ret
    | apply w_ret
    | (apply w_condT; exact rfl; exact rfl)
    | (apply s_k1 (HU _); exact rfl; (first | assumption | omega | decide))
    | (apply s_k1 (HD _); exact rfl; (first | assumption | omega | decide))
    | (apply s_s; exact rfl))
      exact lv_ret (ret1 rfl (res_tmp rfl))
    · by_cases c2 : 0 ≤ chainV r h (-1) (r.count - 1).toNat a
      · by_cases c3 : chainV r h (-1) (r.count - 1).toNat a < chainV r h 1 (r.count - 1).toNat a
        · rw [if_pos (by omega)]
          refine summW Tryz.func127 rfl rfl 70 rfl (by simp) (fun M0 => ?_)
          repeat (first
    | (apply s_a TY; exact rfl)
    | (apply s_t; exact rfl; (first | assumption | omega))
    | (apply s_f; exact rfl; (first | assumption | omega))
    | apply w_seq
    | apply w_region
    | (apply w_draw (id := 2) 11 rfl (by kernel_rfl))
    | apply s_nil
    | apply t_norm
    | apply t_ret
    | apply w_ret
    | (apply w_condT; exact rfl; exact rfl)
    | (apply s_k1 (HU _); exact rfl; (first | assumption | omega | decide))
    | (apply s_k1 (HD _); exact rfl; (first | assumption | omega | decide)))
          exact lv_ret (ret1 rfl (res_tmp rfl))
        · rw [if_neg (by omega)]
          refine summW Tryz.func127 rfl rfl 70 rfl (by simp) (fun M0 => ?_)
          repeat (first
    | (apply s_a TY; exact rfl)
    | (apply s_t; exact rfl; (first | assumption | omega))
    | (apply s_f; exact rfl; (first | assumption | omega))
    | apply w_seq
    | apply w_region
    | (apply w_draw (id := 2) 11 rfl (by kernel_rfl))
    | apply s_nil
    | apply t_norm
    | apply t_ret
    | apply w_ret
    | apply w_skip
    | (apply w_condT; exact rfl; exact rfl)
    | (apply w_condF; exact rfl; exact rfl)
    | (apply s_k1 (HU _); exact rfl; (first | assumption | omega | decide))
    | (apply s_k1 (HD _); exact rfl; (first | assumption | omega | decide)))
          exact lv_ret (ret1 rfl (res_tmp rfl))
      · rw [if_neg (by omega)]
        refine summW Tryz.func127 rfl rfl 70 rfl (by simp) (fun M0 => ?_)
        repeat (first
    | (apply s_a TY; exact rfl)
    | (apply s_t; exact rfl; (first | assumption | omega))
    | (apply s_f; exact rfl; (first | assumption | omega))
    | apply w_seq
    | apply w_region
    | (apply w_draw (id := 2) 11 rfl (by kernel_rfl))
    | apply s_nil
    | apply t_norm
    | apply t_ret
    | apply w_ret
    | apply w_skip
    | (apply w_condT; exact rfl; exact rfl)
    | (apply w_condF; exact rfl; exact rfl)
    | (apply s_k1 (HU _); exact rfl; (first | assumption | omega | decide))
    | (apply s_k1 (HD _); exact rfl; (first | assumption | omega | decide))
    | (apply s_s; exact rfl))
        exact lv_ret (ret1 rfl (res_tmp rfl))
  · have hE := endV_endL ho hk3 r2.1 ha
    refine summW Tryz.func127 rfl rfl 70 rfl (by simp) (fun M0 => ?_)
    repeat (first
    | (apply s_a TY; exact rfl)
    | (apply s_f; exact rfl; (first | assumption | omega))
    | apply w_seq
    | apply w_region
    | apply s_nil
    | apply t_norm
    | apply w_block
    | apply w_skip
    | (apply w_condF; exact rfl; exact rfl))
    apply w_loop (fun p : Nat × Int => ⟨(Ab.upd (Ab.upd (Ab.upd (Ab.upd (Ab.upd (Ab.upd (fun _ => .bot) 2 (.f (.sl h.length (hitsF h)))) 3 (.f (iv (a : Nat)))) 4 (.f (.pt [.sl l.length (sitesF l)] 0))) 5 (.f (.pt (ruleF r) 0))) 11 (.f (iv (p.2 : Int)))) 12 (.f (iv ((p.1 : Nat) : Int)))), (fun _ => none), 0⟩) (fun p => a ≤ p.1 ∧ p.1 ≤ h.length ∧ 0 ≤ p.2 ∧ p.2 < r.count ∧ endV l r h a = endL (nrx l r h[a]) (r.count - p.2) (h.drop p.1)) (fun p => h.length - p.1) (a, 0) (⟨Nat.le_refl _, by omega, Int.le_refl _, by omega, by rw [Int.sub_zero]; exact hE⟩) (gh_le ⟨le_upd rfl trivial (le_upd rfl trivial (le_upd rfl trivial (le_upd rfl trivial (le_upd rfl trivial (le_upd rfl trivial (le_nil _)))))), le_h0 _ _⟩)
    rintro ⟨i, n⟩ ⟨hai, hil, hn0, hnc, hv⟩
    simp only at hai hil hn0 hnc hv
    by_cases hc : i < h.length
    · have HC := Counts_s l r h[a] h[i] hl0 hr (ho.hit a ha) (ho.hit i hc)
      rw [cnt_nrx ho hai hc] at HC
      rw [List.drop_eq_getElem_cons hc] at hv
      unfold endL at hv
      cases hb : nrx l r h[a] h[i] with
      | true =>
        rw [hb] at HC hv
        rw [if_pos rfl] at hv
        by_cases h1 : r.count - n = 1
        · rw [if_pos h1] at hv
          rw [hv]
          repeat (first
    | (apply s_a TY; exact rfl)
    | (apply s_t; exact rfl; (first | assumption | omega))
    | apply w_seq
    | apply w_region
    | (apply w_draw (id := 10) 10 rfl (by kernel_rfl))
    | apply s_nil
    | apply t_norm
    | apply t_ret
    | apply k_ret
    | apply w_block
    | apply w_ret
    | apply w_skip
    | (apply w_condT; exact rfl; exact rfl)
    | (apply s_k (HC); exact rfl)
    | (apply s_c TY; exact rfl; (first | omega | exact ⟨by omega, by (first | with_reducible assumption | ((with_reducible apply hitsF_ne); omega) | assumption)⟩))
    | (apply s_l TY; exact rfl; (first | exact rfl | with_reducible assumption | ((with_reducible apply hitsF_f0); omega) | ((with_reducible apply hitsF_f1); omega) | ((with_reducible apply hitsF_f2); omega) | assumption))
    | (apply s_m TY; exact rfl; (first | with_reducible assumption | ((with_reducible apply hitsF_sub); omega) | exact rfl); exact rfl))
          exact lv_ret (ret1 rfl (res_tmp rfl))
        · rw [if_neg h1] at hv
          repeat (first
    | (apply s_a TY; exact rfl)
    | (apply s_t; exact rfl; (first | assumption | omega))
    | (apply s_f; exact rfl; (first | assumption | omega))
    | apply w_seq
    | apply w_region
    | (apply w_draw (id := 10) 10 rfl (by kernel_rfl))
    | apply s_nil
    | apply t_norm
    | apply k_norm
    | apply w_block
    | apply w_skip
    | (apply w_condT; exact rfl; exact rfl)
    | (apply w_condF; exact rfl; exact rfl)
    | (apply s_k (HC); exact rfl)
    | (apply s_c TY; exact rfl; (first | omega | exact ⟨by omega, by (first | with_reducible assumption | ((with_reducible apply hitsF_ne); omega) | assumption)⟩))
    | (apply s_m TY; exact rfl; (first | with_reducible assumption | ((with_reducible apply hitsF_sub); omega) | exact rfl); exact rfl))
          exact ⟨(i + 1, n + 1), ⟨by simp only; omega, by simp only; omega, by simp only; omega, by simp only; omega, by simp only; rw [hv]; congr 1; omega⟩, by simp only; omega, gh_le ⟨le_upd rfl trivial (le_upd rfl trivial (le_upd rfl trivial (le_upd rfl trivial (le_upd rfl trivial (le_upd rfl trivial (le_nil _)))))), le_h0 _ _⟩⟩
      | false =>
        rw [hb] at HC hv
        rw [if_neg (by decide)] at hv
        repeat (first
    | (apply s_a TY; exact rfl)
    | (apply s_t; exact rfl; (first | assumption | omega))
    | apply w_seq
    | apply w_region
    | (apply w_draw (id := 10) 10 rfl (by kernel_rfl))
    | apply s_nil
    | apply t_norm
    | apply k_norm
    | apply w_block
    | apply w_skip
    | (apply w_condT; exact rfl; exact rfl)
    | (apply w_condF; exact rfl; exact rfl)
    | (apply s_k (HC); exact rfl)
    | (apply s_c TY; exact rfl; (first | omega | exact ⟨by omega, by (first | with_reducible assumption | ((with_reducible apply hitsF_ne); omega) | assumption)⟩))
    | (apply s_m TY; exact rfl; (first | with_reducible assumption | ((with_reducible apply hitsF_sub); omega) | exact rfl); exact rfl))
        exact ⟨(i + 1, n), ⟨by simp only; omega, by simp only; omega, hn0, hnc, hv⟩, by simp only; omega, gh_le ⟨le_upd rfl trivial (le_upd rfl trivial (le_upd rfl trivial (le_upd rfl trivial (le_upd rfl trivial (le_upd rfl trivial (le_nil _)))))), le_h0 _ _⟩⟩
    · rw [List.drop_eq_nil_of_le (by omega)] at hv
      rw [show endV l r h a = -1 from hv]
      repeat (first
    | (apply s_a TY; exact rfl)
    | (apply s_f; exact rfl; (first | assumption | omega))
    | apply w_seq
    | apply w_region
    | apply s_nil
    | apply t_norm
    | apply t_exit
    | apply k_hit
    | apply w_exit
    | apply w_ret
    | (apply w_condF; exact rfl; exact rfl))
      exact lv_ret (ret1 rfl (res_tmp rfl))
end Go.Proofs.YtdmdpkoapllkkaaGreat
namespace Go.Proofs.YtdmdpkoapllkkaaGreat
open Go Go.RowKit Go.Proofs Go.Shelf Go.Ab
theorem fewB_le {n : Nat} (h : fewB (n : Nat) = true) : n ≤ 42 := by
  unfold fewB at h
  simp only [Bool.or_eq_true, Bool.and_eq_true, decide_eq_true_eq] at h
  omega
end Go.Proofs.YtdmdpkoapllkkaaGreat
namespace Go.Proofs.YtdmdpkoapllkkaaGreat
open Go Go.RowKit Go.Proofs Go.Shelf Go.Ab
theorem rwin_step {l : List Site} {s : Setup} {h : List Hit} {i k : Nat} {e : Int} {r : Rule} (hs : rwinI l s h i (k + 1) = rwinI l s h i k ++ (match fireV l r h i with | some e => [⟨(h.getD i default).tm - s.before, e + s.after⟩] | none => [])) (hv : fireV l r h i = some e) : some (Blk.row 65 2 ((rwinsN l s h i ++ rwinI l s h i k).length + 1) (rngsF (rwinsN l s h i ++ rwinI l s h i k) ++ [iv ((h.getD i default).tm - s.before), iv (e + s.after)])) = some (Blk.row 65 2 (rwinsN l s h i ++ rwinI l s h i (k + 1)).length (rngsF (rwinsN l s h i ++ rwinI l s h i (k + 1)))) := by
  rw [hv] at hs
  simp only at hs
  rw [hs, ← List.append_assoc, rngsF_snoc, List.length_append (bs := [_])]; rfl
theorem rwin_stay {l : List Site} {s : Setup} {h : List Hit} {i k : Nat} {r : Rule} (hs : rwinI l s h i (k + 1) = rwinI l s h i k ++ (match fireV l r h i with | some e => [⟨(h.getD i default).tm - s.before, e + s.after⟩] | none => [])) (hv : fireV l r h i = none) : rwinI l s h i (k + 1) = rwinI l s h i k := by
  rw [hv] at hs
  simpa using hs
set_option maxRecDepth 100000 in
set_option maxHeartbeats 3200000 in
theorem rwindows_s (l : List Site) (s : Setup) (h : List Hit) (hs : SetOk s) (hl0 : ArrOk l) (ho : HitsOk l h) : Summ Tryz.prog GG 91 [arrF l, setF s, .sl h.length (hitsF h)] (.sl (rwinsV l s h).length (rngsF (rwinsV l s h))) := by
  have h40 := ho.len
  have h4 := hs.len
  have hbf := hs.before
  have haf := hs.after
  refine summW Tryz.func91 rfl rfl 52 rfl (by simp) (fun M0 => ?_)
  repeat (first
    | (apply s_a TY; exact rfl)
    | apply w_seq
    | apply w_region
    | apply s_nil
    | apply t_norm
    | apply w_block)
  apply w_gh (gh_own 7 65 2 rfl rfl)
  apply w_loop (fun i : Nat => ⟨(Ab.upd (Ab.upd (Ab.upd (Ab.upd (Ab.upd (fun _ => .bot) 2 (.f (.sl h.length (hitsF h)))) 3 (.f (.pt [.sl l.length (sitesF l)] 0))) 4 (.f (.pt (setL s) 0))) 7 (.ow 0)) 8 (.f (iv ((i : Nat) : Int)))), (Ab.upd (fun _ => none) 0 (some (.row 65 2 (rwinsN l s h i).length (rngsF (rwinsN l s h i))))), 1⟩) (fun i => i ≤ h.length) (fun i => h.length - i) 0 (Nat.zero_le _) (gh_le ⟨le_upd rfl trivial (le_upd rfl rfl (le_upd rfl trivial (le_upd rfl trivial (le_upd rfl trivial (le_nil _))))), le_hupd rfl trivial (le_h0 _ _)⟩)
  intro i hi0
  have hln := rwinsN_len l s h i
  have hmul : i * s.rules.length ≤ 40 * 4 := Nat.mul_le_mul (by omega) (by omega)
  by_cases hc : i < h.length
  · have hti := (ho.hit i hc).tm
    repeat (first
    | (apply s_a TY; exact rfl)
    | (apply s_t; exact rfl; (first | assumption | omega))
    | apply w_seq
    | apply w_region
    | apply s_nil
    | apply t_norm
    | apply w_block
    | apply w_skip
    | (apply w_condT; exact rfl; exact rfl))
    apply w_loop (fun k : Nat => ⟨(Ab.upd (Ab.upd (Ab.upd (Ab.upd (Ab.upd (Ab.upd (fun _ => .bot) 2 (.f (.sl h.length (hitsF h)))) 3 (.f (.pt [.sl l.length (sitesF l)] 0))) 4 (.f (.pt (setL s) 0))) 7 (.ow 0)) 8 (.f (iv ((i : Nat) : Int)))) 9 (.f (iv ((k : Nat) : Int)))), (Ab.upd (fun _ => none) 0 (some (.row 65 2 (rwinsN l s h i ++ rwinI l s h i k).length (rngsF (rwinsN l s h i ++ rwinI l s h i k))))), 1⟩) (fun k => k ≤ s.rules.length) (fun k => s.rules.length - k) 0 (Nat.zero_le _) (gh_le ⟨le_upd rfl trivial (le_upd rfl trivial (le_upd rfl rfl (le_upd rfl trivial (le_upd rfl trivial (le_upd rfl trivial (le_nil _)))))), le_hupd (congrArg (fun M : List Rng => some (Blk.row 65 2 M.length (rngsF M))) (show rwinsN l s h i = rwinsN l s h i ++ rwinI l s h i 0 by simp [rwinI])) trivial (le_h0 _ _)⟩)
    intro k hk0
    have hlk := rwinI_len l s h i k
    by_cases hk : k < s.rules.length
    · have hrok := hs.rule k hk
      have HE := EndOf_s l s.rules[k] h i hrok hl0 ho hc
      have hsu := rwinI_succ (l := l) (h := h) (i := i) hk
      have hlen : (rwinsN l s h i ++ rwinI l s h i k).length ≤ 200 := by rw [List.length_append]; omega
      unfold endV at HE
      cases hv : fireV l s.rules[k] h i with
      | none =>
        have hst := rwin_stay hsu hv
        rw [hv] at HE
        rw [show (none : Option Int).getD (-1) = -1 from rfl] at HE
        repeat (first
    | (apply s_a TY; exact rfl)
    | (apply s_t; exact rfl; (first | assumption | omega))
    | (apply s_f; exact rfl; (first | assumption | omega))
    | apply w_seq
    | apply w_region
    | (apply w_draw (id := 8) 8 rfl (by kernel_rfl))
    | apply s_nil
    | apply t_norm
    | apply k_norm
    | apply w_block
    | apply w_skip
    | (apply w_condT; exact rfl; exact rfl)
    | (apply w_condF; exact rfl; exact rfl)
    | (apply s_k (HE); exact rfl)
    | (apply s_c TY; exact rfl; (first | omega | exact ⟨by omega, by (first | with_reducible assumption | ((with_reducible apply hitsF_ne); omega) | ((with_reducible apply rulesF_ne); omega) | assumption)⟩))
    | (apply s_m TY; exact rfl; (first | with_reducible assumption | ((with_reducible apply hitsF_sub); omega) | ((with_reducible apply rulesF_sub); omega) | exact rfl); exact rfl))
        exact ⟨k + 1, by omega, by omega, gh_le ⟨le_upd rfl trivial (le_upd rfl trivial (le_upd rfl rfl (le_upd rfl trivial (le_upd rfl trivial (le_upd rfl trivial (le_nil _)))))), le_hupd (congrArg (fun M : List Rng => some (Blk.row 65 2 M.length (rngsF M))) (show rwinsN l s h i ++ rwinI l s h i k = rwinsN l s h i ++ rwinI l s h i (k + 1) by rw [hst])) trivial (le_h0 _ _)⟩⟩
      | some e =>
        have hst := rwin_step hsu hv
        obtain ⟨q, hq, heq⟩ := fireV_mem hc hv
        have hte := (ho.hit q hq).tm
        rw [getD_at hq] at heq
        rw [getD_at hc] at hst
        rw [hv] at HE
        rw [show (some e : Option Int).getD (-1) = e from rfl] at HE
        repeat (first
    | (apply s_append TY; exact rfl; exact rfl; exact rfl; exact rfl; exact rfl; exact rfl; exact rfl; exact rfl; exact rfl; (unfold maxLen; omega); omega)
    | (apply s_a TY; exact rfl)
    | (apply s_t; exact rfl; (first | assumption | omega))
    | apply w_seq
    | apply w_region
    | (apply w_draw (id := 8) 8 rfl (by kernel_rfl))
    | (apply w_draw (id := 10) 15 rfl (by kernel_rfl))
    | apply s_nil
    | apply t_norm
    | apply k_norm
    | apply w_block
    | apply w_skip
    | (apply w_condT; exact rfl; exact rfl)
    | (apply s_k (HE); exact rfl)
    | (apply s_c TY; exact rfl; (first | omega | exact ⟨by omega, by (first | with_reducible assumption | ((with_reducible apply hitsF_ne); omega) | ((with_reducible apply rulesF_ne); omega) | assumption)⟩))
    | (apply s_l TY; exact rfl; (first | exact rfl | with_reducible assumption | ((with_reducible apply hitsF_f0); omega) | ((with_reducible apply hitsF_f1); omega) | ((with_reducible apply hitsF_f2); omega) | ((with_reducible apply rulesF_f0); omega) | ((with_reducible apply rulesF_f1); omega) | ((with_reducible apply rulesF_f2); omega) | ((with_reducible apply rulesF_f3); omega) | ((with_reducible apply rulesF_f4); omega) | assumption))
    | (apply s_m TY; exact rfl; (first | with_reducible assumption | ((with_reducible apply hitsF_sub); omega) | ((with_reducible apply rulesF_sub); omega) | exact rfl); exact rfl))
        exact ⟨k + 1, by omega, by omega, gh_le ⟨le_upd rfl trivial (le_upd rfl trivial (le_upd rfl rfl (le_upd rfl trivial (le_upd rfl trivial (le_upd rfl trivial (le_nil _)))))), le_hupd hst trivial (le_h0 _ _)⟩⟩
    · have hke : k = s.rules.length := by omega
      subst hke
      repeat (first
    | (apply s_a TY; exact rfl)
    | (apply s_f; exact rfl; (first | assumption | omega))
    | apply w_seq
    | apply w_region
    | apply s_nil
    | apply t_norm
    | apply t_exit
    | apply k_hit
    | apply k_norm
    | apply w_exit
    | (apply w_condF; exact rfl; exact rfl)
    | (apply s_c TY; exact rfl; (first | omega | exact ⟨by omega, by (first | with_reducible assumption | ((with_reducible apply hitsF_ne); omega) | ((with_reducible apply rulesF_ne); omega) | assumption)⟩)))
      exact ⟨i + 1, by omega, by omega, gh_le ⟨le_upd rfl trivial (le_upd rfl rfl (le_upd rfl trivial (le_upd rfl trivial (le_upd rfl trivial (le_nil _))))), le_hupd (congrArg (fun M : List Rng => some (Blk.row 65 2 M.length (rngsF M))) (rwinsN_succ l s h i).symm) trivial (le_h0 _ _)⟩⟩
  · have hie : i = h.length := by omega
    subst hie
    repeat (first
    | (apply s_a TY; exact rfl)
    | (apply s_f; exact rfl; (first | assumption | omega))
    | apply w_seq
    | apply w_region
    | apply s_nil
    | apply t_norm
    | apply t_exit
    | apply k_hit
    | apply w_exit
    | apply w_ret
    | (apply w_condF; exact rfl; exact rfl))
    exact lv_ret (ret_gh (gh_row 0 rfl) (ret1 rfl (res_tmp rfl)))
set_option maxRecDepth 100000 in
set_option maxHeartbeats 3200000 in
theorem merged_s (L : List Rng) (hlo : LoOk L) (hhi : HiOk L) (h60 : L.length < 1000000) : Summ Tryz.prog GG 94 [.sl L.length (rngsF L)] (.sl (mergeV L).length (rngsF (mergeV L))) := by
  refine summW Tryz.func94 rfl rfl 56 rfl (by simp) (fun M0 => ?_)
  repeat (first
    | (apply s_a TY; exact rfl)
    | apply w_seq
    | apply w_region
    | apply s_nil
    | apply t_norm
    | apply w_block)
  apply w_gh (gh_own 3 65 2 rfl rfl)
  apply w_loop (fun k : Nat => ⟨(Ab.upd (Ab.upd (Ab.upd (fun _ => .bot) 0 (.f (.sl L.length (rngsF L)))) 3 (.ow 0)) 4 (.f (iv ((k : Nat) : Int)))), (Ab.upd (fun _ => none) 0 (some (.row 65 2 (mgK L k).length (rngsF (mgK L k))))), 1⟩) (fun k => k ≤ L.length) (fun k => L.length - k) 0 (Nat.zero_le _) (gh_le ⟨le_upd rfl trivial (le_upd rfl rfl (le_upd rfl trivial (le_nil _))), le_hupd rfl trivial (le_h0 _ _)⟩)
  intro k hk
  by_cases hc : k < L.length
  · have hs := mgK_succ hc
    have hlk := mgK_len L k
    have hhk := mgK_hi hhi k
    have h1 := hlo _ (List.getElem_mem hc)
    have h2 := hhi _ (List.getElem_mem hc)
    rcases List.eq_nil_or_concat (mgK L k) with e | ⟨pre, x, e⟩
    · rw [e, mrg_nil] at hs
      rw [e]
      have hn0 : ([] : List Rng).length = 0 := rfl
      repeat (first
    | (apply s_a TY; exact rfl)
    | (apply s_t; exact rfl; (first | assumption | omega))
    | (apply s_f; exact rfl; (first | assumption | omega))
    | apply w_seq
    | apply w_region
    | (apply w_draw (id := 6) 15 rfl (by kernel_rfl))
    | apply s_nil
    | apply t_norm
    | apply k_norm
    | apply w_block
    | apply w_skip
    | (apply w_condT; exact rfl; exact rfl)
    | (apply w_condF; exact rfl; exact rfl)
    | (apply s_s; exact rfl)
    | (apply s_c TY; exact rfl; (first | omega | exact ⟨by omega, by (first | with_reducible assumption | ((with_reducible apply rngsF_ne); omega) | assumption)⟩))
    | (apply s_m TY; exact rfl; (first | with_reducible assumption | ((with_reducible apply rngsF_sub); omega) | exact rfl); exact rfl)
    | (apply s_append TY; exact rfl; exact rfl; exact rfl; exact rfl; exact rfl; exact rfl; exact rfl; exact rfl; exact rfl; (unfold maxLen; omega); omega))
      exact ⟨k + 1, by omega, by omega, gh_le ⟨le_upd rfl trivial (le_upd rfl rfl (le_upd rfl trivial (le_nil _))), le_hupd ((rowR _ _ hs).symm) trivial (le_h0 _ _)⟩⟩
    · rw [List.concat_eq_append] at e
      rw [e, mrg_snoc] at hs
      rw [e] at hlk hhk ⊢
      have h3 := hhk x (by simp)
      have hpl : (pre ++ [x]).length = pre.length + 1 := by simp
      have hat : (rngsF (pre ++ [x]))[(((pre.length + 1 : Nat) : Int) - 1).toNat * 2 + 1]? = some (iv x.hi) := by
        rw [show (((pre.length + 1 : Nat) : Int) - 1).toNat = pre.length by omega, rngsF_f1 (show pre.length < (pre ++ [x]).length by omega)]
        simp
      rw [hpl]
      by_cases hj : L[k].lo ≤ x.hi + 1
      · rw [if_pos hj] at hs
        have hrl : (rngsF (pre ++ [x])).length = (pre.length + 1) * 2 := by rw [rngsF_len, hpl]
        repeat (first
    | (apply s_storeR TY; exact rfl; exact rfl; exact rfl; exact rfl; exact rfl; (show _ + 1 ≤ _; omega))
    | (apply s_a TY; exact rfl)
    | (apply s_t; exact rfl; (first | assumption | omega))
    | apply w_seq
    | apply w_region
    | (apply w_draw (id := 6) 15 rfl (by kernel_rfl))
    | (apply w_draw (id := 7) 15 rfl (by kernel_rfl))
    | apply s_nil
    | apply t_norm
    | apply k_norm
    | apply w_block
    | apply w_skip
    | (apply w_condT; exact rfl; exact rfl)
    | (apply s_c TY; exact rfl; (first | omega | exact ⟨by omega, by (first | with_reducible assumption | ((with_reducible apply rngsF_ne); omega) | assumption)⟩))
    | (apply s_z TY; exact rfl; (first | omega | exact ⟨by omega, by (first | with_reducible assumption | ((with_reducible apply rngsF_ne); omega) | assumption)⟩))
    | (apply s_l TY; exact rfl; (first | exact rfl | with_reducible assumption | ((with_reducible apply rngsF_f0); omega) | ((with_reducible apply rngsF_f1); omega) | assumption))
    | (apply s_r TY; exact rfl; (first | exact rfl | with_reducible assumption | ((with_reducible apply rngsF_f0); omega) | ((with_reducible apply rngsF_f1); omega) | assumption)))
        exact ⟨k + 1, by omega, by omega, gh_le ⟨le_upd rfl trivial (le_upd rfl rfl (le_upd rfl trivial (le_nil _))), le_hupd ((rngs_setHi pre x (show (((pre.length + 1 : Nat) : Int) - 1).toNat = pre.length by omega) _ hs)) trivial (le_h0 _ _)⟩⟩
      · rw [if_neg hj] at hs
        repeat (first
    | (apply s_a TY; exact rfl)
    | (apply s_t; exact rfl; (first | assumption | omega))
    | (apply s_f; exact rfl; (first | assumption | omega))
    | apply w_seq
    | apply w_region
    | (apply w_draw (id := 6) 15 rfl (by kernel_rfl))
    | apply s_nil
    | apply t_norm
    | apply k_norm
    | apply w_block
    | apply w_skip
    | (apply w_condT; exact rfl; exact rfl)
    | (apply w_condF; exact rfl; exact rfl)
    | (apply s_c TY; exact rfl; (first | omega | exact ⟨by omega, by (first | with_reducible assumption | ((with_reducible apply rngsF_ne); omega) | assumption)⟩))
    | (apply s_z TY; exact rfl; (first | omega | exact ⟨by omega, by (first | with_reducible assumption | ((with_reducible apply rngsF_ne); omega) | assumption)⟩))
    | (apply s_l TY; exact rfl; (first | exact rfl | with_reducible assumption | ((with_reducible apply rngsF_f0); omega) | ((with_reducible apply rngsF_f1); omega) | assumption))
    | (apply s_m TY; exact rfl; (first | with_reducible assumption | ((with_reducible apply rngsF_sub); omega) | exact rfl); exact rfl)
    | (apply s_r TY; exact rfl; (first | exact rfl | with_reducible assumption | ((with_reducible apply rngsF_f0); omega) | ((with_reducible apply rngsF_f1); omega) | assumption))
    | (apply s_append TY; exact rfl; exact rfl; exact rfl; exact rfl; exact rfl; exact rfl; exact rfl; exact rfl; exact rfl; (unfold maxLen; omega); omega))
        exact ⟨k + 1, by omega, by omega, gh_le ⟨le_upd rfl trivial (le_upd rfl rfl (le_upd rfl trivial (le_nil _))), le_hupd (row_app3 hs) trivial (le_h0 _ _)⟩⟩
  · have hke : k = L.length := by omega
    subst hke
    rw [mgK_all]
    repeat (first
    | (apply s_a TY; exact rfl)
    | (apply s_f; exact rfl; (first | assumption | omega))
    | apply w_seq
    | apply w_region
    | apply s_nil
    | apply t_norm
    | apply t_exit
    | apply k_hit
    | apply w_exit
    | apply w_ret
    | (apply w_condF; exact rfl; exact rfl))
    exact lv_ret (ret_gh (gh_row 0 rfl) (ret1 rfl (res_tmp rfl)))
theorem rwins_bd {l : List Site} {s : Setup} {h : List Hit} (hs : SetOk s) (ho : HitsOk l h) : LoOk (rwinsV l s h) ∧ HiOk (rwinsV l s h) ∧ (rwinsV l s h).length ≤ 160 := by
  refine ⟨fun r hr => single_lo hs ho r (rwins_mem.2 hr), fun r hr => single_hi hs ho r (rwins_mem.2 hr), ?_⟩
  have := rwinsN_len l s h h.length
  have h1 := ho.len
  have h2 := hs.len
  have : h.length * s.rules.length ≤ 40 * 4 := Nat.mul_le_mul (by omega) (by omega)
  unfold rwinsV
  omega
set_option maxRecDepth 100000 in
theorem rWindows_s (l : List Site) (s : Setup) (h : List Hit) (hs : SetOk s) (hl0 : ArrOk l) (ho : HitsOk l h) : Summ Tryz.prog GG 146 [arrF l, setF s, .sl h.length (hitsF h)] (.sl (windowsV l s h).length (rngsF (windowsV l s h))) := by
  obtain ⟨b1, b2, b3⟩ := rwins_bd hs ho
  have HW := rwindows_s l s h hs hl0 ho
  have HM := merged_s (rwinsV l s h) b1 b2 (by omega)
  rw [windows_ref hs ho]
  refine summW Tryz.func146 rfl rfl 12 rfl (by simp) (fun M0 => ?_)
  repeat (first
    | (apply s_a TY; exact rfl)
    | apply w_seq
    | apply w_region
    | apply s_nil
    | apply t_norm
    | apply w_ret
    | (apply s_k (HW); exact rfl)
    | (apply s_k (HM); exact rfl))
  exact lv_ret (ret1 rfl (res_tmp rfl))
set_option maxRecDepth 100000 in
theorem rIn_s (h : List Hit) (w : Rng) (hh : h.length ≤ 1000000) : Summ Tryz.prog GG 92 [.sl h.length (hitsF h), .agg (rngF w)] (.sl (hitsInV h w).length (intsF (hitsInV h w))) := by
  refine summW Tryz.func92 rfl rfl 28 rfl (by simp) (fun M0 => ?_)
  repeat (first
    | (apply s_a TY; exact rfl)
    | apply w_seq
    | apply w_region
    | apply s_nil
    | apply t_norm
    | apply w_block)
  apply w_gh (gh_own 5 3 1 rfl rfl)
  apply w_loop (fun k : Nat => ⟨(Ab.upd (Ab.upd (Ab.upd (Ab.upd (fun _ => .bot) 0 (.f (.sl h.length (hitsF h)))) 3 (.f (.pt (rngF w) 0))) 5 (.ow 0)) 6 (.f (iv ((k : Nat) : Int)))), (Ab.upd (fun _ => none) 0 (some (.row 3 1 (hitsInN h w k).length (intsF (hitsInN h w k))))), 1⟩) (fun k => k ≤ h.length) (fun k => h.length - k) 0 (Nat.zero_le _) (gh_le ⟨le_upd rfl trivial (le_upd rfl rfl (le_upd rfl trivial (le_upd rfl trivial (le_nil _)))), le_hupd rfl trivial (le_h0 _ _)⟩)
  intro k hk
  have hln := hitsInN_len h w k
  by_cases hc : k < h.length
  · have hs := hitsInN_succ h w k
    rw [getD_at hc] at hs
    have HB := bwithin_s h[k].tm w.lo w.hi
    cases hb : withinB h[k].tm w.lo w.hi with
    | true =>
      rw [hb] at HB hs
      rw [if_pos rfl] at hs
      repeat (first
    | (apply s_a TY; exact rfl)
    | (apply s_t; exact rfl; (first | assumption | omega))
    | apply w_seq
    | apply w_region
    | (apply w_draw (id := 5) 9 rfl (by kernel_rfl))
    | apply s_nil
    | apply t_norm
    | apply k_norm
    | apply w_block
    | apply w_skip
    | (apply w_condT; exact rfl; exact rfl)
    | (apply s_k (HB); exact rfl)
    | (apply s_c TY; exact rfl; (first | omega | exact ⟨by omega, by (first | with_reducible assumption | ((with_reducible apply hitsF_ne); omega) | assumption)⟩))
    | (apply s_l TY; exact rfl; (first | exact rfl | with_reducible assumption | ((with_reducible apply hitsF_f0); omega) | ((with_reducible apply hitsF_f1); omega) | ((with_reducible apply hitsF_f2); omega) | assumption))
    | (apply s_append TY; exact rfl; exact rfl; exact rfl; exact rfl; exact rfl; exact rfl; exact rfl; exact rfl; exact rfl; (unfold maxLen; omega); omega))
      exact ⟨k + 1, by omega, by omega, gh_le ⟨le_upd rfl trivial (le_upd rfl rfl (le_upd rfl trivial (le_upd rfl trivial (le_nil _)))), le_hupd (rowI_app hs) trivial (le_h0 _ _)⟩⟩
    | false =>
      rw [hb] at HB hs
      rw [if_neg (by decide), List.append_nil] at hs
      repeat (first
    | (apply s_a TY; exact rfl)
    | (apply s_t; exact rfl; (first | assumption | omega))
    | apply w_seq
    | apply w_region
    | (apply w_draw (id := 5) 9 rfl (by kernel_rfl))
    | apply s_nil
    | apply t_norm
    | apply k_norm
    | apply w_block
    | apply w_skip
    | (apply w_condT; exact rfl; exact rfl)
    | (apply w_condF; exact rfl; exact rfl)
    | (apply s_k (HB); exact rfl)
    | (apply s_c TY; exact rfl; (first | omega | exact ⟨by omega, by (first | with_reducible assumption | ((with_reducible apply hitsF_ne); omega) | assumption)⟩))
    | (apply s_l TY; exact rfl; (first | exact rfl | with_reducible assumption | ((with_reducible apply hitsF_f0); omega) | ((with_reducible apply hitsF_f1); omega) | ((with_reducible apply hitsF_f2); omega) | assumption)))
      exact ⟨k + 1, by omega, by omega, gh_le ⟨le_upd rfl trivial (le_upd rfl rfl (le_upd rfl trivial (le_upd rfl trivial (le_nil _)))), le_hupd (rowI _ _ hs.symm) trivial (le_h0 _ _)⟩⟩
  · have hke : k = h.length := by omega
    subst hke
    repeat (first
    | (apply s_a TY; exact rfl)
    | (apply s_f; exact rfl; (first | assumption | omega))
    | apply w_seq
    | apply w_region
    | apply s_nil
    | apply t_norm
    | apply t_exit
    | apply k_hit
    | apply w_exit
    | apply w_ret
    | (apply w_condF; exact rfl; exact rfl))
    exact lv_ret (ret_gh (gh_row 0 rfl) (ret1 rfl (res_tmp rfl)))
set_option maxRecDepth 100000 in
set_option maxHeartbeats 1600000 in
theorem rEvents_s (l : List Site) (s : Setup) (h : List Hit) (hs : SetOk s) (hl0 : ArrOk l) (ho : HitsOk l h) : Summ Tryz.prog GG 113 [arrF l, setF s, .sl h.length (hitsF h)] (.sl (eventsV l s h).length (evsF (eventsV l s h))) := by
  have h40 := ho.len
  have h1 := single_len hs ho
  have h2 : (windowsV l s h).length ≤ 160 := Nat.le_trans (joinedV_len _) h1
  have HW := rWindows_s l s h hs hl0 ho
  refine summW Tryz.func113 rfl rfl 35 rfl (by simp) (fun M0 => ?_)
  repeat (first
    | (apply s_a TY; exact rfl)
    | apply w_seq
    | apply w_region
    | apply s_nil
    | apply t_norm
    | apply w_block
    | (apply s_k (HW); exact rfl))
  apply w_gh (gh_own 8 67 3 rfl rfl)
  apply w_loop (fun k : Nat => ⟨(Ab.upd (Ab.upd (Ab.upd (Ab.upd (fun _ => .bot) 2 (.f (.sl h.length (hitsF h)))) 7 (.f (.sl (windowsV l s h).length (rngsF (windowsV l s h))))) 8 (.ow 0)) 9 (.f (iv ((k : Nat) : Int)))), (Ab.upd (fun _ => none) 0 (some (.row 67 3 (evK l s h k).length (evsF (evK l s h k))))), 1⟩) (fun k => k ≤ (windowsV l s h).length) (fun k => (windowsV l s h).length - k) 0 (Nat.zero_le _) (gh_le ⟨le_upd rfl trivial (le_upd rfl rfl (le_upd rfl trivial (le_upd rfl trivial (le_nil _)))), le_hupd rfl trivial (le_h0 _ _)⟩)
  intro k hk
  have hln := evK_len l s h k
  by_cases hc : k < (windowsV l s h).length
  · have hsu := evK_succ hc
    have HI := rIn_s h (windowsV l s h)[k] (by omega)
    repeat (first
    | (apply s_a TY; exact rfl)
    | (apply s_t; exact rfl; (first | assumption | omega))
    | apply w_seq
    | apply w_region
    | (apply w_draw (id := 6) 13 rfl (by kernel_rfl))
    | apply s_nil
    | apply t_norm
    | apply k_norm
    | apply w_block
    | apply w_skip
    | (apply w_condT; exact rfl; exact rfl)
    | (apply s_k (HI); exact rfl)
    | (apply s_c TY; exact rfl; (first | omega | exact ⟨by omega, by (first | with_reducible assumption | ((with_reducible apply rngsF_ne); omega) | assumption)⟩))
    | (apply s_m TY; exact rfl; (first | with_reducible assumption | ((with_reducible apply rngsF_sub); omega) | exact rfl); exact rfl)
    | (apply s_append TY; exact rfl; exact rfl; exact rfl; exact rfl; exact rfl; exact rfl; exact rfl; exact rfl; exact rfl; (unfold maxLen; omega); omega))
    exact ⟨k + 1, by omega, by omega, gh_le ⟨le_upd rfl trivial (le_upd rfl rfl (le_upd rfl trivial (le_upd rfl trivial (le_nil _)))), le_hupd (rowEv_app hsu) trivial (le_h0 _ _)⟩⟩
  · have hke : k = (windowsV l s h).length := by omega
    subst hke
    rw [evK_all]
    repeat (first
    | (apply s_a TY; exact rfl)
    | (apply s_f; exact rfl; (first | assumption | omega))
    | apply w_seq
    | apply w_region
    | apply s_nil
    | apply t_norm
    | apply t_exit
    | apply k_hit
    | apply w_exit
    | apply w_ret
    | (apply w_condF; exact rfl; exact rfl))
    exact lv_ret (ret_gh (gh_row 0 rfl) (ret1 rfl (res_tmp rfl)))
end Go.Proofs.YtdmdpkoapllkkaaGreat
namespace Go.Proofs.YtdmdpkoapllkkaaGreat
open Go Go.RowKit Go.Proofs Go.Shelf Go.Ab
end Go.Proofs.YtdmdpkoapllkkaaGreat
namespace Go.Ab
open Go Go.RowKit Go.Shelf Go.Proofs
section
variable {C : Ctx} {N : Nat}
theorem v_append_none {o : Oper} {st : St} {T n e sz bs : Nat} {x y : Operand} {cs : List FV} (ty : Ty C.P) (ho : o.op = .call { callee := .builtin .append, args := #[x, y], argTypes := #[T, T] }) (hd : dstB N o.dst = true)
    (hT : (ty.ty T).sl = some (e, sz, bs)) (hx : st.ev C x = .f (.slc n cs)) (hy : st.ev C y = .f (.sl 0 [])) : ValOp C N o st (.f (.slc n cs)) := by
  refine valop_run hd fun w0 a w J st' hA S => ?_
  have e1 := evF S ((hA.ev x (by simp [ho, Op.operands, Call.operands])).trans hx)
  have e2 := evF S ((hA.ev y (by simp [ho, Op.operands, Call.operands])).trans hy)
  obtain ⟨hu, it, hi1, hi2, hi3⟩ := slE_spec ((ty.ok T).sl _ hT)
  generalize hxv : a.eval x = xv at e1
  generalize hyv : a.eval y = yv at e2
  cases e1 with
  | slc ad1 _ _ vs o1 o1' o2 o3 o4 =>
  cases e2 with
  | sl ad _ c _ us p0 p1 p2 p3 p4 =>
    refine ⟨.slice ad1 n n, w, ?_, Ext.refl _, RepF.slc ad1 n cs vs o1 o1' o2 o3 o4⟩
    simp only [execOp, ho, resolve, invoke, builtin, Sem.run_bind, Sem.run_pure, Result.andThen_ok, List.map_toArray, List.map_cons, List.map_nil, hxv, hyv, run_append_no C.P w T o.type e it hu hi1 ad1 ad n c n (Nat.le_refl _)]
theorem a_append_new {o : Oper} {st : St} {T n m e sz bs : Nat} {x y : Operand} {cs ys : List FV} {zs : List Value} (ty : Ty C.P) (ho : o.op = .call { callee := .builtin .append, args := #[x, y], argTypes := #[T, T] }) (hd : dstB N o.dst = true)
    (hT : (ty.ty T).sl = some (e, sz, bs)) (hz : (ty.ty e).zero = some zs) (hzl : zs.length = sz) (hsz : 0 < sz) (hx : st.ev C x = .f (.slc n cs)) (hy : st.ev C y = .f (.sl m ys)) (hm : 0 < m) (hln : cs.length = n * sz) (hl : ys.length = m * sz)
    (h63 : n + m ≤ maxLen) (hbs : (n + m) * bs ≤ 140737488355328) : AllOp C N o st (.ow st.nx) (.row e sz (n + m) (cs ++ ys)) := by
  intro w0 a w st' hA hn ⟨J, S⟩ K Q hK
  have e1 := evF S ((hA.ev x (by simp [ho, Op.operands, Call.operands])).trans hx)
  have e2 := evF S ((hA.ev y (by simp [ho, Op.operands, Call.operands])).trans hy)
  obtain ⟨hu, it, hi1, hi2, hi3⟩ := slE_spec ((ty.ok T).sl _ hT)
  obtain ⟨it', z, hi4, hzz, hzl'⟩ := zero_spec ((ty.ok e).zero zs hz)
  rw [hi1] at hi4; cases hi4
  have hzs : z.cells.size = sz := by rw [← hzl, ← hzl']; simp
  generalize hxv : a.eval x = xv at e1
  generalize hyv : a.eval y = yv at e2
  cases e1 with
  | slc ad1 _ _ vs o1 o1' o2 o3 o4 =>
  cases e2 with
  | sl ad _ c _ us p0 p1 p2 p3 p4 =>
    have hul : us.length = m * sz := p1.trans hl
    have hus : us ≠ [] := fun e => by
      have hp : 0 < m * sz := Nat.mul_pos hm hsz
      rw [e] at hul; simp at hul; omega
    obtain ⟨b, off, rfl, hlies⟩ := p3 hus
    have hnews : ∀ j u, us[j]? = some u → w.cell? ((⟨b, off, none⟩ : Addr).add j) = some u := fun j u hj => by
      rw [addr_add, hlies.at_ j (List.getElem?_eq_some_iff.1 hj).1]; exact hj
    have hvl : vs.length = n * sz := o1.trans hln
    obtain ⟨v', w', hrun, r1, r2⟩ : ∃ v' w', (Builtin.append_ #[T, T] o.type #[.slice ad1 n n, .slice (some ⟨b, off, none⟩) m c]).run C.P w = .ok v' w' ∧ w'.ownsRow w.heap.size e sz v' (n + m) (vs ++ us) ∧ w.grownBy w' none := by
      cases ad1 with
      | some ad1 =>
        refine run_append_arg_grows (P := C.P) w T o.type e it z sz bs hu hi1 hzz hi2 hi3 hzs hsz ad1 n n vs hvl (fun j u hj => ?_) ⟨b, off, none⟩ m c us hul hnews (by omega) h63 hbs
        obtain ⟨b1, off1, e1, l1⟩ := o3 (fun e => by rw [e] at hj; simp at hj)
        cases e1
        rw [addr_add, l1.at_ j (List.getElem?_eq_some_iff.1 hj).1]; exact hj
      | none =>
        have hn0 := o1' rfl
        subst hn0
        have hv0 : vs = [] := List.eq_nil_of_length_eq_zero (by simpa using hvl)
        subst hv0
        obtain ⟨v', w', h1, h2, h3, _⟩ := run_append_own (P := C.P) w w.heap.size T o.type e it z sz bs hu hi1 hzz hi2 hi3 hzs hsz (.slice none 0 0) 0 [] (World.ownsRow_nil w _ e sz) ⟨b, off, none⟩ m c us hul hnews p2 h63 hbs (Nat.le_refl _)
        exact ⟨v', w', h1, h2, h3⟩
    have hex : Ext w w' := Ext.of_grown r2
    have hown : ∀ c, bk v' = some c → w.heap.size ≤ c := fun c hc => by
      rcases r1.2 with ⟨e0, _⟩ | ⟨g, cap, cur, e0, h1, _⟩
      · rw [e0] at hc; simp [bk] at hc
      · rw [e0] at hc; simp [bk] at hc; omega
    have hM : ∀ q, q < w.heap.size → Mb C (upd st'.h st.nx (some (.row e sz (n + m) (cs ++ ys)))) (upd J st.nx v') q → Mb C st'.h J q := by
      rintro q hq (h0 | ⟨i, hi, hbi⟩)
      · exact .inl h0
      by_cases ei : i = st.nx
      · subst ei; rw [upd_same] at hbi; have := hown _ hbi; omega
      · rw [upd_other _ _ ei] at hi hbi; exact .inr ⟨i, hi, hbi⟩
    have R : RepL w (Mb C st'.h J) (vs ++ us) (cs ++ ys) := RepL.append ⟨o1, o4⟩ ⟨p1, p4⟩
    have R' := R.ext hex hM
    refine op_value (show (execOp a.eval o).run C.P w = .ok (.value v') w' by simp only [execOp, ho, resolve, invoke, builtin, Sem.run_bind, Sem.run_pure, Result.andThen_ok, List.map_toArray, List.map_cons, List.map_nil, hxv, hyv, hrun]) ?_
    refine hK _ _ ⟨upd J st.nx v', S.al hn hd hex hown ?_ ?_ (fun e => by cases e)⟩
    · refine ⟨vs ++ us, ⟨r1.1, r1.2.imp id fun ⟨g, cap, cur, e0, h1, h2⟩ => ⟨g, cap, cur, e0, Nat.zero_le _, h2⟩⟩, fun c hc => .inl (Nat.le_trans S.ext.le (hown c hc)), fun u hu => ?_, R'⟩
      rcases List.mem_append.1 hu with h | h
      · exact o2 u h
      · exact p2 u h
    · exact ⟨by rw [upd_same]; rfl, by rw [upd_same]⟩
variable {Q : Exit → St → Prop} {st : St} {ops : Array Oper} {pr : Bool} {K : St → Prop} {rest : List Oper}
theorem s_append_none (ty : Ty C.P) {d : Option Tmp} {T0 : TypeId} {pos : String} {af : Array Edge} {T n e sz bs : Nat} {x y : Operand} {cs : List FV} (hd : dstB N d = true) (hT : (ty.ty T).sl = some (e, sz, bs)) (hx : st.ev C x = .f (.slc n cs)) (hy : st.ev C y = .f (.sl 0 [])) (h : R C N ops pr K rest (st.put d (.f (.slc n cs)))) : R C N ops pr K (⟨d, .call { callee := .builtin .append, args := #[x, y], argTypes := #[T, T] }, T0, pos, af, none⟩ :: rest) st := ⟨r_val rfl (v_append_none ty rfl hd hT hx hy) h.out⟩
theorem s_append_new (ty : Ty C.P) {d : Option Tmp} {T0 : TypeId} {pos : String} {af : Array Edge} {T n m e sz bs : Nat} {x y : Operand} {cs ys : List FV} {zs : List Value} (hd : dstB N d = true) (hn : st.h st.nx = none) (hT : (ty.ty T).sl = some (e, sz, bs)) (hz : (ty.ty e).zero = some zs) (hzl : zs.length = sz) (hsz : Nat.blt 0 sz = true) (hx : st.ev C x = .f (.slc n cs)) (hy : st.ev C y = .f (.sl m ys)) (hm : 0 < m) (hln : cs.length = n * sz) (hl : ys.length = m * sz) (h63 : n + m ≤ maxLen) (hbs : (n + m) * bs ≤ 140737488355328) (h : R C N ops pr K rest ⟨(st.put d (.ow st.nx)).s, upd st.h st.nx (some (.row e sz (n + m) (cs ++ ys))), st.nx + 1⟩) : R C N ops pr K (⟨d, .call { callee := .builtin .append, args := #[x, y], argTypes := #[T, T] }, T0, pos, af, none⟩ :: rest) st := ⟨r_all rfl rfl hn (a_append_new ty rfl hd hT hz hzl (Nat.le_of_ble_eq_true hsz) hx hy hm hln hl h63 hbs) h.out⟩
end
end Go.Ab
namespace Go.Ab
open Go Go.RowKit Go.Shelf Go.Proofs
section
variable {C : Ctx} {N : Nat}
theorem v_load_rows {o : Oper} {st : St} {T : TypeId} {x : Operand} {cs sub : List FV} {e sz m i off n : Nat} (ty : Ty C.P) (ho : o.op = .load T x) (hd : dstB N o.dst = true) (hT : (ty.ty T).agg = some n) (hx : st.ev C x = .bx i off) (hi : st.h i = some (.row e sz m cs)) (hc : (cs.drop off).take n = sub) (hl : sub.length = n) : ValOp C N o st (.f (.agg sub)) :=
  valop_run hd fun w0 a w J st' hA S => by
    have e1 := S.eval x
    rw [hA.ev x (by simp [ho, Op.operands]), hx] at e1
    obtain ⟨hlv, b, hb, hv⟩ := e1
    obtain ⟨xs, q1, q0, q2, q3⟩ := blkOf hA S hi hlv
    have hown : (J i).ownBlock = some b := by
      obtain ⟨a1, c1, e2⟩ := q1.isSlice
      rw [e2] at hb ⊢
      cases a1 <;> simp [bk, Value.ownBlock] at hb ⊢; exact hb
    have R := (RepL.drop (n := off) q3).take n
    rw [hc] at R
    have hlen : ((xs.drop off).take n).length = n := R.1.trans hl
    refine ⟨.agg ((xs.drop off).take n).toArray, w, ?_, Ext.refl _, RepF.agg _ _ R.1 (fun u hu => q2 u (List.mem_of_mem_drop (List.mem_of_mem_take hu))) R.2⟩
    simp only [execOp, ho, hv, Sem.run_bind]
    rw [run_load_agg ((ty.ok T).agg n hT) ((xs.drop off).take n) hlen (fun k hk => ?_)]
    · rfl
    · rw [hlen] at hk
      have hl2 : off + k < xs.length := by simp [List.length_take, List.length_drop] at hlen; omega
      have hcell := q1.cells hown (off + k) xs[off + k] (List.getElem?_eq_getElem hl2)
      rw [addr_add, Nat.zero_add] at hcell
      rw [hcell, List.getElem?_take, if_pos hk, List.getElem?_drop, List.getElem?_eq_getElem hl2]
theorem v_slice_ow {o : Oper} {st : St} {T E s bs : Nat} {x y : Operand} {cs : List FV} {n i e sz : Nat} {l : Int} {k : IntKind} (ty : Ty C.P) (ho : o.op = .slice T x (some y) none none) (hd : dstB N o.dst = true) (hT : (ty.ty T).sl = some (E, s, bs)) (hx : st.ev C x = .ow i) (hi : st.h i = some (.row e sz n cs))
    (hy : st.ev C y = .f (.v (.int k l))) (h0 : 0 ≤ l) (hlh : l ≤ n) : ValOp C N o st (.sv i (l.toNat * s) (n - l.toNat)) :=
  valop_run hd fun w0 a w J st' hA S => by
    have e1 := S.eval x
    rw [hA.ev x (by simp [ho, Op.operands]), hx] at e1
    obtain ⟨hlv, hv⟩ := e1
    have e2 := evV S ((hA.ev y (by simp [ho, Op.operands])).trans hy)
    obtain ⟨hu, it, hi1, rfl, _⟩ := slE_spec ((ty.ok T).sl _ hT)
    obtain ⟨xs, q1, q0, q2, q3⟩ := blkOf hA S hi hlv
    rcases q1.2 with ⟨hj, rfl⟩ | ⟨g, cap, cur, hj, g1, g2, g3, g4, g5, g6⟩
    · have hl0 : l = 0 := by omega
      subst hl0
      refine ⟨.slice none 0 0, w, ?_, Ext.refl _, hlv, none, 0, by simp, Nat.le_refl _, fun h => absurd rfl h⟩
      simp [execOp, ho, hv, hj, e2, Instr.sliceAt, Instr.slice, run_underlying hu, Instr.sliceBounds, Instr.sliceBound, asIntOf, sizeOf, typeInfo, hi1]
    · refine ⟨.slice (if cap = l.toNat then some ⟨g, 0, none⟩ else some ((⟨g, 0, none⟩ : Addr).add (l.toNat * it.size))) (n - l.toNat) (cap - l.toNat), w, ?_, Ext.refl _, hlv, _, _, rfl, by omega, fun h => ⟨g, by rw [hj]; rfl, ?_⟩⟩
      · simp [execOp, ho, hv, hj, e2, Instr.sliceAt, Instr.slice, run_underlying hu, Instr.sliceBounds, Instr.sliceBound, asIntOf, sizeOf, typeInfo, hi1, h0, hlh]
      · have : ¬ cap = l.toNat := by omega
        rw [if_neg this, addr_add, Nat.zero_add]
theorem v_len_sv {o : Oper} {st : St} {T : TypeId} {x : Operand} {i off n E s bs : Nat} (ty : Ty C.P) (ho : o.op = .call { callee := .builtin .len, args := #[x], argTypes := #[T] }) (hd : dstB N o.dst = true) (hT : (ty.ty T).sl = some (E, s, bs)) (hx : st.ev C x = .sv i off n) : ValOp C N o st (.f (.v (.int .i64 n))) :=
  valop_run hd fun w0 a w J st' hA S => by
    have e1 := S.eval x
    rw [hA.ev x (by simp [ho, Op.operands, Call.operands]), hx] at e1
    obtain ⟨_, ad, c, hv, _⟩ := e1
    have hu := (slE_spec ((ty.ok T).sl _ hT)).1
    exact ⟨_, w, by simp [execOp, ho, resolve, invoke, builtin, Builtin.len_, hv, run_underlying hu, goInt], Ext.refl _, RepF.v _⟩
theorem v_idx_sv {o : Oper} {st : St} {T : TypeId} {x y : Operand} {i off n E s bs : Nat} {k : IntKind} {z : Int} (ty : Ty C.P) (ho : o.op = .indexAddr T x y) (hd : dstB N o.dst = true) (hT : (ty.ty T).sl = some (E, s, bs)) (hx : st.ev C x = .sv i off n) (hy : st.ev C y = .f (.v (.int k z)))
    (h0 : 0 ≤ z) (hn : z < n) : ValOp C N o st (.bx i (off + z.toNat * s)) :=
  valop_run hd fun w0 a w J st' hA S => by
    have e1 := S.eval x
    rw [hA.ev x (by simp [ho, Op.operands]), hx] at e1
    have e2 := evV S ((hA.ev y (by simp [ho, Op.operands])).trans hy)
    obtain ⟨hlv, ad, c, hv, hc, hb⟩ := e1
    obtain ⟨b, hb1, rfl⟩ := hb (by omega)
    exact ⟨_, w, by simp [execOp, ho, hv, e2, run_idx ((ty.ok T).sl _ hT) h0 hn], Ext.refl _, hlv, b, hb1, rfl⟩
def zerosF (zs : List Value) (n : Nat) : List FV := (Builtin.zeroCells zs.toArray n).toList.map FV.v
theorem repL_vs {w : World} {M : Nat → Prop} (us : List Value) : RepL w M us (us.map FV.v) := ⟨by simp, fun k u x h1 h2 => by
  rw [List.getElem?_map, h1] at h2
  simp at h2; subst h2; exact RepF.v _⟩
theorem setAt_nil {α : Type} (cs : List α) (o : Nat) : setAt cs o [] = cs := rfl
theorem take_setAt_ge {α : Type} : ∀ (r cs : List α) (o k : Nat), k ≤ o → (setAt cs o r).take k = cs.take k
  | [], _, _, _, _ => rfl
  | x :: r, cs, o, k, h => by rw [setAt, take_setAt_ge r _ _ _ (by omega), List.take_set_of_le h]
theorem e_clear_sv {o : Oper} {st : St} {T i off n e sz m E s bs : Nat} {x : Operand} {cs : List FV} {zs : List Value} (ty : Ty C.P) (ho : o.op = .call { callee := .builtin .clear, args := #[x], argTypes := #[T] }) (hd : o.dst = none) (hT : (ty.ty T).sl = some (E, s, bs)) (hz : (ty.ty E).zero = some zs) (h1c : zs.all Value.oneCell' = true)
    (hx : st.ev C x = .sv i off n) (hi : st.h i = some (.row e sz m cs)) (hl : off + n * zs.length ≤ cs.length) :
    EffOp C N o st { st with h := upd st.h i (some (.row e sz m (setAt cs off (zerosF zs n)))) } :=
  effop_run fun w0 a w J S => by
    have e1 := S.eval x
    rw [hx] at e1
    obtain ⟨hlv, ad, c, hv, hc, hb⟩ := e1
    obtain ⟨hu, it, hi1, rfl, _⟩ := slE_spec ((ty.ok T).sl _ hT)
    obtain ⟨it', z, hi4, hzz, hzl'⟩ := zero_spec ((ty.ok E).zero zs hz)
    rw [hi1] at hi4; cases hi4
    by_cases hn0 : n = 0
    · subst hn0
      have e0 : zerosF zs 0 = [] := by simp [zerosF, Builtin.zeroCells]
      refine ⟨.value (.tuple #[]), .tuple #[], w, ?_, .inl rfl, J, ?_⟩
      · cases ad <;> simp [execOp, ho, resolve, invoke, builtin, Builtin.clear_, hv, run_underlying hu]
      · rw [hd, e0, setAt_nil]
        have : (fun j => upd st.h i (some (.row e sz m cs)) j) = st.h := by
          funext j
          by_cases ej : j = i
          · subst ej; rw [upd_same, hi]
          · rw [upd_other _ _ ej]
        show Sim C w0 N { st with h := fun j => upd st.h i (some (.row e sz m cs)) j } a w J
        rw [this]; exact S
    · obtain ⟨b, hb1, rfl⟩ := hb hn0
      obtain ⟨xs, q1, q0, q2, q3⟩ := S.blk i _ hi
      rcases q1.2 with ⟨hj, _⟩ | ⟨g, cap, cur, hj, h1, h2, h3, h4, h5, h6⟩
      · rw [hj] at hb1; simp [bk] at hb1
      have hbg : b = g := by rw [hj] at hb1; simpa [bk] using hb1.symm
      subst hbg
      have hxl : xs.length ≤ cur.size := by rw [← h6]; simp [List.length_take]; omega
      have hzc : z.cells = zs.toArray := by rw [← hzl']
      have hZ : (Builtin.zeroCells z.cells n).toList.length = n * zs.length := by rw [hzc]; simp [Builtin.zeroCells]
      have r2 : ∀ u ∈ (Builtin.zeroCells z.cells n).toList, u.oneCell' = true := fun u hu => by
        rw [hzc] at hu
        simp only [Builtin.zeroCells, Array.toList_map, List.mem_map] at hu
        obtain ⟨j, hj, rfl⟩ := hu
        have hj' : j < n * zs.length := by simpa using hj
        have h0 : 0 < zs.length := by
          rcases Nat.eq_zero_or_pos zs.length with h | h
          · rw [h] at hj'; simp at hj'
          · exact h
        have hlt := Nat.mod_lt j h0
        have := List.all_eq_true.1 h1c zs[j % zs.length] (List.getElem_mem hlt)
        simpa [hlt] using this
      have hst := run_storeCells_cells (P := C.P) b off (Builtin.zeroCells z.cells n).toList 0 w (fun j hj => by
        have : off + 0 + j < cur.size := by have := q3.1; rw [hZ] at hj; omega
        simp [World.cell?, h2]; omega) (fun j hj => by simp [World.frozen?, h2]) r2
      have hrun : (execOp a.eval o).run C.P w = .ok (.value (.tuple #[])) (w.setCells b off (Builtin.zeroCells z.cells n).toList) := by
        simp only [Nat.add_zero] at hst
        cases n with
        | zero => exact absurd rfl hn0
        | succ n => simp [execOp, ho, resolve, invoke, builtin, Builtin.clear_, hv, run_underlying hu, zeroValue, typeInfo, hi1, hzz, hst]
      refine ⟨_, _, _, hrun, .inl rfl, J, ?_⟩
      rw [hd]
      obtain ⟨us', g1, g2⟩ := setCells_heap (vs := (Builtin.zeroCells z.cells n).toList) (o := off) h2
      have gr : w.grownBy (w.setCells b off (Builtin.zeroCells z.cells n).toList) (some b) := setCells_grown _ _ _
      have us_len : us'.size = cur.size := by
        have := congrArg List.length g2
        rw [setAt_length] at this
        simpa using this
      have live : ∀ j, (upd st.h i (some (.row e sz m (setAt cs off (zerosF zs n)))) j).isSome = (st.h j).isSome := fun j => by
        by_cases e : j = i
        · subst e; rw [upd_same, hlv]; rfl
        · rw [upd_other _ _ e]
      refine S.write (B := .row e sz m (setAt cs off (zerosF zs n))) hlv hb1 gr ⟨setAt xs off (Builtin.zeroCells z.cells n).toList, ⟨by rw [setAt_length]; exact q1.1, .inr ⟨b, cap, us', hj, h1, g1, h3, h4, by rw [us_len, h5], ?_⟩⟩, q0, setAt_mem q2 r2, ?_⟩ (fun e => by cases e)
      · rw [g2, take_setAt _ _ _ _ (by rw [hZ, ← q1.1, q3.1]; exact hl), h6]
      · refine RepL.setAt off ?_ ?_
        · exact q3.mono (fun c hcl hm => gr.block c hcl (fun e => by cases e; exact hm (.inr ⟨i, hlv, hb1⟩))) gr.size (fun c _ h => h.imp id fun ⟨j, hj, hjb⟩ => ⟨j, by rw [← live]; exact hj, hjb⟩)
        · rw [zerosF, ← hzc]; exact repL_vs _
theorem e_slice_head {o : Oper} {st : St} {T E s bs d : Nat} {x y : Operand} {cs : List FV} {n i e sz : Nat} {h : Int} {k : IntKind} (ty : Ty C.P) (ho : o.op = .slice T x none (some y) none) (hd : o.dst = some d) (hdN : dstB N o.dst = true) (hT : (ty.ty T).sl = some (E, s, bs)) (hx : st.ev C x = .ow i) (hi : st.h i = some (.row e sz n cs))
    (hy : st.ev C y = .f (.v (.int k h))) (h0 : 0 ≤ h) (hn : h ≤ n) (hp : 0 < n) (_hsz : 0 < sz) : EffOp C N o st ((st.grow i (.row e sz h.toNat (cs.take (h.toNat * sz)))).put (some d) (.ow i)) :=
  effop_run fun w0 a w J S => by
    have e1 := S.eval x
    rw [hx] at e1
    obtain ⟨hlv, hv⟩ := e1
    have e2 := evV S hy
    obtain ⟨hu, it, hi1, rfl, _⟩ := slE_spec ((ty.ok T).sl _ hT)
    obtain ⟨xs, q1, q0, q2, q3⟩ := S.blk i _ hi
    rcases q1.2 with ⟨_, rfl⟩ | ⟨g, cap, cur, hj, g1, g2, g3, g4, g5, g6⟩
    · exact absurd hp (by omega)
    have hle : h.toNat ≤ n := by omega
    have hle2 : h.toNat * sz ≤ n * sz := Nat.mul_le_mul_right _ hle
    have hle3 : n * sz ≤ cap * sz := Nat.mul_le_mul_right _ g3
    have hhc : h ≤ (cap : Int) := by omega
    have hrun : (execOp a.eval o).run C.P w = .ok (.value (.slice (if cap = 0 then some ⟨g, 0, none⟩ else some ((⟨g, 0, none⟩ : Addr).add 0)) h.toNat cap)) w := by
      simp [execOp, ho, hv, hj, e2, Instr.sliceAt, Instr.slice, run_underlying hu, Instr.sliceBounds, Instr.sliceBound, asIntOf, sizeOf, typeInfo, hi1, h0, hhc]
    have hva : (if cap = 0 then some (⟨g, 0, none⟩ : Addr) else some ((⟨g, 0, none⟩ : Addr).add 0)) = some ⟨g, 0, none⟩ := by
      split
      · rfl
      · rw [addr_add, Nat.zero_add]
    rw [hva] at hrun
    refine ⟨_, _, w, hrun, .inl rfl, upd J i (.slice (some ⟨g, 0, none⟩) h.toNat cap), ?_⟩
    have hbk : bk (J i) = some g := by rw [hj]; rfl
    have G : Sim C w0 N (st.grow i (.row e sz h.toNat (cs.take (h.toNat * sz)))) a w (upd J i (.slice (some ⟨g, 0, none⟩) h.toNat cap)) := S.regrow hlv (World.grownBy.refl _ _) (fun c hc => .inl (by rw [hbk]; simpa [bk] using hc)) ⟨xs.take (h.toNat * sz), ⟨?_, .inr ⟨g, cap, cur, rfl, g1, g2, by omega, g4, g5, ?_⟩⟩, fun b hb => q0 b (by rw [hbk]; simpa [bk] using hb), fun u hu => q2 u (List.mem_of_mem_take hu), ?_⟩ rfl
    · rw [hd] at hdN ⊢
      refine G.put hdN ⟨?_, ?_⟩
      · show ((st.grow i _).h i).isSome = true
        simp [St.grow]
      · rw [upd_same]
    · rw [List.length_take, q1.1]; omega
    · rw [← g6, List.take_take, Nat.min_eq_left hle2]
    · refine (q3.take _).mono (fun _ _ _ => rfl) (Nat.le_refl _) (fun b hb hm => ?_)
      rcases hm with h0 | ⟨j, hj', hjb⟩
      · exact .inl h0
      by_cases ej : j = i
      · subst ej
        rw [upd_same] at hjb
        exact .inr ⟨j, hlv, by rw [hbk]; simpa [bk] using hjb⟩
      · rw [upd_other _ _ ej] at hjb
        exact .inr ⟨j, by simpa [St.grow, killA_ne ej] using hj', hjb⟩
theorem ev_frz {st : St} {i : Nat} {r : Option FV} {cs : List FV} (x : Operand) : (st.frz i r cs).ev C x = frzA i r cs (st.ev C x) := by
  cases x with
  | tmp t => rfl
  | const v => rfl
  | global g => show (match C.G g with | some cs => AV.f (.pt cs 0) | none => .bot) = frzA i r cs (match C.G g with | some cs => .f (.pt cs 0) | none => .bot); cases C.G g <;> rfl
  | func f => rfl
theorem v_callR {o : Oper} {st : St} {f x0 : Operand} {args : Array Operand} {ts : Array TypeId} {g i e sz n : Nat} {cs : List FV} {caps xs ys : List FV} {r : Value} (K : Summ C.P C.G g ys (.v r)) (ho : o.op = .call { callee := .value f, args := args, argTypes := ts }) (hd : dstB N o.dst = true) (hx : st.ev C x0 = .ow i) (hm : x0 ∈ args.toList) (hi : st.h i = some (.row e sz n cs))
    (hf : (st.frz i (some (.sl n cs)) cs).ev C f = .f (.fn g caps)) (hxs : (st.frz i (some (.sl n cs)) cs).evL C args.toList = some xs) (hys : xs ++ caps = ys) : ValOp C N o st (.f (.v r)) := by
  intro w0 a w st' hA ⟨J, S⟩ K1 Q hK
  have hop : ∀ x ∈ args.toList, st'.ev C x = st.ev C x := fun x hx => hA.ev x (by simp [ho, Op.operands, Call.operands]; exact .inr (by simpa using hx))
  have e0 := S.eval x0
  rw [hop x0 hm, hx] at e0
  have hi' : st'.h i = some (.row e sz n cs) := by
    rcases hA.hp i _ hi with e' | ⟨B', e', m⟩
    · have e1 := e0.1; rw [e'] at e1; cases e1
    · rcases m with rfl | ⟨_, _, e2, _⟩
      · exact e'
      · cases e2
  have S2 := S.frz_row hi'
  have hfz : ∀ x, st'.ev C x = st.ev C x → (st'.frz i (some (.sl n cs)) cs).ev C x = (st.frz i (some (.sl n cs)) cs).ev C x := fun x h => by rw [ev_frz, ev_frz, h]
  have e1 := evF S2 ((hfz f (hA.ev f (by simp [ho, Op.operands, Call.operands]))).trans hf)
  have R := evL_rep (st := st.frz i (some (.sl n cs)) cs) S2 (fun x hx => hfz x (hop x hx)) hxs
  generalize hv : a.eval f = v at e1
  cases e1 with
  | fn _ _ us h1 h2 =>
    subst hys
    have RR := RepL.append R ⟨h1, h2⟩
    have hrun : (execOp a.eval o).run C.P w = .ok (.enter g (args.toList.map a.eval ++ us).toArray) w := by
      have e2 : (args.map a.eval ++ us.toArray) = (args.toList.map a.eval ++ us).toArray := by
        apply Array.ext'; simp
      simp only [execOp, ho, resolve, hv, Deferred.ofValue, Sem.run_bind, Sem.run_pure, Result.andThen_ok, invoke]
      rw [show (#[] : Array Value) ++ args.map a.eval = args.map a.eval by simp, e2]
      exact K.enters _ _
    refine op_enter hrun ?_
    refine Calls.mono (K.call w (Mb C (st'.frz i (some (.sl n cs)) cs).h J) _ (mb_lt S2) S2.glob RR) ?_
    rintro e w' ⟨v', rfl, hr, he⟩
    have := repV hr
    subst this
    exact hK v' w' ⟨J, (S.toExt he).put hd (RepF.v _)⟩
variable {Q : Exit → St → Prop} {st : St} {ops : Array Oper} {pr : Bool} {K : St → Prop} {rest : List Oper} {d : Option Tmp} {T0 : TypeId} {pos : String} {af : Array Edge} {g : Option (Nat × Bool)}
theorem s_ldrs (ty : Ty C.P) {T : TypeId} {x : Operand} {cs sub : List FV} {e sz m i off n : Nat} (hw : wantB st ops ⟨d, .load T x, T0, pos, af, g⟩ = some true) (hd : dstB N d = true) (hT : (ty.ty T).agg = some n) (hx : st.ev C x = .bx i off) (hi : st.h i = some (.row e sz m cs)) (hc : (cs.drop off).take n = sub) (hl : sub.length = n)
    (h : R C N ops pr K rest (st.put d (.f (.agg sub)))) : R C N ops pr K (⟨d, .load T x, T0, pos, af, g⟩ :: rest) st := ⟨r_val hw (v_load_rows ty rfl hd hT hx hi hc hl) h.out⟩
theorem s_slice_ow (ty : Ty C.P) {T E s bs : Nat} {x y : Operand} {cs : List FV} {n i e sz : Nat} {l : Int} {k : IntKind} (hd : dstB N d = true) (hT : (ty.ty T).sl = some (E, s, bs)) (hx : st.ev C x = .ow i) (hi : st.h i = some (.row e sz n cs)) (hy : st.ev C y = .f (.v (.int k l))) (h0 : 0 ≤ l) (hlh : l ≤ n)
    (h : R C N ops pr K rest (st.put d (.sv i (l.toNat * s) (n - l.toNat)))) : R C N ops pr K (⟨d, .slice T x (some y) none none, T0, pos, af, none⟩ :: rest) st := ⟨r_val rfl (v_slice_ow ty rfl hd hT hx hi hy h0 hlh) h.out⟩
theorem s_len_sv (ty : Ty C.P) {T : TypeId} {x : Operand} {i off n E s bs : Nat} (hd : dstB N d = true) (hT : (ty.ty T).sl = some (E, s, bs)) (hx : st.ev C x = .sv i off n)
    (h : R C N ops pr K rest (st.put d (.f (.v (.int .i64 n))))) : R C N ops pr K (⟨d, .call { callee := .builtin .len, args := #[x], argTypes := #[T] }, T0, pos, af, none⟩ :: rest) st := ⟨r_val rfl (v_len_sv ty rfl hd hT hx) h.out⟩
theorem s_idx_sv (ty : Ty C.P) {T : TypeId} {x y : Operand} {i off n E s bs : Nat} {k : IntKind} {z : Int} (hd : dstB N d = true) (hT : (ty.ty T).sl = some (E, s, bs)) (hx : st.ev C x = .sv i off n) (hy : st.ev C y = .f (.v (.int k z))) (h0 : 0 ≤ z) (hn : z < n)
    (h : R C N ops pr K rest (st.put d (.bx i (off + z.toNat * s)))) : R C N ops pr K (⟨d, .indexAddr T x y, T0, pos, af, none⟩ :: rest) st := ⟨r_val rfl (v_idx_sv ty rfl hd hT hx hy h0 hn) h.out⟩
theorem s_clear_sv (ty : Ty C.P) {T i off n e sz m E s bs : Nat} {x : Operand} {cs : List FV} {zs : List Value} (hT : (ty.ty T).sl = some (E, s, bs)) (hz : (ty.ty E).zero = some zs) (h1c : zs.all Value.oneCell' = true) (hx : st.ev C x = .sv i off n) (hi : st.h i = some (.row e sz m cs)) (hl : off + n * zs.length ≤ cs.length)
    (h : R C N ops false K rest { st with h := upd st.h i (some (.row e sz m (setAt cs off (zerosF zs n)))) }) : R C N ops false K (⟨none, .call { callee := .builtin .clear, args := #[x], argTypes := #[T] }, T0, pos, af, none⟩ :: rest) st := ⟨r_eff rfl (e_clear_sv ty rfl rfl hT hz h1c hx hi hl) h.out⟩
theorem s_slice_head (ty : Ty C.P) {T E s bs d : Nat} {x y : Operand} {cs : List FV} {n i e sz : Nat} {l : Int} {k : IntKind} (hdN : dstB N (some d) = true) (hT : (ty.ty T).sl = some (E, s, bs)) (hx : st.ev C x = .ow i) (hi : st.h i = some (.row e sz n cs)) (hy : st.ev C y = .f (.v (.int k l))) (h0 : 0 ≤ l) (hn : l ≤ n) (hp : 0 < n) (hsz : Nat.blt 0 sz = true)
    (h : R C N ops false K rest ((st.grow i (.row e sz l.toNat (cs.take (l.toNat * sz)))).put (some d) (.ow i))) : R C N ops false K (⟨some d, .slice T x none (some y) none, T0, pos, af, none⟩ :: rest) st := ⟨r_eff rfl (e_slice_head ty rfl rfl hdN hT hx hi hy h0 hn hp (Nat.le_of_ble_eq_true hsz)) h.out⟩
theorem s_callR {f : Operand} {args : Array Operand} {ts : Array TypeId} {gf e sz n : Nat} {cs : List FV} {caps xs ys : List FV} {r : Value} (i : Nat) (x0 : Operand) (S : Summ C.P C.G gf ys (.v r)) (hw : wantB st ops ⟨d, .call { callee := .value f, args := args, argTypes := ts }, T0, pos, af, g⟩ = some true) (hd : dstB N d = true) (hx : st.ev C x0 = .ow i) (hm : x0 ∈ args.toList) (hi : st.h i = some (.row e sz n cs))
    (hf : (st.frz i (some (.sl n cs)) cs).ev C f = .f (.fn gf caps)) (hxs : (st.frz i (some (.sl n cs)) cs).evL C args.toList = some xs) (hys : xs ++ caps = ys)
    (h : R C N ops pr K rest (st.put d (.f (.v r)))) : R C N ops pr K (⟨d, .call { callee := .value f, args := args, argTypes := ts }, T0, pos, af, g⟩ :: rest) st := ⟨r_val hw (v_callR S rfl hd hx hm hi hf hxs hys) h.out⟩
end
end Go.Ab
namespace Go.Ab
open Go Go.RowKit Go.Shelf Go.Proofs
section
variable {C : Ctx} {N : Nat}
def GroOp (C : Ctx) (N : Nat) (o : Oper) (st : St) (i : Nat) (B : Blk) (d : Nat) : Prop := o.guard = none ∧ o.dst = some d ∧
  ∀ w0 a w st', Agree C o st st' → (∀ k, st'.h k = st.h k) → SimE C w0 N st' a w → ∀ K Q, (∀ v w', SimE C w0 N ((st'.grow i B).put (some d) (.ow i)) (a.put o.dst v) w' → K (a.put o.dst v) w') → o.wpIn (Fence.wr C.ro) 7 C.P a w K Q
def midB (l : List Oper) (bf : Nat → Nat) (e n0 : Nat) : Bool := (List.range e).all (fun j => (bf e).testBit j) && (List.range n0).all fun j => Nat.ble j e || match l[j]? with
  | some o => (List.range j).all fun i => Nat.ble i e || match l[i]?, o.dst with
    | some oi, some d => (match oi.dst with | some d' => !(Nat.beq d' d) | none => true)
    | _, _ => true
  | none => true
def dstsB (l : List Oper) (s1 s2 : Nat → AV) (i : Nat) : Prop := match l with
  | [] => True
  | o :: l => (match o.dst with | some t => killA i (s1 t) = s2 t | none => True) ∧ dstsB l s1 s2 i
theorem dstsB_mem {s1 s2 : Nat → AV} {i : Nat} : ∀ {l : List Oper}, dstsB l s1 s2 i → ∀ {o : Oper} {t : Nat}, o ∈ l → o.dst = some t → killA i (s1 t) = s2 t
  | [], _, _, _, h, _ => by cases h
  | x :: l, hd, o, t, h, ht => by
    rcases List.mem_cons.1 h with rfl | h
    · have := hd.1; rw [ht] at this; exact this
    · exact dstsB_mem hd.2 h ht
variable {l : List Oper} {n0 : Nat}
theorem midB_light {bf : Nat → Nat} {e : Nat} (h : midB l bf e n0 = true) {j : Nat} {o : Oper} (hj : j < n0) (he : e < j) (ho : l[j]? = some o) : ∀ i oi, e < i → i < j → l[i]? = some oi → ∀ t, o.dst = some t → oi.dst ≠ some t := by
  unfold midB at h
  rw [Bool.and_eq_true] at h
  have h1 := List.all_eq_true.1 h.2 j (List.mem_range.2 hj)
  have hn : Nat.ble j e = false := by cases q : Nat.ble j e; rfl; have := Nat.le_of_ble_eq_true q; omega
  rw [hn, Bool.false_or, ho] at h1
  intro i oi hei hij hoi t ht hd
  have h2 := List.all_eq_true.1 h1 i (List.mem_range.2 hij)
  have hn2 : Nat.ble i e = false := by cases q : Nat.ble i e; rfl; have := Nat.le_of_ble_eq_true q; omega
  rw [hn2, Bool.false_or, hoi, ht] at h2
  simp only [hd] at h2
  have : Nat.beq t t = true := Nat.beq_refl t
  rw [this] at h2; cases h2
theorem draw_sound2 {id : Nat} {Q : St → Prop} {st : St} {Qc : Exit → Act → World → Prop} (e : Nat) (hm : C.P.follows .mixedOrders = true) (hok : okReg l n0 = true) (hmid : midB l (bitsOf l) e n0 = true) (hen : e < n0) {oo : Oper} (hoo : l[e]? = some oo)
    (hrun : Run C N l.toArray true (fun stE => ∃ i B d, GroOp C N oo stE i B d ∧ Run C N l.toArray true (fun st1 => Run C N l.toArray true (fun st2 => (dstsB ((l.take n0).drop (e + 1)) st1.s st2.s i ∧ st1.nx = stE.nx ∧ st2.nx = stE.nx) ∧ Run C N l.toArray false Q (l.drop n0) st2) ((l.take n0).drop (e + 1)) ((stE.grow i B).put (some d) (.ow i))) ((l.take n0).drop (e + 1)) stE) (l.take e) st)
    {w0 : World} {a : Act} {w : World} (S : SimE C w0 N st a w) (hq : ∀ st' a' w', Q st' → SimE C w0 N st' a' w' → Qc .normal a' w') : (Code.region id l.toArray true).wpIn (Fence.wr C.ro) 7 C.P Qc a w := by
  simp only [okReg, Bool.and_eq_true] at hok
  obtain ⟨⟨⟨⟨hup, hb⟩, hap⟩, htl⟩, hle⟩ := hok
  have hle' : n0 ≤ l.length := Nat.le_of_ble_eq_true hle
  obtain ⟨s1, e1, r1, q1⟩ := hrun.states
  have htk : (l.take e).length = e := by simp; omega
  rw [htk] at q1
  obtain ⟨bi, BB, bd, hgro, q1⟩ := q1
  have hmidl : ((l.take n0).drop (e + 1)).length = n0 - (e + 1) := by simp; omega
  obtain ⟨s2, e2, r2, q2⟩ := q1.states
  rw [hmidl] at q2
  obtain ⟨s3, e3, r3, q3⟩ := q2.states
  rw [hmidl] at q3
  obtain ⟨⟨hds, hnx1, hnx2⟩, q3⟩ := q3
  obtain ⟨s4, e4, r4, q4⟩ := q3.states
  obtain ⟨sa, hsa⟩ : ∃ sa : Nat → St, sa = fun i => if i ≤ e then s1 i else s2 (i - (e + 1)) := ⟨_, rfl⟩
  obtain ⟨sb, hsb⟩ : ∃ sb : Nat → St, sb = fun i => if i ≤ e + 1 then ((s1 e).grow bi BB).put (some bd) (.ow bi) else if i ≤ n0 then s3 (i - (e + 1)) else s4 (i - n0) := ⟨_, rfl⟩
  have a1 : ∀ i, i ≤ e → sa i = s1 i := fun i hi => by rw [hsa]; simp [hi]
  have a2 : ∀ i, e + 1 ≤ i → sa i = s2 (i - (e + 1)) := fun i hi => by rw [hsa]; simp [show ¬ i ≤ e by omega]
  have a3 : sa (e + 1) = sa e := by rw [a2 _ (Nat.le_refl _), Nat.sub_self, e2, a1 e (Nat.le_refl _)]
  have b1 : ∀ i, i ≤ e + 1 → sb i = ((sa e).grow bi BB).put (some bd) (.ow bi) := fun i hi => by rw [hsb, a1 e (Nat.le_refl _)]; simp [hi]
  have b2 : ∀ i, e + 1 ≤ i → i ≤ n0 → sb i = s3 (i - (e + 1)) := fun i hi hn => by
    by_cases q : i = e + 1
    · subst q; rw [b1 _ (Nat.le_refl _), Nat.sub_self, e3, a1 e (Nat.le_refl _)]
    · rw [hsb]; simp [show ¬ i ≤ e + 1 by omega, hn]
  have b3 : ∀ i, n0 ≤ i → sb i = s4 (i - n0) := fun i hi => by
    by_cases q : i = n0
    · subst q; rw [b2 _ (by omega) (Nat.le_refl _), Nat.sub_self, e4]
    · rw [hsb]; simp [show ¬ i ≤ e + 1 by omega, show ¬ i ≤ n0 by omega]
  have getm : ∀ i o, e + 1 ≤ i → i < n0 → l[i]? = some o → ((l.take n0).drop (e + 1))[i - (e + 1)]? = some o := fun i o h1 h2 ho => by
    rw [List.getElem?_drop, show e + 1 + (i - (e + 1)) = i by omega, List.getElem?_take, if_pos h2]; exact ho
  have oneA : ∀ i o, i < n0 → i ≠ e → l[i]? = some o → One C N l.toArray true o (sa i) (sa (i + 1)) := fun i o hi hne ho => by
    rcases Nat.lt_or_gt_of_ne hne with h | h
    · rw [a1 i (by omega), a1 (i + 1) h]
      exact r1 i o (by rw [List.getElem?_take, if_pos h]; exact ho)
    · rw [a2 i h, a2 (i + 1) (by omega), show i + 1 - (e + 1) = (i - (e + 1)) + 1 by omega]
      exact r2 _ o (getm i o h hi ho)
  have oneB : ∀ i o, e < i → i < n0 → l[i]? = some o → One C N l.toArray true o (sb i) (sb (i + 1)) := fun i o hei hi ho => by
    rw [b2 i hei (by omega), b2 (i + 1) (by omega) hi, show i + 1 - (e + 1) = (i - (e + 1)) + 1 by omega]
    exact r3 _ o (getm i o hei hi ho)
  have chA : Chain C N l n0 sa := ⟨fun i o hi ho => by
      by_cases he : i = e
      · subst he; exact .inr a3
      · exact .inl (oneA i o hi he ho), hle'⟩
  have chB : Chain C N l n0 sb := ⟨fun i o hi ho => by
      by_cases he : i ≤ e
      · exact .inr (by rw [b1 i (by omega), b1 (i + 1) (by omega)])
      · exact .inl (oneB i o (by omega) hi ho), hle'⟩
  have post : ∀ i o, n0 ≤ i → l[i]? = some o → One C N l.toArray false o (sb i) (sb (i + 1)) := fun i o hi ho => by
      rw [b3 i hi, b3 (i + 1) (by omega), show i + 1 - n0 = (i - n0) + 1 by omega]
      exact r4 (i - n0) o (by rw [List.getElem?_drop, show n0 + (i - n0) = i by omega]; exact ho)
  have hend : Q (sb l.length) := by
    rw [b3 _ hle']; simpa using q4
  have hAe : (sa n0).nx = (sa e).nx := by rw [a2 n0 (by omega), a1 e (Nat.le_refl _)]; exact hnx1
  have hBe : (sb n0).nx = (sb 0).nx := by
    rw [b2 n0 (by omega) (Nat.le_refl _), b1 0 (by omega), a1 e (Nat.le_refl _)]; exact hnx2
  have lit : ∀ i, e ≤ i → i < n0 → (sa (i + 1)).nx = (sa i).nx ∧ (sa (i + 1)).h = (sa i).h := fun i hei hi => by
    obtain ⟨o, ho, h1⟩ := chA.one hi
    have m1 := chA.nx_mono (i := e) (j := i) hei (by omega)
    have m2 := chA.nx_mono (i := i + 1) (j := n0) hi (Nat.le_refl _)
    rcases h1.slot.2 with h2 | ⟨h2, _⟩
    · exact h2
    · omega
  have litB : ∀ i, i < n0 → (sb (i + 1)).nx = (sb i).nx ∧ (sb (i + 1)).h = (sb i).h := fun i hi => by
    obtain ⟨o, ho, h1⟩ := chB.one hi
    have m1 := chB.nx_mono (i := 0) (j := i) (Nat.zero_le _) (by omega)
    have m2 := chB.nx_mono (i := i + 1) (j := n0) hi (Nat.le_refl _)
    rcases h1.slot.2 with h2 | ⟨h2, _⟩
    · exact h2
    · omega
  have hBh : ∀ m, m ≤ n0 → (sb m).h = (sb 0).h := fun m => by
    induction m with
    | zero => intro _; rfl
    | succ m ih => intro hmn; rw [(litB m hmn).2, ih (by omega)]
  have hBheap : ∀ (s : Nat → Bool) m, m ≤ n0 → ∀ k, heapS sb s m k = (sb 0).h k := fun s m => by
    induction m with
    | zero => intro _ k; rfl
    | succ m ih =>
      intro hmn k
      unfold heapS
      rw [if_neg (fun hc => by have := (litB m hmn).1; omega)]
      exact ih (by omega) k
  have tail : ∀ {s : Nat → Bool}, (∀ i o, l[i]? = some o → s i = true → ∀ e ∈ o.after, Region.binds .any e = true → s e.on = true) → ∀ (i : Nat) (o : Oper), n0 ≤ i → l[i]? = some o → (∀ e ∈ o.after, Region.binds .any e = true → s e.on = true) → ∀ j, j < i → s j = true := fun hdc i o hi ho he j hj => by
    have h1 := List.all_eq_true.1 htl i (List.mem_range.2 (List.getElem?_eq_some_iff.1 ho).1)
    have : Nat.blt i n0 = false := by cases e : Nat.blt i n0; rfl; have := Nat.le_of_ble_eq_true e; omega
    rw [this, Bool.false_or] at h1
    exact bits_done hb hup hdc i o ho he j hj (List.all_eq_true.1 h1 j (List.mem_range.2 hj))
  have early : ∀ {s : Nat → Bool}, (∀ i o, l[i]? = some o → s i = true → ∀ e ∈ o.after, Region.binds .any e = true → s e.on = true) → (∀ e ∈ oo.after, Region.binds .any e = true → s e.on = true) → ∀ j, j < e → s j = true := fun hdc he j hj => by
    unfold midB at hmid
    rw [Bool.and_eq_true] at hmid
    exact bits_done hb hup hdc e oo hoo he j hj (List.all_eq_true.1 hmid.1 j (List.mem_range.2 hj))
  have full : ∀ {s : Nat → Bool} {a : Act} {w : World}, (∀ j, j < n0 → s j = true) → SimE C w0 N ⟨slotS l sb s n0, heapS sb s n0, 0⟩ a w → SimE C w0 N (sb n0) a w := fun {s} _ _ hall S => by
    refine S.cast (fun t => ?_) (fun k => ?_)
    · exact (chB.slot_eq (i := n0) (fun m hm _ => hall m hm) n0 (Nat.le_refl _) (Nat.le_refl _)).symm
    · exact (chB.heap_full hall n0 (Nat.le_refl _)).symm
  refine wpIn_region_inv hm hup (fun s a w => (∀ i o, l[i]? = some o → s i = true → ∀ e ∈ o.after, Region.binds .any e = true → s e.on = true) ∧
    (((∀ i, n0 ≤ i → s i = false) ∧ (s e = false ∧ SimE C w0 N ⟨slotS l sa s n0, heapS sa s n0, 0⟩ a w ∨ s e = true ∧ SimE C w0 N ⟨slotS l sb s n0, heapS sb s n0, 0⟩ a w)) ∨ ∃ m, n0 ≤ m ∧ (∀ i, i < l.length → (s i = true ↔ i < m)) ∧ m ≤ l.length ∧ SimE C w0 N (sb m) a w)) ?_ ?_ ?_
  · refine ⟨fun i o _ h => (by cases h), .inl ⟨fun _ _ => rfl, .inl ⟨rfl, ?_⟩⟩⟩
    have S' : SimE C w0 N st a w.drew := let ⟨J, S⟩ := S; ⟨J, S.toExt (Ext.drew w)⟩
    rw [← e1, ← a1 0 (Nat.zero_le _)] at S'
    refine S'.cast (fun t => ?_) (fun k => ?_)
    · exact slot_more (l := l) (i := 0) (fun m _ _ h => by cases h) (Nat.zero_le _)
    · have : ∀ m, heapS sa (fun _ => false) m k = (sa 0).h k := fun m => by
        induction m with
        | zero => rfl
        | succ m ih => unfold heapS; rw [if_neg (by simp)]; exact ih
      exact this n0
  · rintro s a w i o ho hs hedge ⟨hdc, hInv⟩
    have ho' : l[i]? = some o := by simpa using ho
    have hil : i < l.length := (List.getElem?_eq_some_iff.1 ho').1
    have hdc' : ∀ j oj, l[j]? = some oj → (decide (j = i) || s j) = true → ∀ e ∈ oj.after, Region.binds .any e = true → (decide (e.on = i) || s e.on) = true := fun j oj hj hsj e he hbe => by
      by_cases ej : j = i
      · subst ej; rw [ho'] at hj; cases hj; rw [hedge e he hbe]; simp
      · rw [hdc j oj hj (by simpa [ej] using hsj) e he hbe]; simp
    unfold wpOpIn
    simp only [ho]
    obtain ⟨Inv, hInvE⟩ : ∃ Inv : Act → World → Prop, Inv = fun a' w' => (∀ j oj, l[j]? = some oj → (decide (j = i) || s j) = true → ∀ e ∈ oj.after, Region.binds .any e = true → (decide (e.on = i) || s e.on) = true) ∧
          (((∀ j, n0 ≤ j → (decide (j = i) || s j) = false) ∧ ((decide (e = i) || s e) = false ∧ SimE C w0 N ⟨slotS l sa (fun j => decide (j = i) || s j) n0, heapS sa (fun j => decide (j = i) || s j) n0, 0⟩ a' w' ∨ (decide (e = i) || s e) = true ∧ SimE C w0 N ⟨slotS l sb (fun j => decide (j = i) || s j) n0, heapS sb (fun j => decide (j = i) || s j) n0, 0⟩ a' w')) ∨ ∃ m, n0 ≤ m ∧ (∀ j, j < l.length → ((decide (j = i) || s j) = true ↔ j < m)) ∧ m ≤ l.length ∧ SimE C w0 N (sb m) a' w') := ⟨_, rfl⟩
    have late : ∀ m, n0 ≤ m → (∀ i, i < l.length → (s i = true ↔ i < m)) → m ≤ l.length → SimE C w0 N (sb m) a w → n0 ≤ i →
        if Region.wanted o (yielded l.toArray a.tmps) then o.wpIn (Fence.wr C.ro) 7 C.P a w Inv Qc else Inv (a.put o.dst undef) w := by
      intro m hm hall hml S hin
      have him : i = m := by
        have h1 : ¬ i < m := fun h => by rw [(hall i hil).2 h] at hs; cases hs
        refine Classical.byContradiction fun hc => ?_
        have h2 := tail hdc i o hin ho' hedge m (by omega)
        have := (hall m (by omega)).1 h2
        omega
      subst him
      refine (post i o hin ho').wp S (fun a' w' S' => ?_)
      rw [hInvE]
      refine ⟨hdc', .inr ⟨i + 1, by omega, fun j hj => ?_, hil, S'⟩⟩
      have := hall j hj
      by_cases ej : j = i
      · subst ej; simp
      · simp only [show decide (j = i) = false by simp [ej], Bool.false_or, this]; omega
    refine both_in (fun _ _ => trivial) ?_
    suffices hgoal : if Region.wanted o (yielded l.toArray a.tmps) then o.wpIn (Fence.wr C.ro) 7 C.P a w Inv Qc else Inv (a.put o.dst undef) w by rw [hInvE] at hgoal; exact hgoal
    rcases hInv with ⟨hin, hAB⟩ | ⟨m, hm, hall, hml, S⟩
    · by_cases hi : i < n0
      · rcases hAB with ⟨hse, S⟩ | ⟨hse, S⟩
        · by_cases hie : i = e
          ·
            subst hie
            rw [hoo] at ho'; cases ho'
            have hdone := early hdc hedge
            have hheap : ∀ k, heapS sa s n0 k = (sa i).h k := fun k => by
              rw [chA.heap_here n0 (Nat.le_refl _) (fun j hj hx => by
                by_cases hji : j < i
                · exact hdone j hji
                · have := (lit j (by omega) hj).1; omega)]
              have : ∀ m, i ≤ m → m ≤ n0 → (sa m).h = (sa i).h := fun m him => by
                induction him with
                | refl => intro _; rfl
                | step h ih => intro hmn; rw [(lit _ h (by omega)).2, ih (by omega)]
              rw [this n0 (by omega) (Nat.le_refl _)]
            obtain ⟨conf2, read⟩ := chA.read hb hup (Nat.le_refl _) hap hdc hi hoo hs hedge
            have agr : Agree C oo (sa i) ⟨slotS l sa s n0, heapS sa s n0, 0⟩ := ⟨fun x hx => by
              cases x with
              | tmp t => exact read t (by unfold Oper.looksAt; simp only [List.mem_append, List.mem_filterMap]; exact .inl ⟨.tmp t, hx, rfl⟩)
              | _ => rfl, fun k B hB => .inr ⟨B, (hheap k).trans hB, .inl rfl⟩⟩
            obtain ⟨g0, gd, gw⟩ := hgro
            rw [← a1 i (Nat.le_refl _)] at gw
            have hwt : wantB ⟨slotS l sa s n0, heapS sa s n0, 0⟩ l.toArray oo = some true := by unfold wantB; rw [g0]
            rw [want_sim S hwt, if_pos rfl]
            refine gw w0 a w _ agr hheap S _ _ (fun v w' S' => ?_)
            rw [hInvE]
            refine ⟨hdc', .inl ⟨fun j hj => by rw [hin j hj]; simp; omega, .inr ⟨by simp, S'.cast (fun t => ?_) (fun k => ?_)⟩⟩⟩
            · show slotS l sb (fun j => decide (j = i) || s j) n0 t = (St.put (St.grow ⟨slotS l sa s n0, heapS sa s n0, 0⟩ bi BB) (some bd) (.ow bi)).s t
              by_cases hd : t = bd
              · subst hd
                have e5 : slotS l sb (fun j => decide (j = i) || s j) n0 t = slotS l sb (fun j => decide (j = i) || s j) (i + 1) t := slot_more (fun m hm hmn hsm hdm => by
                  have hmi : ¬ m = i := by omega
                  have hsm' : s m = true := by simpa [hmi] using hsm
                  have hom := List.getElem?_eq_getElem (show m < l.length by omega)
                  rw [hom] at hdm
                  have := conf2 m _ hmn hom (by omega) (by
                    cases hc : oo.apart l.toArray l[m] with
                    | false => rfl
                    | true => exact absurd hdm ((Oper.apart_spec hc).2.1 t gd))
                  rw [this] at hsm'; cases hsm') (by omega)
                rw [e5]
                show (if (decide (i = i) || s i) = true ∧ (l[i]?).bind (·.dst) = some t then (sb (i + 1)).s t else slotS l sb (fun j => decide (j = i) || s j) i t) = _
                rw [if_pos ⟨by simp, by rw [hoo]; exact gd⟩, b1 _ (Nat.le_refl _)]
                simp only [St.put, upd_same]
              · have hbase : ∀ m, m ≤ i + 1 → slotS l sb (fun j => decide (j = i) || s j) m t = killA bi ((sa i).s t) := fun m => by
                  induction m with
                  | zero =>
                    intro _
                    show (sb 0).s t = _
                    rw [b1 0 (by omega)]; simp only [St.put]; rw [upd_other _ _ hd]; rfl
                  | succ m ih =>
                    intro hmi
                    show (if (decide (m = i) || s m) = true ∧ (l[m]?).bind (·.dst) = some t then (sb (m + 1)).s t else slotS l sb (fun j => decide (j = i) || s j) m t) = _
                    split
                    · rw [b1 (m + 1) hmi]; simp only [St.put]; rw [upd_other _ _ hd]; rfl
                    · exact ih (by omega)
                have hA0 : slotS l sa s (i + 1) t = (sa i).s t := by
                  show (if s i = true ∧ (l[i]?).bind (·.dst) = some t then (sa (i + 1)).s t else slotS l sa s i t) = _
                  rw [if_neg (by rw [hs]; simp)]
                  exact chA.slot_eq (i := i) (fun m hm _ => hdone m hm) i (Nat.le_refl _) (by omega)
                have hstep : ∀ m, i + 1 ≤ m → m ≤ n0 → slotS l sb (fun j => decide (j = i) || s j) m t = killA bi (slotS l sa s m t) := fun m him => by
                  induction him with
                  | refl => intro _; rw [hbase _ (Nat.le_refl _), hA0]
                  | @step m him ih =>
                    intro hmn
                    have hmi : ¬ m = i := by have : i + 1 ≤ m := him; omega
                    show (if (decide (m = i) || s m) = true ∧ (l[m]?).bind (·.dst) = some t then (sb (m + 1)).s t else slotS l sb (fun j => decide (j = i) || s j) m t) = killA bi (if s m = true ∧ (l[m]?).bind (·.dst) = some t then (sa (m + 1)).s t else slotS l sa s m t)
                    by_cases hc : s m = true ∧ (l[m]?).bind (·.dst) = some t
                    · rw [if_pos ⟨by simp [hc.1], hc.2⟩, if_pos hc]
                      have hml : m < l.length := by omega
                      have hom := List.getElem?_eq_getElem hml
                      have hdm : (l[m]).dst = some t := by have := hc.2; rw [hom] at this; exact this
                      have endA : (sa (m + 1)).s t = (sa n0).s t := by
                        have : ∀ q, m + 1 ≤ q → q ≤ n0 → (sa q).s t = (sa (m + 1)).s t := fun q hq => by
                          induction hq with
                          | refl => intro _; rfl
                          | @step q hq ih2 =>
                            intro hqn
                            have hq' : m + 1 ≤ q := hq
                            obtain ⟨oq, hoq, h1⟩ := chA.one (show q < n0 by omega)
                            rw [h1.slot.1 t (fun h => (midB_light hmid (show q < n0 by omega) (show i < q by have : i + 1 ≤ m := him; omega) hoq) m _ (show i < m from him) (by omega) hom t h hdm), ih2 (by omega)]
                        exact (this n0 hmn (Nat.le_refl _)).symm
                      have endB : (sb (m + 1)).s t = (sb n0).s t := by
                        have : ∀ q, m + 1 ≤ q → q ≤ n0 → (sb q).s t = (sb (m + 1)).s t := fun q hq => by
                          induction hq with
                          | refl => intro _; rfl
                          | @step q hq ih2 =>
                            intro hqn
                            have hq' : m + 1 ≤ q := hq
                            obtain ⟨oq, hoq, h1⟩ := chB.one (show q < n0 by omega)
                            rw [h1.slot.1 t (fun h => (midB_light hmid (show q < n0 by omega) (show i < q by have : i + 1 ≤ m := him; omega) hoq) m _ (show i < m from him) (by omega) hom t h hdm), ih2 (by omega)]
                        exact (this n0 hmn (Nat.le_refl _)).symm
                      rw [endA, endB]
                      have hmem : l[m] ∈ (l.take n0).drop (i + 1) := List.mem_of_getElem? (getm m _ him (by omega) hom)
                      have := dstsB_mem hds hmem hdm
                      rw [a2 n0 (by omega), b2 n0 (by omega) (Nat.le_refl _)]
                      exact this.symm
                    · rw [if_neg (fun h => hc ⟨by simpa [hmi] using h.1, h.2⟩), if_neg hc]
                      exact ih (by omega)
                rw [hstep n0 (by omega) (Nat.le_refl _)]
                show _ = (St.put (St.grow ⟨slotS l sa s n0, heapS sa s n0, 0⟩ bi BB) (some bd) (.ow bi)).s t
                simp only [St.put]; rw [upd_other _ _ hd]; rfl
            · show heapS sb (fun j => decide (j = i) || s j) n0 k = (St.put (St.grow ⟨slotS l sa s n0, heapS sa s n0, 0⟩ bi BB) (some bd) (.ow bi)).h k
              rw [hBheap _ n0 (Nat.le_refl _) k, b1 0 (by omega)]
              show (bif Nat.beq k bi then some BB else ((sa i).h k).map (killB bi)) = (bif Nat.beq k bi then some BB else (heapS sa s n0 k).map (killB bi))
              rw [hheap k]
          · refine chA.step hb hup (Nat.le_refl _) hap (ov := fun _ => none) (fun _ _ h => by cases h) hdc hi ho' hs hedge S (oneA i o hi hie ho') (fun a' w' S' => ?_)
            rw [hInvE]
            refine ⟨hdc', .inl ⟨fun j hj => by rw [hin j hj]; simp; omega, .inl ⟨by rw [hse]; simp; omega, S'⟩⟩⟩
        · have hei : e < i := by
            refine Nat.lt_of_not_le fun hle2 => ?_
            rcases Nat.lt_or_eq_of_le hle2 with h | h
            · have := early hdc (hdc e oo hoo hse) i h
              rw [hs] at this; cases this
            · subst h; rw [hs] at hse; cases hse
          refine chB.step hb hup (Nat.le_refl _) hap (ov := fun _ => none) (fun _ _ h => by cases h) hdc hi ho' hs hedge S (oneB i o hei hi ho') (fun a' w' S' => ?_)
          rw [hInvE]
          refine ⟨hdc', .inl ⟨fun j hj => by rw [hin j hj]; simp; omega, .inr ⟨by rw [hse]; simp, S'⟩⟩⟩
      · have hall : ∀ j, j < n0 → s j = true := fun j hj => tail hdc i o (by omega) ho' hedge j (by omega)
        rcases hAB with ⟨hse, S⟩ | ⟨hse, S⟩
        · rw [hall e hen] at hse; cases hse
        · refine late n0 (Nat.le_refl _) (fun j hj => ⟨fun h => ?_, fun h => hall j h⟩) hle' (full hall S) (by omega)
          refine Classical.byContradiction fun hc => ?_
          rw [hin j (by omega)] at h; cases h
    · refine late m hm hall hml S ?_
      refine Classical.byContradiction fun hc => ?_
      rw [(hall i hil).2 (by omega)] at hs; cases hs
  · rintro s a w hall ⟨_, hInv⟩
    rcases hInv with ⟨hin, hAB⟩ | ⟨m, hm, hiff, hml, S⟩
    · have hn : n0 = l.length := by
        refine Classical.byContradiction fun hc => ?_
        have := hall n0 (by omega)
        rw [hin n0 (Nat.le_refl _)] at this; cases this
      rcases hAB with ⟨hse, S⟩ | ⟨hse, S⟩
      · rw [hall e (by omega)] at hse; cases hse
      · refine hq (sb l.length) a w hend ?_
        rw [← hn]
        exact full (fun j hj => hall j (by omega)) S
    · have hmm : m = l.length := by
        refine Classical.byContradiction fun hc => ?_
        have := (hiff m (by omega)).1 (hall m (by omega))
        omega
      exact hq _ a w (hmm ▸ hend) (hmm ▸ S)
structure GD (C : Ctx) (N : Nat) (ops : Array Oper) (o : Oper) (mid : List Oper) (K : St → Prop) (st : St) : Prop where
  out : ∃ i B d, GroOp C N o st i B d ∧ Run C N ops true (fun st1 => Run C N ops true (fun st2 => (dstsB mid st1.s st2.s i ∧ st1.nx = st.nx ∧ st2.nx = st.nx) ∧ K st2) mid ((st.grow i B).put (some d) (.ow i))) mid st
structure KD (mid : List Oper) (i n : Nat) (K : St → Prop) (st1 st2 : St) : Prop where
  eqs : dstsB mid st1.s st2.s i
  nx1 : st1.nx = n
  nx2 : st2.nx = n
  out : K st2
theorem w_draw2 {Q : Exit → St → Prop} {id : Nat} {st : St} (e n0 : Nat) (hm : C.P.follows .mixedOrders = true) (hok : okReg l n0 = true) (hmid : (midB l (bitsOf l) e n0 && Nat.blt e n0) = true) {oo : Oper} (hoo : l[e]? = some oo) (h : R C N l.toArray true (GD C N l.toArray oo ((l.take n0).drop (e + 1)) (R C N l.toArray false (Q .normal) (l.drop n0))) (l.take e) st) : W C N (.region id l.toArray true) Q st := by
  rw [Bool.and_eq_true] at hmid
  exact ⟨fun _w0 _a _w _Qc S hq => draw_sound2 e hm hok hmid.1 (Nat.le_of_ble_eq_true hmid.2) hoo (Run.mono (fun _ g => let ⟨i, B, d, h1, h2⟩ := g.out; ⟨i, B, d, h1, Run.mono (fun _ h3 => Run.mono (fun _ h4 => ⟨h4.1, h4.2.out⟩) h3) h2⟩) h.out) S (fun _st' _a' _w' q S' => hq _ _ _ _ q S')⟩
theorem v_gro {o : Oper} {st : St} {T i n m e sz bs d : Nat} {x y : Operand} {cs ys : List FV} {zs : List Value} (ty : Ty C.P) (ho : o.op = .call { callee := .builtin .append, args := #[x, y], argTypes := #[T, T] }) (hg : o.guard = none) (hd : o.dst = some d) (hdN : dstB N o.dst = true) (hT : (ty.ty T).sl = some (e, sz, bs)) (hz : (ty.ty e).zero = some zs) (hzl : zs.length = sz) (hsz : Nat.blt 0 sz = true)
    (hx : st.ev C x = .ow i) (hi : st.h i = some (.row e sz n cs)) (hy : st.ev C y = .f (.sl m ys)) (hl : ys.length = m * sz) (h63 : n + m ≤ maxLen) (hbs : (n + m) * bs ≤ 140737488355328) : GroOp C N o st i (.row e sz (n + m) (cs ++ ys)) d :=
  ⟨hg, hd, fun w0 a w st' hA hh S K Q hK => e_append (st := st') ty ho hd hdN hT hz hzl (Nat.le_of_ble_eq_true hsz) ((hA.ev x (by simp [ho, Op.operands, Call.operands])).trans hx) ((hh i).trans hi) ((hA.ev y (by simp [ho, Op.operands, Call.operands])).trans hy) hl h63 hbs w0 a w S K Q hK⟩
theorem s_gro (ty : Ty C.P) {T0 : TypeId} {pos : String} {af : Array Edge} {K : St → Prop} {ops : Array Oper} {mid : List Oper} {st : St} {T i n m e sz bs d : Nat} {x y : Operand} {cs ys : List FV} {zs : List Value} (hdN : dstB N (some d) = true) (hT : (ty.ty T).sl = some (e, sz, bs)) (hz : (ty.ty e).zero = some zs) (hzl : zs.length = sz) (hsz : Nat.blt 0 sz = true)
    (hx : st.ev C x = .ow i) (hi : st.h i = some (.row e sz n cs)) (hy : st.ev C y = .f (.sl m ys)) (hl : ys.length = m * sz) (h63 : n + m ≤ maxLen) (hbs : (n + m) * bs ≤ 140737488355328)
    (h : R C N ops true (fun st1 => R C N ops true (KD mid i st.nx K st1) mid ((st.grow i (.row e sz (n + m) (cs ++ ys))).put (some d) (.ow i))) mid st) : GD C N ops ⟨some d, .call { callee := .builtin .append, args := #[x, y], argTypes := #[T, T] }, T0, pos, af, none⟩ mid K st :=
  ⟨i, _, d, v_gro ty rfl rfl rfl hdN hT hz hzl hsz hx hi hy hl h63 hbs, Run.mono (fun _ h1 => Run.mono (fun _ h2 => ⟨⟨h2.eqs, h2.nx1, h2.nx2⟩, h2.out⟩) h1.out) h.out⟩
end
end Go.Ab
namespace Go.Proofs.YtdmdpkoapllkkaaGreat
open Go Go.RowKit Go.Proofs Go.Shelf Go.Ab Go.Sort
theorem eq_hit {x y : Operand} {a b : Hit} {c : Bool} (h : decide (a = b) = c) : ∀ w, (do eqGuard .eql 29 x y (.agg #[.int .i64 a.tm, .int .i64 a.line, .int .i64 a.sensor]) (.agg #[.int .i64 b.tm, .int .i64 b.line, .int .i64 b.sensor]); binOp .eql 29 (.agg #[.int .i64 a.tm, .int .i64 a.line, .int .i64 a.sensor]) (.agg #[.int .i64 b.tm, .int .i64 b.line, .int .i64 b.sensor]) : Sem Value).run Tryz.prog w = .ok (.bool c) w := fun w => by
  have h1 := equalIn_hit 9998 a b w
  rw [h] at h1
  first
  | (simp [eqGuard, run_eql_struct, h1]; done)
  | simp [eqGuard, guard_hit, run_eql_struct, h1]
theorem isNaN_w (n : Int) (W : World) : Calls Tryz.prog 175 #[.int .i64 n] W fun e w' => e = .returned (.bool false) ∧ W = w' := by
  go_enter Tryz.func175, Tryz.ntmps175
  go_wp2
  go_ret
  exact ⟨rfl, rfl⟩
theorem Compare_w (a b : Int) (W : World) : Calls Tryz.prog 157 #[.int .i64 a, .int .i64 b] W fun e w' => e = .returned (.int .i64 (cmpI a b)) ∧ W = w' := by
  unfold cmpI
  by_cases h1 : a < b
  · rw [if_pos h1]
    go_enter Tryz.func157, Tryz.ntmps157
    go_wp2_with (go_at_call 175; refine (isNaN_w _ _).mono ?_; rintro e w' ⟨rfl, rfl⟩)
    go_ret
    exact ⟨rfl, rfl⟩
  · rw [if_neg h1]
    by_cases h2 : b < a
    · rw [if_pos h2]
      go_enter Tryz.func157, Tryz.ntmps157
      go_wp2_with (go_at_call 175; refine (isNaN_w _ _).mono ?_; rintro e w' ⟨rfl, rfl⟩)
      go_ret
      exact ⟨rfl, rfl⟩
    · rw [if_neg h2]
      go_enter Tryz.func157, Tryz.ntmps157
      go_wp2_with (go_at_call 175; refine (isNaN_w _ _).mono ?_; rintro e w' ⟨rfl, rfl⟩)
      go_ret
      exact ⟨rfl, rfl⟩
theorem Or3_w (B : Nat) (a b c : Int) (W : World) (h0 : W.cell? ⟨B, 0, none⟩ = some (.int .i64 a)) (h1 : W.cell? ⟨B, 1, none⟩ = some (.int .i64 b)) (h2 : W.cell? ⟨B, 2, none⟩ = some (.int .i64 c)) : Calls Tryz.prog 156 #[.slice (some ⟨B, 0, none⟩) 3 3] W fun e w' => e = .returned (.int .i64 (firstE [a, b, c])) ∧ W = w' := by
  go_enter Tryz.func156, Tryz.ntmps156
  go_wp2
  go_loopw [8] (fun i wr => wr = W ∧ ((i = .int .i64 0) ∨ (i = .int .i64 1 ∧ a = 0) ∨ (i = .int .i64 2 ∧ a = 0 ∧ b = 0) ∨ (i = .int .i64 3 ∧ a = 0 ∧ b = 0 ∧ c = 0))) (fun i _ => 3 - (intOf i).toNat)
  case atStart => exact ⟨rfl, .inl rfl⟩
  case round =>
    obtain ⟨rfl, hr⟩ := hrel
    rcases hr with rfl | ⟨rfl, rfl⟩ | ⟨rfl, rfl, rfl⟩ | ⟨rfl, rfl, rfl, rfl⟩
    · by_cases he : a = 0
      · subst he
        go_wp2
        go_roundw
        case rel => simp
        case measure => simp [intOf]
      · go_wp2
        go_ret
        exact ⟨by simp [firstE, he], rfl⟩
    · by_cases he : b = 0
      · subst he
        go_wp2
        go_roundw
        case rel => simp
        case measure => simp [intOf]
      · go_wp2
        go_ret
        exact ⟨by simp [firstE, he], rfl⟩
    · by_cases he : c = 0
      · subst he
        go_wp2
        go_roundw
        case rel => simp
        case measure => simp [intOf]
      · go_wp2
        go_ret
        exact ⟨by simp [firstE, he], rfl⟩
    · go_wp2
      go_ret
      exact ⟨by simp [firstE], rfl⟩
def encH (x : Hit) : List Value := [.int .i64 x.tm, .int .i64 x.line, .int .i64 x.sensor]
theorem cellN (W : World) (a b : Obj) (n : Nat) (cs : Array Value) (T : TypeId) (k : Nat) (v : Value) (h : cs[k]? = some v) : ((((W.alloc a).alloc b).drewN n).alloc (Obj.cells cs T)).cell? ⟨W.heap.size + 1 + 1, k, none⟩ = some v := by
  rw [← h]
  show (match ((((W.heap.push a).push b).push (Obj.cells cs T)))[W.heap.size + 1 + 1]? with
    | some (.cells c _ _) => if (none : Option Nat).isSome then none else c[k]?
    | _ => none) = cs[k]?
  have e : (((W.heap.push a).push b).push (Obj.cells cs T))[W.heap.size + 1 + 1]? = some (Obj.cells cs T) := by
    have h1 := Array.getElem?_push_size (xs := (W.heap.push a).push b) (x := Obj.cells cs T)
    rwa [show ((W.heap.push a).push b).size = W.heap.size + 1 + 1 by simp] at h1
  rw [e]; rfl
set_option maxHeartbeats 1600000 in
theorem compare_w (x y : Hit) (W : World) : Calls Tryz.prog 122 #[.agg (encH x).toArray, .agg (encH y).toArray] W fun e w' => e = .returned (.int .i64 (cmpHit x y)) ∧ ∃ q os', w' = grow (W.drewN q) os' := by
  unfold encH cmpHit
  obtain ⟨x0, x1, x2⟩ := x
  obtain ⟨y0, y1, y2⟩ := y
  go_enter Tryz.func122, Tryz.ntmps122
  go_wp2
  refine wp_region_quiet_tail (fun w' => ∃ n, w' = World.drewN _ n) 15 (by kernel_rfl) (by kernel_rfl) ⟨1, rfl⟩ ?_
  repeat (quiet_step ((go_at_call 157; exact Calls.quiet_of_same ((Compare_w _ _ _).mono fun _ _ ⟨h1, h2⟩ => ⟨h1, h2.symm⟩))))
  refine wpQuiet_nil ?_
  intro w' hw'
  obtain ⟨nq, rfl⟩ := hw'
  go_wp2_with (go_at_call 156; refine (Or3_w _ (cmpI x0 y0) (cmpI x1 y1) (cmpI x2 y2) _ (cellN _ _ _ _ _ _ 0 _ rfl) (cellN _ _ _ _ _ _ 1 _ rfl) (cellN _ _ _ _ _ _ 2 _ rfl)).mono ?_; rintro e w' ⟨rfl, rfl⟩)
  go_ret
  exact ⟨rfl, nq, _, by rw [alloc_eq_grow, alloc_eq_grow, alloc_eq_grow, grow_grow]; show grow (grow (W.drewN nq) _) _ = _; rw [grow_grow]⟩
theorem ltH (x y : Hit) : ltOf cmpHit x y = decide (before x y) := by
  unfold ltOf
  exact decide_eq_decide.2 (cmpHit_neg x y)
theorem swoH : SWO (ltOf cmpHit) where
  irrefl x := by rw [ltH]; exact decide_eq_false before_irr
  trans x y z h1 h2 := by
    rw [ltH] at *
    exact decide_eq_true (before_trans (of_decide_eq_true h1) (of_decide_eq_true h2))
  ntrans x y z h1 h2 := by
    rw [ltH] at *
    have a := of_decide_eq_false h1
    have b := of_decide_eq_false h2
    refine decide_eq_false fun h => ?_
    rcases before_tot (a := x) (b := y) with q | q | q
    · exact a q
    · subst q; exact b h
    · rcases before_tot (a := y) (b := z) with r | r | r
      · exact b r
      · subst r; exact a h
      · exact before_irr (before_trans (before_trans r q) h)
def sortHits (l : List Hit) : List Hit := sortL cmpHit l
theorem sortHits_perm (l : List Hit) : (sortHits l).Perm l := sortL_perm swoH l
theorem sortHits_len (l : List Hit) : (sortHits l).length = l.length := sortL_len swoH l
theorem sortHits_weak (l : List Hit) : Weak (sortHits l) := (sortL_pw swoH l).imp fun {x y} h => fun hb => h ((cmpHit_neg y x).2 hb)
theorem encH_F (l : List Hit) : (l.flatMap encH).map FV.v = hitsF l := by
  induction l with
  | nil => rfl
  | cons r l ih => rw [List.flatMap_cons, List.map_append, ih]; simp [hitsF, hitF, iv, encH]
theorem sortFuncH_s (l : List Hit) (h60 : l.length < 1000000) : SummG Tryz.prog GG 121 [.arr 29 3 l.length ((hitsF l).map .f)] [.ow 0, .f (.fn 122 [])] (.f (.tup [])) [.arr 29 3 l.length ((hitsF (sortHits l)).map .f)] :=
  sortG (ρ := sortH_ren) sortH Tryz.isAgg29 Tryz.sizeOf29 (enc := encH) (k := 3) (fun _ => rfl) (by decide) (fun x v hv => by simp [encH] at hv; rcases hv with rfl | rfl | rfl <;> rfl) cmpHit swoH 122 (enters_of Tryz.func122 (by kernel_rfl) rfl) compare_w
    (fun pp cap fv w => AnyF.slices_SortFunc_none (P := Tryz.prog) (ρ := sortH_ren) { sortH with } pp cap fv w) (enters_of Tryz.func121 (by kernel_rfl) rfl) l (by omega) 29 rfl (encH_F l) (encH_F _)
theorem setAt_mid {α : Type} : ∀ (r b a c : List α), b.length = r.length → setAt (a ++ b ++ c) a.length r = a ++ r ++ c
  | [], [], _, _, _ => rfl
  | x :: r, y :: b, a, c, h => by
    have e : (a ++ y :: b ++ c).set a.length x = (a ++ [x]) ++ b ++ c := by
      rw [List.append_assoc, List.set_append_right _ _ (Nat.le_refl _), Nat.sub_self]; simp
    have ih := setAt_mid r b (a ++ [x]) c (by simpa using h)
    rw [List.length_append] at ih
    rw [setAt, e]
    exact ih.trans (by simp)
theorem flat_setAt (pre post : List Hit) (y x : Hit) {o : Nat} (ho : o = pre.length) : setAt (hitsF (pre ++ y :: post)) (o * 3) (hitF x) = hitsF (pre ++ x :: post) := by
  subst ho
  rw [hitsF_app, hitsF_app, show hitsF (y :: post) = hitF y ++ hitsF post from rfl, show hitsF (x :: post) = hitF x ++ hitsF post from rfl]
  rw [← hitsF_len pre, ← List.append_assoc, ← List.append_assoc]
  exact setAt_mid (hitF x) (hitF y) _ _ rfl
end Go.Proofs.YtdmdpkoapllkkaaGreat
namespace Go.Proofs.YtdmdpkoapllkkaaGreat
open Go Go.RowKit Go.Proofs Go.Shelf Go.Ab
theorem keep_sub (s : List Hit) (n i : Nat) (hn : (keepK s n).length ≤ i) (hi : i < s.length) : ((hitsF (keepK s n ++ s.drop (keepK s n).length)).drop (i * 3)).take 3 = hitF s[i] := by
  have hl : i < (keepK s n ++ s.drop (keepK s n).length).length := by rw [List.length_append, List.length_drop]; omega
  rw [hitsF_sub hl]
  congr 1
  rw [List.getElem_append_right hn, List.getElem_drop]
  congr 1; omega
theorem keep_len (s : List Hit) (n : Nat) (hn : (keepK s n).length ≤ s.length) : (hitsF (keepK s n ++ s.drop (keepK s n).length)).length = s.length * 3 := by
  rw [hitsF_len, List.length_append, List.length_drop]; congr 1; omega
theorem keep_store (s : List Hit) (n : Nat) (hn : n < s.length) (hm : (keepK s n).length ≤ n) (hne : n = 0 ∨ s.getD n default ≠ s.getD (n - 1) default) : setAt (hitsF (keepK s n ++ s.drop (keepK s n).length)) ((keepK s n).length * 3) (hitF s[n]) = hitsF (keepK s (n + 1) ++ s.drop (keepK s (n + 1)).length) := by
  rw [keepK_succ, if_pos hne, getD_eq hn, List.drop_eq_getElem_cons (show (keepK s n).length < s.length by omega), flat_setAt _ _ _ _ rfl]
  rw [List.length_append, List.length_singleton, List.append_assoc]; rfl
theorem rowK {n : Nat} {cs cs' : List FV} (h : cs = cs') : some (Blk.row 29 3 n cs) = some (Blk.row 29 3 n cs') := by rw [h]
theorem rowK2 {n m : Nat} {cs cs' : List FV} (hn : n = m) (h : cs = cs') : some (Blk.row 29 3 n cs) = some (Blk.row 29 3 m cs') := by rw [h, hn]
set_option maxRecDepth 100000 in
set_option maxHeartbeats 3200000 in
theorem compact_g (s : List Hit) (h60 : s.length ≤ 1000000) : SummG Tryz.prog GG 123 [.row 29 3 s.length (hitsF s)] [.ow 0] (.ow 0) [.row 29 3 (keepK s s.length).length (hitsF (keepK s s.length))] := by
  have hsl := hitsF_len s
  by_cases h2 : s.length < 2
  · have hk : (keepK s s.length) = s := by rw [keepK_take (Nat.le_refl _) (fun i h0 hi => by omega), List.take_length]
    rw [hk]
    refine summG_of Tryz.func123 rfl rfl 61 rfl (by simp) (by simp) (fun i B B' h1 h2 => by
        match i, h1, h2 with
    | 0, h1, h2 => cases h1; cases h2; rfl
    | _ + 1, h1, _ => simp at h1) (fun M X J => ?_)
    repeat (first
    | (apply s_a TY; exact rfl)
    | (apply s_t; exact rfl; (first | assumption | omega))
    | apply w_seq
    | apply w_region
    | apply s_nil
    | apply t_norm
    | apply t_ret
    | apply w_ret
    | (apply w_condT; exact rfl; exact rfl))
    exact lvG_ret (gh_one 0 2 rfl rfl) (rg1 rfl (rv_tmp rfl))
  · refine summG_of Tryz.func123 rfl rfl 61 rfl (by simp) (by simp) (fun i B B' h1 h2 => by
        match i, h1, h2 with
    | 0, h1, h2 => cases h1; cases h2; rfl
    | _ + 1, h1, _ => simp at h1) (fun M X J => ?_)
    repeat (first
    | (apply s_a TY; exact rfl)
    | (apply s_f; exact rfl; (first | assumption | omega))
    | apply w_seq
    | apply w_region
    | apply s_nil
    | apply t_norm
    | apply w_block
    | apply w_skip
    | (apply w_condF; exact rfl; exact rfl))
    apply w_loop (fun k : Nat => ⟨(Ab.upd (Ab.upd (fun _ => .bot) 0 (.ow 0)) 3 (.f (iv ((k : Nat) : Int)))), (Ab.upd (fun _ => none) 0 (some (.row 29 3 s.length (hitsF s)))), 1⟩) (fun k => 1 ≤ k ∧ k ≤ s.length ∧ ∀ i, 0 < i → i < k → s.getD i default ≠ s.getD (i - 1) default) (fun k => s.length - k) 1 (⟨by omega, by omega, fun i h0 hi => by omega⟩) (gh_le ⟨le_upd rfl trivial (le_upd rfl rfl (le_nil _)), le_hupd rfl trivial (le_h0 _ _)⟩)
    intro k ⟨hk1, hk, hd⟩
    by_cases hc : k < s.length
    · have e1 : ((hitsF s).drop (((k : Nat) : Int).toNat * 3)).take 3 = hitF s[k] := hitsF_sub hc
      have e2 : ((hitsF s).drop ((((k : Nat) : Int) - 1).toNat * 3)).take 3 = hitF s[k - 1] := by
        rw [show (((k : Nat) : Int) - 1).toNat = k - 1 by omega]; exact hitsF_sub (show k - 1 < s.length by omega)
      by_cases he : s[k] = s[k - 1]
      · have hkk : keepK s (k + 1) = s.take k := by
          rw [keepK_succ, if_neg (by rw [getD_eq hc, getD_eq (show k - 1 < s.length by omega)]; exact fun h => h.elim (by omega) (fun h => h he)), List.append_nil, keepK_take (by omega) hd]
        have hkl : (keepK s (k + 1)).length = k := by rw [hkk, List.length_take]; omega
        repeat (first
    | (apply s_bind; exact rfl; exact rfl; exact rfl; exact rfl; exact rfl; exact rfl; exact eq_hit (c := true) (by simp [he]))
    | (apply s_ldrs TY; exact rfl; exact rfl; exact rfl; exact rfl; exact rfl; assumption; exact rfl)
    | (apply s_slice_ow TY; exact rfl; exact rfl; exact rfl; exact rfl; exact rfl; omega; omega)
    | (apply s_a TY; exact rfl)
    | (apply s_t; exact rfl; (first | assumption | omega))
    | apply w_seq
    | apply w_region
    | (apply w_draw (id := 6) 9 rfl (by kernel_rfl))
    | apply s_nil
    | apply t_norm
    | apply w_block
    | apply w_skip
    | (apply w_condT; exact rfl; exact rfl)
    | (apply s_c TY; exact rfl; (first | omega | exact ⟨by omega, by (first | with_reducible assumption | ((with_reducible apply hitsF_ne); omega) | assumption)⟩))
    | (apply s_z TY; exact rfl; (first | omega | exact ⟨by omega, by (first | with_reducible assumption | ((with_reducible apply hitsF_ne); omega) | assumption)⟩)))
        apply w_loop (fun j : Nat => ⟨(Ab.upd (Ab.upd (Ab.upd (Ab.upd (fun _ => .bot) 0 (.ow 0)) 3 (.f (iv (((keepK s (k + j)).length : Nat) : Int)))) 4 (.sv 0 (((k : Nat) : Int).toNat * 3) (s.length - ((k : Nat) : Int).toNat))) 5 (.f (iv ((j : Nat) : Int)))), (Ab.upd (fun _ => none) 0 (some (.row 29 3 s.length (hitsF ((keepK s (k + j)) ++ s.drop (keepK s (k + j)).length))))), 1⟩) (fun j => 1 ≤ j ∧ k + j ≤ s.length ∧ (keepK s (k + j)).length + 1 ≤ k + j) (fun j => s.length - (k + j)) 1 (⟨Nat.le_refl _, by omega, by omega⟩) (gh_le ⟨le_upd rfl trivial (le_upd rfl rfl (le_upd (by rw [hkl]; rfl) trivial (le_upd rfl rfl (le_nil _)))), le_hupd (rowK (by rw [hkl, hkk, List.take_append_drop])) trivial (le_h0 _ _)⟩)
        intro j ⟨hj1, hj, hm⟩
        by_cases hjc : k + j < s.length
        · have f1 : ((hitsF ((keepK s (k + j)) ++ s.drop (keepK s (k + j)).length)).drop (((k : Nat) : Int).toNat * 3 + ((j : Nat) : Int).toNat * 3)).take 3 = hitF s[k + j] := by
            rw [show ((k : Nat) : Int).toNat * 3 + ((j : Nat) : Int).toNat * 3 = (k + j) * 3 by omega]; exact keep_sub s (k + j) (k + j) (by omega) hjc
          have f2 : ((hitsF ((keepK s (k + j)) ++ s.drop (keepK s (k + j)).length)).drop (((k : Nat) : Int).toNat * 3 + (((j : Nat) : Int) - 1).toNat * 3)).take 3 = hitF s[k + j - 1] := by
            rw [show ((k : Nat) : Int).toNat * 3 + (((j : Nat) : Int) - 1).toNat * 3 = (k + j - 1) * 3 by omega]; exact keep_sub s (k + j) (k + j - 1) (by omega) (by omega)
          by_cases he : s[k + j] = s[k + j - 1]
          · have hs : keepK s (k + (j + 1)) = (keepK s (k + j)) := by
              rw [show k + (j + 1) = (k + j) + 1 by omega, keepK_succ, if_neg (by rw [getD_eq hjc, getD_eq (show k + j - 1 < s.length by omega)]; exact fun h => h.elim (by omega) (fun h => h he)), List.append_nil]
            repeat (first
    | (apply s_bind; exact rfl; exact rfl; exact rfl; exact rfl; exact rfl; exact rfl; exact ne_hit (c := false) (by simp [he]))
    | (apply s_ldrs TY; exact rfl; exact rfl; exact rfl; exact rfl; exact rfl; assumption; exact rfl)
    | (apply s_len_sv TY; exact rfl; exact rfl; exact rfl)
    | (apply s_idx_sv TY; exact rfl; exact rfl; exact rfl; exact rfl; omega; omega)
    | (apply s_a TY; exact rfl)
    | (apply s_t; exact rfl; (first | assumption | omega))
    | apply w_seq
    | apply w_region
    | (apply w_draw (id := 11) 9 rfl (by kernel_rfl))
    | apply s_nil
    | apply t_norm
    | apply k_norm
    | apply w_block
    | apply w_skip
    | (apply w_condT; exact rfl; exact rfl)
    | (apply w_condF; exact rfl; exact rfl)
    | (apply s_c TY; exact rfl; (first | omega | exact ⟨by omega, by (first | with_reducible assumption | ((with_reducible apply hitsF_ne); omega) | assumption)⟩)))
            exact ⟨j + 1, ⟨by omega, by omega, by rw [hs]; omega⟩, by omega, gh_le ⟨le_upd rfl trivial (le_upd rfl rfl (le_upd (by rw [hs]; rfl) trivial (le_upd rfl rfl (le_nil _)))), le_hupd (rowK (by rw [hs])) trivial (le_h0 _ _)⟩⟩
          · have hne : k + j = 0 ∨ s.getD (k + j) default ≠ s.getD (k + j - 1) default := by rw [getD_eq hjc, getD_eq (show k + j - 1 < s.length by omega)]; exact .inr he
            have hs : (keepK s (k + (j + 1))).length = (keepK s (k + j)).length + 1 := by
              rw [show k + (j + 1) = (k + j) + 1 by omega, keepK_succ, if_pos hne, List.length_append]; rfl
            have hX := keep_len s (k + j) (by omega)
            have hst : (((keepK s (k + j)).length : Nat) : Int).toNat * 3 + (hitF s[k + j]).length ≤ (hitsF ((keepK s (k + j)) ++ s.drop (keepK s (k + j)).length)).length := by rw [hX]; show _ + 3 ≤ _; omega
            have hset := keep_store s (k + j) hjc (by omega) hne
            repeat (first
    | (apply s_bind; exact rfl; exact rfl; exact rfl; exact rfl; exact rfl; exact rfl; exact ne_hit (c := true) (by simp [he]))
    | (apply s_ldrs TY; exact rfl; exact rfl; exact rfl; exact rfl; exact rfl; assumption; exact rfl)
    | (apply s_storeR TY; exact rfl; exact rfl; exact rfl; exact rfl; exact rfl; exact hst)
    | (apply s_len_sv TY; exact rfl; exact rfl; exact rfl)
    | (apply s_idx_sv TY; exact rfl; exact rfl; exact rfl; exact rfl; omega; omega)
    | (apply s_a TY; exact rfl)
    | (apply s_t; exact rfl; (first | assumption | omega))
    | apply w_seq
    | apply w_region
    | (apply w_draw (id := 11) 9 rfl (by kernel_rfl))
    | apply s_nil
    | apply t_norm
    | apply k_norm
    | apply w_block
    | apply w_skip
    | (apply w_condT; exact rfl; exact rfl)
    | (apply s_c TY; exact rfl; (first | omega | exact ⟨by omega, by (first | with_reducible assumption | ((with_reducible apply hitsF_ne); omega) | assumption)⟩)))
            exact ⟨j + 1, ⟨by omega, by omega, by rw [hs]; omega⟩, by omega, gh_le ⟨le_upd rfl trivial (le_upd rfl rfl (le_upd (by rw [hs]; rfl) trivial (le_upd rfl rfl (le_nil _)))), le_hupd (rowK hset) trivial (le_h0 _ _)⟩⟩
        · have hje : k + j = s.length := by omega
          rw [hje] at hm
          have hX := keep_len s (k + j) (by rw [hje]; omega)
          rw [show s.length = k + j by omega] at hm
          repeat (first
    | (apply s_slice_ow TY; exact rfl; exact rfl; exact rfl; exact rfl; exact rfl; omega; omega)
    | (apply s_len_sv TY; exact rfl; exact rfl; exact rfl)
    | (apply s_clear_sv TY; exact rfl; exact rfl; exact rfl; exact rfl; exact rfl; (show _ + _ * 3 ≤ _; omega))
    | (apply s_slice_head TY; exact rfl; exact rfl; exact rfl; exact rfl; exact rfl; omega; omega; omega; exact rfl)
    | (apply s_a TY; exact rfl)
    | (apply s_f; exact rfl; (first | assumption | omega))
    | apply w_seq
    | apply w_region
    | apply s_nil
    | apply t_norm
    | apply t_exit
    | apply t_ret
    | apply k_hit
    | apply k_ret
    | apply w_exit
    | apply w_ret
    | (apply w_condF; exact rfl; exact rfl))
          exact lvG_ret (gh_one 0 2 rfl (rowK2 (by rw [hje]; omega) (by rw [take_setAt_ge _ _ _ _ (Nat.le_refl _), show (((keepK s (k + j)).length : Nat) : Int).toNat = (keepK s (k + j)).length by omega, hitsF_take, List.take_left, hje]))) (rg1 rfl (rv_tmp rfl))
      · repeat (first
    | (apply s_bind; exact rfl; exact rfl; exact rfl; exact rfl; exact rfl; exact rfl; exact eq_hit (c := false) (by simp [he]))
    | (apply s_ldrs TY; exact rfl; exact rfl; exact rfl; exact rfl; exact rfl; assumption; exact rfl)
    | (apply s_a TY; exact rfl)
    | (apply s_t; exact rfl; (first | assumption | omega))
    | apply w_seq
    | apply w_region
    | (apply w_draw (id := 6) 9 rfl (by kernel_rfl))
    | apply s_nil
    | apply t_norm
    | apply k_norm
    | apply w_block
    | apply w_skip
    | (apply w_condT; exact rfl; exact rfl)
    | (apply w_condF; exact rfl; exact rfl)
    | (apply s_c TY; exact rfl; (first | omega | exact ⟨by omega, by (first | with_reducible assumption | ((with_reducible apply hitsF_ne); omega) | assumption)⟩))
    | (apply s_z TY; exact rfl; (first | omega | exact ⟨by omega, by (first | with_reducible assumption | ((with_reducible apply hitsF_ne); omega) | assumption)⟩)))
        exact ⟨k + 1, ⟨by omega, by omega, fun i h0 hi => by
          by_cases e : i = k
          · subst e; rw [getD_eq hc, getD_eq (show i - 1 < s.length by omega)]; exact he
          · exact hd i h0 (by omega)⟩, by omega, gh_le ⟨le_upd rfl trivial (le_upd rfl rfl (le_nil _)), le_hupd rfl trivial (le_h0 _ _)⟩⟩
    · have hke : k = s.length := by omega
      have hk : (keepK s s.length) = s := by rw [keepK_take (Nat.le_refl _) (fun i h0 hi => hd i h0 (by omega)), List.take_length]
      rw [hk]
      repeat (first
    | (apply s_a TY; exact rfl)
    | (apply s_f; exact rfl; (first | assumption | omega))
    | apply w_seq
    | apply w_region
    | apply s_nil
    | apply t_norm
    | apply t_exit
    | apply k_hit
    | apply w_exit
    | apply w_ret
    | (apply w_condF; exact rfl; exact rfl))
      exact lvG_ret (gh_one 0 2 rfl rfl) (rg1 rfl (rv_tmp rfl))
theorem allH_succ {l : List Stm} {k : Nat} (hk : k < l.length) : allH (l.take (k + 1)) = allH (l.take k) ++ l[k].hits := by
  unfold allH; rw [List.take_succ_eq_append_getElem hk, List.flatMap_append]; simp
theorem allH_le {l : List Stm} {n : Nat} (h : ∀ i (hi : i < l.length), l[i].hits.length ≤ n) : ∀ k, k ≤ l.length → (allH (l.take k)).length ≤ k * n
  | 0, _ => by simp [allH]
  | k + 1, hk => by
    have := allH_le h k (by omega)
    have h2 := h k hk
    rw [allH_succ hk, List.length_append, Nat.add_mul]; omega
theorem merge_sorted (L : List Hit) : keepK (sortHits L) (sortHits L).length = mergeH L := keepK_merge (sortHits_weak L) (sortHits_perm L)
set_option maxRecDepth 100000 in
set_option maxHeartbeats 3200000 in
theorem mergedH_s (l : List Stm) (hl : l.length ≤ 10) (hn : ∀ i (hi : i < l.length), l[i].hits.length ≤ 50) : Summ Tryz.prog GG 62 [.sl l.length (stmsF l)] (.sl (mergeH (allH l)).length (hitsF (mergeH (allH l)))) := by
  have hall : (allH l).length ≤ 500 := by
    have := allH_le hn l.length (Nat.le_refl _)
    rw [List.take_length] at this
    have : l.length * 50 ≤ 10 * 50 := Nat.mul_le_mul_right _ hl
    omega
  have hso := sortHits_len (allH l)
  have HS := sortFuncH_s (allH l) (by omega)
  have HC := compact_g (sortHits (allH l)) (by omega)
  rw [merge_sorted] at HC
  refine summW Tryz.func62 rfl rfl 21 rfl (by simp) (fun M0 => ?_)
  repeat (first
    | (apply s_a TY; exact rfl)
    | apply w_seq
    | apply w_region
    | apply s_nil
    | apply t_norm
    | apply w_block)
  apply w_gh (gh_own 3 29 3 rfl rfl)
  apply w_loop (fun k : Nat => ⟨(Ab.upd (Ab.upd (Ab.upd (Ab.upd (fun _ => .bot) 3 (.ow 0)) 6 (.f (.sl l.length (stmsF l)))) 7 (.f (iv l.length))) 8 (.f (iv ((k : Nat) : Int)))), (Ab.upd (fun _ => none) 0 (some (.row 29 3 (allH (l.take k)).length (hitsF (allH (l.take k)))))), 1⟩) (fun k => k ≤ l.length) (fun k => l.length - k) 0 (Nat.zero_le _) (gh_le ⟨le_upd rfl trivial (le_upd rfl trivial (le_upd rfl trivial (le_upd rfl rfl (le_nil _)))), le_hupd rfl trivial (le_h0 _ _)⟩)
  intro k hk
  have hak : (allH (l.take k)).length ≤ 500 := by
    have := allH_le hn k hk
    have : k * 50 ≤ 10 * 50 := Nat.mul_le_mul_right _ (by omega)
    omega
  by_cases hc : k < l.length
  · have hlen : (hitsF l[k].hits).length = l[k].hits.length * 3 := hitsF_len _
    have hnk := hn k hc
    repeat (first
    | (apply s_append TY; exact rfl; exact rfl; exact rfl; exact rfl; exact rfl; exact rfl; exact rfl; exact rfl; exact hlen; (unfold maxLen; omega); omega)
    | (apply s_a TY; exact rfl)
    | (apply s_t; exact rfl; (first | assumption | omega))
    | apply w_seq
    | apply w_region
    | apply s_nil
    | apply t_norm
    | apply k_norm
    | apply w_block
    | apply w_skip
    | (apply w_condT; exact rfl; exact rfl)
    | (apply s_c TY; exact rfl; (first | omega | exact ⟨by omega, by (first | with_reducible assumption | ((with_reducible apply stmsF_ne); omega) | assumption)⟩))
    | (apply s_m TY; exact rfl; (first | with_reducible assumption | ((with_reducible apply stmsF_sub); omega) | exact rfl); exact rfl)
    | (apply s_alloc TY; exact rfl; exact rfl; exact rfl)
    | (apply s_store TY; exact rfl; exact rfl; exact rfl; exact rfl; exact rfl; exact rfl))
    exact ⟨k + 1, by omega, by omega, gh_le ⟨le_upd rfl trivial (le_upd rfl trivial (le_upd rfl trivial (le_upd rfl rfl (le_nil _)))), le_hupd (rowK2 (by rw [allH_succ hc, List.length_append]) (by rw [allH_succ hc, hitsF_app])) trivial (le_h0 _ _)⟩⟩
  · have hke : k = l.length := by omega
    subst hke
    rw [List.take_length]
    repeat (first
    | (apply s_a TY; exact rfl)
    | (apply s_f; exact rfl; (first | assumption | omega))
    | apply w_seq
    | apply w_region
    | apply s_nil
    | apply t_norm
    | apply t_exit
    | apply k_hit
    | apply w_exit
    | (apply w_condF; exact rfl; exact rfl))
    refine s_ghost rfl (gh_arr 0 (cs := hitsF (allH l)) rfl rfl) ?_
    repeat (first
    | (apply s_callG [0] HS; exact rfl; exact rfl; exact rfl; exact ⟨congrArg some (arr_ren _ _ _ _ _).symm, trivial⟩; exact rfl; exact ⟨rfl, rfl⟩)
    | (apply s_a TY; exact rfl)
    | apply w_seq
    | apply w_region
    | apply s_nil
    | apply t_norm)
    refine s_ghost rfl (gh_unarr 0 (e := 29) (sz := 3) (n := (allH l).length) (cs := hitsF (sortHits (allH l))) (congrArg some (arr_ren _ _ _ _ _))) ?_
    rw [← hso]
    repeat (first
    | (apply s_a TY; exact rfl)
    | apply s_nil
    | apply t_norm
    | apply w_ret
    | (apply s_callG [0] (HC); exact rfl; exact rfl; exact rfl; exact ⟨rfl, trivial⟩; exact rfl; (first | exact ⟨rfl, rfl⟩ | exact ⟨⟨rfl, rfl⟩, ⟨rfl, rfl⟩⟩ | exact ⟨⟨rfl, rfl⟩, ⟨rfl, rfl⟩, ⟨rfl, rfl⟩⟩)))
    exact lv_ret (ret_gh (gh_row 0 rfl) (ret1 rfl (res_tmp rfl)))
end Go.Proofs.YtdmdpkoapllkkaaGreat
namespace Go.Proofs.YtdmdpkoapllkkaaGreat
open Go Go.RowKit Go.Proofs Go.Shelf Go.Ab
def stmE (l : List Site) (x : Stm) : Int := firstE [(hitsChk l x.hits).2, unlessE (withinB x.mark 0 1000000000000) 2]
def stmsChk (l : List Site) (c : List Stm) : Nat × Int := if c.length = 0 then (0, 10) else if 6 < c.length then (0, 8) else eachE c.length fun i => stmE l (c.getD i default)
theorem stmE_ok {l : List Site} {x : Stm} : stmE l x = 0 ↔ (hitsChk l x.hits).2 = 0 ∧ 0 ≤ x.mark ∧ x.mark ≤ 1000000000000 := by
  unfold stmE
  by_cases h1 : (hitsChk l x.hits).2 = 0
  · by_cases h2 : 0 ≤ x.mark ∧ x.mark ≤ 1000000000000
    · simp [firstE, unlessE, withinB, h1, h2]
    · have : withinB x.mark 0 1000000000000 = false := by simp [withinB]; omega
      simp [firstE, unlessE, h1, this]; omega
  · simp [firstE, h1]
theorem stmsChk_ok {l : List Site} {c : List Stm} (h : (stmsChk l c).2 = 0) : 1 ≤ c.length ∧ c.length ≤ 6 ∧ ∀ i (hi : i < c.length), (hitsChk l c[i].hits).2 = 0 ∧ 0 ≤ c[i].mark ∧ c[i].mark ≤ 1000000000000 := by
  unfold stmsChk at h
  by_cases h1 : c.length = 0
  · rw [if_pos h1] at h; cases h
  · rw [if_neg h1] at h
    by_cases h2 : 6 < c.length
    · rw [if_pos h2] at h; cases h
    · rw [if_neg h2] at h
      refine ⟨by omega, by omega, fun i hi => ?_⟩
      have := eachE_ok0.1 h i hi
      rw [getD_at hi] at this
      exact stmE_ok.1 this
theorem HitsOk.mem {l : List Site} {h : List Hit} (o : HitsOk l h) {x : Hit} (hx : x ∈ h) : HitOk l x := by
  obtain ⟨i, hi, rfl⟩ := List.getElem_of_mem hx
  exact o.hit i hi
theorem hitsOk_asc {l : List Site} {h : List Hit} (h40 : h.length ≤ 40) (ha : Asc h) (hm : ∀ x, x ∈ h → HitOk l x) : HitsOk l h :=
  ⟨h40, fun i hi => hm _ (List.getElem_mem hi), fun i hi => List.pairwise_iff_getElem.1 ha i (i + 1) (by omega) hi (by omega)⟩
theorem mem_allH {c : List Stm} {x : Hit} : x ∈ allH c ↔ ∃ i, ∃ (hi : i < c.length), x ∈ c[i].hits := by
  unfold allH
  rw [List.mem_flatMap]
  constructor
  · rintro ⟨s, hs, hx⟩
    obtain ⟨i, hi, rfl⟩ := List.getElem_of_mem hs
    exact ⟨i, hi, hx⟩
  · rintro ⟨i, hi, hx⟩; exact ⟨_, List.getElem_mem hi, hx⟩
theorem merge_ok {l : List Site} {c : List Stm} (hl : ArrOk l) (h : (stmsChk l c).2 = 0) (h40 : (mergeH (allH c)).length ≤ 40) : HitsOk l (mergeH (allH c)) :=
  hitsOk_asc h40 (mergeH_asc _) fun x hx => by
    obtain ⟨i, hi, hxi⟩ := mem_allH.1 (mergeH_mem.1 hx)
    exact (hitsOk_of hl ((stmsChk_ok h).2.2 i hi).1).mem hxi
set_option maxRecDepth 100000 in
theorem streamsErr1_s (l : List Site) (i : Int) (x : Stm) (hx : x.hits.length ≤ 1000000) : Summ Tryz.prog GG 142 [iv i, .agg (stmF x), .pt [.sl l.length (sitesF l), .mp (mapS l l.length)] 0] (iv (stmE l x)) := by
  have HH := hitsErr_s l x.hits hx
  unfold stmE
  refine summW Tryz.func142 rfl rfl 22 rfl (by simp) (fun M0 => ?_)
  repeat (first
    | (apply s_a TY; exact rfl)
    | apply w_seq
    | apply w_region
    | apply s_nil
    | apply t_norm
    | apply w_ret
    | (apply s_k (HH); exact rfl)
    | (apply s_k (first2_s _ _); exact rfl)
    | (apply s_k (unless_s _ _); exact rfl)
    | (apply s_k (isTick_s _); exact rfl))
  exact lv_ret (ret1 rfl (res_tmp rfl))
set_option maxRecDepth 100000 in
theorem streamsErr_s (l : List Site) (c : List Stm) (hn : c.length ≤ 1000000) (hh : ∀ i (hi : i < c.length), c[i].hits.length ≤ 1000000) : Summ Tryz.prog GG 103 [arrayV l, .sl c.length (stmsF c)] (.tup [iv (stmsChk l c).1, iv (stmsChk l c).2]) := by
  by_cases h0 : c.length = 0
  · rw [show stmsChk l c = (0, 10) by unfold stmsChk; rw [if_pos h0]]
    refine summW Tryz.func103 rfl rfl 25 rfl (by simp) (fun M0 => ?_)
    repeat (first
    | (apply s_a TY; exact rfl)
    | (apply s_t; exact rfl; (first | assumption | omega))
    | (apply s_f; exact rfl; (first | assumption | omega))
    | apply w_seq
    | apply w_region
    | apply s_nil
    | apply t_norm
    | apply t_ret
    | apply w_ret
    | (apply w_condT; exact rfl; exact rfl)
    | (apply s_k1 (first2_0 _ _); exact rfl; (first | assumption | omega | decide))
    | (apply s_k (unless_T _); exact rfl)
    | (apply s_k (unless_F _); exact rfl))
    exact lv_ret (ret2 rfl (res_tmp rfl) (res_tmp rfl))
  · by_cases h6 : 6 < c.length
    · rw [show stmsChk l c = (0, 8) by unfold stmsChk; rw [if_neg h0, if_pos h6]]
      refine summW Tryz.func103 rfl rfl 25 rfl (by simp) (fun M0 => ?_)
      repeat (first
    | (apply s_a TY; exact rfl)
    | (apply s_t; exact rfl; (first | assumption | omega))
    | (apply s_f; exact rfl; (first | assumption | omega))
    | apply w_seq
    | apply w_region
    | apply s_nil
    | apply t_norm
    | apply t_ret
    | apply w_ret
    | (apply w_condT; exact rfl; exact rfl)
    | (apply s_k1 (first2_1 _ _); exact rfl; (first | assumption | omega | decide))
    | (apply s_k (unless_T _); exact rfl)
    | (apply s_k (unless_F _); exact rfl))
      exact lv_ret (ret2 rfl (res_tmp rfl) (res_tmp rfl))
    · rw [show stmsChk l c = eachE c.length fun i => stmE l (c.getD i default) by unfold stmsChk; rw [if_neg h0, if_neg h6]]
      have HE := eachStm_s c 142 [.pt [.sl l.length (sitesF l), .mp (mapS l l.length)] 0] (fun i => stmE l (c.getD i default)) hn (fun i hi => by rw [getD_at hi]; exact streamsErr1_s l _ _ (hh i hi))
      refine summW Tryz.func103 rfl rfl 25 rfl (by simp) (fun M0 => ?_)
      repeat (first
    | (apply s_a TY; exact rfl)
    | (apply s_makefn; exact rfl; exact rfl)
    | (apply s_t; exact rfl; (first | assumption | omega))
    | apply w_seq
    | apply w_region
    | apply s_nil
    | apply t_norm
    | apply w_ret
    | apply w_skip
    | (apply w_condF; exact rfl; exact rfl)
    | (apply s_k (HE); exact rfl)
    | (apply s_k1 (first2_1 _ _); exact rfl; (first | assumption | omega | decide))
    | (apply s_k (unless_T _); exact rfl))
      exact lv_ret (ret2 rfl (res_tmp rfl) (res_tmp rfl))
set_option maxRecDepth 100000 in
theorem CheckStreams_ok (l : List Site) (c : List Stm) (hl : l.length ≤ 1000000) (hn : c.length ≤ 1000000) (hh : ∀ i (hi : i < c.length), c[i].hits.length ≤ 1000000) (h1 : (arrChk l).2 = 0) : Summ Tryz.prog GG 39 [arrF l, .sl c.length (stmsF c)] (.tup [iv (stmsChk l c).1, iv (stmsChk l c).2]) := by
  have HH := streamsErr_s l c hn hh
  refine summW Tryz.func39 rfl rfl 23 rfl (by simp) (fun M0 => ?_)
  repeat (first
    | (apply s_a TY; exact rfl)
    | (apply s_t; exact rfl; (first | assumption | omega))
    | apply w_seq
    | apply w_region
    | apply s_nil
    | apply t_norm
    | apply w_ret
    | apply w_skip
    | (apply w_condF; exact rfl; exact rfl)
    | (apply s_k (HH); exact rfl)
    | (apply s_k2 (openArray_ok _); exact rfl; (first | assumption | omega | decide); (first | assumption | omega | decide))
    | (apply s_alloc TY; exact rfl; exact rfl; exact rfl)
    | (apply s_store TY; exact rfl; exact rfl; exact rfl; exact rfl; exact rfl; exact rfl))
  exact lv_ret (ret2 rfl (res_tmp rfl) (res_tmp rfl))
theorem stms_hits {l : List Site} {c : List Stm} (h1 : (arrChk l).2 = 0) (h2 : (stmsChk l c).2 = 0) : ∀ i (hi : i < c.length), c[i].hits.length ≤ 50 := fun i hi => by
  have := (hitsOk_of (arrOk_of h1) ((stmsChk_ok h2).2.2 i hi).1).len
  omega
set_option maxRecDepth 100000 in
theorem Merged_large (l : List Site) (c : List Stm) (hl : l.length ≤ 1000000) (h1 : (arrChk l).2 = 0) (h2 : (stmsChk l c).2 = 0) (h40 : 40 < (mergeH (allH c)).length) : Summ Tryz.prog GG 18 [arrF l, .sl c.length (stmsF c)] (.tup [.v (.slice none 0 0), iv 8]) := by
  have hc := stmsChk_ok h2
  have hh := stms_hits h1 h2
  have HC := CheckStreams_ok l c hl (by omega) (fun i hi => by have := hh i hi; omega) h1
  have HM := mergedH_s c (by omega) hh
  refine summW Tryz.func18 rfl rfl 24 rfl (by simp) (fun M0 => ?_)
  repeat (first
    | (apply s_a TY; exact rfl)
    | (apply s_t; exact rfl; (first | assumption | omega))
    | apply w_seq
    | apply w_region
    | apply s_nil
    | apply t_norm
    | apply t_ret
    | apply w_ret
    | apply w_skip
    | (apply w_condT; exact rfl; exact rfl)
    | (apply w_condF; exact rfl; exact rfl)
    | (apply s_k (HC); exact rfl)
    | (apply s_k (HM); exact rfl))
  exact lv_ret (ret2 rfl (res_tmp rfl) (res_tmp rfl))
set_option maxRecDepth 100000 in
theorem Merged_ok (l : List Site) (c : List Stm) (hl : l.length ≤ 1000000) (h1 : (arrChk l).2 = 0) (h2 : (stmsChk l c).2 = 0) (h40 : (mergeH (allH c)).length ≤ 40) : Summ Tryz.prog GG 18 [arrF l, .sl c.length (stmsF c)] (.tup [.sl (mergeH (allH c)).length (hitsF (mergeH (allH c))), iv 0]) := by
  have hc := stmsChk_ok h2
  have hh := stms_hits h1 h2
  have HC := CheckStreams_ok l c hl (by omega) (fun i hi => by have := hh i hi; omega) h1
  have HM := mergedH_s c (by omega) hh
  refine summW Tryz.func18 rfl rfl 24 rfl (by simp) (fun M0 => ?_)
  repeat (first
    | (apply s_a TY; exact rfl)
    | (apply s_t; exact rfl; (first | assumption | omega))
    | (apply s_f; exact rfl; (first | assumption | omega))
    | apply w_seq
    | apply w_region
    | apply s_nil
    | apply t_norm
    | apply w_ret
    | apply w_skip
    | (apply w_condF; exact rfl; exact rfl)
    | (apply s_k (HC); exact rfl)
    | (apply s_k (HM); exact rfl))
  exact lv_ret (ret2 rfl (res_tmp rfl) (res_tmp rfl))
end Go.Proofs.YtdmdpkoapllkkaaGreat
namespace Go.Proofs.YtdmdpkoapllkkaaGreat
open Go Go.RowKit Go.Proofs Go.Shelf Go.Ab
set_option maxRecDepth 100000 in
theorem idxdelE_s (l : List Ev) (g : Nat) (caps : List FV) (p : Nat → Bool) (hl : l.length ≤ 1000000) (hg : ∀ i (hi : i < l.length), Summ Tryz.prog GG g ([.agg (evF l[i])] ++ caps) (bv (p i))) : Summ Tryz.prog GG 132 [.sl l.length (evsF l), .fn g caps] (iv (idxP l.length p)) := by
  refine summW Tryz.func132 rfl rfl 19 rfl (by simp) (fun M0 => ?_)
  repeat (first
    | (apply s_a TY; exact rfl)
    | apply w_seq
    | apply w_region
    | apply s_nil
    | apply t_norm
    | apply w_block)
  apply w_loop (fun k : Nat => ⟨(Ab.upd (Ab.upd (Ab.upd (Ab.upd (fun _ => .bot) 0 (.f (.sl l.length (evsF l)))) 1 (.f (.fn g caps))) 7 (.f (iv l.length))) 8 (.f (iv (k : Nat)))), (fun _ => none), 0⟩) (fun k => k ≤ l.length ∧ ∀ i, i < k → p i = false) (fun k => l.length - k) 0 (⟨Nat.zero_le _, fun j h => absurd h (Nat.not_lt_zero j)⟩) (gh_le ⟨le_upd rfl trivial (le_upd rfl trivial (le_upd rfl trivial (le_upd rfl trivial (le_nil _)))), le_h0 _ _⟩)
  intro k ⟨hk, hz⟩
  by_cases hc : k < l.length
  · have Hc := hg k hc
    cases hp : p k with
    | true =>
      rw [hp] at Hc
      rw [idxP_at hc hz hp]
      repeat (first
    | (apply s_a TY; exact rfl)
    | (apply s_t; exact rfl; (first | assumption | omega))
    | apply w_seq
    | apply w_region
    | apply s_nil
    | apply t_norm
    | apply t_ret
    | apply k_ret
    | apply w_block
    | apply w_ret
    | apply w_skip
    | (apply w_condT; exact rfl; exact rfl)
    | (apply s_k (Hc); exact rfl)
    | (apply s_c TY; exact rfl; (first | omega | exact ⟨by omega, by (first | with_reducible assumption | ((with_reducible apply evsF_ne); omega) | assumption)⟩))
    | (apply s_m TY; exact rfl; (first | with_reducible assumption | ((with_reducible apply evsF_sub); omega) | exact rfl); exact rfl))
      exact lv_ret (ret1 rfl (res_tmp rfl))
    | false =>
      rw [hp] at Hc
      repeat (first
    | (apply s_a TY; exact rfl)
    | (apply s_t; exact rfl; (first | assumption | omega))
    | apply w_seq
    | apply w_region
    | apply s_nil
    | apply t_norm
    | apply k_norm
    | apply w_block
    | apply w_skip
    | (apply w_condT; exact rfl; exact rfl)
    | (apply w_condF; exact rfl; exact rfl)
    | (apply s_k (Hc); exact rfl)
    | (apply s_c TY; exact rfl; (first | omega | exact ⟨by omega, by (first | with_reducible assumption | ((with_reducible apply evsF_ne); omega) | assumption)⟩))
    | (apply s_m TY; exact rfl; (first | with_reducible assumption | ((with_reducible apply evsF_sub); omega) | exact rfl); exact rfl))
      exact ⟨k + 1, ⟨by omega, fun i hi => by
        by_cases e : i = k
        · subst e; exact hp
        · exact hz i (by omega)⟩, by omega, gh_le ⟨le_upd rfl trivial (le_upd rfl trivial (le_upd rfl trivial (le_upd rfl trivial (le_nil _)))), le_h0 _ _⟩⟩
  · rw [idxP_no fun i hi => hz i (by omega)]
    repeat (first
    | (apply s_a TY; exact rfl)
    | (apply s_f; exact rfl; (first | assumption | omega))
    | apply w_seq
    | apply w_region
    | apply s_nil
    | apply t_norm
    | apply t_exit
    | apply k_hit
    | apply w_exit
    | apply w_ret
    | (apply w_condF; exact rfl; exact rfl))
    exact lv_ret (ret1 rfl (res_tmp rfl))
theorem delE_sub (K l : List Ev) (i : Nat) (hn : K.length ≤ i) (hi : i < l.length) : ((evsF (K ++ l.drop K.length)).drop (i * 3)).take 3 = evF l[i] := by
  have hl : i < (K ++ l.drop K.length).length := by rw [List.length_append, List.length_drop]; omega
  rw [evsF_sub hl]
  congr 1
  rw [List.getElem_append_right hn, List.getElem_drop]
  congr 1; omega
theorem delE_len (K l : List Ev) (hn : K.length ≤ l.length) : (evsF (K ++ l.drop K.length)).length = l.length * 3 := by
  rw [evsF_len, List.length_append, List.length_drop]; congr 1; omega
theorem delE_set (pre post : List Ev) (y x : Ev) : setAt (evsF (pre ++ y :: post)) (pre.length * 3) (evF x) = evsF (pre ++ x :: post) := by
  rw [evsF_app, evsF_app, show evsF (y :: post) = evF y ++ evsF post from rfl, show evsF (x :: post) = evF x ++ evsF post from rfl]
  rw [← evsF_len pre, ← List.append_assoc, ← List.append_assoc]
  exact setAt_mid (evF x) (evF y) _ _ rfl
theorem delE_store (K l : List Ev) (x : Ev) (hm : K.length < l.length) : setAt (evsF (K ++ l.drop K.length)) (K.length * 3) (evF x) = evsF (K ++ [x] ++ l.drop (K ++ [x]).length) := by
  rw [List.drop_eq_getElem_cons hm, delE_set, List.length_append, List.length_singleton, List.append_assoc]; rfl
theorem delE_row {n m : Nat} {cs cs' : List FV} (hn : n = m) (h : cs = cs') : some (Blk.row 67 3 n cs) = some (Blk.row 67 3 m cs') := by rw [h, hn]
set_option maxRecDepth 100000 in
set_option maxHeartbeats 3200000 in
theorem delE_g (l : List Ev) (g : Nat) (caps : List FV) (q : Ev → Bool) (h60 : l.length ≤ 1000000) (hg : ∀ i (hi : i < l.length), Summ Tryz.prog GG g ([.agg (evF l[i])] ++ caps) (bv (q l[i]))) : SummG Tryz.prog GG 111 [.row 67 3 l.length (evsF l)] [.ow 0, .f (.fn g caps)] (.ow 0) [.row 67 3 (l.filter (fun x => !q x)).length (evsF (l.filter (fun x => !q x)))] := by
  have hsl := evsF_len l
  have HI := idxdelE_s l g caps (fun i => q (l.getD i default)) h60 (fun i hi => by rw [getD_at hi]; exact hg i hi)
  rcases idxP_cases l.length (fun i => q (l.getD i default)) with ⟨hi, hz⟩ | ⟨k, hk, hz, hp, hi⟩
  · have hfe : (l.filter (fun x => !q x)) = l := List.filter_eq_self.2 fun x hx => by
      obtain ⟨i, hi, rfl⟩ := List.getElem_of_mem hx
      have := hz i hi
      rw [getD_at hi] at this
      rw [this]; rfl
    rw [hi] at HI
    rw [hfe]
    refine summG_of Tryz.func111 rfl rfl 42 rfl (by simp) (by simp) (fun i B B' h1 h2 => by
        match i, h1, h2 with
    | 0, h1, h2 => cases h1; cases h2; rfl
    | _ + 1, h1, _ => simp at h1) (fun M X J => ?_)
    repeat (first
    | (apply s_callR 0 (.tmp 8) HI; exact rfl; exact rfl; exact rfl; simp; exact rfl; exact rfl; exact rfl; exact rfl)
    | (apply s_a TY; exact rfl)
    | (apply s_t; exact rfl; (first | assumption | omega))
    | apply w_seq
    | apply w_region
    | apply s_nil
    | apply t_norm
    | apply t_ret
    | apply w_ret
    | (apply w_condT; exact rfl; exact rfl))
    exact lvG_ret (gh_one 0 4 rfl rfl) (rg1 rfl (rv_tmp rfl))
  · rw [hi] at HI
    simp only [getD_at hk] at hp
    have hz2 : ∀ i, i < k → q (l.getD i default) = false := hz
    have hfk : (l.take k).filter (fun x => !q x) = l.take k := List.filter_eq_self.2 fun x hx => by
      obtain ⟨i, hi, rfl⟩ := List.getElem_of_mem hx
      have hik : i < k := by rw [List.length_take] at hi; omega
      have := hz2 i hik
      rw [getD_at (show i < l.length by omega)] at this
      rw [List.getElem_take, this]; rfl
    have hk1 : (l.take (k + 1)).filter (fun x => !q x) = l.take k := by
      rw [List.take_succ_eq_append_getElem hk, List.filter_append, hfk, List.filter_cons_of_neg (by simp [hp])]; simp
    have hkl : ((l.take (k + 1)).filter (fun x => !q x)).length = k := by rw [hk1, List.length_take]; omega
    refine summG_of Tryz.func111 rfl rfl 42 rfl (by simp) (by simp) (fun i B B' h1 h2 => by
        match i, h1, h2 with
    | 0, h1, h2 => cases h1; cases h2; rfl
    | _ + 1, h1, _ => simp at h1) (fun M X J => ?_)
    repeat (first
    | (apply s_callR 0 (.tmp 8) HI; exact rfl; exact rfl; exact rfl; simp; exact rfl; exact rfl; exact rfl; exact rfl)
    | (apply s_a TY; exact rfl)
    | (apply s_f; exact rfl; (first | assumption | omega))
    | apply w_seq
    | apply w_region
    | apply s_nil
    | apply t_norm
    | apply w_block
    | apply w_skip
    | (apply w_condF; exact rfl; exact rfl)
    | (apply s_c TY; exact rfl; (first | omega | exact ⟨by omega, by (first | with_reducible assumption | ((with_reducible apply evsF_ne); omega) | assumption)⟩)))
    apply w_loop (fun j : Nat => ⟨(Ab.upd (Ab.upd (Ab.upd (Ab.upd (fun _ => .bot) 0 (.ow 0)) 1 (.f (.fn g caps))) 5 (.f (iv ((((l.take j).filter (fun x => !q x)).length : Nat) : Int)))) 6 (.f (iv ((j : Nat) : Int)))), (Ab.upd (fun _ => none) 0 (some (.row 67 3 l.length (evsF (((l.take j).filter (fun x => !q x)) ++ l.drop ((l.take j).filter (fun x => !q x)).length))))), 1⟩) (fun j => k + 1 ≤ j ∧ j ≤ l.length ∧ ((l.take j).filter (fun x => !q x)).length + 1 ≤ j) (fun j => l.length - j) (k + 1) (⟨Nat.le_refl _, by omega, by omega⟩) (gh_le ⟨le_upd rfl trivial (le_upd (by rw [hkl]; rfl) trivial (le_upd rfl trivial (le_upd rfl rfl (le_nil _)))), le_hupd (delE_row rfl (by rw [hkl, hk1, List.take_append_drop])) trivial (le_h0 _ _)⟩)
    intro j ⟨hj1, hj, hm⟩
    by_cases hjc : j < l.length
    · have f1 : ((evsF (((l.take j).filter (fun x => !q x)) ++ l.drop ((l.take j).filter (fun x => !q x)).length)).drop (((j : Nat) : Int).toNat * 3)).take 3 = evF l[j] := by
        rw [show ((j : Nat) : Int).toNat = j by omega]; exact delE_sub ((l.take j).filter (fun x => !q x)) l j (by omega) hjc
      have Hc := hg j hjc
      have hsuc : (l.take (j + 1)).filter (fun x => !q x) = ((l.take j).filter (fun x => !q x)) ++ (if q l[j] = true then [] else [l[j]]) := by
        rw [List.take_succ_eq_append_getElem hjc, List.filter_append]
        congr 1
        by_cases h : q l[j] = true
        · rw [if_pos h, List.filter_cons_of_neg (by simp [h])]; rfl
        · rw [if_neg h, List.filter_cons_of_pos (by simpa using h)]; rfl
      cases hq : q l[j] with
      | true =>
        rw [hq] at Hc
        rw [hq, if_pos rfl, List.append_nil] at hsuc
        repeat (first
    | (apply s_ldrs TY; exact rfl; exact rfl; exact rfl; exact rfl; exact rfl; exact f1; exact rfl)
    | (apply s_a TY; exact rfl)
    | (apply s_t; exact rfl; (first | assumption | omega))
    | apply w_seq
    | apply w_region
    | apply s_nil
    | apply t_norm
    | apply k_norm
    | apply w_block
    | apply w_skip
    | (apply w_condT; exact rfl; exact rfl)
    | (apply w_condF; exact rfl; exact rfl)
    | (apply s_k (Hc); exact rfl)
    | (apply s_c TY; exact rfl; (first | omega | exact ⟨by omega, by (first | with_reducible assumption | ((with_reducible apply evsF_ne); omega) | assumption)⟩))
    | (apply s_alloc TY; exact rfl; exact rfl; exact rfl)
    | (apply s_store TY; exact rfl; exact rfl; exact rfl; exact rfl; exact rfl; exact rfl))
        exact ⟨j + 1, ⟨by omega, by omega, by rw [hsuc]; omega⟩, by omega, gh_le ⟨le_upd rfl trivial (le_upd (by rw [hsuc]; rfl) trivial (le_upd rfl trivial (le_upd rfl rfl (le_nil _)))), le_hupd (delE_row rfl (by rw [hsuc])) trivial (le_h0 _ _)⟩⟩
      | false =>
        rw [hq] at Hc
        rw [hq, if_neg (by decide)] at hsuc
        have hX := delE_len ((l.take j).filter (fun x => !q x)) l (by omega)
        have hst : ((((l.take j).filter (fun x => !q x)).length : Nat) : Int).toNat * 3 + (evF l[j]).length ≤ (evsF (((l.take j).filter (fun x => !q x)) ++ l.drop ((l.take j).filter (fun x => !q x)).length)).length := by rw [hX]; show _ + 3 ≤ _; omega
        have hset := delE_store ((l.take j).filter (fun x => !q x)) l l[j] (by omega)
        rw [← hsuc] at hset
        have hsl2 : ((l.take (j + 1)).filter (fun x => !q x)).length = ((l.take j).filter (fun x => !q x)).length + 1 := by rw [hsuc, List.length_append]; rfl
        repeat (first
    | (apply s_ldrs TY; exact rfl; exact rfl; exact rfl; exact rfl; exact rfl; exact f1; exact rfl)
    | (apply s_storeR TY; exact rfl; exact rfl; exact rfl; exact rfl; exact rfl; exact hst)
    | (apply s_a TY; exact rfl)
    | (apply s_t; exact rfl; (first | assumption | omega))
    | apply w_seq
    | apply w_region
    | apply s_nil
    | apply t_norm
    | apply k_norm
    | apply w_block
    | apply w_skip
    | (apply w_condT; exact rfl; exact rfl)
    | (apply s_k (Hc); exact rfl)
    | (apply s_c TY; exact rfl; (first | omega | exact ⟨by omega, by (first | with_reducible assumption | ((with_reducible apply evsF_ne); omega) | assumption)⟩))
    | (apply s_alloc TY; exact rfl; exact rfl; exact rfl)
    | (apply s_store TY; exact rfl; exact rfl; exact rfl; exact rfl; exact rfl; exact rfl))
        exact ⟨j + 1, ⟨by omega, by omega, by omega⟩, by omega, gh_le ⟨le_upd rfl trivial (le_upd (by rw [hsl2]; rfl) trivial (le_upd rfl trivial (le_upd rfl rfl (le_nil _)))), le_hupd (delE_row rfl hset) trivial (le_h0 _ _)⟩⟩
    · have hje : j = l.length := by omega
      subst hje
      have hX := delE_len ((l.take l.length).filter (fun x => !q x)) l (by omega)
      repeat (first
    | (apply s_slice_ow TY; exact rfl; exact rfl; exact rfl; exact rfl; exact rfl; omega; omega)
    | (apply s_clear_sv TY; exact rfl; exact rfl; exact rfl; exact rfl; exact rfl; (show _ + _ * 3 ≤ _; omega))
    | (apply s_slice_head TY; exact rfl; exact rfl; exact rfl; exact rfl; exact rfl; omega; omega; omega; exact rfl)
    | (apply s_a TY; exact rfl)
    | (apply s_f; exact rfl; (first | assumption | omega))
    | apply w_seq
    | apply w_region
    | apply s_nil
    | apply t_norm
    | apply t_exit
    | apply k_hit
    | apply w_exit
    | apply w_ret
    | (apply w_condF; exact rfl; exact rfl))
      exact lvG_ret (gh_one 0 4 rfl (delE_row (by rw [List.take_length]; omega) (by rw [take_setAt_ge _ _ _ _ (Nat.le_refl _), show (((((l.take l.length).filter (fun x => !q x)).length : Nat) : Int)).toNat = ((l.take l.length).filter (fun x => !q x)).length by omega, evsF_take, List.take_left, List.take_length]))) (rg1 rfl (rv_tmp rfl))
end Go.Proofs.YtdmdpkoapllkkaaGreat
namespace Go.Proofs.YtdmdpkoapllkkaaGreat
open Go Go.RowKit Go.Proofs Go.Shelf Go.Ab
def minMk (l : List Stm) : Nat → Int
  | 0 => (l.getD 0 default).mark
  | k + 1 => min (minMk l k) (l.getD k default).mark
def maxLn (s : Setup) : Nat → Int
  | 0 => 0
  | k + 1 => max (maxLn s k) (lenR (s.rules.getD k default))
def settledT (s : Setup) (l : List Stm) : Int := minMk l l.length - maxLn s s.rules.length - s.before
theorem lenR_le {r : Rule} (hr : ruleErr r = 0) : 0 ≤ lenR r ∧ lenR r ≤ 39000000 := by
  refine ⟨lenR_pos hr, ?_⟩
  obtain ⟨_, h1, h2, _, _⟩ := ruleOk_of hr
  unfold lenR
  split
  · have : r.window * (r.count - 1) ≤ 1000000 * 39 := Int.mul_le_mul (by omega) (by omega) (by omega) (by omega)
    omega
  · omega
theorem minMk_bd {l : List Stm} (h0 : 1 ≤ l.length) (h : ∀ i (hi : i < l.length), 0 ≤ l[i].mark ∧ l[i].mark ≤ 1000000000000) : ∀ k, k ≤ l.length → 0 ≤ minMk l k ∧ minMk l k ≤ 1000000000000
  | 0, _ => by
    have := h 0 h0
    unfold minMk; rw [getD_at h0]; exact this
  | k + 1, hk => by
    have a := minMk_bd h0 h k (by omega)
    have b := h k hk
    unfold minMk; rw [getD_at hk]; omega
theorem maxLn_bd {s : Setup} (hs : SetOk s) : ∀ k, k ≤ s.rules.length → 0 ≤ maxLn s k ∧ maxLn s k ≤ 39000000
  | 0, _ => by unfold maxLn; omega
  | k + 1, hk => by
    have a := maxLn_bd hs k (by omega)
    have b := lenR_le (hs.rule k hk)
    unfold maxLn; rw [getD_at hk]; omega
theorem length_s (r : Rule) (hr : ruleErr r = 0) : Summ Tryz.prog GG 143 [.agg (ruleF r)] (iv (lenR r)) := by
  have hb := lenR_le hr
  obtain ⟨_, h1, h2, _, _⟩ := ruleOk_of hr
  unfold lenR at hb ⊢
  by_cases h3 : r.kind = 3
  · rw [if_pos h3] at hb ⊢
    refine summW Tryz.func143 rfl rfl 14 rfl (by simp) (fun M0 => ?_)
    repeat (first
    | (apply s_a TY; exact rfl)
    | (apply s_t; exact rfl; (first | assumption | omega))
    | apply w_seq
    | apply w_region
    | apply s_nil
    | apply t_norm
    | apply t_ret
    | apply w_ret
    | (apply w_condT; exact rfl; exact rfl)
    | (apply s_c TY; exact rfl; omega))
    exact lv_ret (ret1 rfl (res_tmp rfl))
  · rw [if_neg h3] at hb ⊢
    refine summW Tryz.func143 rfl rfl 14 rfl (by simp) (fun M0 => ?_)
    repeat (first
    | (apply s_a TY; exact rfl)
    | (apply s_f; exact rfl; (first | assumption | omega))
    | apply w_seq
    | apply w_region
    | apply s_nil
    | apply t_norm
    | apply w_ret
    | apply w_skip
    | (apply w_condF; exact rfl; exact rfl))
    exact lv_ret (ret1 rfl (res_tmp rfl))
theorem rLength_s (r : Rule) (hr : ruleErr r = 0) : Summ Tryz.prog GG 108 [.agg (ruleF r)] (iv (lenR r)) := by
  have hb := lenR_le hr
  obtain ⟨_, h1, h2, _, _⟩ := ruleOk_of hr
  unfold lenR at hb ⊢
  by_cases h3 : r.kind = 3
  · rw [if_pos h3] at hb ⊢
    refine summW Tryz.func108 rfl rfl 14 rfl (by simp) (fun M0 => ?_)
    repeat (first
    | (apply s_a TY; exact rfl)
    | (apply s_t; exact rfl; (first | assumption | omega))
    | apply w_seq
    | apply w_region
    | apply s_nil
    | apply t_norm
    | apply t_ret
    | apply w_ret
    | (apply w_condT; exact rfl; exact rfl)
    | (apply s_c TY; exact rfl; omega))
    exact lv_ret (ret1 rfl (res_tmp rfl))
  · rw [if_neg h3] at hb ⊢
    refine summW Tryz.func108 rfl rfl 14 rfl (by simp) (fun M0 => ?_)
    repeat (first
    | (apply s_a TY; exact rfl)
    | (apply s_f; exact rfl; (first | assumption | omega))
    | apply w_seq
    | apply w_region
    | apply s_nil
    | apply t_norm
    | apply w_ret
    | apply w_skip
    | (apply w_condF; exact rfl; exact rfl))
    exact lv_ret (ret1 rfl (res_tmp rfl))
set_option maxRecDepth 100000 in
set_option maxHeartbeats 1600000 in
theorem settled_s (l : List Site) (s : Setup) (c : List Stm) (hs : SetOk s) (h0 : 1 ≤ c.length) (h6 : c.length ≤ 6) (hm : ∀ i (hi : i < c.length), 0 ≤ c[i].mark ∧ c[i].mark ≤ 1000000000000) : Summ Tryz.prog GG 105 [readoutV l s, .sl c.length (stmsF c)] (iv (settledT s c)) := by
  have hmin := minMk_bd h0 hm
  have hmax := maxLn_bd hs
  have hbe := hs.before
  have hrl := hs.len
  have hg0 : c.getD 0 default = c[0] := getD_at h0
  have hne : stmsF c ≠ [] := stmsF_ne (k := 0) h0
  have hm0 := hm 0 h0
  have e0 : minMk c 0 = c[0].mark := by unfold minMk; rw [hg0]
  have hf1 : (stmsF c)[0 * 2 + 1]? = some (iv c[0].mark) := stmsF_f1 h0
  unfold settledT
  refine summW Tryz.func105 rfl rfl 46 rfl (by simp) (fun M0 => ?_)
  repeat (first
    | (apply s_a TY; exact rfl)
    | apply w_seq
    | apply w_region
    | apply s_nil
    | apply t_norm
    | apply w_block
    | (apply s_z TY; exact rfl; (first | omega | exact ⟨by omega, by (first | with_reducible assumption | ((with_reducible apply stmsF_ne); omega) | ((with_reducible apply rulesF_ne); omega) | assumption)⟩))
    | (apply s_l TY; exact rfl; (first | exact rfl | with_reducible assumption | ((with_reducible apply stmsF_f0); omega) | ((with_reducible apply stmsF_f1); omega) | ((with_reducible apply rulesF_f0); omega) | ((with_reducible apply rulesF_f1); omega) | ((with_reducible apply rulesF_f2); omega) | ((with_reducible apply rulesF_f3); omega) | ((with_reducible apply rulesF_f4); omega) | assumption)))
  apply w_loop (fun k : Nat => ⟨(Ab.upd (Ab.upd (Ab.upd (Ab.upd (Ab.upd (Ab.upd (fun _ => .bot) 2 (.f (.pt ([.sl l.length (sitesF l), .mp (mapS l l.length)] ++ setL s) 0))) 5 (.f (iv (minMk c k)))) 6 (.f (iv 0))) 15 (.f (.sl c.length (stmsF c)))) 16 (.f (iv c.length))) 17 (.f (iv ((k : Nat) : Int)))), (fun _ => none), 0⟩) (fun k => k ≤ c.length) (fun k => c.length - k) 0 (Nat.zero_le _) (gh_le ⟨le_upd rfl trivial (le_upd rfl trivial (le_upd rfl trivial (le_upd rfl trivial (le_upd (by rw [e0]; rfl) trivial (le_upd rfl trivial (le_nil _)))))), le_h0 _ _⟩)
  intro k hk
  have hmk := hmin k hk
  by_cases hc : k < c.length
  · have hmc := hm k hc
    have e1 : minMk c (k + 1) = min (minMk c k) c[k].mark := by rw [← getD_at hc]; rfl
    repeat (first
    | (apply s_a TY; exact rfl)
    | (apply s_t; exact rfl; (first | assumption | omega))
    | apply w_seq
    | apply w_region
    | apply s_nil
    | apply t_norm
    | apply k_norm
    | apply w_block
    | apply w_skip
    | (apply w_condT; exact rfl; exact rfl)
    | (apply s_c TY; exact rfl; (first | omega | exact ⟨by omega, by (first | with_reducible assumption | ((with_reducible apply stmsF_ne); omega) | ((with_reducible apply rulesF_ne); omega) | assumption)⟩))
    | (apply s_m TY; exact rfl; (first | with_reducible assumption | ((with_reducible apply stmsF_sub); omega) | ((with_reducible apply rulesF_sub); omega) | exact rfl); exact rfl)
    | (apply s_alloc TY; exact rfl; exact rfl; exact rfl)
    | (apply s_store TY; exact rfl; exact rfl; exact rfl; exact rfl; exact rfl; exact rfl))
    exact ⟨k + 1, by omega, by omega, gh_le ⟨le_upd rfl trivial (le_upd rfl trivial (le_upd rfl trivial (le_upd rfl trivial (le_upd (by rw [e1]; rfl) trivial (le_upd rfl trivial (le_nil _)))))), le_h0 _ _⟩⟩
  · have hke : k = c.length := by omega
    subst hke
    repeat (first
    | (apply s_a TY; exact rfl)
    | (apply s_f; exact rfl; (first | assumption | omega))
    | apply w_seq
    | apply w_region
    | apply s_nil
    | apply t_norm
    | apply t_exit
    | apply k_hit
    | apply w_block
    | apply w_exit
    | (apply w_condF; exact rfl; exact rfl))
    apply w_loop (fun k : Nat => ⟨(Ab.upd (Ab.upd (Ab.upd (Ab.upd (Ab.upd (Ab.upd (fun _ => .bot) 2 (.f (.pt ([.sl l.length (sitesF l), .mp (mapS l l.length)] ++ setL s) 0))) 5 (.f (iv (minMk c c.length)))) 6 (.f (iv (maxLn s k)))) 28 (.f (.sl s.rules.length (rulesF s.rules)))) 29 (.f (iv s.rules.length))) 30 (.f (iv ((k : Nat) : Int)))), (fun _ => none), 0⟩) (fun k => k ≤ s.rules.length) (fun k => s.rules.length - k) 0 (Nat.zero_le _) (gh_le ⟨le_upd rfl trivial (le_upd rfl trivial (le_upd rfl trivial (le_upd rfl trivial (le_upd rfl trivial (le_upd rfl trivial (le_nil _)))))), le_h0 _ _⟩)
    intro k hk
    have hxk := hmax k hk
    by_cases hc : k < s.rules.length
    · have HL := length_s s.rules[k] (hs.rule k hc)
      have hxl := lenR_le (hs.rule k hc)
      have e1 : maxLn s (k + 1) = max (maxLn s k) (lenR s.rules[k]) := by rw [← getD_at hc]; rfl
      repeat (first
    | (apply s_a TY; exact rfl)
    | (apply s_t; exact rfl; (first | assumption | omega))
    | apply w_seq
    | apply w_region
    | apply s_nil
    | apply t_norm
    | apply k_norm
    | apply w_block
    | apply w_skip
    | (apply w_condT; exact rfl; exact rfl)
    | (apply s_k (HL); exact rfl)
    | (apply s_c TY; exact rfl; (first | omega | exact ⟨by omega, by (first | with_reducible assumption | ((with_reducible apply stmsF_ne); omega) | ((with_reducible apply rulesF_ne); omega) | assumption)⟩))
    | (apply s_m TY; exact rfl; (first | with_reducible assumption | ((with_reducible apply stmsF_sub); omega) | ((with_reducible apply rulesF_sub); omega) | exact rfl); exact rfl)
    | (apply s_alloc TY; exact rfl; exact rfl; exact rfl)
    | (apply s_store TY; exact rfl; exact rfl; exact rfl; exact rfl; exact rfl; exact rfl))
      exact ⟨k + 1, by omega, by omega, gh_le ⟨le_upd rfl trivial (le_upd rfl trivial (le_upd rfl trivial (le_upd (by rw [e1]; rfl) trivial (le_upd rfl trivial (le_upd rfl trivial (le_nil _)))))), le_h0 _ _⟩⟩
    · have hke : k = s.rules.length := by omega
      subst hke
      repeat (first
    | (apply s_a TY; exact rfl)
    | (apply s_f; exact rfl; (first | assumption | omega))
    | apply w_seq
    | apply w_region
    | apply s_nil
    | apply t_norm
    | apply t_exit
    | apply k_hit
    | apply w_exit
    | apply w_ret
    | (apply w_condF; exact rfl; exact rfl)
    | (apply s_c TY; exact rfl; (first | omega | exact ⟨by omega, by (first | with_reducible assumption | ((with_reducible apply stmsF_ne); omega) | ((with_reducible apply rulesF_ne); omega) | assumption)⟩)))
      exact lv_ret (ret1 rfl (res_tmp rfl))
set_option maxRecDepth 100000 in
set_option maxHeartbeats 1600000 in
theorem rSettled_s (s : Setup) (c : List Stm) (hs : SetOk s) (h0 : 1 ≤ c.length) (h6 : c.length ≤ 6) (hm : ∀ i (hi : i < c.length), 0 ≤ c[i].mark ∧ c[i].mark ≤ 1000000000000) : Summ Tryz.prog GG 45 [setF s, .sl c.length (stmsF c)] (iv (settledT s c)) := by
  have hmin := minMk_bd h0 hm
  have hmax := maxLn_bd hs
  have hbe := hs.before
  have hrl := hs.len
  have hg0 : c.getD 0 default = c[0] := getD_at h0
  have hne : stmsF c ≠ [] := stmsF_ne (k := 0) h0
  have hm0 := hm 0 h0
  have e0 : minMk c 0 = c[0].mark := by unfold minMk; rw [hg0]
  have hf1 : (stmsF c)[0 * 2 + 1]? = some (iv c[0].mark) := stmsF_f1 h0
  unfold settledT
  refine summW Tryz.func45 rfl rfl 47 rfl (by simp) (fun M0 => ?_)
  repeat (first
    | (apply s_a TY; exact rfl)
    | apply w_seq
    | apply w_region
    | apply s_nil
    | apply t_norm
    | apply w_block
    | (apply s_z TY; exact rfl; (first | omega | exact ⟨by omega, by (first | with_reducible assumption | ((with_reducible apply stmsF_ne); omega) | ((with_reducible apply rulesF_ne); omega) | assumption)⟩))
    | (apply s_l TY; exact rfl; (first | exact rfl | with_reducible assumption | ((with_reducible apply stmsF_f0); omega) | ((with_reducible apply stmsF_f1); omega) | ((with_reducible apply rulesF_f0); omega) | ((with_reducible apply rulesF_f1); omega) | ((with_reducible apply rulesF_f2); omega) | ((with_reducible apply rulesF_f3); omega) | ((with_reducible apply rulesF_f4); omega) | assumption)))
  apply w_loop (fun k : Nat => ⟨(Ab.upd (Ab.upd (Ab.upd (Ab.upd (Ab.upd (fun _ => .bot) 1 (.f (.sl c.length (stmsF c)))) 2 (.f (.pt (setL s) 0))) 5 (.f (iv (minMk c k)))) 6 (.f (iv 0))) 7 (.f (iv ((k : Nat) : Int)))), (fun _ => none), 0⟩) (fun k => k ≤ c.length) (fun k => c.length - k) 0 (Nat.zero_le _) (gh_le ⟨le_upd rfl trivial (le_upd rfl trivial (le_upd (by rw [e0]; rfl) trivial (le_upd rfl trivial (le_upd rfl trivial (le_nil _))))), le_h0 _ _⟩)
  intro k hk
  have hmk := hmin k hk
  by_cases hc : k < c.length
  · have hmc := hm k hc
    have e1 : minMk c (k + 1) = min (minMk c k) c[k].mark := by rw [← getD_at hc]; rfl
    repeat (first
    | (apply s_a TY; exact rfl)
    | (apply s_t; exact rfl; (first | assumption | omega))
    | apply w_seq
    | apply w_region
    | apply s_nil
    | apply t_norm
    | apply k_norm
    | apply w_block
    | apply w_skip
    | (apply w_condT; exact rfl; exact rfl)
    | (apply s_c TY; exact rfl; (first | omega | exact ⟨by omega, by (first | with_reducible assumption | ((with_reducible apply stmsF_ne); omega) | ((with_reducible apply rulesF_ne); omega) | assumption)⟩))
    | (apply s_l TY; exact rfl; (first | exact rfl | with_reducible assumption | ((with_reducible apply stmsF_f0); omega) | ((with_reducible apply stmsF_f1); omega) | ((with_reducible apply rulesF_f0); omega) | ((with_reducible apply rulesF_f1); omega) | ((with_reducible apply rulesF_f2); omega) | ((with_reducible apply rulesF_f3); omega) | ((with_reducible apply rulesF_f4); omega) | assumption)))
    exact ⟨k + 1, by omega, by omega, gh_le ⟨le_upd rfl trivial (le_upd rfl trivial (le_upd (by rw [e1]; rfl) trivial (le_upd rfl trivial (le_upd rfl trivial (le_nil _))))), le_h0 _ _⟩⟩
  · have hke : k = c.length := by omega
    subst hke
    repeat (first
    | (apply s_a TY; exact rfl)
    | (apply s_f; exact rfl; (first | assumption | omega))
    | apply w_seq
    | apply w_region
    | apply s_nil
    | apply t_norm
    | apply t_exit
    | apply k_hit
    | apply w_block
    | apply w_exit
    | (apply w_condF; exact rfl; exact rfl))
    apply w_loop (fun k : Nat => ⟨(Ab.upd (Ab.upd (Ab.upd (Ab.upd (fun _ => .bot) 2 (.f (.pt (setL s) 0))) 5 (.f (iv (minMk c c.length)))) 6 (.f (iv (maxLn s k)))) 8 (.f (iv ((k : Nat) : Int)))), (fun _ => none), 0⟩) (fun k => k ≤ s.rules.length) (fun k => s.rules.length - k) 0 (Nat.zero_le _) (gh_le ⟨le_upd rfl trivial (le_upd rfl trivial (le_upd rfl trivial (le_upd rfl trivial (le_nil _)))), le_h0 _ _⟩)
    intro k hk
    have hxk := hmax k hk
    by_cases hc : k < s.rules.length
    · have HL := rLength_s s.rules[k] (hs.rule k hc)
      have hxl := lenR_le (hs.rule k hc)
      have e1 : maxLn s (k + 1) = max (maxLn s k) (lenR s.rules[k]) := by rw [← getD_at hc]; rfl
      repeat (first
    | (apply s_a TY; exact rfl)
    | (apply s_t; exact rfl; (first | assumption | omega))
    | apply w_seq
    | apply w_region
    | apply s_nil
    | apply t_norm
    | apply k_norm
    | apply w_block
    | apply w_skip
    | (apply w_condT; exact rfl; exact rfl)
    | (apply s_k (HL); exact rfl)
    | (apply s_c TY; exact rfl; (first | omega | exact ⟨by omega, by (first | with_reducible assumption | ((with_reducible apply stmsF_ne); omega) | ((with_reducible apply rulesF_ne); omega) | assumption)⟩))
    | (apply s_m TY; exact rfl; (first | with_reducible assumption | ((with_reducible apply stmsF_sub); omega) | ((with_reducible apply rulesF_sub); omega) | exact rfl); exact rfl))
      exact ⟨k + 1, by omega, by omega, gh_le ⟨le_upd rfl trivial (le_upd (by rw [e1]; rfl) trivial (le_upd rfl trivial (le_upd rfl trivial (le_nil _)))), le_h0 _ _⟩⟩
    · have hke : k = s.rules.length := by omega
      subst hke
      repeat (first
    | (apply s_a TY; exact rfl)
    | (apply s_f; exact rfl; (first | assumption | omega))
    | apply w_seq
    | apply w_region
    | apply s_nil
    | apply t_norm
    | apply t_exit
    | apply k_hit
    | apply w_exit
    | apply w_ret
    | (apply w_condF; exact rfl; exact rfl)
    | (apply s_c TY; exact rfl; (first | omega | exact ⟨by omega, by (first | with_reducible assumption | ((with_reducible apply stmsF_ne); omega) | ((with_reducible apply rulesF_ne); omega) | assumption)⟩)))
      exact lv_ret (ret1 rfl (res_tmp rfl))
theorem Summ.nilC {P : Program} {G : Nat → Option (List FV)} {g : Nat} {a b r : FV} (K : Summ P G g [a, b, .sl 0 []] r) : Summ P G g [a, b, .v (.slice none 0 0)] r :=
  ⟨K.enters, fun w M us hM hG R => by
    obtain ⟨u1, us1, rfl, r1, R1⟩ := R.head
    obtain ⟨u2, us2, rfl, r2, R2⟩ := R1.head
    obtain ⟨u3, us3, rfl, r3, R3⟩ := R2.head
    have := repV r3
    subst this
    exact K.call w M _ hM hG (RepL.cons r1 (RepL.cons r2 (RepL.cons (RepF.sl none 0 0 [] [] (Nat.le_refl _) rfl (fun u hu => by simp at hu) (fun hn => absurd rfl hn) (fun k u x h => by simp at h)) R3)))⟩
theorem hitsChk_nil (l : List Site) : hitsChk l [] = (0, 0) := by
  unfold hitsChk; rw [if_neg (by simp)]; rfl
def optErr (l : List Site) (s : Setup) : Int := if (arrChk l).2 ≠ 0 then (arrChk l).2 else (setupChk s).2
theorem setErr_nil (l : List Site) (s : Setup) : setErr l s [] = optErr l s := by
  unfold setErr optErr
  rw [hitsChk_nil]
  by_cases h : (setupChk s).2 = 0
  · rw [if_neg (c := (setupChk s).2 ≠ 0) (by simpa using h), h]
  · rw [if_pos (c := (setupChk s).2 ≠ 0) h]
set_option maxRecDepth 100000 in
theorem openStreams_ok (l : List Site) (s : Setup) (c : List Stm) (hl : l.length ≤ 1000000) (hsl : s.rules.length ≤ 1000000) (hn : c.length ≤ 1000000) (hh : ∀ i (hi : i < c.length), c[i].hits.length ≤ 1000000) (he : optErr l s = 0) : Summ Tryz.prog GG 104 [arrF l, setF s, .sl c.length (stmsF c)] (.tup [readoutV l s, iv (stmsChk l c).2]) := by
  have HO := Summ.nilC (openSetup_ok l s [] hl hsl (by simp) (by rw [setErr_nil]; exact he))
  have HH := streamsErr_s l c hn hh
  refine summW Tryz.func104 rfl rfl 27 rfl (by simp) (fun M0 => ?_)
  repeat (first
    | (apply s_a TY; exact rfl)
    | (apply s_t; exact rfl; (first | assumption | omega))
    | apply w_seq
    | apply w_region
    | apply s_nil
    | apply t_norm
    | apply w_ret
    | (apply w_condT; exact rfl; exact rfl)
    | (apply s_k (HO); exact rfl)
    | (apply s_k (HH); exact rfl)
    | (apply s_alloc TY; exact rfl; exact rfl; exact rfl)
    | (apply s_store TY; exact rfl; exact rfl; exact rfl; exact rfl; exact rfl; exact rfl))
  exact lv_ret (ret2 rfl (res_bxs (sub := [.sl l.length (sitesF l), .mp (mapS l l.length), .sl s.rules.length (rulesF s.rules), iv s.before, iv s.after, iv s.dead]) TY rfl rfl rfl rfl rfl) (res_tmp rfl))
set_option maxRecDepth 100000 in
theorem openStreams_errA (l : List Site) (s : Setup) (c : List Stm) (hl : l.length ≤ 1000000) (hsl : s.rules.length ≤ 1000000) (h1 : (arrChk l).2 ≠ 0) : Summ Tryz.prog GG 104 [arrF l, setF s, .sl c.length (stmsF c)] (.tup [readoutE l s, iv (optErr l s)]) := by
  have HO := Summ.nilC (openSetup_errA l s [] hl hsl (by simp) h1)
  rw [setErr_nil] at HO
  have h2 : optErr l s ≠ 0 := by unfold optErr; rw [if_pos h1]; exact h1
  refine summW Tryz.func104 rfl rfl 27 rfl (by simp) (fun M0 => ?_)
  repeat (first
    | (apply s_a TY; exact rfl)
    | (apply s_f; exact rfl; (first | assumption | omega))
    | apply w_seq
    | apply w_region
    | apply s_nil
    | apply t_norm
    | apply w_ret
    | apply w_skip
    | (apply w_condF; exact rfl; exact rfl)
    | (apply s_k (HO); exact rfl)
    | (apply s_alloc TY; exact rfl; exact rfl; exact rfl)
    | (apply s_store TY; exact rfl; exact rfl; exact rfl; exact rfl; exact rfl; exact rfl))
  exact lv_ret (ret2 rfl (res_bxs (sub := [.sl l.length (sitesF l), .mp fun _ => True, .sl s.rules.length (rulesF s.rules), iv s.before, iv s.after, iv s.dead]) TY rfl rfl rfl rfl rfl) (res_tmp rfl))
set_option maxRecDepth 100000 in
theorem openStreams_errB (l : List Site) (s : Setup) (c : List Stm) (hl : l.length ≤ 1000000) (hsl : s.rules.length ≤ 1000000) (h1 : (arrChk l).2 = 0) (h2 : optErr l s ≠ 0) : Summ Tryz.prog GG 104 [arrF l, setF s, .sl c.length (stmsF c)] (.tup [readoutV l s, iv (optErr l s)]) := by
  have HO := Summ.nilC (openSetup_errB l s [] hl hsl (by simp) h1 (by rw [setErr_nil]; exact h2))
  rw [setErr_nil] at HO
  refine summW Tryz.func104 rfl rfl 27 rfl (by simp) (fun M0 => ?_)
  repeat (first
    | (apply s_a TY; exact rfl)
    | (apply s_f; exact rfl; (first | assumption | omega))
    | apply w_seq
    | apply w_region
    | apply s_nil
    | apply t_norm
    | apply w_ret
    | apply w_skip
    | (apply w_condF; exact rfl; exact rfl)
    | (apply s_k (HO); exact rfl)
    | (apply s_alloc TY; exact rfl; exact rfl; exact rfl)
    | (apply s_store TY; exact rfl; exact rfl; exact rfl; exact rfl; exact rfl; exact rfl))
  exact lv_ret (ret2 rfl (res_bxs (sub := [.sl l.length (sitesF l), .mp (mapS l l.length), .sl s.rules.length (rulesF s.rules), iv s.before, iv s.after, iv s.dead]) TY rfl rfl rfl rfl rfl) (res_tmp rfl))
def sseErr (l : List Site) (s : Setup) (c : List Stm) : Int := if optErr l s ≠ 0 then optErr l s else (stmsChk l c).2
theorem optErr_parts {l : List Site} {s : Setup} (h : optErr l s = 0) : (arrChk l).2 = 0 ∧ (setupChk s).2 = 0 := by
  unfold optErr at h
  by_cases h1 : (arrChk l).2 = 0
  · rw [if_neg (by simpa using h1)] at h; exact ⟨h1, h⟩
  · rw [if_pos h1] at h; exact absurd h h1
theorem sse_parts {l : List Site} {s : Setup} {c : List Stm} (h : sseErr l s c = 0) : (arrChk l).2 = 0 ∧ (setupChk s).2 = 0 ∧ (stmsChk l c).2 = 0 := by
  unfold sseErr at h
  by_cases ho : optErr l s = 0
  · rw [if_neg (by simpa using ho)] at h
    exact ⟨(optErr_parts ho).1, (optErr_parts ho).2, h⟩
  · rw [if_pos ho] at h; exact absurd h ho
theorem sse_opt {l : List Site} {s : Setup} {c : List Stm} (h : sseErr l s c = 0) : optErr l s = 0 := by
  unfold sseErr at h
  by_cases ho : optErr l s = 0
  · exact ho
  · rw [if_pos ho] at h; exact absurd h ho
end Go.Proofs.YtdmdpkoapllkkaaGreat
namespace Go.Proofs.YtdmdpkoapllkkaaGreat
open Go Go.RowKit Go.Proofs Go.Shelf Go.Ab
set_option maxRecDepth 100000 in
set_option maxHeartbeats 1600000 in
theorem events_n (l : List Site) (s : Setup) (h : List Hit) (hs : SetOk s) (hl0 : ArrOk l) (ho : HitsOk l h) : SummN Tryz.prog GG 95 [readoutV l s, .sl h.length (hitsF h)] 67 3 (eventsV l s h).length (evsF (eventsV l s h)) := by
  refine summN_of Tryz.func95 rfl rfl 26 rfl (by simp) (fun M0 => ?_)
  have h40 := ho.len
  have h1 := single_len hs ho
  have h2 : (windowsV l s h).length ≤ 160 := Nat.le_trans (joinedV_len _) h1
  have HW := windows_s l s h hs hl0 ho
  repeat (first
    | (apply s_a TY; exact rfl)
    | apply w_seq
    | apply w_region
    | apply s_nil
    | apply t_norm
    | apply w_block
    | (apply s_k (HW); exact rfl))
  apply w_gh (gh_own 5 67 3 rfl rfl)
  apply w_loop (fun k : Nat => ⟨(Ab.upd (Ab.upd (Ab.upd (Ab.upd (Ab.upd (fun _ => .bot) 1 (.f (.sl h.length (hitsF h)))) 5 (.ow 0)) 10 (.f (.sl (windowsV l s h).length (rngsF (windowsV l s h))))) 11 (.f (iv (windowsV l s h).length))) 12 (.f (iv ((k : Nat) : Int)))), (Ab.upd (fun _ => none) 0 (some (.row 67 3 (evK l s h k).length (evsF (evK l s h k))))), 1⟩) (fun k => k ≤ (windowsV l s h).length) (fun k => (windowsV l s h).length - k) 0 (Nat.zero_le _) (gh_le ⟨le_upd rfl trivial (le_upd rfl trivial (le_upd rfl trivial (le_upd rfl rfl (le_upd rfl trivial (le_nil _))))), le_hupd rfl trivial (le_h0 _ _)⟩)
  intro k hk
  have hln := evK_len l s h k
  by_cases hc : k < (windowsV l s h).length
  · have hsu := evK_succ hc
    have HI := hitsIn_s h (windowsV l s h)[k] (by omega)
    repeat (first
    | (apply s_a TY; exact rfl)
    | (apply s_t; exact rfl; (first | assumption | omega))
    | apply w_seq
    | apply w_region
    | (apply w_draw (id := 5) 7 rfl (by kernel_rfl))
    | apply s_nil
    | apply t_norm
    | apply k_norm
    | apply w_block
    | apply w_skip
    | (apply w_condT; exact rfl; exact rfl)
    | (apply s_k (HI); exact rfl)
    | (apply s_c TY; exact rfl; (first | omega | exact ⟨by omega, by (first | with_reducible assumption | ((with_reducible apply rngsF_ne); omega) | assumption)⟩))
    | (apply s_m TY; exact rfl; (first | with_reducible assumption | ((with_reducible apply rngsF_sub); omega) | exact rfl); exact rfl)
    | (apply s_alloc TY; exact rfl; exact rfl; exact rfl)
    | (apply s_store TY; exact rfl; exact rfl; exact rfl; exact rfl; exact rfl; exact rfl)
    | (apply s_append TY; exact rfl; exact rfl; exact rfl; exact rfl; exact rfl; exact rfl; exact rfl; exact rfl; exact rfl; (unfold maxLen; omega); omega))
    exact ⟨k + 1, by omega, by omega, gh_le ⟨le_upd rfl trivial (le_upd rfl trivial (le_upd rfl trivial (le_upd rfl rfl (le_upd rfl trivial (le_nil _))))), le_hupd (rowEv_app hsu) trivial (le_h0 _ _)⟩⟩
  · have hke : k = (windowsV l s h).length := by omega
    subst hke
    rw [evK_all]
    repeat (first
    | (apply s_a TY; exact rfl)
    | (apply s_f; exact rfl; (first | assumption | omega))
    | apply w_seq
    | apply w_region
    | apply s_nil
    | apply t_norm
    | apply t_exit
    | apply k_hit
    | apply w_exit
    | apply w_ret
    | (apply w_condF; exact rfl; exact rfl))
    exact ⟨4, 0, rfl, rfl, rfl⟩
theorem not_le_lt (x y : Int) : (!decide (y ≤ x)) = decide (x < y) := by
  by_cases h : y ≤ x
  · rw [decide_eq_true h, decide_eq_false (by omega)]; rfl
  · rw [decide_eq_false h, decide_eq_true (by omega)]; rfl
theorem settledE_q (l : List Site) (s : Setup) (h : List Hit) (z : Int) : (eventsV l s h).filter (fun x => !(decide (z ≤ x.hi))) = settledE l s h z := by
  unfold settledE
  congr 1
  funext x
  exact not_le_lt _ _
theorem settled1_s (v : Ev) (z : Int) : Summ Tryz.prog GG 112 [.agg (evF v), .pt [iv z] 0] (bv (decide (z ≤ v.hi))) := by
  by_cases h : z ≤ v.hi
  · rw [decide_eq_true h]
    refine summW Tryz.func112 rfl rfl 9 rfl (by simp) (fun M0 => ?_)
    repeat (first
    | (apply s_a TY; exact rfl)
    | (apply s_t; exact rfl; (first | assumption | omega))
    | apply w_seq
    | apply w_region
    | apply s_nil
    | apply t_norm
    | apply w_ret)
    exact lv_ret (ret1 rfl (res_tmp rfl))
  · rw [decide_eq_false h]
    refine summW Tryz.func112 rfl rfl 9 rfl (by simp) (fun M0 => ?_)
    repeat (first
    | (apply s_a TY; exact rfl)
    | (apply s_f; exact rfl; (first | assumption | omega))
    | apply w_seq
    | apply w_region
    | apply s_nil
    | apply t_norm
    | apply w_ret)
    exact lv_ret (ret1 rfl (res_tmp rfl))
set_option maxRecDepth 100000 in
theorem SettledEvents_err (l : List Site) (s : Setup) (c : List Stm) (hl : l.length ≤ 1000000) (hsl : s.rules.length ≤ 1000000) (hn : c.length ≤ 1000000) (hh : ∀ i (hi : i < c.length), c[i].hits.length ≤ 1000000) (he : sseErr l s c ≠ 0) : Summ Tryz.prog GG 50 [arrF l, setF s, .sl c.length (stmsF c)] (.tup [.v (.slice none 0 0), iv (sseErr l s c)]) := by
  unfold sseErr at he ⊢
  by_cases ho : optErr l s = 0
  · rw [if_neg (by simpa using ho)] at he ⊢
    have HO := openStreams_ok l s c hl hsl hn hh ho
    refine summW Tryz.func50 rfl rfl 39 rfl (by simp) (fun M0 => ?_)
    repeat (first
    | (apply s_a TY; exact rfl)
    | (apply s_f; exact rfl; (first | assumption | omega))
    | apply w_seq
    | apply w_region
    | apply s_nil
    | apply t_norm
    | apply t_ret
    | apply w_ret
    | (apply w_condT; exact rfl; exact rfl)
    | (apply s_k (HO); exact rfl)
    | (apply s_alloc TY; exact rfl; exact rfl; exact rfl)
    | (apply s_store TY; exact rfl; exact rfl; exact rfl; exact rfl; exact rfl; exact rfl))
    exact lv_ret (ret2 rfl (res_tmp rfl) (res_tmp rfl))
  · rw [if_pos ho] at he ⊢
    by_cases h1 : (arrChk l).2 = 0
    · have HO := openStreams_errB l s c hl hsl h1 ho
      refine summW Tryz.func50 rfl rfl 39 rfl (by simp) (fun M0 => ?_)
      repeat (first
    | (apply s_a TY; exact rfl)
    | (apply s_f; exact rfl; (first | assumption | omega))
    | apply w_seq
    | apply w_region
    | apply s_nil
    | apply t_norm
    | apply t_ret
    | apply w_ret
    | (apply w_condT; exact rfl; exact rfl)
    | (apply s_k (HO); exact rfl)
    | (apply s_alloc TY; exact rfl; exact rfl; exact rfl)
    | (apply s_store TY; exact rfl; exact rfl; exact rfl; exact rfl; exact rfl; exact rfl))
      exact lv_ret (ret2 rfl (res_tmp rfl) (res_tmp rfl))
    · have HO := openStreams_errA l s c hl hsl h1
      refine summW Tryz.func50 rfl rfl 39 rfl (by simp) (fun M0 => ?_)
      repeat (first
    | (apply s_a TY; exact rfl)
    | (apply s_f; exact rfl; (first | assumption | omega))
    | apply w_seq
    | apply w_region
    | apply s_nil
    | apply t_norm
    | apply t_ret
    | apply w_ret
    | (apply w_condT; exact rfl; exact rfl)
    | (apply s_k (HO); exact rfl)
    | (apply s_alloc TY; exact rfl; exact rfl; exact rfl)
    | (apply s_store TY; exact rfl; exact rfl; exact rfl; exact rfl; exact rfl; exact rfl))
      exact lv_ret (ret2 rfl (res_tmp rfl) (res_tmp rfl))
set_option maxRecDepth 100000 in
theorem SettledEvents_large (l : List Site) (s : Setup) (c : List Stm) (hl : l.length ≤ 1000000) (hsl : s.rules.length ≤ 1000000) (hn : c.length ≤ 1000000) (hh : ∀ i (hi : i < c.length), c[i].hits.length ≤ 1000000) (he : sseErr l s c = 0) (h40 : 40 < (mergeH (allH c)).length) : Summ Tryz.prog GG 50 [arrF l, setF s, .sl c.length (stmsF c)] (.tup [.v (.slice none 0 0), iv 8]) := by
  obtain ⟨e1, e2, e3⟩ := sse_parts he
  have hs := setOk_of e2
  have hl0 := arrOk_of e1
  obtain ⟨hc1, hc6, hci⟩ := stmsChk_ok e3
  have HO := openStreams_ok l s c hl hsl hn hh (sse_opt he)
  rw [e3] at HO
  have HS := settled_s l s c hs hc1 hc6 (fun i hi => (hci i hi).2)
  have HM := Merged_large l c hl e1 e3 h40
  refine summW Tryz.func50 rfl rfl 39 rfl (by simp) (fun M0 => ?_)
  repeat (first
    | (apply s_a TY; exact rfl)
    | (apply s_t; exact rfl; (first | assumption | omega))
    | (apply s_f; exact rfl; (first | assumption | omega))
    | apply w_seq
    | apply w_region
    | apply s_nil
    | apply t_norm
    | apply t_ret
    | apply w_ret
    | apply w_skip
    | (apply w_condT; exact rfl; exact rfl)
    | (apply w_condF; exact rfl; exact rfl)
    | (apply s_k (HO); exact rfl)
    | (apply s_k (HM); exact rfl)
    | (apply s_alloc TY; exact rfl; exact rfl; exact rfl)
    | (apply s_store TY; exact rfl; exact rfl; exact rfl; exact rfl; exact rfl; exact rfl))
  exact lv_ret (ret2 rfl (res_tmp rfl) (res_tmp rfl))
set_option maxRecDepth 100000 in
set_option maxHeartbeats 1600000 in
theorem SettledEvents_ok (l : List Site) (s : Setup) (c : List Stm) (hl : l.length ≤ 1000000) (hsl : s.rules.length ≤ 1000000) (hn : c.length ≤ 1000000) (hh : ∀ i (hi : i < c.length), c[i].hits.length ≤ 1000000) (he : sseErr l s c = 0) (h40 : (mergeH (allH c)).length ≤ 40) : Summ Tryz.prog GG 50 [arrF l, setF s, .sl c.length (stmsF c)] (.tup [.sl (settledE l s (mergeH (allH c)) (settledT s c)).length (evsF (settledE l s (mergeH (allH c)) (settledT s c))), iv 0]) := by
  obtain ⟨e1, e2, e3⟩ := sse_parts he
  have hs := setOk_of e2
  have hl0 := arrOk_of e1
  obtain ⟨hc1, hc6, hci⟩ := stmsChk_ok e3
  have HO := openStreams_ok l s c hl hsl hn hh (sse_opt he)
  rw [e3] at HO
  have HS := settled_s l s c hs hc1 hc6 (fun i hi => (hci i hi).2)
  have HM := Merged_ok l c hl e1 e3 h40
  have ho := merge_ok hl0 e3 h40
  have HEn := events_n l s (mergeH (allH c)) hs hl0 ho
  have hel : (eventsV l s (mergeH (allH c))).length ≤ 1000000 := by
    have := single_len hs ho (l := l)
    have h2 := joinedV_len (singleV l s (mergeH (allH c)))
    unfold eventsV windowsV
    rw [List.length_map]; omega
  have HD := delE_g (eventsV l s (mergeH (allH c))) 112 [.pt [iv (settledT s c)] 0] (fun x => decide ((settledT s c) ≤ x.hi)) hel (fun i hi => settled1_s _ _)
  rw [settledE_q] at HD
  refine summW Tryz.func50 rfl rfl 39 rfl (by simp) (fun M0 => ?_)
  repeat (first
    | (apply s_callN HEn; exact rfl; exact rfl; exact rfl; exact rfl; exact rfl)
    | (apply s_a TY; exact rfl)
    | (apply s_t; exact rfl; (first | assumption | omega))
    | apply w_seq
    | apply w_region
    | apply s_nil
    | apply t_norm
    | apply w_skip
    | (apply w_condF; exact rfl; exact rfl)
    | (apply s_k (HO); exact rfl)
    | (apply s_k (HS); exact rfl)
    | (apply s_k (HM); exact rfl)
    | (apply s_alloc TY; exact rfl; exact rfl; exact rfl)
    | (apply s_store TY; exact rfl; exact rfl; exact rfl; exact rfl; exact rfl; exact rfl))
  refine s_ghost rfl (gh_box 1 (cs := [iv (settledT s c)]) rfl rfl) ?_
  repeat (first
    | (apply s_a TY; exact rfl)
    | (apply s_makefn; exact rfl; exact rfl)
    | apply s_nil
    | apply t_norm
    | apply w_ret
    | (apply s_callG [2] (HD); exact rfl; exact rfl; exact rfl; exact ⟨rfl, trivial⟩; exact rfl; (first | exact ⟨rfl, rfl⟩ | exact ⟨⟨rfl, rfl⟩, ⟨rfl, rfl⟩⟩ | exact ⟨⟨rfl, rfl⟩, ⟨rfl, rfl⟩, ⟨rfl, rfl⟩⟩)))
  exact lv_ret (ret_gh (gh_row 2 rfl) (ret2 rfl (res_tmp rfl) (res_tmp rfl)))
set_option maxRecDepth 100000 in
set_option maxHeartbeats 1600000 in
theorem rCheckStreams_s (l : List Site) (c : List Stm) (hl : l.length ≤ 1000000) (hn : c.length ≤ 1000000) (hh : ∀ i (hi : i < c.length), c[i].hits.length ≤ 1000000) : Summ Tryz.prog GG 43 [arrF l, .sl c.length (stmsF c)] (.tup [iv (stmsChk l c).1, iv (stmsChk l c).2]) := by
  by_cases h0 : c.length = 0
  · rw [show stmsChk l c = (0, 10) by unfold stmsChk; rw [if_pos h0]]
    refine summW Tryz.func43 rfl rfl 39 rfl (by simp) (fun M0 => ?_)
    repeat (first
    | (apply s_a TY; exact rfl)
    | (apply s_t; exact rfl; (first | assumption | omega))
    | apply w_seq
    | apply w_region
    | apply s_nil
    | apply t_norm
    | apply t_ret
    | apply w_ret
    | (apply w_condT; exact rfl; exact rfl))
    exact lv_ret (ret2 rfl (res_tmp rfl) (res_tmp rfl))
  by_cases h6 : 6 < c.length
  · rw [show stmsChk l c = (0, 8) by unfold stmsChk; rw [if_neg h0, if_pos h6]]
    refine summW Tryz.func43 rfl rfl 39 rfl (by simp) (fun M0 => ?_)
    repeat (first
    | (apply s_a TY; exact rfl)
    | (apply s_t; exact rfl; (first | assumption | omega))
    | (apply s_f; exact rfl; (first | assumption | omega))
    | apply w_seq
    | apply w_region
    | apply s_nil
    | apply t_norm
    | apply t_ret
    | apply w_ret
    | apply w_skip
    | (apply w_condT; exact rfl; exact rfl)
    | (apply w_condF; exact rfl; exact rfl))
    exact lv_ret (ret2 rfl (res_tmp rfl) (res_tmp rfl))
  have hE : stmsChk l c = eachE c.length fun i => stmE l (c.getD i default) := by unfold stmsChk; rw [if_neg h0, if_neg h6]
  refine summW Tryz.func43 rfl rfl 39 rfl (by simp) (fun M0 => ?_)
  repeat (first
    | (apply s_a TY; exact rfl)
    | (apply s_f; exact rfl; (first | assumption | omega))
    | apply w_seq
    | apply w_region
    | apply s_nil
    | apply t_norm
    | apply w_block
    | apply w_skip
    | (apply w_condF; exact rfl; exact rfl))
  apply w_loop (fun k : Nat => ⟨(Ab.upd (Ab.upd (Ab.upd (fun _ => .bot) 1 (.f (.sl c.length (stmsF c)))) 2 (.f (.pt [.sl l.length (sitesF l)] 0))) 6 (.f (iv ((k : Nat) : Int)))), (fun _ => none), 0⟩) (fun k => k ≤ c.length ∧ ∀ j, j < k → stmE l (c.getD j default) = 0) (fun k => c.length - k) 0 (⟨Nat.zero_le _, fun j h => absurd h (Nat.not_lt_zero j)⟩) (gh_le ⟨le_upd rfl trivial (le_upd rfl trivial (le_upd rfl trivial (le_nil _))), le_h0 _ _⟩)
  intro k ⟨hk, hz⟩
  by_cases hc : k < c.length
  · have HH := HitsErr_s l c[k].hits hl (hh k hc)
    by_cases he1 : (hitsChk l c[k].hits).2 = 0
    · rw [he1] at HH
      by_cases he2 : 0 ≤ c[k].mark ∧ c[k].mark ≤ 1000000000000
      · have hs : stmE l c[k] = 0 := stmE_ok.2 ⟨he1, he2⟩
        repeat (first
    | (apply s_a TY; exact rfl)
    | (apply s_t; exact rfl; (first | assumption | omega))
    | apply w_seq
    | apply w_region
    | (apply w_draw (id := 8) 6 rfl (by kernel_rfl))
    | apply s_nil
    | apply t_norm
    | apply k_norm
    | apply w_block
    | apply w_skip
    | (apply w_condT; exact rfl; exact rfl)
    | (apply w_condF; exact rfl; exact rfl)
    | (apply s_k (HH); exact rfl)
    | (apply s_k1 (bIsTick_T _); exact rfl; (first | assumption | omega | decide))
    | (apply s_c TY; exact rfl; (first | omega | exact ⟨by omega, by (first | with_reducible assumption | ((with_reducible apply stmsF_ne); omega) | assumption)⟩))
    | (apply s_l TY; exact rfl; (first | exact rfl | with_reducible assumption | ((with_reducible apply stmsF_f0); omega) | ((with_reducible apply stmsF_f1); omega) | assumption)))
        exact ⟨k + 1, ⟨by omega, fun j hj => by
          by_cases e : j = k
          · subst e; rw [getD_at hc]; exact hs
          · exact hz j (by omega)⟩, by omega, gh_le ⟨le_upd rfl trivial (le_upd rfl trivial (le_upd rfl trivial (le_nil _))), le_h0 _ _⟩⟩
      · have hs : stmE l c[k] = 2 := by
          have hw : withinB c[k].mark 0 1000000000000 = false := by simp [withinB]; omega
          unfold stmE; rw [he1, hw]; simp [firstE, unlessE]
        rw [hE, eachE_at hc hz (by rw [getD_at hc, hs]; decide), getD_at hc, hs]
        repeat (first
    | (apply s_a TY; exact rfl)
    | (apply s_t; exact rfl; (first | assumption | omega))
    | apply w_seq
    | apply w_region
    | (apply w_draw (id := 8) 6 rfl (by kernel_rfl))
    | apply s_nil
    | apply t_norm
    | apply t_ret
    | apply k_ret
    | apply w_block
    | apply w_ret
    | apply w_skip
    | (apply w_condT; exact rfl; exact rfl)
    | (apply w_condF; exact rfl; exact rfl)
    | (apply s_k (HH); exact rfl)
    | (apply s_k1 (bIsTick_F _); exact rfl; (first | assumption | omega | decide))
    | (apply s_c TY; exact rfl; (first | omega | exact ⟨by omega, by (first | with_reducible assumption | ((with_reducible apply stmsF_ne); omega) | assumption)⟩))
    | (apply s_l TY; exact rfl; (first | exact rfl | with_reducible assumption | ((with_reducible apply stmsF_f0); omega) | ((with_reducible apply stmsF_f1); omega) | assumption)))
        exact lv_ret (ret2 rfl (res_tmp rfl) (res_tmp rfl))
    · have hs : stmE l c[k] = (hitsChk l c[k].hits).2 := by unfold stmE; simp [firstE, he1]
      rw [hE, eachE_at hc hz (by rw [getD_at hc, hs]; exact he1), getD_at hc, hs]
      repeat (first
    | (apply s_a TY; exact rfl)
    | (apply s_t; exact rfl; (first | assumption | omega))
    | (apply s_f; exact rfl; (first | assumption | omega))
    | apply w_seq
    | apply w_region
    | (apply w_draw (id := 8) 6 rfl (by kernel_rfl))
    | apply s_nil
    | apply t_norm
    | apply t_ret
    | apply k_ret
    | apply w_block
    | apply w_ret
    | apply w_skip
    | (apply w_condT; exact rfl; exact rfl)
    | (apply s_k (HH); exact rfl)
    | (apply s_c TY; exact rfl; (first | omega | exact ⟨by omega, by (first | with_reducible assumption | ((with_reducible apply stmsF_ne); omega) | assumption)⟩))
    | (apply s_l TY; exact rfl; (first | exact rfl | with_reducible assumption | ((with_reducible apply stmsF_f0); omega) | ((with_reducible apply stmsF_f1); omega) | assumption)))
      exact lv_ret (ret2 rfl (res_tmp rfl) (res_tmp rfl))
  · rw [hE, eachE_ok (fun i hi => hz i (by omega))]
    repeat (first
    | (apply s_a TY; exact rfl)
    | (apply s_f; exact rfl; (first | assumption | omega))
    | apply w_seq
    | apply w_region
    | apply s_nil
    | apply t_norm
    | apply t_exit
    | apply k_hit
    | apply w_exit
    | apply w_ret
    | (apply w_condF; exact rfl; exact rfl))
    exact lv_ret (ret2 rfl (res_tmp rfl) (res_tmp rfl))
set_option maxRecDepth 100000 in
theorem StreamsErr_s (l : List Site) (c : List Stm) (hl : l.length ≤ 1000000) (hn : c.length ≤ 1000000) (hh : ∀ i (hi : i < c.length), c[i].hits.length ≤ 1000000) : Summ Tryz.prog GG 52 [arrF l, .sl c.length (stmsF c)] (iv (stmsChk l c).2) := by
  have HC := rCheckStreams_s l c hl hn hh
  refine summW Tryz.func52 rfl rfl 14 rfl (by simp) (fun M0 => ?_)
  repeat (first
    | (apply s_a TY; exact rfl)
    | apply w_seq
    | apply w_region
    | apply s_nil
    | apply t_norm
    | apply w_ret
    | (apply s_k (HC); exact rfl))
  exact lv_ret (ret1 rfl (res_tmp rfl))
theorem row_tkS {L : List Stm} {k : Nat} (h : k < L.length) : some (Blk.row 46 2 ((L.take k).length + 1) (stmsF (L.take k) ++ [.sl L[k].hits.length (hitsF L[k].hits), iv L[k].mark])) = some (Blk.row 46 2 (L.take (k + 1)).length (stmsF (L.take (k + 1)))) := by
  rw [stmsF_tk h, List.take_succ_eq_append_getElem h, List.length_append]; rfl
set_option maxRecDepth 100000 in
set_option maxHeartbeats 1600000 in
theorem CopyStreams_s (c : List Stm) (hn : c.length ≤ 1000000) (hh : ∀ i (hi : i < c.length), c[i].hits.length ≤ 1000000) : Summ Tryz.prog GG 40 [.sl c.length (stmsF c)] (.sl c.length (stmsF c)) := by
  refine summW Tryz.func40 rfl rfl 27 rfl (by simp) (fun M0 => ?_)
  repeat (first
    | (apply s_a TY; exact rfl)
    | apply w_seq
    | apply w_region
    | apply s_nil
    | apply t_norm
    | apply w_block)
  apply w_gh (gh_own 3 46 2 rfl rfl)
  apply w_loop (fun k : Nat => ⟨(Ab.upd (Ab.upd (Ab.upd (fun _ => .bot) 0 (.f (.sl c.length (stmsF c)))) 3 (.ow 0)) 4 (.f (iv ((k : Nat) : Int)))), (Ab.upd (fun _ => none) 0 (some (.row 46 2 (c.take k).length (stmsF (c.take k))))), 1⟩) (fun k => k ≤ c.length) (fun k => c.length - k) 0 (Nat.zero_le _) (gh_le ⟨le_upd rfl trivial (le_upd rfl rfl (le_upd rfl trivial (le_nil _))), le_hupd rfl trivial (le_h0 _ _)⟩)
  intro k hk
  have hlk : (c.take k).length = k := by rw [List.length_take]; omega
  by_cases hc : k < c.length
  · have HC := CopyHits_s c[k].hits (hh k hc)
    repeat (first
    | (apply s_a TY; exact rfl)
    | (apply s_t; exact rfl; (first | assumption | omega))
    | apply w_seq
    | apply w_region
    | (apply w_draw (id := 5) 14 rfl (by kernel_rfl))
    | apply s_nil
    | apply t_norm
    | apply k_norm
    | apply w_block
    | apply w_skip
    | (apply w_condT; exact rfl; exact rfl)
    | (apply s_k (HC); exact rfl)
    | (apply s_c TY; exact rfl; (first | omega | exact ⟨by omega, by (first | with_reducible assumption | ((with_reducible apply stmsF_ne); omega) | assumption)⟩))
    | (apply s_l TY; exact rfl; (first | exact rfl | with_reducible assumption | ((with_reducible apply stmsF_f0); omega) | ((with_reducible apply stmsF_f1); omega) | assumption))
    | (apply s_append TY; exact rfl; exact rfl; exact rfl; exact rfl; exact rfl; exact rfl; exact rfl; exact rfl; exact rfl; (unfold maxLen; omega); omega))
    exact ⟨k + 1, by omega, by omega, gh_le ⟨le_upd rfl trivial (le_upd rfl rfl (le_upd rfl trivial (le_nil _))), le_hupd (row_tkS hc) trivial (le_h0 _ _)⟩⟩
  · have hke : k = c.length := by omega
    subst hke
    rw [List.take_length]
    repeat (first
    | (apply s_a TY; exact rfl)
    | (apply s_f; exact rfl; (first | assumption | omega))
    | apply w_seq
    | apply w_region
    | apply s_nil
    | apply t_norm
    | apply t_exit
    | apply k_hit
    | apply w_exit
    | apply w_ret
    | (apply w_condF; exact rfl; exact rfl))
    exact lv_ret (ret_gh (gh_row 0 rfl) (ret1 rfl (res_tmp rfl)))
end Go.Proofs.YtdmdpkoapllkkaaGreat
namespace Go.Proofs.YtdmdpkoapllkkaaGreat
open Go Go.RowKit Go.Proofs Go.Shelf Go.Ab
theorem gh_nil {C : Ctx} {N : Nat} {st : St} (t : Nat) (hs : st.s t = .f (.v (.slice none 0 0))) : Gh C N st { st with s := upd st.s t (.f (.sl 0 [])) } := fun w0 a w ⟨J, S⟩ => ⟨J, S.ext, S.size, S.defs, fun k => by
    show RepA C w st.h J _ (upd st.s t (.f (.sl 0 [])) k)
    by_cases e : k = t
    · subst e
      have h := S.slot k
      rw [hs] at h
      have h' : RepF w (Mb C st.h J) _ (.v (.slice none 0 0)) := h
      rw [upd_same, repV h']
      exact RepF.sl none 0 0 [] [] (Nat.le_refl _) rfl (fun u hu => by simp at hu) (fun hn => absurd rfl hn) (fun k u x h => by simp at h)
    · rw [upd_other _ _ e]; exact S.slot k, S.blk, S.apart, S.old, S.glob, S.fix⟩
theorem mergeO_succ {c : List Stm} {i : Nat} (hi : i < c.length) : (mergeH (allH (c.take (i + 1)))) = c[i].hits.foldl insH (mergeH (allH (c.take i))) := by
  unfold mergeH; rw [allH_succ hi, List.foldl_append]
theorem mergeK_succ {c : List Stm} {i k : Nat} (hi : i < c.length) (hk : k < c[i].hits.length) : ((c[i].hits.take (k + 1)).foldl insH (mergeH (allH (c.take i)))) = insH ((c[i].hits.take k).foldl insH (mergeH (allH (c.take i)))) c[i].hits[k] := by
  rw [List.take_succ_eq_append_getElem hk, List.foldl_append]; rfl
set_option maxRecDepth 100000 in
set_option maxHeartbeats 6400000 in
theorem rMerged_s (c : List Stm) (hl : c.length ≤ 10) (hn : ∀ i (hi : i < c.length), c[i].hits.length ≤ 50) : Summ Tryz.prog GG 46 [.sl c.length (stmsF c)] (.sl (mergeH (allH c)).length (hitsF (mergeH (allH c)))) := by
  refine summW Tryz.func46 rfl rfl 71 rfl (by simp) (fun M0 => ?_)
  repeat (first
    | (apply s_a TY; exact rfl)
    | apply w_seq
    | apply w_region
    | apply s_nil
    | apply t_norm
    | apply w_block)
  apply w_gh (gh_nil 3 rfl)
  apply w_loop (fun i : Nat => ⟨(Ab.upd (Ab.upd (Ab.upd (fun _ => .bot) 0 (.f (.sl c.length (stmsF c)))) 3 (.f (.sl (mergeH (allH (c.take i))).length (hitsF (mergeH (allH (c.take i))))))) 4 (.f (iv ((i : Nat) : Int)))), (fun _ => none), 0⟩) (fun i => i ≤ c.length) (fun i => c.length - i) 0 (Nat.zero_le _) (gh_le ⟨le_upd rfl trivial (le_upd rfl trivial (le_upd rfl trivial (le_nil _))), le_h0 _ _⟩)
  intro i hi
  have hoi : (mergeH (allH (c.take i))).length ≤ 500 := by
    have h1 := mergeH_len (allH (c.take i))
    have h2 := allH_le hn i hi
    have : i * 50 ≤ 10 * 50 := Nat.mul_le_mul_right _ (by omega)
    omega
  by_cases hc : i < c.length
  · have hni := hn i hc
    repeat (first
    | (apply s_a TY; exact rfl)
    | (apply s_t; exact rfl; (first | assumption | omega))
    | apply w_seq
    | apply w_region
    | apply s_nil
    | apply t_norm
    | apply w_block
    | apply w_skip
    | (apply w_condT; exact rfl; exact rfl))
    apply w_loop (fun k : Nat => ⟨(Ab.upd (Ab.upd (Ab.upd (Ab.upd (fun _ => .bot) 0 (.f (.sl c.length (stmsF c)))) 3 (.f (.sl ((c[i].hits.take k).foldl insH (mergeH (allH (c.take i)))).length (hitsF ((c[i].hits.take k).foldl insH (mergeH (allH (c.take i)))))))) 4 (.f (iv ((i : Nat) : Int)))) 5 (.f (iv ((k : Nat) : Int)))), (fun _ => none), 0⟩) (fun k => k ≤ c[i].hits.length) (fun k => c[i].hits.length - k) 0 (Nat.zero_le _) (gh_le ⟨le_upd rfl trivial (le_upd rfl trivial (le_upd rfl trivial (le_upd rfl trivial (le_nil _)))), le_h0 _ _⟩)
    intro k hk
    by_cases hkc : k < c[i].hits.length
    · have hsu := mergeK_succ hc hkc
      have hol : ((c[i].hits.take k).foldl insH (mergeH (allH (c.take i)))).length ≤ 550 := by
        have := foldl_insH_len (l := c[i].hits.take k) (o := (mergeH (allH (c.take i))))
        rw [List.length_take] at this; omega
      obtain ⟨x, hx⟩ : ∃ x, x = c[i].hits[k] := ⟨_, rfl⟩
      have hsub : ((hitsF c[i].hits).drop (k * 3)).take 3 = hitF x := by rw [hx]; exact hitsF_sub hkc
      have hhne : hitsF c[i].hits ≠ [] := hitsF_ne hkc
      rw [← hx] at hsu
      generalize ((c[i].hits.take k).foldl insH (mergeH (allH (c.take i)))) = o at hol hsu ⊢
      repeat (first
    | (apply s_m TY; exact rfl; exact hsub; exact rfl)
    | (apply s_a TY; exact rfl)
    | (apply s_t; exact rfl; (first | assumption | omega))
    | apply w_seq
    | apply w_region
    | apply s_nil
    | apply t_norm
    | apply w_block
    | apply w_skip
    | (apply w_condT; exact rfl; exact rfl)
    | (apply s_c TY; exact rfl; (first | omega | exact ⟨by omega, by (first | with_reducible assumption | ((with_reducible apply hitsF_ne); omega) | ((with_reducible apply stmsF_ne); omega) | assumption)⟩))
    | (apply s_l TY; exact rfl; (first | exact rfl | with_reducible assumption | ((with_reducible apply hitsF_f0); omega) | ((with_reducible apply hitsF_f1); omega) | ((with_reducible apply hitsF_f2); omega) | ((with_reducible apply stmsF_f0); omega) | ((with_reducible apply stmsF_f1); omega) | assumption))
    | (apply s_alloc TY; exact rfl; exact rfl; exact rfl)
    | (apply s_store TY; exact rfl; exact rfl; exact rfl; exact rfl; exact rfl; exact rfl))
      apply w_gh (gh_box 0 (cs := hitF x) rfl rfl)
      apply w_loop (fun a : Nat => ⟨(Ab.upd (Ab.upd (Ab.upd (Ab.upd (Ab.upd (Ab.upd (fun _ => .bot) 0 (.f (.sl c.length (stmsF c)))) 3 (.f (.sl o.length (hitsF o)))) 4 (.f (iv ((i : Nat) : Int)))) 5 (.f (iv ((k : Nat) : Int)))) 6 (.f (.pt (hitF x) 0))) 7 (.f (iv ((a : Nat) : Int)))), (fun _ => none), 0⟩) (fun a => a ≤ o.length ∧ ∀ j (hj : j < o.length), j < a → before o[j] x) (fun a => o.length - a) 0 (⟨Nat.zero_le _, fun j _ h => absurd h (Nat.not_lt_zero j)⟩) (gh_le ⟨le_upd rfl trivial (le_upd rfl trivial (le_upd rfl trivial (le_upd rfl trivial (le_upd rfl trivial (le_upd rfl trivial (le_nil _)))))), le_h0 _ _⟩)
      intro a ⟨ha, hb1⟩
      by_cases hac : a < o.length
      · have HB := isBefore_s o[a] x
        by_cases hba : before o[a] x
        · rw [decide_eq_true hba] at HB
          repeat (first
    | (apply s_a TY; exact rfl)
    | (apply s_t; exact rfl; (first | assumption | omega))
    | apply w_seq
    | apply w_region
    | (apply w_draw (id := 10) 10 rfl (by kernel_rfl))
    | apply s_nil
    | apply t_norm
    | apply k_norm
    | apply w_block
    | apply w_skip
    | (apply w_condT; exact rfl; exact rfl)
    | (apply s_k (HB); exact rfl)
    | (apply s_c TY; exact rfl; (first | omega | exact ⟨by omega, by (first | with_reducible assumption | ((with_reducible apply hitsF_ne); omega) | ((with_reducible apply stmsF_ne); omega) | assumption)⟩))
    | (apply s_m TY; exact rfl; (first | with_reducible assumption | ((with_reducible apply hitsF_sub); omega) | ((with_reducible apply stmsF_sub); omega) | exact rfl); exact rfl))
          exact ⟨a + 1, ⟨by omega, fun j hj hja => by
            by_cases e : j = a
            · subst e; exact hba
            · exact hb1 j hj (by omega)⟩, by omega, gh_le ⟨le_upd rfl trivial (le_upd rfl trivial (le_upd rfl trivial (le_upd rfl trivial (le_upd rfl trivial (le_upd rfl trivial (le_nil _)))))), le_h0 _ _⟩⟩
        · rw [decide_eq_false hba] at HB
          have hb2 : ∀ h : a < o.length, ¬ before o[a] x := fun _ => hba
          by_cases hne : o[a] = x
          · have hse := insH_same hac hb1 hne
            repeat (first
    | (apply s_bind; exact rfl; exact rfl; exact rfl; exact rfl; exact rfl; exact rfl; exact ne_hit (c := false) (by rw [decide_eq_true hne]; rfl))
    | (apply s_a TY; exact rfl)
    | (apply s_t; exact rfl; (first | assumption | omega))
    | (apply s_f; exact rfl; (first | assumption | omega))
    | apply w_seq
    | apply w_region
    | (apply w_draw (id := 10) 10 rfl (by kernel_rfl))
    | (apply w_draw (id := 12) 10 rfl (by kernel_rfl))
    | apply s_nil
    | apply t_norm
    | apply t_exit
    | apply k_hit
    | apply k_norm
    | apply w_exit
    | apply w_skip
    | (apply w_condF; exact rfl; exact rfl)
    | (apply s_k (HB); exact rfl)
    | (apply s_c TY; exact rfl; (first | omega | exact ⟨by omega, by (first | with_reducible assumption | ((with_reducible apply hitsF_ne); omega) | ((with_reducible apply stmsF_ne); omega) | assumption)⟩))
    | (apply s_m TY; exact rfl; (first | with_reducible assumption | ((with_reducible apply hitsF_sub); omega) | ((with_reducible apply stmsF_sub); omega) | exact rfl); exact rfl))
            exact ⟨k + 1, by omega, by omega, gh_le ⟨le_upd rfl trivial (le_upd rfl trivial (le_upd (slF_eq (by rw [hsu, hse]) (by rw [hsu, hse])) trivial (le_upd rfl trivial (le_nil _)))), le_h0 _ _⟩⟩
          · have hb3 : (if _ : a < o.length then o[a] ≠ x else True) := by rw [dif_pos hac]; exact hne
            have hins : insH o x = o.take a ++ [x] ++ o.drop a := insH_at ha hb1 hb2 hb3
            by_cases ha0 : a = 0
            · subst ha0
              have e2 : (((o.length : Nat) : Int).toNat - ((0 : Nat) : Int).toNat) = (o.drop 0).length := by rw [List.length_drop]; omega
              have e4 : (List.take ((((o.length : Nat) : Int).toNat - ((0 : Nat) : Int).toNat) * 3) (List.drop (((0 : Nat) : Int).toNat * 3) (hitsF o))) = hitsF (o.drop 0) := by rw [e2, show ((0 : Nat) : Int).toNat = 0 by omega, hitsF_drop, List.take_of_length_le (by rw [hitsF_len]; exact Nat.le_refl _)]
              have q2 : (List.take ((((o.length : Nat) : Int).toNat - ((0 : Nat) : Int).toNat) * 3) (List.drop (((0 : Nat) : Int).toNat * 3) (hitsF o))).length = (((o.length : Nat) : Int).toNat - ((0 : Nat) : Int).toNat) * 3 := by rw [e4, e2, hitsF_len]
              have hnn : (insH o x).length = 0 + 1 + (((o.length : Nat) : Int).toNat - ((0 : Nat) : Int).toNat) := by rw [hins, e2]; simp; omega
              have hnc : hitsF (insH o x) = [] ++ hitF x ++ (List.take ((((o.length : Nat) : Int).toNat - ((0 : Nat) : Int).toNat) * 3) (List.drop (((0 : Nat) : Int).toNat * 3) (hitsF o))) := by rw [hins, e4, List.take_zero, List.nil_append, hitsF_app, hitsF_one]; rfl
              clear e2 e4
              repeat (first
    | (apply s_bind; exact rfl; exact rfl; exact rfl; exact rfl; exact rfl; exact rfl; exact ne_hit (c := true) (by rw [decide_eq_false hne]; rfl))
    | (apply w_draw (id := 13) 11 rfl (by kernel_rfl))
    | (apply s_bslice_clip TY (len := 0); exact rfl; exact rfl; exact rfl; exact rfl; exact rfl; exact rfl)
    | (apply s_append_none TY; exact rfl; exact rfl; exact rfl; exact rfl)
    | (apply s_append_new TY; exact rfl; exact rfl; exact rfl; exact rfl; exact rfl; exact rfl; exact rfl; exact rfl; exact (by decide); exact rfl; exact rfl; (unfold maxLen; omega); omega)
    | (apply s_append TY; exact rfl; exact rfl; exact rfl; exact rfl; exact rfl; exact rfl; exact rfl; exact rfl; exact q2; (unfold maxLen; omega); omega)
    | (apply s_a TY; exact rfl)
    | (apply s_t; exact rfl; (first | assumption | omega))
    | (apply s_f; exact rfl; (first | assumption | omega))
    | apply w_seq
    | apply w_region
    | (apply w_draw (id := 10) 10 rfl (by kernel_rfl))
    | (apply w_draw (id := 12) 10 rfl (by kernel_rfl))
    | apply s_nil
    | apply t_norm
    | apply t_exit
    | apply k_hit
    | apply k_norm
    | apply w_exit
    | (apply w_condT; exact rfl; exact rfl)
    | (apply w_condF; exact rfl; exact rfl)
    | (apply s_k (HB); exact rfl)
    | (apply s_c TY; exact rfl; (first | omega | exact ⟨by omega, by (first | with_reducible assumption | ((with_reducible apply hitsF_ne); omega) | ((with_reducible apply stmsF_ne); omega) | assumption)⟩))
    | (apply s_m TY; exact rfl; (first | with_reducible assumption | ((with_reducible apply hitsF_sub); omega) | ((with_reducible apply stmsF_sub); omega) | exact rfl); exact rfl)
    | (apply s_slice TY; exact rfl; exact rfl; exact rfl; (first | exact rfl | exact ⟨_, rfl⟩); (first | exact rfl | exact ⟨_, rfl⟩); omega; omega; omega))
              exact ⟨k + 1, by omega, by omega, gh_trans (gh_row 0 rfl) (gh_le ⟨le_upd rfl trivial (le_upd rfl trivial (le_upd (slF_eq (by rw [hsu]; exact hnn) (by rw [hsu]; exact hnc)) trivial (le_upd rfl trivial (le_nil _)))), le_h0 _ _⟩)⟩
            · have hm0 : 0 < (((a : Nat) : Int).toNat - Int.toNat 0) := by omega
              have e1 : (((a : Nat) : Int).toNat - Int.toNat 0) = (o.take a).length := by rw [List.length_take]; omega
              have e3 : (List.take ((((a : Nat) : Int).toNat - Int.toNat 0) * 3) (List.drop (Int.toNat 0 * 3) (hitsF o))) = hitsF (o.take a) := by rw [e1, show Int.toNat 0 = 0 from rfl, Nat.zero_mul, List.drop_zero, hitsF_take, List.length_take, show min a o.length = a by omega]
              have q1 : (List.take ((((a : Nat) : Int).toNat - Int.toNat 0) * 3) (List.drop (Int.toNat 0 * 3) (hitsF o))).length = (((a : Nat) : Int).toNat - Int.toNat 0) * 3 := by rw [e3, e1, hitsF_len]
              have e2 : (((o.length : Nat) : Int).toNat - ((a : Nat) : Int).toNat) = (o.drop a).length := by rw [List.length_drop]; omega
              have e4 : (List.take ((((o.length : Nat) : Int).toNat - ((a : Nat) : Int).toNat) * 3) (List.drop (((a : Nat) : Int).toNat * 3) (hitsF o))) = hitsF (o.drop a) := by rw [e2, show ((a : Nat) : Int).toNat = a by omega, hitsF_drop, List.take_of_length_le (by rw [hitsF_len]; exact Nat.le_refl _)]
              have q2 : (List.take ((((o.length : Nat) : Int).toNat - ((a : Nat) : Int).toNat) * 3) (List.drop (((a : Nat) : Int).toNat * 3) (hitsF o))).length = (((o.length : Nat) : Int).toNat - ((a : Nat) : Int).toNat) * 3 := by rw [e4, e2, hitsF_len]
              have hnn : (insH o x).length = 0 + (((a : Nat) : Int).toNat - Int.toNat 0) + 1 + (((o.length : Nat) : Int).toNat - ((a : Nat) : Int).toNat) := by rw [hins, e1, e2]; simp only [List.length_append, List.length_singleton]; omega
              have hnc : hitsF (insH o x) = [] ++ (List.take ((((a : Nat) : Int).toNat - Int.toNat 0) * 3) (List.drop (Int.toNat 0 * 3) (hitsF o))) ++ hitF x ++ (List.take ((((o.length : Nat) : Int).toNat - ((a : Nat) : Int).toNat) * 3) (List.drop (((a : Nat) : Int).toNat * 3) (hitsF o))) := by rw [hins, e3, e4, List.nil_append, hitsF_app, hitsF_app, hitsF_one]
              clear e1 e2 e3 e4
              repeat (first
    | (apply s_bind; exact rfl; exact rfl; exact rfl; exact rfl; exact rfl; exact rfl; exact ne_hit (c := true) (by rw [decide_eq_false hne]; rfl))
    | (apply w_draw2 (id := 13) 7 11 rfl (by kernel_rfl) (by kernel_rfl); exact rfl)
    | (apply s_bslice_clip TY (len := 0); exact rfl; exact rfl; exact rfl; exact rfl; exact rfl; exact rfl)
    | (apply s_append_new TY; exact rfl; exact rfl; exact rfl; exact rfl; exact rfl; exact rfl; exact rfl; exact rfl; exact hm0; exact rfl; exact q1; (unfold maxLen; omega); omega)
    | (apply s_gro TY; exact rfl; exact rfl; exact rfl; exact rfl; exact rfl; exact rfl; exact rfl; exact rfl; exact rfl; (unfold maxLen; omega); omega)
    | (refine KD.mk ⟨rfl, rfl, rfl, trivial⟩ rfl rfl ?_)
    | (apply s_append TY; exact rfl; exact rfl; exact rfl; exact rfl; exact rfl; exact rfl; exact rfl; exact rfl; exact q2; (unfold maxLen; omega); omega)
    | (apply s_a TY; exact rfl)
    | (apply s_t; exact rfl; (first | assumption | omega))
    | (apply s_f; exact rfl; (first | assumption | omega))
    | apply w_seq
    | apply w_region
    | (apply w_draw (id := 10) 10 rfl (by kernel_rfl))
    | (apply w_draw (id := 12) 10 rfl (by kernel_rfl))
    | apply s_nil
    | apply t_norm
    | apply t_exit
    | apply k_hit
    | apply k_norm
    | apply w_exit
    | (apply w_condT; exact rfl; exact rfl)
    | (apply w_condF; exact rfl; exact rfl)
    | (apply s_k (HB); exact rfl)
    | (apply s_c TY; exact rfl; (first | omega | exact ⟨by omega, by (first | with_reducible assumption | ((with_reducible apply hitsF_ne); omega) | ((with_reducible apply stmsF_ne); omega) | assumption)⟩))
    | (apply s_m TY; exact rfl; (first | with_reducible assumption | ((with_reducible apply hitsF_sub); omega) | ((with_reducible apply stmsF_sub); omega) | exact rfl); exact rfl)
    | (apply s_slice TY; exact rfl; exact rfl; exact rfl; (first | exact rfl | exact ⟨_, rfl⟩); (first | exact rfl | exact ⟨_, rfl⟩); omega; omega; omega))
              exact ⟨k + 1, by omega, by omega, gh_trans (gh_row 0 rfl) (gh_le ⟨le_upd rfl trivial (le_upd rfl trivial (le_upd (slF_eq (by rw [hsu]; exact hnn) (by rw [hsu]; exact hnc)) trivial (le_upd rfl trivial (le_nil _)))), le_h0 _ _⟩)⟩
      · have hae : a = o.length := by omega
        have hb2 : ∀ h : a < o.length, ¬ before o[a] x := fun h => absurd h hac
        have hb3 : (if _ : a < o.length then o[a] ≠ x else True) := by rw [dif_neg hac]; trivial
        have hins : insH o x = o.take a ++ [x] ++ o.drop a := insH_at ha hb1 hb2 hb3
        by_cases ha0 : a = 0
        · subst ha0
          have e2 : (((o.length : Nat) : Int).toNat - ((0 : Nat) : Int).toNat) = (o.drop 0).length := by rw [List.length_drop]; omega
          have e4 : (List.take ((((o.length : Nat) : Int).toNat - ((0 : Nat) : Int).toNat) * 3) (List.drop (((0 : Nat) : Int).toNat * 3) (hitsF o))) = hitsF (o.drop 0) := by rw [e2, show ((0 : Nat) : Int).toNat = 0 by omega, hitsF_drop, List.take_of_length_le (by rw [hitsF_len]; exact Nat.le_refl _)]
          have q2 : (List.take ((((o.length : Nat) : Int).toNat - ((0 : Nat) : Int).toNat) * 3) (List.drop (((0 : Nat) : Int).toNat * 3) (hitsF o))).length = (((o.length : Nat) : Int).toNat - ((0 : Nat) : Int).toNat) * 3 := by rw [e4, e2, hitsF_len]
          have hnn : (insH o x).length = 0 + 1 + (((o.length : Nat) : Int).toNat - ((0 : Nat) : Int).toNat) := by rw [hins, e2]; simp; omega
          have hnc : hitsF (insH o x) = [] ++ hitF x ++ (List.take ((((o.length : Nat) : Int).toNat - ((0 : Nat) : Int).toNat) * 3) (List.drop (((0 : Nat) : Int).toNat * 3) (hitsF o))) := by rw [hins, e4, List.take_zero, List.nil_append, hitsF_app, hitsF_one]; rfl
          clear e2 e4
          repeat (first
    | (apply w_draw (id := 13) 11 rfl (by kernel_rfl))
    | (apply s_bslice_clip TY (len := 0); exact rfl; exact rfl; exact rfl; exact rfl; exact rfl; exact rfl)
    | (apply s_append_none TY; exact rfl; exact rfl; exact rfl; exact rfl)
    | (apply s_append_new TY; exact rfl; exact rfl; exact rfl; exact rfl; exact rfl; exact rfl; exact rfl; exact rfl; exact (by decide); exact rfl; exact rfl; (unfold maxLen; omega); omega)
    | (apply s_append TY; exact rfl; exact rfl; exact rfl; exact rfl; exact rfl; exact rfl; exact rfl; exact rfl; exact q2; (unfold maxLen; omega); omega)
    | (apply s_a TY; exact rfl)
    | (apply s_t; exact rfl; (first | assumption | omega))
    | (apply s_f; exact rfl; (first | assumption | omega))
    | apply w_seq
    | apply w_region
    | (apply w_draw (id := 10) 10 rfl (by kernel_rfl))
    | (apply w_draw (id := 12) 10 rfl (by kernel_rfl))
    | apply s_nil
    | apply t_norm
    | apply t_exit
    | apply k_hit
    | apply k_norm
    | apply w_exit
    | (apply w_condT; exact rfl; exact rfl)
    | (apply w_condF; exact rfl; exact rfl)
    | (apply s_s; exact rfl)
    | (apply s_c TY; exact rfl; (first | omega | exact ⟨by omega, by (first | with_reducible assumption | ((with_reducible apply hitsF_ne); omega) | ((with_reducible apply stmsF_ne); omega) | assumption)⟩))
    | (apply s_slice TY; exact rfl; exact rfl; exact rfl; (first | exact rfl | exact ⟨_, rfl⟩); (first | exact rfl | exact ⟨_, rfl⟩); omega; omega; omega))
          exact ⟨k + 1, by omega, by omega, gh_trans (gh_row 0 rfl) (gh_le ⟨le_upd rfl trivial (le_upd rfl trivial (le_upd (slF_eq (by rw [hsu]; exact hnn) (by rw [hsu]; exact hnc)) trivial (le_upd rfl trivial (le_nil _)))), le_h0 _ _⟩)⟩
        · have hm0 : 0 < (((a : Nat) : Int).toNat - Int.toNat 0) := by omega
          have e1 : (((a : Nat) : Int).toNat - Int.toNat 0) = (o.take a).length := by rw [List.length_take]; omega
          have e3 : (List.take ((((a : Nat) : Int).toNat - Int.toNat 0) * 3) (List.drop (Int.toNat 0 * 3) (hitsF o))) = hitsF (o.take a) := by rw [e1, show Int.toNat 0 = 0 from rfl, Nat.zero_mul, List.drop_zero, hitsF_take, List.length_take, show min a o.length = a by omega]
          have q1 : (List.take ((((a : Nat) : Int).toNat - Int.toNat 0) * 3) (List.drop (Int.toNat 0 * 3) (hitsF o))).length = (((a : Nat) : Int).toNat - Int.toNat 0) * 3 := by rw [e3, e1, hitsF_len]
          have e2 : (((o.length : Nat) : Int).toNat - ((a : Nat) : Int).toNat) = (o.drop a).length := by rw [List.length_drop]; omega
          have e4 : (List.take ((((o.length : Nat) : Int).toNat - ((a : Nat) : Int).toNat) * 3) (List.drop (((a : Nat) : Int).toNat * 3) (hitsF o))) = hitsF (o.drop a) := by rw [e2, show ((a : Nat) : Int).toNat = a by omega, hitsF_drop, List.take_of_length_le (by rw [hitsF_len]; exact Nat.le_refl _)]
          have q2 : (List.take ((((o.length : Nat) : Int).toNat - ((a : Nat) : Int).toNat) * 3) (List.drop (((a : Nat) : Int).toNat * 3) (hitsF o))).length = (((o.length : Nat) : Int).toNat - ((a : Nat) : Int).toNat) * 3 := by rw [e4, e2, hitsF_len]
          have hnn : (insH o x).length = 0 + (((a : Nat) : Int).toNat - Int.toNat 0) + 1 + (((o.length : Nat) : Int).toNat - ((a : Nat) : Int).toNat) := by rw [hins, e1, e2]; simp only [List.length_append, List.length_singleton]; omega
          have hnc : hitsF (insH o x) = [] ++ (List.take ((((a : Nat) : Int).toNat - Int.toNat 0) * 3) (List.drop (Int.toNat 0 * 3) (hitsF o))) ++ hitF x ++ (List.take ((((o.length : Nat) : Int).toNat - ((a : Nat) : Int).toNat) * 3) (List.drop (((a : Nat) : Int).toNat * 3) (hitsF o))) := by rw [hins, e3, e4, List.nil_append, hitsF_app, hitsF_app, hitsF_one]
          clear e1 e2 e3 e4
          repeat (first
    | (apply w_draw2 (id := 13) 7 11 rfl (by kernel_rfl) (by kernel_rfl); exact rfl)
    | (apply s_bslice_clip TY (len := 0); exact rfl; exact rfl; exact rfl; exact rfl; exact rfl; exact rfl)
    | (apply s_append_new TY; exact rfl; exact rfl; exact rfl; exact rfl; exact rfl; exact rfl; exact rfl; exact rfl; exact hm0; exact rfl; exact q1; (unfold maxLen; omega); omega)
    | (apply s_gro TY; exact rfl; exact rfl; exact rfl; exact rfl; exact rfl; exact rfl; exact rfl; exact rfl; exact rfl; (unfold maxLen; omega); omega)
    | (refine KD.mk ⟨rfl, rfl, rfl, trivial⟩ rfl rfl ?_)
    | (apply s_append TY; exact rfl; exact rfl; exact rfl; exact rfl; exact rfl; exact rfl; exact rfl; exact rfl; exact q2; (unfold maxLen; omega); omega)
    | (apply s_a TY; exact rfl)
    | (apply s_t; exact rfl; (first | assumption | omega))
    | (apply s_f; exact rfl; (first | assumption | omega))
    | apply w_seq
    | apply w_region
    | (apply w_draw (id := 10) 10 rfl (by kernel_rfl))
    | (apply w_draw (id := 12) 10 rfl (by kernel_rfl))
    | apply s_nil
    | apply t_norm
    | apply t_exit
    | apply k_hit
    | apply k_norm
    | apply w_exit
    | (apply w_condT; exact rfl; exact rfl)
    | (apply w_condF; exact rfl; exact rfl)
    | (apply s_s; exact rfl)
    | (apply s_c TY; exact rfl; (first | omega | exact ⟨by omega, by (first | with_reducible assumption | ((with_reducible apply hitsF_ne); omega) | ((with_reducible apply stmsF_ne); omega) | assumption)⟩))
    | (apply s_slice TY; exact rfl; exact rfl; exact rfl; (first | exact rfl | exact ⟨_, rfl⟩); (first | exact rfl | exact ⟨_, rfl⟩); omega; omega; omega))
          exact ⟨k + 1, by omega, by omega, gh_trans (gh_row 0 rfl) (gh_le ⟨le_upd rfl trivial (le_upd rfl trivial (le_upd (slF_eq (by rw [hsu]; exact hnn) (by rw [hsu]; exact hnc)) trivial (le_upd rfl trivial (le_nil _)))), le_h0 _ _⟩)⟩
    · have hke : k = c[i].hits.length := by omega
      subst hke
      have hsu := mergeO_succ hc
      rw [List.take_length, ← hsu]
      repeat (first
    | (apply s_a TY; exact rfl)
    | (apply s_f; exact rfl; (first | assumption | omega))
    | apply w_seq
    | apply w_region
    | apply s_nil
    | apply t_norm
    | apply t_exit
    | apply k_hit
    | apply k_norm
    | apply w_exit
    | (apply w_condF; exact rfl; exact rfl)
    | (apply s_c TY; exact rfl; (first | omega | exact ⟨by omega, by (first | with_reducible assumption | ((with_reducible apply hitsF_ne); omega) | ((with_reducible apply stmsF_ne); omega) | assumption)⟩))
    | (apply s_l TY; exact rfl; (first | exact rfl | with_reducible assumption | ((with_reducible apply hitsF_f0); omega) | ((with_reducible apply hitsF_f1); omega) | ((with_reducible apply hitsF_f2); omega) | ((with_reducible apply stmsF_f0); omega) | ((with_reducible apply stmsF_f1); omega) | assumption)))
      exact ⟨i + 1, by omega, by omega, gh_le ⟨le_upd rfl trivial (le_upd rfl trivial (le_upd rfl trivial (le_nil _))), le_h0 _ _⟩⟩
  · have hie : i = c.length := by omega
    subst hie
    rw [List.take_length]
    repeat (first
    | (apply s_a TY; exact rfl)
    | (apply s_f; exact rfl; (first | assumption | omega))
    | apply w_seq
    | apply w_region
    | apply s_nil
    | apply t_norm
    | apply t_exit
    | apply k_hit
    | apply w_exit
    | apply w_ret
    | (apply w_condF; exact rfl; exact rfl))
    exact lv_ret (ret1 rfl (res_tmp rfl))
end Go.Proofs.YtdmdpkoapllkkaaGreat
namespace Go.Proofs.YtdmdpkoapllkkaaGreat
open Go Go.RowKit Go.Proofs Go.Shelf Go.Ab
theorem rowEv2 {n m : Nat} {cs cs' : List FV} (hn : n = m) (h : cs = cs') : some (Blk.row 67 3 n cs) = some (Blk.row 67 3 m cs') := by rw [h, hn]
set_option maxRecDepth 100000 in
set_option maxHeartbeats 3200000 in
theorem rSettledEvents_s (l : List Site) (s : Setup) (c : List Stm) (h1 : (arrChk l).2 = 0) (h2 : (setupChk s).2 = 0) (h3 : (stmsChk l c).2 = 0) (h40 : (mergeH (allH c)).length ≤ 40) : Summ Tryz.prog GG 53 [arrF l, setF s, .sl c.length (stmsF c)] (.sl (settledE l s (mergeH (allH c)) (settledT s c)).length (evsF (settledE l s (mergeH (allH c)) (settledT s c)))) := by
  have hs := setOk_of h2
  have hl0 := arrOk_of h1
  obtain ⟨hc1, hc6, hci⟩ := stmsChk_ok h3
  have ho := merge_ok hl0 h3 h40
  have HM := rMerged_s c (by omega) (stms_hits h1 h3)
  have HE := rEvents_s l s (mergeH (allH c)) hs hl0 ho
  have HS := rSettled_s s c hs hc1 hc6 (fun i hi => (hci i hi).2)
  have hel : (eventsV l s (mergeH (allH c))).length ≤ 1000000 := by
    have := single_len hs ho (l := l)
    have h2 := joinedV_len (singleV l s (mergeH (allH c)))
    unfold eventsV windowsV
    rw [List.length_map]; omega
  rw [show (settledE l s (mergeH (allH c)) (settledT s c)) = (((eventsV l s (mergeH (allH c))).take (eventsV l s (mergeH (allH c))).length).filter fun e => decide (e.hi < (settledT s c))) by rw [List.take_length]; rfl]
  refine summW Tryz.func53 rfl rfl 41 rfl (by simp) (fun M0 => ?_)
  repeat (first
    | (apply s_a TY; exact rfl)
    | apply w_seq
    | apply w_region
    | (apply w_draw (id := 1) 7 rfl (by kernel_rfl))
    | apply s_nil
    | apply t_norm
    | apply w_block
    | (apply s_k (HM); exact rfl)
    | (apply s_k (HE); exact rfl)
    | (apply s_k (HS); exact rfl))
  apply w_gh (gh_own 9 67 3 rfl rfl)
  apply w_loop (fun k : Nat => ⟨(Ab.upd (Ab.upd (Ab.upd (Ab.upd (fun _ => .bot) 7 (.f (.sl (eventsV l s (mergeH (allH c))).length (evsF (eventsV l s (mergeH (allH c))))))) 8 (.f (iv (settledT s c)))) 9 (.ow 0)) 10 (.f (iv ((k : Nat) : Int)))), (Ab.upd (fun _ => none) 0 (some (.row 67 3 (((eventsV l s (mergeH (allH c))).take k).filter fun e => decide (e.hi < (settledT s c))).length (evsF (((eventsV l s (mergeH (allH c))).take k).filter fun e => decide (e.hi < (settledT s c))))))), 1⟩) (fun k => k ≤ (eventsV l s (mergeH (allH c))).length) (fun k => (eventsV l s (mergeH (allH c))).length - k) 0 (Nat.zero_le _) (gh_le ⟨le_upd rfl trivial (le_upd rfl rfl (le_upd rfl trivial (le_upd rfl trivial (le_nil _)))), le_hupd rfl trivial (le_h0 _ _)⟩)
  intro k hk
  have hfl : (((eventsV l s (mergeH (allH c))).take k).filter fun e => decide (e.hi < (settledT s c))).length ≤ k := Nat.le_trans (List.length_filter_le _ _) (by rw [List.length_take]; omega)
  by_cases hc : k < (eventsV l s (mergeH (allH c))).length
  · have hsu : (((eventsV l s (mergeH (allH c))).take (k + 1)).filter fun e => decide (e.hi < (settledT s c))) = (((eventsV l s (mergeH (allH c))).take k).filter fun e => decide (e.hi < (settledT s c))) ++ (if (eventsV l s (mergeH (allH c)))[k].hi < (settledT s c) then [(eventsV l s (mergeH (allH c)))[k]] else []) := by
      rw [List.take_succ_eq_append_getElem hc, List.filter_append]
      congr 1
      by_cases h : (eventsV l s (mergeH (allH c)))[k].hi < (settledT s c)
      · rw [if_pos h, List.filter_cons_of_pos (by simpa using h)]; rfl
      · rw [if_neg h, List.filter_cons_of_neg (by simpa using h)]; rfl
    by_cases he : (eventsV l s (mergeH (allH c)))[k].hi < (settledT s c)
    · rw [if_pos he] at hsu
      repeat (first
    | (apply s_a TY; exact rfl)
    | (apply s_t; exact rfl; (first | assumption | omega))
    | apply w_seq
    | apply w_region
    | apply s_nil
    | apply t_norm
    | apply k_norm
    | apply w_block
    | apply w_skip
    | (apply w_condT; exact rfl; exact rfl)
    | (apply s_c TY; exact rfl; (first | omega | exact ⟨by omega, by (first | with_reducible assumption | ((with_reducible apply evsF_ne); omega) | assumption)⟩))
    | (apply s_l TY; exact rfl; (first | exact rfl | with_reducible assumption | ((with_reducible apply evsF_f0); omega) | ((with_reducible apply evsF_f1); omega) | ((with_reducible apply evsF_f2); omega) | assumption))
    | (apply s_m TY; exact rfl; (first | with_reducible assumption | ((with_reducible apply evsF_sub); omega) | exact rfl); exact rfl)
    | (apply s_append TY; exact rfl; exact rfl; exact rfl; exact rfl; exact rfl; exact rfl; exact rfl; exact rfl; exact rfl; (unfold maxLen; omega); omega))
      exact ⟨k + 1, by omega, by omega, gh_le ⟨le_upd rfl trivial (le_upd rfl rfl (le_upd rfl trivial (le_upd rfl trivial (le_nil _)))), le_hupd (rowEv2 (by rw [hsu, List.length_append]; rfl) (by rw [hsu, evsF_snoc]; rfl)) trivial (le_h0 _ _)⟩⟩
    · rw [if_neg he, List.append_nil] at hsu
      repeat (first
    | (apply s_a TY; exact rfl)
    | (apply s_t; exact rfl; (first | assumption | omega))
    | (apply s_f; exact rfl; (first | assumption | omega))
    | apply w_seq
    | apply w_region
    | apply s_nil
    | apply t_norm
    | apply k_norm
    | apply w_block
    | apply w_skip
    | (apply w_condT; exact rfl; exact rfl)
    | (apply w_condF; exact rfl; exact rfl)
    | (apply s_c TY; exact rfl; (first | omega | exact ⟨by omega, by (first | with_reducible assumption | ((with_reducible apply evsF_ne); omega) | assumption)⟩))
    | (apply s_l TY; exact rfl; (first | exact rfl | with_reducible assumption | ((with_reducible apply evsF_f0); omega) | ((with_reducible apply evsF_f1); omega) | ((with_reducible apply evsF_f2); omega) | assumption)))
      exact ⟨k + 1, by omega, by omega, gh_le ⟨le_upd rfl trivial (le_upd rfl rfl (le_upd rfl trivial (le_upd rfl trivial (le_nil _)))), le_hupd (rowEv2 (by rw [hsu]) (by rw [hsu])) trivial (le_h0 _ _)⟩⟩
  · have hke : k = (eventsV l s (mergeH (allH c))).length := by omega
    subst hke
    repeat (first
    | (apply s_a TY; exact rfl)
    | (apply s_f; exact rfl; (first | assumption | omega))
    | apply w_seq
    | apply w_region
    | apply s_nil
    | apply t_norm
    | apply t_exit
    | apply k_hit
    | apply w_exit
    | apply w_ret
    | (apply w_condF; exact rfl; exact rfl))
    exact lv_ret (ret_gh (gh_row 0 rfl) (ret1 rfl (res_tmp rfl)))
theorem sse_arr {l : List Site} {s : Setup} {c : List Stm} (h1 : (arrChk l).2 ≠ 0) : sseErr l s c = (arrChk l).2 := by simp [sseErr, optErr, h1]
theorem sse_set {l : List Site} {s : Setup} {c : List Stm} (h1 : (arrChk l).2 = 0) (h2 : (setupChk s).2 ≠ 0) : sseErr l s c = (setupChk s).2 := by simp [sseErr, optErr, h1, h2]
theorem sse_stm {l : List Site} {s : Setup} {c : List Stm} (h1 : (arrChk l).2 = 0) (h2 : (setupChk s).2 = 0) : sseErr l s c = (stmsChk l c).2 := by simp [sseErr, optErr, h1, h2]
theorem Summ.nil1 {P : Program} {G : Nat → Option (List FV)} {g : Nat} {a r : FV} (K : Summ P G g [a, .sl 0 []] r) : Summ P G g [a, .v (.slice none 0 0)] r :=
  ⟨K.enters, fun w M us hM hG R => by
    obtain ⟨u1, us1, rfl, r1, R1⟩ := R.head
    obtain ⟨u2, us2, rfl, r2, R2⟩ := R1.head
    have := repV r2
    subst this
    exact K.call w M _ hM hG (RepL.cons r1 (RepL.cons (RepF.sl none 0 0 [] [] (Nat.le_refl _) rfl (fun u hu => by simp at hu) (fun hn => absurd rfl hn) (fun k u x h => by simp at h)) R2))⟩
set_option maxRecDepth 100000 in
set_option maxHeartbeats 12800000 in
theorem TriggerSettled_s (l : List Site) (s : Setup) (c : List Stm) : Summ Tryz.prog GG 9 [arrF l, setF s, .sl c.length (stmsF c)] (bv true) := by
  have HA := awake_s
  have HF := FewRules_s s
  have HFw := Summ.nil1 (Few_s l [])
  by_cases h8 : 8 < c.length
  · refine summW Tryz.func9 rfl rfl 95 rfl (by simp) (fun M0 => ?_)
    repeat (first
    | (apply s_assign_f; exact rfl; exact rfl)
    | (apply s_move_f; exact rfl; exact rfl)
    | (apply s_a TY; exact rfl)
    | (apply s_t; exact rfl; (first | assumption | omega))
    | apply w_seq
    | apply w_region
    | apply s_nil
    | apply t_norm
    | apply t_ret
    | apply w_ret
    | apply w_skip
    | (apply w_condT; exact rfl; exact rfl)
    | (apply w_condF; exact rfl; exact rfl)
    | (apply s_k (HA); exact rfl)
    | (apply s_s; exact rfl))
    exact lv_ret (ret1 rfl (res_tmp rfl))
  cases hf : fewRulesB s with
  | false =>
    rw [hf] at HF
    refine summW Tryz.func9 rfl rfl 95 rfl (by simp) (fun M0 => ?_)
    repeat (first
    | (apply s_assign_f; exact rfl; exact rfl)
    | (apply s_move_f; exact rfl; exact rfl)
    | (apply s_a TY; exact rfl)
    | (apply s_f; exact rfl; (first | assumption | omega))
    | apply w_seq
    | apply w_region
    | apply s_nil
    | apply t_norm
    | apply t_ret
    | apply w_ret
    | apply w_skip
    | (apply w_condT; exact rfl; exact rfl)
    | (apply w_condF; exact rfl; exact rfl)
    | (apply s_k (HA); exact rfl)
    | (apply s_k (HF); exact rfl)
    | (apply s_s; exact rfl))
    exact lv_ret (ret1 rfl (res_tmp rfl))
  | true =>
  rw [hf] at HF
  cases hfw : FewB l [] with
  | false =>
    rw [hfw] at HFw
    refine summW Tryz.func9 rfl rfl 95 rfl (by simp) (fun M0 => ?_)
    repeat (first
    | (apply s_assign_f; exact rfl; exact rfl)
    | (apply s_move_f; exact rfl; exact rfl)
    | (apply s_a TY; exact rfl)
    | (apply s_f; exact rfl; (first | assumption | omega))
    | apply w_seq
    | apply w_region
    | apply s_nil
    | apply t_norm
    | apply t_ret
    | apply w_ret
    | apply w_skip
    | (apply w_condT; exact rfl; exact rfl)
    | (apply w_condF; exact rfl; exact rfl)
    | (apply s_k (HA); exact rfl)
    | (apply s_k (HF); exact rfl)
    | (apply s_k (HFw); exact rfl))
    exact lv_ret (ret1 rfl (res_tmp rfl))
  | true =>
  rw [hfw] at HFw
  have hl32 : l.length ≤ 32 := by
    unfold FewB at hfw
    rw [Bool.and_eq_true, decide_eq_true_eq] at hfw
    exact hfw.1
  have hr6 : s.rules.length ≤ 6 := by
    unfold fewRulesB at hf
    rw [Bool.and_eq_true, decide_eq_true_eq] at hf
    exact hf.1
  refine summW Tryz.func9 rfl rfl 95 rfl (by simp) (fun M0 => ?_)
  repeat (first
    | (apply s_assign_f; exact rfl; exact rfl)
    | (apply s_move_f; exact rfl; exact rfl)
    | (apply s_a TY; exact rfl)
    | (apply s_f; exact rfl; (first | assumption | omega))
    | apply w_seq
    | apply w_region
    | apply s_nil
    | apply t_norm
    | apply w_block
    | apply w_skip
    | (apply w_condF; exact rfl; exact rfl)
    | (apply s_k (HA); exact rfl)
    | (apply s_k (HF); exact rfl)
    | (apply s_k (HFw); exact rfl))
  apply w_loop (fun k : Nat => ⟨(Ab.upd (Ab.upd (Ab.upd (Ab.upd (fun _ => .bot) 2 (.f (.sl c.length (stmsF c)))) 3 (.f (.pt [.sl l.length (sitesF l)] 0))) 4 (.f (.pt (setL s) 0))) 7 (.f (iv ((k : Nat) : Int)))), (fun _ => none), 0⟩) (fun k => k ≤ c.length ∧ ∀ j (hj : j < c.length), j < k → c[j].hits.length ≤ 42) (fun k => c.length - k) 0 (⟨Nat.zero_le _, fun j _ h => absurd h (Nat.not_lt_zero j)⟩) (gh_le ⟨le_upd rfl trivial (le_upd rfl trivial (le_upd rfl trivial (le_upd rfl trivial (le_nil _)))), le_h0 _ _⟩)
  intro k ⟨hk, hz⟩
  by_cases hck : k < c.length
  · have HW := few_s (c[k].hits.length : Nat)
    cases hw : fewB (c[k].hits.length : Nat) with
    | false =>
      rw [hw] at HW
      repeat (first
    | (apply s_assign_f; exact rfl; exact rfl)
    | (apply s_move_f; exact rfl; exact rfl)
    | (apply s_a TY; exact rfl)
    | (apply s_t; exact rfl; (first | assumption | omega))
    | apply w_seq
    | apply w_region
    | apply s_nil
    | apply t_norm
    | apply t_ret
    | apply k_ret
    | apply w_block
    | apply w_ret
    | apply w_skip
    | (apply w_condT; exact rfl; exact rfl)
    | (apply s_k (HW); exact rfl)
    | (apply s_c TY; exact rfl; (first | omega | exact ⟨by omega, by (first | with_reducible assumption | ((with_reducible apply stmsF_ne); omega) | assumption)⟩))
    | (apply s_l TY; exact rfl; (first | exact rfl | with_reducible assumption | ((with_reducible apply stmsF_f0); omega) | ((with_reducible apply stmsF_f1); omega) | assumption)))
      exact lv_ret (ret1 rfl (res_tmp rfl))
    | true =>
      rw [hw] at HW
      have h42 := fewB_le hw
      repeat (first
    | (apply s_assign_f; exact rfl; exact rfl)
    | (apply s_move_f; exact rfl; exact rfl)
    | (apply s_a TY; exact rfl)
    | (apply s_t; exact rfl; (first | assumption | omega))
    | apply w_seq
    | apply w_region
    | apply s_nil
    | apply t_norm
    | apply k_norm
    | apply w_block
    | apply w_skip
    | (apply w_condT; exact rfl; exact rfl)
    | (apply w_condF; exact rfl; exact rfl)
    | (apply s_k (HW); exact rfl)
    | (apply s_c TY; exact rfl; (first | omega | exact ⟨by omega, by (first | with_reducible assumption | ((with_reducible apply stmsF_ne); omega) | assumption)⟩))
    | (apply s_l TY; exact rfl; (first | exact rfl | with_reducible assumption | ((with_reducible apply stmsF_f0); omega) | ((with_reducible apply stmsF_f1); omega) | assumption)))
      exact ⟨k + 1, ⟨by omega, fun j hj hjk => by
        by_cases e : j = k
        · subst e; exact h42
        · exact hz j hj (by omega)⟩, by omega, gh_le ⟨le_upd rfl trivial (le_upd rfl trivial (le_upd rfl trivial (le_upd rfl trivial (le_nil _)))), le_h0 _ _⟩⟩
  have hh : ∀ i (hi : i < c.length), c[i].hits.length ≤ 1000000 := fun i hi => by have := hz i hi (by omega); omega
  have hl6 : l.length ≤ 1000000 := by omega
  have hs6 : s.rules.length ≤ 1000000 := by omega
  have hn6 : c.length ≤ 1000000 := by omega
  have HC1 := CopyArray_s l hl6
  have HC2 := CopySetup_s s hs6
  have HC4 := CopyStreams_s c hn6 hh
  have HAE := ArrayErr_s l hl6
  have HSE := SetupErr_s s hs6
  have HSt := StreamsErr_s l c hl6 hn6 hh
  by_cases h1 : (arrChk l).2 = 0
  · rw [h1] at HAE
    by_cases h2 : (setupChk s).2 = 0
    · rw [h2] at HSE
      by_cases h3 : (stmsChk l c).2 = 0
      · rw [h3] at HSt
        have hss : sseErr l s c = 0 := by rw [sse_stm h1 h2, h3]
        obtain ⟨hc1, hc6, hci⟩ := stmsChk_ok h3
        have HrM := rMerged_s c (by omega) (stms_hits h1 h3)
        by_cases h40 : 40 < (mergeH (allH c)).length
        · have HE := SettledEvents_large l s c hl6 hs6 hn6 hh hss h40
          repeat (first
    | (apply s_assign_f; exact rfl; exact rfl)
    | (apply s_move_f; exact rfl; exact rfl)
    | (apply g_move_f; exact rfl; exact rfl; exact rfl; exact rfl)
    | (apply s_a TY; exact rfl)
    | (apply s_t; exact rfl; (first | assumption | omega))
    | (apply s_f; exact rfl; (first | assumption | omega))
    | apply w_seq
    | apply w_region
    | (apply w_draw (id := 10) 11 rfl (by kernel_rfl))
    | apply s_nil
    | apply t_norm
    | apply t_exit
    | apply t_ret
    | apply k_hit
    | apply w_exit
    | apply w_ret
    | (apply w_condT; exact rfl; exact rfl)
    | (apply w_condF; exact rfl; exact rfl)
    | (apply s_k (HC1); exact rfl)
    | (apply s_k (HC2); exact rfl)
    | (apply s_k (HC4); exact rfl)
    | (apply s_k (HAE); exact rfl)
    | (apply s_k (HSE); exact rfl)
    | (apply s_k (HSt); exact rfl)
    | (apply s_k (HrM); exact rfl)
    | (apply s_k (HE); exact rfl))
          exact lv_ret (ret1 rfl (res_tmp rfl))
        · have hs := setOk_of h2
          have hl0 := arrOk_of h1
          have ho := merge_ok hl0 h3 (by omega)
          have HE := SettledEvents_ok l s c hl6 hs6 hn6 hh hss (by omega)
          have HrE := rSettledEvents_s l s c h1 h2 h3 (by omega)
          have hel : (settledE l s (mergeH (allH c)) (settledT s c)).length ≤ 1000000 := by
            have h0 := single_len hs ho (l := l)
            have h2 := joinedV_len (singleV l s (mergeH (allH c)))
            have h3 : (settledE l s (mergeH (allH c)) (settledT s c)).length ≤ (eventsV l s (mergeH (allH c))).length := List.length_filter_le _ _
            unfold eventsV windowsV at h3
            rw [List.length_map] at h3; omega
          have hvh : ∀ v, v ∈ (settledE l s (mergeH (allH c)) (settledT s c)) → v.hits.length ≤ 1000000 := fun v hv => by
            have hv2 := (List.mem_filter.1 hv).1
            unfold eventsV at hv2
            obtain ⟨w, _, rfl⟩ := List.mem_map.1 hv2
            exact Nat.le_trans (hitsInN_len (mergeH (allH c)) w (mergeH (allH c)).length) (by omega)
          have HSm := SameEvents_s (settledE l s (mergeH (allH c)) (settledT s c)) (settledE l s (mergeH (allH c)) (settledT s c)) hel hel hvh hvh
          rw [decide_eq_true rfl] at HSm
          by_cases h20 : 20 < (mergeH (allH c)).length
          · repeat (first
    | (apply s_assign_f; exact rfl; exact rfl)
    | (apply s_move_f; exact rfl; exact rfl)
    | (apply g_move_f; exact rfl; exact rfl; exact rfl; exact rfl)
    | (apply s_a TY; exact rfl)
    | (apply s_t; exact rfl; (first | assumption | omega))
    | (apply s_f; exact rfl; (first | assumption | omega))
    | apply w_seq
    | apply w_region
    | (apply w_draw (id := 10) 11 rfl (by kernel_rfl))
    | apply s_nil
    | apply t_norm
    | apply t_exit
    | apply k_hit
    | apply w_exit
    | apply w_ret
    | apply w_skip
    | (apply w_condT; exact rfl; exact rfl)
    | (apply w_condF; exact rfl; exact rfl)
    | (apply s_k (HC1); exact rfl)
    | (apply s_k (HC2); exact rfl)
    | (apply s_k (HC4); exact rfl)
    | (apply s_k (HAE); exact rfl)
    | (apply s_k (HSE); exact rfl)
    | (apply s_k (HSt); exact rfl)
    | (apply s_k (HrM); exact rfl)
    | (apply s_k (HE); exact rfl)
    | (apply s_s; exact rfl))
            exact lv_ret (ret1 rfl (res_tmp rfl))
          · repeat (first
    | (apply s_assign_f; exact rfl; exact rfl)
    | (apply s_move_f; exact rfl; exact rfl)
    | (apply g_move_f; exact rfl; exact rfl; exact rfl; exact rfl)
    | (apply s_a TY; exact rfl)
    | (apply s_t; exact rfl; (first | assumption | omega))
    | (apply s_f; exact rfl; (first | assumption | omega))
    | apply w_seq
    | apply w_region
    | (apply w_draw (id := 10) 11 rfl (by kernel_rfl))
    | apply s_nil
    | apply t_norm
    | apply t_exit
    | apply k_hit
    | apply w_exit
    | apply w_ret
    | apply w_skip
    | (apply w_condT; exact rfl; exact rfl)
    | (apply w_condF; exact rfl; exact rfl)
    | (apply s_k (HC1); exact rfl)
    | (apply s_k (HC2); exact rfl)
    | (apply s_k (HC4); exact rfl)
    | (apply s_k (HAE); exact rfl)
    | (apply s_k (HSE); exact rfl)
    | (apply s_k (HSt); exact rfl)
    | (apply s_k (HrM); exact rfl)
    | (apply s_k (HE); exact rfl)
    | (apply s_k (HrE); exact rfl)
    | (apply s_k (HSm); exact rfl))
            exact lv_ret (ret1 rfl (res_tmp rfl))
      · have hss : sseErr l s c = (stmsChk l c).2 := sse_stm h1 h2
        have HE := SettledEvents_err l s c hl6 hs6 hn6 hh (by rw [hss]; exact h3)
        rw [hss] at HE
        repeat (first
    | (apply s_assign_f; exact rfl; exact rfl)
    | (apply s_move_f; exact rfl; exact rfl)
    | (apply g_move_f; exact rfl; exact rfl; exact rfl; exact rfl)
    | (apply s_a TY; exact rfl)
    | (apply s_t; exact rfl; (first | assumption | omega))
    | (apply s_f; exact rfl; (first | assumption | omega))
    | apply w_seq
    | apply w_region
    | (apply w_draw (id := 10) 11 rfl (by kernel_rfl))
    | apply s_nil
    | apply t_norm
    | apply t_exit
    | apply t_ret
    | apply k_hit
    | apply w_exit
    | apply w_ret
    | apply w_skip
    | (apply w_condT; exact rfl; exact rfl)
    | (apply w_condF; exact rfl; exact rfl)
    | (apply s_k (HC1); exact rfl)
    | (apply s_k (HC2); exact rfl)
    | (apply s_k (HC4); exact rfl)
    | (apply s_k (HAE); exact rfl)
    | (apply s_k (HSE); exact rfl)
    | (apply s_k (HSt); exact rfl)
    | (apply s_k (HE); exact rfl)
    | (apply s_s; exact rfl))
        exact lv_ret (ret1 rfl (res_tmp rfl))
    · have hss : sseErr l s c = (setupChk s).2 := sse_set h1 h2
      have HE := SettledEvents_err l s c hl6 hs6 hn6 hh (by rw [hss]; exact h2)
      rw [hss] at HE
      repeat (first
    | (apply s_assign_f; exact rfl; exact rfl)
    | (apply s_move_f; exact rfl; exact rfl)
    | (apply g_move_f; exact rfl; exact rfl; exact rfl; exact rfl)
    | (apply s_a TY; exact rfl)
    | (apply s_t; exact rfl; (first | assumption | omega))
    | (apply s_f; exact rfl; (first | assumption | omega))
    | apply w_seq
    | apply w_region
    | (apply w_draw (id := 10) 11 rfl (by kernel_rfl))
    | apply s_nil
    | apply t_norm
    | apply t_exit
    | apply t_ret
    | apply k_hit
    | apply w_exit
    | apply w_ret
    | apply w_skip
    | (apply w_condT; exact rfl; exact rfl)
    | (apply w_condF; exact rfl; exact rfl)
    | (apply s_k (HC1); exact rfl)
    | (apply s_k (HC2); exact rfl)
    | (apply s_k (HC4); exact rfl)
    | (apply s_k (HAE); exact rfl)
    | (apply s_k (HSE); exact rfl)
    | (apply s_k (HE); exact rfl)
    | (apply s_s; exact rfl))
      exact lv_ret (ret1 rfl (res_tmp rfl))
  · have hss : sseErr l s c = (arrChk l).2 := sse_arr h1
    have HE := SettledEvents_err l s c hl6 hs6 hn6 hh (by rw [hss]; exact h1)
    rw [hss] at HE
    repeat (first
    | (apply s_assign_f; exact rfl; exact rfl)
    | (apply s_move_f; exact rfl; exact rfl)
    | (apply g_move_f; exact rfl; exact rfl; exact rfl; exact rfl)
    | (apply s_a TY; exact rfl)
    | (apply s_t; exact rfl; (first | assumption | omega))
    | (apply s_f; exact rfl; (first | assumption | omega))
    | apply w_seq
    | apply w_region
    | (apply w_draw (id := 10) 11 rfl (by kernel_rfl))
    | apply s_nil
    | apply t_norm
    | apply t_exit
    | apply t_ret
    | apply k_hit
    | apply w_exit
    | apply w_ret
    | apply w_skip
    | (apply w_condT; exact rfl; exact rfl)
    | (apply w_condF; exact rfl; exact rfl)
    | (apply s_k (HC1); exact rfl)
    | (apply s_k (HC2); exact rfl)
    | (apply s_k (HC4); exact rfl)
    | (apply s_k (HAE); exact rfl)
    | (apply s_k (HE); exact rfl)
    | (apply s_s; exact rfl))
    exact lv_ret (ret1 rfl (res_tmp rfl))
end Go.Proofs.YtdmdpkoapllkkaaGreat
namespace Go.Ab
open Go Go.RowKit Go.Shelf Go.Proofs
def OpensFs (P : Program) (w : World) (fs : List Field) (off tot : Nat) {α : Type} (k : α → List FV) : Prop :=
  ∀ (H : Type) (enc : TypeId × Value → H) (base : Nat) (sp : Nat → Bool) (hd : Bool) (n : Nat) (cs : List Value), cs.length = off + tot → (∀ (i : Nat) (f : Field), fs[i]? = some f → ∃ x, DataW.trod enc P w base sp hd n f.type ((cs.drop f.offset).take (P.cellsOf f.type)) = some x) → ∃ a : α, RepL w (fun _ => False) (cs.drop off) (k a) ∧ ∀ u ∈ cs.drop off, u.oneCell'
section
variable {P : Program} {w : World}
theorem ofs_nil {off : Nat} : OpensFs P w [] off 0 (fun _ : Unit => []) := fun H enc base sp hd n cs hl _ => by
  rw [List.drop_eq_nil_of_le (by omega)]
  exact ⟨(), RepL.nil _ _, by simp⟩
theorem ofs_cons {f : Field} {fs : List Field} {off s tot : Nat} {α β : Type} {g : α → List FV} {k : β → List FV} (hc : P.cellsOf f.type = s) (ho : f.offset = off) (h : Opens P w f.type g) (hr : OpensFs P w fs (off + s) tot k) : OpensFs P w (f :: fs) off (s + tot) (fun p : α × β => g p.1 ++ k p.2) := fun H enc base sp hd n cs hl hx => by
  obtain ⟨x, hx0⟩ := hx 0 f rfl
  obtain ⟨a, r0, q0⟩ := h H enc base sp hd n _ _ hx0
  obtain ⟨b, r1, q1⟩ := hr H enc base sp hd n cs (by omega) (fun i f' hf => hx (i + 1) f' hf)
  rw [ho, hc] at r0 q0
  have hs : cs.drop off = (cs.drop off).take s ++ cs.drop (off + s) := by rw [← List.drop_drop, List.take_append_drop]
  refine ⟨(a, b), ?_, fun u hu => ?_⟩
  · rw [hs]; exact RepL.append r0 r1
  · rw [hs] at hu
    rcases List.mem_append.1 hu with h | h
    · exact q0 u h
    · exact q1 u h
theorem opens_st {T : TypeId} {fs : Array Field} {tot : Nat} {α : Type} {k : α → List FV} (ht : P.underlying T = some (.struct fs)) (ct : P.cellsOf T = tot) (h : OpensFs P w fs.toList 0 tot k) : Opens P w T k := fun H enc base sp hd fuel cs x hx => by
  obtain ⟨xs, n, _, _, hlen, hxl, hf⟩ := DataW.trod_struct ht hx
  have := h H enc base sp hd n cs (by rw [hlen, ct]; omega) (fun i f hi => by
    have hi' : fs[i]? = some f := by rw [← hi]; simp
    have e := hf i f hi'
    have hlt : i < xs.length := by
      rw [hxl]
      exact (Array.getElem?_eq_some_iff.1 hi').1
    rw [List.getElem?_eq_getElem hlt] at e
    exact ⟨_, e⟩)
  rwa [List.drop_zero] at this
end
end Go.Ab
namespace Go.Proofs.YtdmdpkoapllkkaaGreat
open Go Go.Ab Go.ChangeShapes Go.WideShapes Go.ChangeAt Go.RowKit
theorem ownKnobT : ownKnob Tryz.prog.godebug = none := by kernel_rfl
theorem laidOutT : laidOutB Tryz.prog = true := by kernel_rfl
theorem trodAll_stays {H : Type} {enc : TypeId × Value → H} {W W' : World} {sp : Nat → Bool} (hb : Below W.heap.size W W') : ∀ {ts : List TypeId} {vs : List Value} {ds : List (DataW H)} {ps : List MemPlace}, (∀ t ∈ ts, Tryz.prog.readableRec t = true ∧ t < Tryz.prog.types.size) → DataW.TrodAll enc Tryz.prog W 0 (fun _ => true) true ts vs ds ps → (∀ p ∈ ps, p.block < W.heap.size) → (∀ p ∈ ps, sp p.block = true) → DataW.TrodAll enc Tryz.prog W' 0 sp true ts vs ds ps
  | [], [], [], _, _, h, _, _ => h
  | t :: ts, v :: vs, d :: ds, ps, ht, ⟨p, q, h1, h2, e⟩, hlt, hsp => by
    have hp : ∀ x ∈ p, x ∈ ps := fun x hx => by rw [e]; exact List.mem_append_left _ hx
    have hq : ∀ x ∈ q, x ∈ ps := fun x hx => by rw [e]; exact List.mem_append_right _ hx
    exact ⟨p, q, WideElems.Trod_stays laidOutT (ht t (by simp)).1 (ht t (by simp)).2 h1 (fun x hx => hb.same (hlt x (hp x hx))) (fun x hx => hsp x (hp x hx)),
      trodAll_stays hb (fun u hu => ht u (by simp [hu])) h2 (fun x hx => hlt x (hq x hx)) (fun x hx => hsp x (hq x hx)), e⟩
theorem post_law {H : Type} {enc : TypeId × Value → H} {f : Func} {s : ChangeSpec} {W W' : World} {args : Array Value} {ds gs : List (DataW H)} {before : List MemPlace}
    (hW : DataW.Whole enc Tryz.prog f.params.toList s.vars false W args.toList ds gs before) (hv : s.vars = []) (hr : f.resultTypes = #[4])
    (ht : ∀ t ∈ f.params.toList, Tryz.prog.readableRec t = true ∧ t < Tryz.prog.types.size)
    (hres : (s.fn H (ds ++ gs)).results = [.lit (.bool true)]) (hargs : (s.fn H (ds ++ gs)).args = ds) (hvs : (s.fn H (ds ++ gs)).vars = [])
    (hb : Below W.heap.size W W') : s.post enc Tryz.prog f false true false false W args (.bool true) W' := by
  have hlt := hW.lt
  have hW0 := hW
  obtain ⟨p, q, h1, h2, e, hz, hn⟩ := hW
  have h2' := h2
  rw [hv] at h2'
  have hq : gs = [] ∧ q = [] := by
    cases gs with
    | nil => exact ⟨rfl, h2'⟩
    | cons g r => exact absurd h2' (by intro h; cases h)
  obtain ⟨rfl, rfl⟩ := hq
  rw [List.append_nil] at e
  subst e
  refine ⟨ds, [], before, [], before, [], hW0, ?_, ?_, ?_, Below.frame hb _, fun h => by cases h⟩
  · rw [hr, hres]; exact trodAll_mk1 (shut_bool Tryz.underlying4 true)
  · rw [hargs]
    exact trodAll_stays hb ht h1 hlt (fun x hx => by simpa using hlt x hx)
  · rw [hv, hvs]; rfl
section
variable {W : World}
theorem opens_i : Opens Tryz.prog W 3 (fun z : Int => [iv z]) := opens_int Tryz.underlying3
theorem opens_site : Opens Tryz.prog W 121 siteF := (opens_st Tryz.underlying121 (by kernel_rfl) (ofs_cons (s := 1) (by kernel_rfl) rfl opens_i (ofs_cons (s := 1) (by kernel_rfl) rfl opens_i (ofs_cons (s := 1) (by kernel_rfl) rfl opens_i (ofs_cons (s := 1) (by kernel_rfl) rfl opens_i (ofs_cons (s := 1) (by kernel_rfl) rfl opens_i (ofs_nil))))))).map (fun p => ⟨p.1, p.2.1, p.2.2.1, p.2.2.2.1, p.2.2.2.2.1⟩) fun _ => rfl
theorem opens_sites : Opens Tryz.prog W 22 (fun l : List Site => [.sl l.length (sitesF l)]) := opens_sl (s := 5) Tryz.underlying22 (by kernel_rfl) (by decide) opens_site
theorem opens_arr : Opens Tryz.prog W 24 (fun l : List Site => [.sl l.length (sitesF l)]) := (opens_st Tryz.underlying24 (by kernel_rfl) (ofs_cons (s := 1) (by kernel_rfl) rfl opens_sites (ofs_nil))).map (fun p => p.1) fun _ => rfl
theorem opens_hit : Opens Tryz.prog W 29 hitF := (opens_st Tryz.underlying29 (by kernel_rfl) (ofs_cons (s := 1) (by kernel_rfl) rfl opens_i (ofs_cons (s := 1) (by kernel_rfl) rfl opens_i (ofs_cons (s := 1) (by kernel_rfl) rfl opens_i (ofs_nil))))).map (fun p => ⟨p.1, p.2.1, p.2.2.1⟩) fun _ => rfl
theorem opens_hits : Opens Tryz.prog W 27 (fun l : List Hit => [.sl l.length (hitsF l)]) := opens_sl (s := 3) Tryz.underlying27 (by kernel_rfl) (by decide) opens_hit
theorem opens_rule : Opens Tryz.prog W 26 ruleF := (opens_st Tryz.underlying26 (by kernel_rfl) (ofs_cons (s := 1) (by kernel_rfl) rfl opens_i (ofs_cons (s := 1) (by kernel_rfl) rfl opens_i (ofs_cons (s := 1) (by kernel_rfl) rfl opens_i (ofs_cons (s := 1) (by kernel_rfl) rfl opens_i (ofs_cons (s := 1) (by kernel_rfl) rfl opens_i (ofs_nil))))))).map (fun p => ⟨p.1, p.2.1, p.2.2.1, p.2.2.2.1, p.2.2.2.2.1⟩) fun _ => rfl
theorem opens_rules : Opens Tryz.prog W 57 (fun l : List Rule => [.sl l.length (rulesF l)]) := opens_sl (s := 5) Tryz.underlying57 (by kernel_rfl) (by decide) opens_rule
theorem opens_setup : Opens Tryz.prog W 59 setL := (opens_st Tryz.underlying59 (by kernel_rfl) (ofs_cons (s := 1) (by kernel_rfl) rfl opens_rules (ofs_cons (s := 1) (by kernel_rfl) rfl opens_i (ofs_cons (s := 1) (by kernel_rfl) rfl opens_i (ofs_cons (s := 1) (by kernel_rfl) rfl opens_i (ofs_nil)))))).map (fun p => ⟨p.1, p.2.1, p.2.2.1, p.2.2.2.1⟩) fun _ => rfl
theorem opens_stm : Opens Tryz.prog W 46 stmF := (opens_st Tryz.underlying46 (by kernel_rfl) (ofs_cons (s := 1) (by kernel_rfl) rfl opens_hits (ofs_cons (s := 1) (by kernel_rfl) rfl opens_i (ofs_nil)))).map (fun p => ⟨p.1, p.2.1⟩) fun _ => rfl
theorem opens_stms : Opens Tryz.prog W 47 (fun l : List Stm => [.sl l.length (stmsF l)]) := opens_sl (s := 2) Tryz.underlying47 (by kernel_rfl) (by decide) opens_stm
end
set_option maxRecDepth 100000 in
theorem arg_st {H : Type} {enc : TypeId × Value → H} {W : World} {base : Nat} {T : TypeId} {fs : Array Field} {α : Type} {f : α → List FV} {v : Value} {d : DataW H} {ps : List MemPlace} (h : Opens Tryz.prog W T f) (ht : Tryz.prog.underlying T = some (.struct fs)) (hv : Value.okWide Tryz.prog W .any base T v) (hd : DataW.Trod enc Tryz.prog W 0 (fun _ => true) true T v d ps) : ∃ a, RepF W (fun _ => False) v (.agg (f a)) := by
  obtain ⟨cs, e, _⟩ := okWide_struct ht hv
  exact arg_agg h e hd
set_option maxRecDepth 100000 in
theorem arg_sl {H : Type} {enc : TypeId × Value → H} {W : World} {base : Nat} {T E : TypeId} {α : Type} {f : α → FV} {v : Value} {d : DataW H} {ps : List MemPlace} (h : Opens Tryz.prog W T (fun a => [f a])) (ht : Tryz.prog.underlying T = some (.slice E)) (hv : Value.okWide Tryz.prog W .any base T v) (hd : DataW.Trod enc Tryz.prog W 0 (fun _ => true) true T v d ps) : ∃ a, RepF W (fun _ => False) v (f a) := by
  obtain ⟨a, n, c, rfl⟩ := okWide_slice ht hv
  exact arg_one h rfl hd
theorem law_calls {f : Nat} {xs : List FV} (S : Summ Tryz.prog GG f xs (.v (.bool true))) {W : World} {args : Array Value} (R : RepL W (fun _ => False) args.toList xs) : Calls Tryz.prog f args W fun e W' => e = .returned (.bool true) ∧ Below W.heap.size W W' := by
  have := S.call W (fun _ => False) args.toList (fun _ h => h.elim) (fun g cs h => by cases h) R
  simp only [Array.toArray_toList] at this
  refine this.mono fun e w' ⟨v, h1, h2, h3⟩ => ⟨?_, h3⟩
  rw [h1, repV h2]
end Go.Proofs.YtdmdpkoapllkkaaGreat
