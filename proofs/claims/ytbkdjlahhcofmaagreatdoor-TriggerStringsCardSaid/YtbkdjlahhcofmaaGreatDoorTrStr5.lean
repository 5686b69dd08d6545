/- Laws on which the proofs of this seat stand. No condition. -/
import Derived.Test.YtbkdjlahhcofmaaGreatDoorTrStr4
import Derived.Shelf.Spec.SlicesGrow
import Derived.DataShut
import Derived.Test.YtbkdjlahhcofmaaGreatDoorRows
import Derived.WalkKit
import Derived.ProofKit
import Derived.OpenShut
import Derived.Stop.Joined
namespace Go.Proofs.YtbkdjlahhcofmaaGreatDoor
open Go Go.RowKit Go.Proofs Go.Shelf Go.Ab
def wA (ws : List Rng) (i : Nat) : Int := if (-2000000000000 ≤ (ws.getD i default).lo ∧ (ws.getD i default).lo ≤ 2000000000000) ∧ (-2000000000000 ≤ (ws.getD i default).hi ∧ (ws.getD i default).hi ≤ 2000000000000) then 0 else 2
def wB (ws : List Rng) (i : Nat) : Int := if (ws.getD i default).lo ≤ (ws.getD i default).hi ∧ (i = 0 ∨ (ws.getD (i - 1) default).hi < (ws.getD i default).lo) then 0 else 9
def lerrK (ws : List Rng) (e : Int) : Nat → Int
  | 0 => e
  | i + 1 => firstE [lerrK ws e i, wA ws i, wB ws i]
def runA (r : Rng) : Int := if (0 ≤ r.lo ∧ r.lo ≤ 1000000000000) ∧ (0 ≤ r.hi ∧ r.hi ≤ 1000000000000) then 0 else 2
def runB (r : Rng) : Int := if r.lo ≤ r.hi then 0 else 9
def lenE (n : Nat) : Int := if n ≤ 40 then 0 else 8
def liveErrV (s : Setup) (ws : List Rng) (r : Rng) : Int := firstE [lerrK ws (firstE [(setupChk s).2, lenE ws.length]) ws.length, runA r, runB r]
def liveStep (s : Setup) (r : Rng) (p : Int × Int) (w : Rng) : Int × Int :=
  if max p.2 (w.hi + 1) ≤ min r.hi (w.hi + s.dead) then (p.1 - (min r.hi (w.hi + s.dead) - max p.2 (w.hi + 1) + 1), min r.hi (w.hi + s.dead) + 1) else p
def liveK (s : Setup) (ws : List Rng) (r : Rng) : Nat → Int × Int
  | 0 => (r.hi - r.lo + 1, r.lo)
  | k + 1 => liveStep s r (liveK s ws r k) (ws.getD k default)
def liveV (s : Setup) (ws : List Rng) (r : Rng) : Int := (liveK s ws r ws.length).1
theorem firstE3_zero {a b c : Int} (h : firstE [a, b, c] = 0) : a = 0 ∧ b = 0 ∧ c = 0 := by
  simp only [firstE] at h
  split at h
  · split at h
    · split at h
      · exact ⟨by assumption, by assumption, by assumption⟩
      · exact absurd h (by assumption)
    · exact absurd h (by assumption)
  · exact absurd h (by assumption)
theorem firstE2_zero {a b : Int} (h : firstE [a, b] = 0) : a = 0 ∧ b = 0 := by
  simp only [firstE] at h
  split at h
  · split at h
    · exact ⟨by assumption, by assumption⟩
    · exact absurd h (by assumption)
  · exact absurd h (by assumption)
theorem lerrK_zero {ws : List Rng} {e : Int} : ∀ {n : Nat}, lerrK ws e n = 0 → e = 0 ∧ ∀ i, i < n → wA ws i = 0 ∧ wB ws i = 0
  | 0, h => ⟨h, fun i hi => by omega⟩
  | n + 1, h => by
    obtain ⟨h1, h2, h3⟩ := firstE3_zero h
    obtain ⟨h4, h5⟩ := lerrK_zero h1
    refine ⟨h4, fun i hi => ?_⟩
    by_cases e : i = n
    · subst e; exact ⟨h2, h3⟩
    · exact h5 i (by omega)
theorem wA_zero {ws : List Rng} {i : Nat} (hi : i < ws.length) (h : wA ws i = 0) : (-2000000000000 ≤ ws[i].lo ∧ ws[i].lo ≤ 2000000000000) ∧ (-2000000000000 ≤ ws[i].hi ∧ ws[i].hi ≤ 2000000000000) := by
  unfold wA at h
  rw [getD_at hi] at h
  by_cases c : (-2000000000000 ≤ ws[i].lo ∧ ws[i].lo ≤ 2000000000000) ∧ (-2000000000000 ≤ ws[i].hi ∧ ws[i].hi ≤ 2000000000000)
  · exact c
  · rw [if_neg c] at h; cases h
theorem liveErr_parts {s : Setup} {ws : List Rng} {r : Rng} (h : liveErrV s ws r = 0) : (setupChk s).2 = 0 ∧ ws.length ≤ 40 ∧ (∀ i, i < ws.length → wA ws i = 0 ∧ wB ws i = 0) ∧ ((0 ≤ r.lo ∧ r.lo ≤ 1000000000000) ∧ (0 ≤ r.hi ∧ r.hi ≤ 1000000000000)) ∧ r.lo ≤ r.hi := by
  obtain ⟨h1, h2, h3⟩ := firstE3_zero h
  obtain ⟨h4, h5⟩ := lerrK_zero h1
  obtain ⟨h6, h7⟩ := firstE2_zero h4
  refine ⟨h6, ?_, h5, ?_, ?_⟩
  · unfold lenE at h7
    by_cases c : ws.length ≤ 40
    · exact c
    · rw [if_neg c] at h7; cases h7
  · unfold runA at h2
    by_cases c : (0 ≤ r.lo ∧ r.lo ≤ 1000000000000) ∧ (0 ≤ r.hi ∧ r.hi ≤ 1000000000000)
    · exact c
    · rw [if_neg c] at h2; cases h2
  · unfold runB at h3
    by_cases c : r.lo ≤ r.hi
    · exact c
    · rw [if_neg c] at h3; cases h3
theorem liveStep_bd {s : Setup} {r : Rng} {p : Int × Int} {w : Rng} (h : (r.lo ≤ p.2 ∧ p.2 ≤ r.hi + 1) ∧ (r.hi + 1 - p.2 ≤ p.1 ∧ p.1 ≤ r.hi - r.lo + 1)) : (r.lo ≤ (liveStep s r p w).2 ∧ (liveStep s r p w).2 ≤ r.hi + 1) ∧ (r.hi + 1 - (liveStep s r p w).2 ≤ (liveStep s r p w).1 ∧ (liveStep s r p w).1 ≤ r.hi - r.lo + 1) := by
  unfold liveStep
  split
  · simp only; omega
  · exact h
theorem liveK_bd {s : Setup} {ws : List Rng} {r : Rng} (hr : r.lo ≤ r.hi) : ∀ k, (r.lo ≤ (liveK s ws r k).2 ∧ (liveK s ws r k).2 ≤ r.hi + 1) ∧ (r.hi + 1 - (liveK s ws r k).2 ≤ (liveK s ws r k).1 ∧ (liveK s ws r k).1 ≤ r.hi - r.lo + 1)
  | 0 => by simp only [liveK]; omega
  | k + 1 => liveStep_bd (liveK_bd hr k)
set_option maxRecDepth 100000 in
set_option maxHeartbeats 6400000 in
theorem LiveIn_s (s : Setup) (ws : List Rng) (r : Rng) (hsl : s.rules.length ≤ 1000000) (hw : ws.length ≤ 1000000) : Summ Tryz.prog GG 29 [setF s, .sl ws.length (rngsF ws), .agg (rngF r)] (.tup [iv (if liveErrV s ws r = 0 then liveV s ws r else 0), iv (liveErrV s ws r)]) := by
  unfold liveV
  have HU : Summ Tryz.prog GG 106 [.v (.bool (decide (((ws.length : Nat) : Int) ≤ 40))), iv 8] (iv (lenE ws.length)) := by
    unfold lenE
    by_cases hL : ws.length ≤ 40
    · rw [if_pos hL, decide_eq_true (by omega)]; exact tunless_T 8
    · rw [if_neg hL, decide_eq_false (by omega)]; exact tunless_F 8
  have H1 := tfirst2_s (setupChk s).2 (lenE ws.length)
  refine summW Tryz.func29 rfl rfl 135 rfl (by simp) (fun M0 => ?_)
  repeat (first
    | (apply s_leq; exact rfl; exact rfl; exact rfl)
    | (apply s_a TY; exact rfl)
    | apply w_seq
    | apply w_region
    | apply s_nil
    | apply t_norm
    | apply w_block
    | (apply s_k (HU); exact rfl)
    | (apply s_k (H1); exact rfl)
    | (apply s_k1 (CheckSetup_s _); exact rfl; (first | assumption | omega | decide)))
  apply w_loop (fun k : Nat => ⟨(Ab.upd (Ab.upd (Ab.upd (Ab.upd (Ab.upd (Ab.upd (Ab.upd (fun _ => .bot) 1 (.f (.sl ws.length (rngsF ws)))) 3 (.f (.pt (setL s) 0))) 5 (.f (.pt (rngF r) 0))) 9 (.f (iv (lerrK ws (firstE [(setupChk s).2, lenE ws.length]) k)))) 31 (.f (.sl ws.length (rngsF ws)))) 32 (.f (iv ws.length))) 33 (.f (iv (k : Nat)))), (fun _ => none), 0⟩) (fun k => k ≤ ws.length) (fun k => ws.length - k) 0 (Nat.zero_le _) (gh_le ⟨le_upd rfl trivial (le_upd rfl trivial (le_upd rfl trivial (le_upd rfl trivial (le_upd rfl trivial (le_upd rfl trivial (le_upd rfl trivial (le_nil _))))))), le_h0 _ _⟩)
  intro k hk
  by_cases hc : k < ws.length
  · have hp : k - 1 < ws.length := by omega
    have hat : (rngsF ws)[(max 0 ((k : Int) - 1)).toNat * 2 + 1]? = some (iv ws[k - 1].hi) := by
      rw [show (max 0 ((k : Int) - 1)).toNat = k - 1 by omega]; exact rngsF_f1 hp
    by_cases hA : ws[k].lo ≤ ws[k].hi
    · by_cases hB : k = 0
      · by_cases hD : -2000000000000 ≤ ws[k].lo ∧ ws[k].lo ≤ 2000000000000
        · by_cases hE : -2000000000000 ≤ ws[k].hi ∧ ws[k].hi ≤ 2000000000000
          · have hwA : wA ws k = 0 := by unfold wA; rw [getD_at hc]; exact if_pos (by omega)
            have hwB : wB ws k = 0 := by unfold wB; rw [getD_at hc, getD_at hp]; exact if_pos (by omega)
            have hl : lerrK ws (firstE [(setupChk s).2, lenE ws.length]) (k + 1) = firstE [lerrK ws (firstE [(setupChk s).2, lenE ws.length]) k, 0, 0] := by rw [lerrK, hwA, hwB]
            repeat (first
    | (apply s_a TY; exact rfl)
    | (apply s_t; exact rfl; (first | assumption | omega))
    | apply w_seq
    | apply w_region
    | (apply w_draw (id := 6) 18 rfl (by kernel_rfl))
    | apply s_nil
    | apply t_norm
    | apply k_norm
    | apply w_block
    | apply w_skip
    | (apply w_condT; exact rfl; exact rfl)
    | (apply s_k (tfirst3_s _ _ _); exact rfl)
    | (apply s_k (tunless_T _); exact rfl)
    | (apply s_k2 (isSized_T _ _); exact rfl; (first | assumption | omega | decide); (first | assumption | omega | decide))
    | (apply s_s; exact rfl)
    | (apply s_c TY; exact rfl; (first | omega | exact ⟨by omega, by (first | with_reducible assumption | ((with_reducible apply rngsF_ne); omega) | assumption)⟩))
    | (apply s_m TY; exact rfl; (first | with_reducible assumption | ((with_reducible apply rngsF_sub); omega) | exact rfl); exact rfl)
    | (apply s_alloc TY; exact rfl; exact rfl; exact rfl)
    | (apply s_store TY; exact rfl; exact rfl; exact rfl; exact rfl; exact rfl; exact rfl))
            exact ⟨k + 1, by omega, by omega, gh_le ⟨le_upd rfl trivial (le_upd rfl trivial (le_upd rfl trivial (le_upd (congrArg (fun z : Int => AV.f (iv z)) hl) trivial (le_upd rfl trivial (le_upd rfl trivial (le_upd rfl trivial (le_nil _))))))), le_h0 _ _⟩⟩
          · have hwA : wA ws k = 2 := by unfold wA; rw [getD_at hc]; exact if_neg (by omega)
            have hwB : wB ws k = 0 := by unfold wB; rw [getD_at hc, getD_at hp]; exact if_pos (by omega)
            have hl : lerrK ws (firstE [(setupChk s).2, lenE ws.length]) (k + 1) = firstE [lerrK ws (firstE [(setupChk s).2, lenE ws.length]) k, 2, 0] := by rw [lerrK, hwA, hwB]
            repeat (first
    | (apply s_a TY; exact rfl)
    | (apply s_t; exact rfl; (first | assumption | omega))
    | apply w_seq
    | apply w_region
    | (apply w_draw (id := 6) 18 rfl (by kernel_rfl))
    | apply s_nil
    | apply t_norm
    | apply k_norm
    | apply w_block
    | apply w_skip
    | (apply w_condT; exact rfl; exact rfl)
    | (apply s_k (tfirst3_s _ _ _); exact rfl)
    | (apply s_k (tunless_T _); exact rfl)
    | (apply s_k (tunless_F _); exact rfl)
    | (apply s_k2 (isSized_T _ _); exact rfl; (first | assumption | omega | decide); (first | assumption | omega | decide))
    | (apply s_k2 (isSized_F _ _); exact rfl; (first | assumption | omega | decide); (first | assumption | omega | decide))
    | (apply s_s; exact rfl)
    | (apply s_c TY; exact rfl; (first | omega | exact ⟨by omega, by (first | with_reducible assumption | ((with_reducible apply rngsF_ne); omega) | assumption)⟩))
    | (apply s_m TY; exact rfl; (first | with_reducible assumption | ((with_reducible apply rngsF_sub); omega) | exact rfl); exact rfl)
    | (apply s_alloc TY; exact rfl; exact rfl; exact rfl)
    | (apply s_store TY; exact rfl; exact rfl; exact rfl; exact rfl; exact rfl; exact rfl))
            exact ⟨k + 1, by omega, by omega, gh_le ⟨le_upd rfl trivial (le_upd rfl trivial (le_upd rfl trivial (le_upd (congrArg (fun z : Int => AV.f (iv z)) hl) trivial (le_upd rfl trivial (le_upd rfl trivial (le_upd rfl trivial (le_nil _))))))), le_h0 _ _⟩⟩
        · have hwA : wA ws k = 2 := by unfold wA; rw [getD_at hc]; exact if_neg (by omega)
          have hwB : wB ws k = 0 := by unfold wB; rw [getD_at hc, getD_at hp]; exact if_pos (by omega)
          have hl : lerrK ws (firstE [(setupChk s).2, lenE ws.length]) (k + 1) = firstE [lerrK ws (firstE [(setupChk s).2, lenE ws.length]) k, 2, 0] := by rw [lerrK, hwA, hwB]
          repeat (first
    | (apply s_a TY; exact rfl)
    | (apply s_t; exact rfl; (first | assumption | omega))
    | apply w_seq
    | apply w_region
    | (apply w_draw (id := 6) 18 rfl (by kernel_rfl))
    | apply s_nil
    | apply t_norm
    | apply k_norm
    | apply w_block
    | apply w_skip
    | (apply w_condT; exact rfl; exact rfl)
    | (apply s_k (tfirst3_s _ _ _); exact rfl)
    | (apply s_k (tunless_T _); exact rfl)
    | (apply s_k (tunless_F _); exact rfl)
    | (apply s_k2 (isSized_F _ _); exact rfl; (first | assumption | omega | decide); (first | assumption | omega | decide))
    | (apply s_s; exact rfl)
    | (apply s_c TY; exact rfl; (first | omega | exact ⟨by omega, by (first | with_reducible assumption | ((with_reducible apply rngsF_ne); omega) | assumption)⟩))
    | (apply s_m TY; exact rfl; (first | with_reducible assumption | ((with_reducible apply rngsF_sub); omega) | exact rfl); exact rfl)
    | (apply s_alloc TY; exact rfl; exact rfl; exact rfl)
    | (apply s_store TY; exact rfl; exact rfl; exact rfl; exact rfl; exact rfl; exact rfl))
          exact ⟨k + 1, by omega, by omega, gh_le ⟨le_upd rfl trivial (le_upd rfl trivial (le_upd rfl trivial (le_upd (congrArg (fun z : Int => AV.f (iv z)) hl) trivial (le_upd rfl trivial (le_upd rfl trivial (le_upd rfl trivial (le_nil _))))))), le_h0 _ _⟩⟩
      · by_cases hC : ws[k - 1].hi < ws[k].lo
        · by_cases hD : -2000000000000 ≤ ws[k].lo ∧ ws[k].lo ≤ 2000000000000
          · by_cases hE : -2000000000000 ≤ ws[k].hi ∧ ws[k].hi ≤ 2000000000000
            · have hwA : wA ws k = 0 := by unfold wA; rw [getD_at hc]; exact if_pos (by omega)
              have hwB : wB ws k = 0 := by unfold wB; rw [getD_at hc, getD_at hp]; exact if_pos (by omega)
              have hl : lerrK ws (firstE [(setupChk s).2, lenE ws.length]) (k + 1) = firstE [lerrK ws (firstE [(setupChk s).2, lenE ws.length]) k, 0, 0] := by rw [lerrK, hwA, hwB]
              repeat (first
    | (apply s_a TY; exact rfl)
    | (apply s_t; exact rfl; (first | assumption | omega))
    | (apply s_f; exact rfl; (first | assumption | omega))
    | apply w_seq
    | apply w_region
    | (apply w_draw (id := 6) 18 rfl (by kernel_rfl))
    | apply s_nil
    | apply t_norm
    | apply k_norm
    | apply w_block
    | apply w_skip
    | (apply w_condT; exact rfl; exact rfl)
    | (apply s_k (tfirst3_s _ _ _); exact rfl)
    | (apply s_k (tunless_T _); exact rfl)
    | (apply s_k2 (isSized_T _ _); exact rfl; (first | assumption | omega | decide); (first | assumption | omega | decide))
    | (apply s_c TY; exact rfl; (first | omega | exact ⟨by omega, by (first | with_reducible assumption | ((with_reducible apply rngsF_ne); omega) | assumption)⟩))
    | (apply s_z TY; exact rfl; (first | omega | exact ⟨by omega, by (first | with_reducible assumption | ((with_reducible apply rngsF_ne); omega) | assumption)⟩))
    | (apply s_l TY; exact rfl; (first | exact rfl | with_reducible assumption | ((with_reducible apply rngsF_f0); omega) | ((with_reducible apply rngsF_f1); omega) | assumption))
    | (apply s_m TY; exact rfl; (first | with_reducible assumption | ((with_reducible apply rngsF_sub); omega) | exact rfl); exact rfl)
    | (apply s_alloc TY; exact rfl; exact rfl; exact rfl)
    | (apply s_store TY; exact rfl; exact rfl; exact rfl; exact rfl; exact rfl; exact rfl))
              exact ⟨k + 1, by omega, by omega, gh_le ⟨le_upd rfl trivial (le_upd rfl trivial (le_upd rfl trivial (le_upd (congrArg (fun z : Int => AV.f (iv z)) hl) trivial (le_upd rfl trivial (le_upd rfl trivial (le_upd rfl trivial (le_nil _))))))), le_h0 _ _⟩⟩
            · have hwA : wA ws k = 2 := by unfold wA; rw [getD_at hc]; exact if_neg (by omega)
              have hwB : wB ws k = 0 := by unfold wB; rw [getD_at hc, getD_at hp]; exact if_pos (by omega)
              have hl : lerrK ws (firstE [(setupChk s).2, lenE ws.length]) (k + 1) = firstE [lerrK ws (firstE [(setupChk s).2, lenE ws.length]) k, 2, 0] := by rw [lerrK, hwA, hwB]
              repeat (first
    | (apply s_a TY; exact rfl)
    | (apply s_t; exact rfl; (first | assumption | omega))
    | (apply s_f; exact rfl; (first | assumption | omega))
    | apply w_seq
    | apply w_region
    | (apply w_draw (id := 6) 18 rfl (by kernel_rfl))
    | apply s_nil
    | apply t_norm
    | apply k_norm
    | apply w_block
    | apply w_skip
    | (apply w_condT; exact rfl; exact rfl)
    | (apply s_k (tfirst3_s _ _ _); exact rfl)
    | (apply s_k (tunless_T _); exact rfl)
    | (apply s_k (tunless_F _); exact rfl)
    | (apply s_k2 (isSized_T _ _); exact rfl; (first | assumption | omega | decide); (first | assumption | omega | decide))
    | (apply s_k2 (isSized_F _ _); exact rfl; (first | assumption | omega | decide); (first | assumption | omega | decide))
    | (apply s_c TY; exact rfl; (first | omega | exact ⟨by omega, by (first | with_reducible assumption | ((with_reducible apply rngsF_ne); omega) | assumption)⟩))
    | (apply s_z TY; exact rfl; (first | omega | exact ⟨by omega, by (first | with_reducible assumption | ((with_reducible apply rngsF_ne); omega) | assumption)⟩))
    | (apply s_l TY; exact rfl; (first | exact rfl | with_reducible assumption | ((with_reducible apply rngsF_f0); omega) | ((with_reducible apply rngsF_f1); omega) | assumption))
    | (apply s_m TY; exact rfl; (first | with_reducible assumption | ((with_reducible apply rngsF_sub); omega) | exact rfl); exact rfl)
    | (apply s_alloc TY; exact rfl; exact rfl; exact rfl)
    | (apply s_store TY; exact rfl; exact rfl; exact rfl; exact rfl; exact rfl; exact rfl))
              exact ⟨k + 1, by omega, by omega, gh_le ⟨le_upd rfl trivial (le_upd rfl trivial (le_upd rfl trivial (le_upd (congrArg (fun z : Int => AV.f (iv z)) hl) trivial (le_upd rfl trivial (le_upd rfl trivial (le_upd rfl trivial (le_nil _))))))), le_h0 _ _⟩⟩
          · have hwA : wA ws k = 2 := by unfold wA; rw [getD_at hc]; exact if_neg (by omega)
            have hwB : wB ws k = 0 := by unfold wB; rw [getD_at hc, getD_at hp]; exact if_pos (by omega)
            have hl : lerrK ws (firstE [(setupChk s).2, lenE ws.length]) (k + 1) = firstE [lerrK ws (firstE [(setupChk s).2, lenE ws.length]) k, 2, 0] := by rw [lerrK, hwA, hwB]
            repeat (first
    | (apply s_a TY; exact rfl)
    | (apply s_t; exact rfl; (first | assumption | omega))
    | (apply s_f; exact rfl; (first | assumption | omega))
    | apply w_seq
    | apply w_region
    | (apply w_draw (id := 6) 18 rfl (by kernel_rfl))
    | apply s_nil
    | apply t_norm
    | apply k_norm
    | apply w_block
    | apply w_skip
    | (apply w_condT; exact rfl; exact rfl)
    | (apply s_k (tfirst3_s _ _ _); exact rfl)
    | (apply s_k (tunless_T _); exact rfl)
    | (apply s_k (tunless_F _); exact rfl)
    | (apply s_k2 (isSized_F _ _); exact rfl; (first | assumption | omega | decide); (first | assumption | omega | decide))
    | (apply s_s; exact rfl)
    | (apply s_c TY; exact rfl; (first | omega | exact ⟨by omega, by (first | with_reducible assumption | ((with_reducible apply rngsF_ne); omega) | assumption)⟩))
    | (apply s_z TY; exact rfl; (first | omega | exact ⟨by omega, by (first | with_reducible assumption | ((with_reducible apply rngsF_ne); omega) | assumption)⟩))
    | (apply s_l TY; exact rfl; (first | exact rfl | with_reducible assumption | ((with_reducible apply rngsF_f0); omega) | ((with_reducible apply rngsF_f1); omega) | assumption))
    | (apply s_m TY; exact rfl; (first | with_reducible assumption | ((with_reducible apply rngsF_sub); omega) | exact rfl); exact rfl)
    | (apply s_alloc TY; exact rfl; exact rfl; exact rfl)
    | (apply s_store TY; exact rfl; exact rfl; exact rfl; exact rfl; exact rfl; exact rfl))
            exact ⟨k + 1, by omega, by omega, gh_le ⟨le_upd rfl trivial (le_upd rfl trivial (le_upd rfl trivial (le_upd (congrArg (fun z : Int => AV.f (iv z)) hl) trivial (le_upd rfl trivial (le_upd rfl trivial (le_upd rfl trivial (le_nil _))))))), le_h0 _ _⟩⟩
        · by_cases hD : -2000000000000 ≤ ws[k].lo ∧ ws[k].lo ≤ 2000000000000
          · by_cases hE : -2000000000000 ≤ ws[k].hi ∧ ws[k].hi ≤ 2000000000000
            · have hwA : wA ws k = 0 := by unfold wA; rw [getD_at hc]; exact if_pos (by omega)
              have hwB : wB ws k = 9 := by unfold wB; rw [getD_at hc, getD_at hp]; exact if_neg (by omega)
              have hl : lerrK ws (firstE [(setupChk s).2, lenE ws.length]) (k + 1) = firstE [lerrK ws (firstE [(setupChk s).2, lenE ws.length]) k, 0, 9] := by rw [lerrK, hwA, hwB]
              repeat (first
    | (apply s_a TY; exact rfl)
    | (apply s_t; exact rfl; (first | assumption | omega))
    | (apply s_f; exact rfl; (first | assumption | omega))
    | apply w_seq
    | apply w_region
    | (apply w_draw (id := 6) 18 rfl (by kernel_rfl))
    | apply s_nil
    | apply t_norm
    | apply k_norm
    | apply w_block
    | apply w_skip
    | (apply w_condT; exact rfl; exact rfl)
    | (apply s_k (tfirst3_s _ _ _); exact rfl)
    | (apply s_k (tunless_T _); exact rfl)
    | (apply s_k (tunless_F _); exact rfl)
    | (apply s_k2 (isSized_T _ _); exact rfl; (first | assumption | omega | decide); (first | assumption | omega | decide))
    | (apply s_c TY; exact rfl; (first | omega | exact ⟨by omega, by (first | with_reducible assumption | ((with_reducible apply rngsF_ne); omega) | assumption)⟩))
    | (apply s_z TY; exact rfl; (first | omega | exact ⟨by omega, by (first | with_reducible assumption | ((with_reducible apply rngsF_ne); omega) | assumption)⟩))
    | (apply s_l TY; exact rfl; (first | exact rfl | with_reducible assumption | ((with_reducible apply rngsF_f0); omega) | ((with_reducible apply rngsF_f1); omega) | assumption))
    | (apply s_m TY; exact rfl; (first | with_reducible assumption | ((with_reducible apply rngsF_sub); omega) | exact rfl); exact rfl)
    | (apply s_alloc TY; exact rfl; exact rfl; exact rfl)
    | (apply s_store TY; exact rfl; exact rfl; exact rfl; exact rfl; exact rfl; exact rfl))
              exact ⟨k + 1, by omega, by omega, gh_le ⟨le_upd rfl trivial (le_upd rfl trivial (le_upd rfl trivial (le_upd (congrArg (fun z : Int => AV.f (iv z)) hl) trivial (le_upd rfl trivial (le_upd rfl trivial (le_upd rfl trivial (le_nil _))))))), le_h0 _ _⟩⟩
            · have hwA : wA ws k = 2 := by unfold wA; rw [getD_at hc]; exact if_neg (by omega)
              have hwB : wB ws k = 9 := by unfold wB; rw [getD_at hc, getD_at hp]; exact if_neg (by omega)
              have hl : lerrK ws (firstE [(setupChk s).2, lenE ws.length]) (k + 1) = firstE [lerrK ws (firstE [(setupChk s).2, lenE ws.length]) k, 2, 9] := by rw [lerrK, hwA, hwB]
              repeat (first
    | (apply s_a TY; exact rfl)
    | (apply s_t; exact rfl; (first | assumption | omega))
    | (apply s_f; exact rfl; (first | assumption | omega))
    | apply w_seq
    | apply w_region
    | (apply w_draw (id := 6) 18 rfl (by kernel_rfl))
    | apply s_nil
    | apply t_norm
    | apply k_norm
    | apply w_block
    | apply w_skip
    | (apply w_condT; exact rfl; exact rfl)
    | (apply s_k (tfirst3_s _ _ _); exact rfl)
    | (apply s_k (tunless_F _); exact rfl)
    | (apply s_k2 (isSized_T _ _); exact rfl; (first | assumption | omega | decide); (first | assumption | omega | decide))
    | (apply s_k2 (isSized_F _ _); exact rfl; (first | assumption | omega | decide); (first | assumption | omega | decide))
    | (apply s_c TY; exact rfl; (first | omega | exact ⟨by omega, by (first | with_reducible assumption | ((with_reducible apply rngsF_ne); omega) | assumption)⟩))
    | (apply s_z TY; exact rfl; (first | omega | exact ⟨by omega, by (first | with_reducible assumption | ((with_reducible apply rngsF_ne); omega) | assumption)⟩))
    | (apply s_l TY; exact rfl; (first | exact rfl | with_reducible assumption | ((with_reducible apply rngsF_f0); omega) | ((with_reducible apply rngsF_f1); omega) | assumption))
    | (apply s_m TY; exact rfl; (first | with_reducible assumption | ((with_reducible apply rngsF_sub); omega) | exact rfl); exact rfl)
    | (apply s_alloc TY; exact rfl; exact rfl; exact rfl)
    | (apply s_store TY; exact rfl; exact rfl; exact rfl; exact rfl; exact rfl; exact rfl))
              exact ⟨k + 1, by omega, by omega, gh_le ⟨le_upd rfl trivial (le_upd rfl trivial (le_upd rfl trivial (le_upd (congrArg (fun z : Int => AV.f (iv z)) hl) trivial (le_upd rfl trivial (le_upd rfl trivial (le_upd rfl trivial (le_nil _))))))), le_h0 _ _⟩⟩
          · have hwA : wA ws k = 2 := by unfold wA; rw [getD_at hc]; exact if_neg (by omega)
            have hwB : wB ws k = 9 := by unfold wB; rw [getD_at hc, getD_at hp]; exact if_neg (by omega)
            have hl : lerrK ws (firstE [(setupChk s).2, lenE ws.length]) (k + 1) = firstE [lerrK ws (firstE [(setupChk s).2, lenE ws.length]) k, 2, 9] := by rw [lerrK, hwA, hwB]
            repeat (first
    | (apply s_a TY; exact rfl)
    | (apply s_t; exact rfl; (first | assumption | omega))
    | (apply s_f; exact rfl; (first | assumption | omega))
    | apply w_seq
    | apply w_region
    | (apply w_draw (id := 6) 18 rfl (by kernel_rfl))
    | apply s_nil
    | apply t_norm
    | apply k_norm
    | apply w_block
    | apply w_skip
    | (apply w_condT; exact rfl; exact rfl)
    | (apply s_k (tfirst3_s _ _ _); exact rfl)
    | (apply s_k (tunless_F _); exact rfl)
    | (apply s_k2 (isSized_F _ _); exact rfl; (first | assumption | omega | decide); (first | assumption | omega | decide))
    | (apply s_s; exact rfl)
    | (apply s_c TY; exact rfl; (first | omega | exact ⟨by omega, by (first | with_reducible assumption | ((with_reducible apply rngsF_ne); omega) | assumption)⟩))
    | (apply s_z TY; exact rfl; (first | omega | exact ⟨by omega, by (first | with_reducible assumption | ((with_reducible apply rngsF_ne); omega) | assumption)⟩))
    | (apply s_l TY; exact rfl; (first | exact rfl | with_reducible assumption | ((with_reducible apply rngsF_f0); omega) | ((with_reducible apply rngsF_f1); omega) | assumption))
    | (apply s_m TY; exact rfl; (first | with_reducible assumption | ((with_reducible apply rngsF_sub); omega) | exact rfl); exact rfl)
    | (apply s_alloc TY; exact rfl; exact rfl; exact rfl)
    | (apply s_store TY; exact rfl; exact rfl; exact rfl; exact rfl; exact rfl; exact rfl))
            exact ⟨k + 1, by omega, by omega, gh_le ⟨le_upd rfl trivial (le_upd rfl trivial (le_upd rfl trivial (le_upd (congrArg (fun z : Int => AV.f (iv z)) hl) trivial (le_upd rfl trivial (le_upd rfl trivial (le_upd rfl trivial (le_nil _))))))), le_h0 _ _⟩⟩
    · by_cases hD : -2000000000000 ≤ ws[k].lo ∧ ws[k].lo ≤ 2000000000000
      · by_cases hE : -2000000000000 ≤ ws[k].hi ∧ ws[k].hi ≤ 2000000000000
        · have hwA : wA ws k = 0 := by unfold wA; rw [getD_at hc]; exact if_pos (by omega)
          have hwB : wB ws k = 9 := by unfold wB; rw [getD_at hc, getD_at hp]; exact if_neg (by omega)
          have hl : lerrK ws (firstE [(setupChk s).2, lenE ws.length]) (k + 1) = firstE [lerrK ws (firstE [(setupChk s).2, lenE ws.length]) k, 0, 9] := by rw [lerrK, hwA, hwB]
          repeat (first
    | (apply s_a TY; exact rfl)
    | (apply s_t; exact rfl; (first | assumption | omega))
    | (apply s_f; exact rfl; (first | assumption | omega))
    | apply w_seq
    | apply w_region
    | (apply w_draw (id := 6) 18 rfl (by kernel_rfl))
    | apply s_nil
    | apply t_norm
    | apply k_norm
    | apply w_block
    | apply w_skip
    | (apply w_condT; exact rfl; exact rfl)
    | (apply s_k (tfirst3_s _ _ _); exact rfl)
    | (apply s_k (tunless_T _); exact rfl)
    | (apply s_k (tunless_F _); exact rfl)
    | (apply s_k2 (isSized_T _ _); exact rfl; (first | assumption | omega | decide); (first | assumption | omega | decide))
    | (apply s_s; exact rfl)
    | (apply s_c TY; exact rfl; (first | omega | exact ⟨by omega, by (first | with_reducible assumption | ((with_reducible apply rngsF_ne); omega) | assumption)⟩))
    | (apply s_m TY; exact rfl; (first | with_reducible assumption | ((with_reducible apply rngsF_sub); omega) | exact rfl); exact rfl)
    | (apply s_alloc TY; exact rfl; exact rfl; exact rfl)
    | (apply s_store TY; exact rfl; exact rfl; exact rfl; exact rfl; exact rfl; exact rfl))
          exact ⟨k + 1, by omega, by omega, gh_le ⟨le_upd rfl trivial (le_upd rfl trivial (le_upd rfl trivial (le_upd (congrArg (fun z : Int => AV.f (iv z)) hl) trivial (le_upd rfl trivial (le_upd rfl trivial (le_upd rfl trivial (le_nil _))))))), le_h0 _ _⟩⟩
        · have hwA : wA ws k = 2 := by unfold wA; rw [getD_at hc]; exact if_neg (by omega)
          have hwB : wB ws k = 9 := by unfold wB; rw [getD_at hc, getD_at hp]; exact if_neg (by omega)
          have hl : lerrK ws (firstE [(setupChk s).2, lenE ws.length]) (k + 1) = firstE [lerrK ws (firstE [(setupChk s).2, lenE ws.length]) k, 2, 9] := by rw [lerrK, hwA, hwB]
          repeat (first
    | (apply s_a TY; exact rfl)
    | (apply s_t; exact rfl; (first | assumption | omega))
    | (apply s_f; exact rfl; (first | assumption | omega))
    | apply w_seq
    | apply w_region
    | (apply w_draw (id := 6) 18 rfl (by kernel_rfl))
    | apply s_nil
    | apply t_norm
    | apply k_norm
    | apply w_block
    | apply w_skip
    | (apply w_condT; exact rfl; exact rfl)
    | (apply s_k (tfirst3_s _ _ _); exact rfl)
    | (apply s_k (tunless_F _); exact rfl)
    | (apply s_k2 (isSized_T _ _); exact rfl; (first | assumption | omega | decide); (first | assumption | omega | decide))
    | (apply s_k2 (isSized_F _ _); exact rfl; (first | assumption | omega | decide); (first | assumption | omega | decide))
    | (apply s_s; exact rfl)
    | (apply s_c TY; exact rfl; (first | omega | exact ⟨by omega, by (first | with_reducible assumption | ((with_reducible apply rngsF_ne); omega) | assumption)⟩))
    | (apply s_m TY; exact rfl; (first | with_reducible assumption | ((with_reducible apply rngsF_sub); omega) | exact rfl); exact rfl)
    | (apply s_alloc TY; exact rfl; exact rfl; exact rfl)
    | (apply s_store TY; exact rfl; exact rfl; exact rfl; exact rfl; exact rfl; exact rfl))
          exact ⟨k + 1, by omega, by omega, gh_le ⟨le_upd rfl trivial (le_upd rfl trivial (le_upd rfl trivial (le_upd (congrArg (fun z : Int => AV.f (iv z)) hl) trivial (le_upd rfl trivial (le_upd rfl trivial (le_upd rfl trivial (le_nil _))))))), le_h0 _ _⟩⟩
      · have hwA : wA ws k = 2 := by unfold wA; rw [getD_at hc]; exact if_neg (by omega)
        have hwB : wB ws k = 9 := by unfold wB; rw [getD_at hc, getD_at hp]; exact if_neg (by omega)
        have hl : lerrK ws (firstE [(setupChk s).2, lenE ws.length]) (k + 1) = firstE [lerrK ws (firstE [(setupChk s).2, lenE ws.length]) k, 2, 9] := by rw [lerrK, hwA, hwB]
        repeat (first
    | (apply s_a TY; exact rfl)
    | (apply s_t; exact rfl; (first | assumption | omega))
    | (apply s_f; exact rfl; (first | assumption | omega))
    | apply w_seq
    | apply w_region
    | (apply w_draw (id := 6) 18 rfl (by kernel_rfl))
    | apply s_nil
    | apply t_norm
    | apply k_norm
    | apply w_block
    | apply w_skip
    | (apply w_condT; exact rfl; exact rfl)
    | (apply s_k (tfirst3_s _ _ _); exact rfl)
    | (apply s_k (tunless_F _); exact rfl)
    | (apply s_k2 (isSized_F _ _); exact rfl; (first | assumption | omega | decide); (first | assumption | omega | decide))
    | (apply s_s; exact rfl)
    | (apply s_c TY; exact rfl; (first | omega | exact ⟨by omega, by (first | with_reducible assumption | ((with_reducible apply rngsF_ne); omega) | assumption)⟩))
    | (apply s_m TY; exact rfl; (first | with_reducible assumption | ((with_reducible apply rngsF_sub); omega) | exact rfl); exact rfl)
    | (apply s_alloc TY; exact rfl; exact rfl; exact rfl)
    | (apply s_store TY; exact rfl; exact rfl; exact rfl; exact rfl; exact rfl; exact rfl))
        exact ⟨k + 1, by omega, by omega, gh_le ⟨le_upd rfl trivial (le_upd rfl trivial (le_upd rfl trivial (le_upd (congrArg (fun z : Int => AV.f (iv z)) hl) trivial (le_upd rfl trivial (le_upd rfl trivial (le_upd rfl trivial (le_nil _))))))), le_h0 _ _⟩⟩
  · have hke : k = ws.length := by omega
    subst hke
    by_cases hF : 0 ≤ r.lo ∧ r.lo ≤ 1000000000000
    · by_cases hG : 0 ≤ r.hi ∧ r.hi ≤ 1000000000000
      · by_cases hH : r.lo ≤ r.hi
        · have hrA : runA r = 0 := by unfold runA; exact if_pos (by omega)
          have hrB : runB r = 0 := by unfold runB; exact if_pos (by omega)
          have hv : liveErrV s ws r = firstE [lerrK ws (firstE [(setupChk s).2, lenE ws.length]) ws.length, 0, 0] := by unfold liveErrV; rw [hrA, hrB]
          by_cases h0 : liveErrV s ws r = 0
          · rw [if_pos h0, h0]
            rw [hv] at h0
            have h0' := h0
            rw [← hv] at h0
            obtain ⟨z1, z2, z3, z4, z5⟩ := liveErr_parts h0
            have hs := setOk_of z1
            have hdd := hs.dead
            repeat (first
    | (apply s_a TY; exact rfl)
    | (apply s_t; exact rfl; (first | assumption | omega))
    | (apply s_f; exact rfl; (first | assumption | omega))
    | apply w_seq
    | apply w_region
    | (apply w_draw (id := 9) 16 rfl (by kernel_rfl))
    | apply s_nil
    | apply t_norm
    | apply t_exit
    | apply k_hit
    | apply w_block
    | apply w_exit
    | apply w_skip
    | (apply w_condF; exact rfl; exact rfl)
    | (apply s_k (tfirst3_s _ _ _); exact rfl)
    | (apply s_k (tunless_T _); exact rfl)
    | (apply s_k1 (isTick_T _); exact rfl; (first | assumption | omega | decide))
    | (apply s_c TY; exact rfl; (first | omega | exact ⟨by omega, by (first | with_reducible assumption | ((with_reducible apply rngsF_ne); omega) | assumption)⟩)))
            apply w_loop (fun k : Nat => ⟨(Ab.upd (Ab.upd (Ab.upd (Ab.upd (Ab.upd (Ab.upd (Ab.upd (fun _ => .bot) 3 (.f (.pt (setL s) 0))) 5 (.f (.pt (rngF r) 0))) 13 (.f (iv (liveK s ws r k).1))) 14 (.f (iv (liveK s ws r k).2))) 103 (.f (.sl ws.length (rngsF ws)))) 104 (.f (iv ws.length))) 105 (.f (iv (k : Nat)))), (fun _ => none), 0⟩) (fun k => k ≤ ws.length) (fun k => ws.length - k) 0 (Nat.zero_le _) (gh_le ⟨le_upd rfl trivial (le_upd rfl trivial (le_upd rfl trivial (le_upd rfl trivial (le_upd rfl trivial (le_upd rfl trivial (le_upd rfl trivial (le_nil _))))))), le_h0 _ _⟩)
            intro k hk
            have hbd := liveK_bd (s := s) (ws := ws) z5 k
            by_cases hc : k < ws.length
            · have hwz := wA_zero hc (z3 k hc).1
              by_cases hm : max (liveK s ws r k).2 (ws[k].hi + 1) ≤ min r.hi (ws[k].hi + s.dead)
              · have hl : liveK s ws r (k + 1) = ((liveK s ws r k).1 - (min r.hi (ws[k].hi + s.dead) - max (liveK s ws r k).2 (ws[k].hi + 1) + 1), min r.hi (ws[k].hi + s.dead) + 1) := by rw [liveK, getD_at hc, liveStep, if_pos hm]
                repeat (first
    | (apply s_a TY; exact rfl)
    | (apply s_t; exact rfl; (first | assumption | omega))
    | apply w_seq
    | apply w_region
    | (apply w_draw (id := 17) 14 rfl (by kernel_rfl))
    | apply s_nil
    | apply t_norm
    | apply k_norm
    | apply w_block
    | apply w_skip
    | (apply w_condT; exact rfl; exact rfl)
    | (apply s_c TY; exact rfl; (first | omega | exact ⟨by omega, by (first | with_reducible assumption | ((with_reducible apply rngsF_ne); omega) | assumption)⟩))
    | (apply s_m TY; exact rfl; (first | with_reducible assumption | ((with_reducible apply rngsF_sub); omega) | exact rfl); exact rfl)
    | (apply s_alloc TY; exact rfl; exact rfl; exact rfl)
    | (apply s_store TY; exact rfl; exact rfl; exact rfl; exact rfl; exact rfl; exact rfl))
                exact ⟨k + 1, by omega, by omega, gh_le ⟨le_upd rfl trivial (le_upd rfl trivial (le_upd rfl trivial (le_upd (congrArg (fun z : Int × Int => AV.f (iv z.2)) hl) trivial (le_upd (congrArg (fun z : Int × Int => AV.f (iv z.1)) hl) trivial (le_upd rfl trivial (le_upd rfl trivial (le_nil _))))))), le_h0 _ _⟩⟩
              · have hl : liveK s ws r (k + 1) = liveK s ws r k := by rw [liveK, getD_at hc, liveStep, if_neg hm]
                repeat (first
    | (apply s_a TY; exact rfl)
    | (apply s_t; exact rfl; (first | assumption | omega))
    | (apply s_f; exact rfl; (first | assumption | omega))
    | apply w_seq
    | apply w_region
    | (apply w_draw (id := 17) 14 rfl (by kernel_rfl))
    | apply s_nil
    | apply t_norm
    | apply k_norm
    | apply w_block
    | apply w_skip
    | (apply w_condT; exact rfl; exact rfl)
    | (apply w_condF; exact rfl; exact rfl)
    | (apply s_c TY; exact rfl; (first | omega | exact ⟨by omega, by (first | with_reducible assumption | ((with_reducible apply rngsF_ne); omega) | assumption)⟩))
    | (apply s_m TY; exact rfl; (first | with_reducible assumption | ((with_reducible apply rngsF_sub); omega) | exact rfl); exact rfl)
    | (apply s_alloc TY; exact rfl; exact rfl; exact rfl)
    | (apply s_store TY; exact rfl; exact rfl; exact rfl; exact rfl; exact rfl; exact rfl))
                exact ⟨k + 1, by omega, by omega, gh_le ⟨le_upd rfl trivial (le_upd rfl trivial (le_upd rfl trivial (le_upd (congrArg (fun z : Int × Int => AV.f (iv z.2)) hl) trivial (le_upd (congrArg (fun z : Int × Int => AV.f (iv z.1)) hl) trivial (le_upd rfl trivial (le_upd rfl trivial (le_nil _))))))), le_h0 _ _⟩⟩
            · have hke : k = ws.length := by omega
              subst hke
              repeat (first
    | (apply s_a TY; exact rfl)
    | (apply s_f; exact rfl; (first | assumption | omega))
    | apply w_seq
    | apply w_region
    | apply s_nil
    | apply t_norm
    | apply t_exit
    | apply k_hit
    | apply w_exit
    | apply w_ret
    | (apply w_condF; exact rfl; exact rfl))
              exact lv_ret (ret2 rfl (res_tmp rfl) (res_tmp rfl))
          · rw [if_neg h0]
            have h0' := h0
            rw [hv] at h0' ⊢
            repeat (first
    | (apply s_a TY; exact rfl)
    | (apply s_t; exact rfl; (first | assumption | omega))
    | (apply s_f; exact rfl; (first | assumption | omega))
    | apply w_seq
    | apply w_region
    | (apply w_draw (id := 9) 16 rfl (by kernel_rfl))
    | apply s_nil
    | apply t_norm
    | apply t_exit
    | apply t_ret
    | apply k_hit
    | apply w_exit
    | apply w_ret
    | (apply w_condT; exact rfl; exact rfl)
    | (apply w_condF; exact rfl; exact rfl)
    | (apply s_k (tfirst3_s _ _ _); exact rfl)
    | (apply s_k (tunless_T _); exact rfl)
    | (apply s_k1 (isTick_T _); exact rfl; (first | assumption | omega | decide)))
            exact lv_ret (ret2 rfl (res_tmp rfl) (res_tmp rfl))
        · have hrA : runA r = 0 := by unfold runA; exact if_pos (by omega)
          have hrB : runB r = 9 := by unfold runB; exact if_neg (by omega)
          have hv : liveErrV s ws r = firstE [lerrK ws (firstE [(setupChk s).2, lenE ws.length]) ws.length, 0, 9] := by unfold liveErrV; rw [hrA, hrB]
          by_cases h0 : liveErrV s ws r = 0
          · rw [if_pos h0, h0]
            rw [hv] at h0
            have h0' := h0
            rw [← hv] at h0
            exact absurd (firstE3_zero h0').2 (by decide)
          · rw [if_neg h0]
            have h0' := h0
            rw [hv] at h0' ⊢
            repeat (first
    | (apply s_a TY; exact rfl)
    | (apply s_f; exact rfl; (first | assumption | omega))
    | apply w_seq
    | apply w_region
    | (apply w_draw (id := 9) 16 rfl (by kernel_rfl))
    | apply s_nil
    | apply t_norm
    | apply t_exit
    | apply t_ret
    | apply k_hit
    | apply w_exit
    | apply w_ret
    | (apply w_condT; exact rfl; exact rfl)
    | (apply w_condF; exact rfl; exact rfl)
    | (apply s_k (tfirst3_s _ _ _); exact rfl)
    | (apply s_k (tunless_T _); exact rfl)
    | (apply s_k (tunless_F _); exact rfl)
    | (apply s_k1 (isTick_T _); exact rfl; (first | assumption | omega | decide)))
            exact lv_ret (ret2 rfl (res_tmp rfl) (res_tmp rfl))
      · by_cases hH : r.lo ≤ r.hi
        · have hrA : runA r = 2 := by unfold runA; exact if_neg (by omega)
          have hrB : runB r = 0 := by unfold runB; exact if_pos (by omega)
          have hv : liveErrV s ws r = firstE [lerrK ws (firstE [(setupChk s).2, lenE ws.length]) ws.length, 2, 0] := by unfold liveErrV; rw [hrA, hrB]
          by_cases h0 : liveErrV s ws r = 0
          · rw [if_pos h0, h0]
            rw [hv] at h0
            have h0' := h0
            rw [← hv] at h0
            exact absurd (firstE3_zero h0').2 (by decide)
          · rw [if_neg h0]
            have h0' := h0
            rw [hv] at h0' ⊢
            repeat (first
    | (apply s_a TY; exact rfl)
    | (apply s_t; exact rfl; (first | assumption | omega))
    | (apply s_f; exact rfl; (first | assumption | omega))
    | apply w_seq
    | apply w_region
    | (apply w_draw (id := 9) 16 rfl (by kernel_rfl))
    | apply s_nil
    | apply t_norm
    | apply t_exit
    | apply t_ret
    | apply k_hit
    | apply w_exit
    | apply w_ret
    | (apply w_condT; exact rfl; exact rfl)
    | (apply w_condF; exact rfl; exact rfl)
    | (apply s_k (tfirst3_s _ _ _); exact rfl)
    | (apply s_k (tunless_T _); exact rfl)
    | (apply s_k (tunless_F _); exact rfl)
    | (apply s_k1 (isTick_T _); exact rfl; (first | assumption | omega | decide))
    | (apply s_k1 (isTick_F _); exact rfl; (first | assumption | omega | decide)))
            exact lv_ret (ret2 rfl (res_tmp rfl) (res_tmp rfl))
        · have hrA : runA r = 2 := by unfold runA; exact if_neg (by omega)
          have hrB : runB r = 9 := by unfold runB; exact if_neg (by omega)
          have hv : liveErrV s ws r = firstE [lerrK ws (firstE [(setupChk s).2, lenE ws.length]) ws.length, 2, 9] := by unfold liveErrV; rw [hrA, hrB]
          by_cases h0 : liveErrV s ws r = 0
          · rw [if_pos h0, h0]
            rw [hv] at h0
            have h0' := h0
            rw [← hv] at h0
            exact absurd (firstE3_zero h0').2 (by decide)
          · rw [if_neg h0]
            have h0' := h0
            rw [hv] at h0' ⊢
            repeat (first
    | (apply s_a TY; exact rfl)
    | (apply s_f; exact rfl; (first | assumption | omega))
    | apply w_seq
    | apply w_region
    | (apply w_draw (id := 9) 16 rfl (by kernel_rfl))
    | apply s_nil
    | apply t_norm
    | apply t_exit
    | apply t_ret
    | apply k_hit
    | apply w_exit
    | apply w_ret
    | (apply w_condT; exact rfl; exact rfl)
    | (apply w_condF; exact rfl; exact rfl)
    | (apply s_k (tfirst3_s _ _ _); exact rfl)
    | (apply s_k (tunless_F _); exact rfl)
    | (apply s_k1 (isTick_T _); exact rfl; (first | assumption | omega | decide))
    | (apply s_k1 (isTick_F _); exact rfl; (first | assumption | omega | decide)))
            exact lv_ret (ret2 rfl (res_tmp rfl) (res_tmp rfl))
    · by_cases hH : r.lo ≤ r.hi
      · have hrA : runA r = 2 := by unfold runA; exact if_neg (by omega)
        have hrB : runB r = 0 := by unfold runB; exact if_pos (by omega)
        have hv : liveErrV s ws r = firstE [lerrK ws (firstE [(setupChk s).2, lenE ws.length]) ws.length, 2, 0] := by unfold liveErrV; rw [hrA, hrB]
        by_cases h0 : liveErrV s ws r = 0
        · rw [if_pos h0, h0]
          rw [hv] at h0
          have h0' := h0
          rw [← hv] at h0
          exact absurd (firstE3_zero h0').2 (by decide)
        · rw [if_neg h0]
          have h0' := h0
          rw [hv] at h0' ⊢
          repeat (first
    | (apply s_a TY; exact rfl)
    | (apply s_t; exact rfl; (first | assumption | omega))
    | (apply s_f; exact rfl; (first | assumption | omega))
    | apply w_seq
    | apply w_region
    | (apply w_draw (id := 9) 16 rfl (by kernel_rfl))
    | apply s_nil
    | apply t_norm
    | apply t_exit
    | apply t_ret
    | apply k_hit
    | apply w_exit
    | apply w_ret
    | (apply w_condT; exact rfl; exact rfl)
    | (apply w_condF; exact rfl; exact rfl)
    | (apply s_k (tfirst3_s _ _ _); exact rfl)
    | (apply s_k (tunless_T _); exact rfl)
    | (apply s_k (tunless_F _); exact rfl)
    | (apply s_k1 (isTick_F _); exact rfl; (first | assumption | omega | decide))
    | (apply s_s; exact rfl))
          exact lv_ret (ret2 rfl (res_tmp rfl) (res_tmp rfl))
      · have hrA : runA r = 2 := by unfold runA; exact if_neg (by omega)
        have hrB : runB r = 9 := by unfold runB; exact if_neg (by omega)
        have hv : liveErrV s ws r = firstE [lerrK ws (firstE [(setupChk s).2, lenE ws.length]) ws.length, 2, 9] := by unfold liveErrV; rw [hrA, hrB]
        by_cases h0 : liveErrV s ws r = 0
        · rw [if_pos h0, h0]
          rw [hv] at h0
          have h0' := h0
          rw [← hv] at h0
          exact absurd (firstE3_zero h0').2 (by decide)
        · rw [if_neg h0]
          have h0' := h0
          rw [hv] at h0' ⊢
          repeat (first
    | (apply s_a TY; exact rfl)
    | (apply s_f; exact rfl; (first | assumption | omega))
    | apply w_seq
    | apply w_region
    | (apply w_draw (id := 9) 16 rfl (by kernel_rfl))
    | apply s_nil
    | apply t_norm
    | apply t_exit
    | apply t_ret
    | apply k_hit
    | apply w_exit
    | apply w_ret
    | (apply w_condT; exact rfl; exact rfl)
    | (apply w_condF; exact rfl; exact rfl)
    | (apply s_k (tfirst3_s _ _ _); exact rfl)
    | (apply s_k (tunless_F _); exact rfl)
    | (apply s_k1 (isTick_F _); exact rfl; (first | assumption | omega | decide))
    | (apply s_s; exact rfl))
          exact lv_ret (ret2 rfl (res_tmp rfl) (res_tmp rfl))
end Go.Proofs.YtbkdjlahhcofmaaGreatDoor
namespace Go.Ab
open Go Go.RowKit Go.Shelf Go.Proofs Go.Lib
theorem growG {P : Program} {G : Nat → Option FV} {ρ : Ren} (L : Lays8.n4 P ρ) (i0 : TypeInfo) (z : Value) (hi0 : P.info? (ρ.t 25) = some i0) (hz0 : i0.zero = some z) (hs0 : 0 < i0.size) (hzs : z.cells.size = i0.size) (hent : Enters P (ρ.f 4)) (n : Nat) (hbig : n * i0.bytes ≤ 140737488355328) (h63 : n ≤ 4611686018427387904) :
    SummG P G (ρ.f 4) [] [.f (.v (.slice none 0 0)), .f (.v (.int .i64 n))] (.ow 0) [.row (ρ.t 25) i0.size 0 []] := by
  refine ⟨hent, by simp, fun i B B' h1 h2 => by simp at h1, fun w M X us J hX hM hG hA hL => ?_⟩
  obtain ⟨v0, v1, rfl⟩ : ∃ v0 v1, us = [v0, v1] := by
    obtain ⟨e, _⟩ := hA
    match us, e with
    | [a, b], _ => exact ⟨a, b, rfl⟩
  have hv0 : RepF w _ v0 (.v (.slice none 0 0)) := hA.2 0 v0 (.f _) rfl rfl
  have hv1 : RepF w _ v1 (.v (.int .i64 n)) := hA.2 1 v1 (.f _) rfl rfl
  cases hv0
  cases hv1
  by_cases hn : n = 0
  · subst hn
    refine (Any8.slices_Grow_room L none 0 0 0 w (Nat.le_refl _) (by omega) (by omega) (Nat.le_refl _)).mono ?_
    rintro e w' ⟨rfl, rfl⟩
    refine ⟨_, fun _ => .slice none 0 0, rfl, ⟨rfl, rfl⟩, ⟨fun i B hB => ?_, fun i j b hi hj _ _ => by simp at hi hj; omega⟩, Grew.refl _ _, fun i B hB => by simp at hB⟩
    match i, hB with
    | 0, hB => cases hB; exact ⟨[], ⟨by simp, .inl ⟨rfl, rfl⟩⟩, fun b hb => (by cases hb), fun u hu => by simp at hu, RepL.nil _ _⟩
    | _ + 1, hB => simp at hB
  · refine (Any8.slices_Grow_grow L i0 z hi0 hz0 hs0 none 0 0 n [] w (Nat.le_refl _) (by omega) (by simpa using hbig) (by omega) (by simp) (fun _ => rfl) (fun a h => by cases h)).mono ?_
    rintro e w' ⟨rfl, rfl⟩
    have hge : n ≤ grownCap w n 0 (ρ.t 25) := by have := grownCap_ge w (0 + n) 0 (ρ.t 25); simpa using this
    have hmx : grownCap w n 0 (ρ.t 25) ≤ maxLen := grownCap_le_maxLen w n 0 (ρ.t 25) (by unfold maxLen; omega)
    rw [Nat.zero_add]
    generalize grownCap w n 0 (ρ.t 25) = c at hge hmx ⊢
    obtain ⟨cur, hcur⟩ : ∃ cur, cur = (([] : List Value).toArray ++ Builtin.zeroCells z.cells (n - 0) ++ Builtin.zeroCells z.cells (c - n)) := ⟨_, rfl⟩
    rw [← hcur]
    have hsz : cur.size = c * i0.size := by
      rw [hcur]
      have hz : ∀ m, (Builtin.zeroCells z.cells m).size = m * i0.size := fun m => by rw [← hzs]; simp [Builtin.zeroCells]
      simp only [Array.size_append, hz]
      simp only [List.size_toArray, List.length_nil, Nat.zero_add, Nat.sub_zero]
      rw [← Nat.add_mul]; congr 1; omega
    have hheap : (w.drew.alloc (.cells cur (ρ.t 25))).heap[w.heap.size]? = some (.cells cur (ρ.t 25) (0, 0)) := by
      show (w.heap.push (.cells cur (ρ.t 25) (0, 0)))[w.heap.size]? = _
      exact Array.getElem?_push_size
    refine ⟨_, fun _ => .slice (some ⟨w.heap.size, 0, none⟩) 0 c, rfl, ⟨rfl, rfl⟩, ⟨fun i B hB => ?_, fun i j b hi hj _ _ => by simp at hi hj; omega⟩, ?_, fun i B hB => by simp at hB⟩
    · match i, hB with
      | 0, hB =>
        cases hB
        have hr : (w.drew.alloc (.cells cur (ρ.t 25))).ownsRow 0 (ρ.t 25) i0.size (.slice (some ⟨w.heap.size, 0, none⟩) 0 c) 0 [] := ⟨by simp, .inr ⟨w.heap.size, c, cur, rfl, Nat.zero_le _, hheap, Nat.zero_le _, hmx, hsz, by simp⟩⟩
        exact ⟨[], hr, fun b hb => .inl (by simp [bk] at hb; omega), fun u hu => by simp at hu, RepL.nil _ _⟩
      | _ + 1, hB => simp at hB
    · exact Grew.ofExt (Ext.trans (b := w.drew) ⟨rfl, rfl, rfl, Nat.le_refl _, fun _ _ => rfl⟩ (Ext.alloc _ _))
end Go.Ab
namespace Go.Proofs.YtbkdjlahhcofmaaGreatDoor
open Go.Proofs Go.Shelf
def growH_ren : Go.Shelf.Ren := ⟨fun | 4 => 355 | n => n, fun | 22 => 28 | 25 => 50 | 3 => 3 | 4 => 4 | 9 => 9 | 20 => 20 | 0 => 0 | n => n, fun | n => n⟩
theorem growH : Go.Proofs.Lays8.n4 Tryz.prog growH_ren := {
  mixed := by kernel_rfl
  f4 := ⟨Tryz.f355.name, by decide, Tryz.func355.trans (congrArg some (by kernel_rfl))⟩
  t0 := Tryz.underlying0
  a0 := Tryz.isAgg0
  z0 := Tryz.sizeOf0
  v0 := Tryz.zeroValue0
  t3 := Tryz.underlying3
  a3 := Tryz.isAgg3
  z3 := Tryz.sizeOf3
  v3 := Tryz.zeroValue3
  t4 := Tryz.underlying4
  a4 := Tryz.isAgg4
  z4 := Tryz.sizeOf4
  v4 := Tryz.zeroValue4
  t9 := Tryz.underlying9
  a9 := Tryz.isAgg9
  z9 := Tryz.sizeOf9
  v9 := Tryz.zeroValue9
  t20 := Tryz.underlying20
  a20 := Tryz.isAgg20
  z20 := Tryz.sizeOf20
  v20 := Tryz.zeroValue20
  t22 := Tryz.underlying28
  a22 := Tryz.isAgg28
  z22 := Tryz.sizeOf28
  v22 := Tryz.zeroValue28 }
end Go.Proofs.YtbkdjlahhcofmaaGreatDoor
namespace Go.Proofs.YtbkdjlahhcofmaaGreatDoor
open Go Go.RowKit Go.Proofs Go.Shelf Go.Ab
set_option maxRecDepth 100000 in
theorem growH_g (n : Nat) (h : n ≤ 1000000) : SummG Tryz.prog GG 355 [] [.f (.v (.slice none 0 0)), .f (iv (n : Int))] (.ow 0) [.row 50 3 0 []] := by
  obtain ⟨i0, z, hi, hz, hs, hb, hc⟩ : ∃ (i0 : TypeInfo) (z : Value), Tryz.prog.info? 50 = some i0 ∧ i0.zero = some z ∧ i0.size = 3 ∧ i0.bytes ≤ 1000 ∧ z.cells.size = 3 := ⟨_, _, rfl, rfl, rfl, by decide, rfl⟩
  have := growG (G := GG) growH i0 z hi hz (by omega) (by omega) (enters_of Tryz.func355 (by kernel_rfl) rfl) n (by have := Nat.mul_le_mul h hb; omega) (by omega)
  rw [hs] at this
  exact this
def partN (a b : List Hit) : Nat → List Hit
  | 0 => []
  | 1 => a
  | _ + 2 => a ++ b
theorem rowH_part (a b c : List Hit) {k : Nat} (h : partN a b (k + 1) = partN a b k ++ c) : some (Blk.row 50 3 (partN a b (k + 1)).length (hitsF (partN a b (k + 1)))) = some (Blk.row 50 3 ((partN a b k).length + c.length) (hitsF (partN a b k) ++ hitsF c)) := by
  rw [h, hitsF_app, List.length_append]
set_option maxRecDepth 100000 in
set_option maxHeartbeats 1600000 in
theorem concat_s (a b : List Hit) (ha : a.length ≤ 1000) (hb : b.length ≤ 1000) : Summ Tryz.prog GG 277 [.sl 2 [.sl a.length (hitsF a), .sl b.length (hitsF b)]] (.sl (a ++ b).length (hitsF (a ++ b))) := by
  have q0 : ((partN a b (0 + 1)).length : Int) = ((partN a b 0).length : Int) + (a.length : Int) := by simp [partN]
  have q1 : ((partN a b (1 + 1)).length : Int) = ((partN a b 1).length : Int) + (b.length : Int) := by simp [partN]
  have r0 : (partN a b 0).length = 0 := rfl
  have r1 : (partN a b 1).length = a.length := rfl
  have r2 : (partN a b 2).length ≤ 2000 := by have : (partN a b 2).length = a.length + b.length := by simp [partN]
                                              omega
  have hne : ([.sl a.length (hitsF a), .sl b.length (hitsF b)] : List FV) ≠ [] := by simp
  have hx0 : ([.sl a.length (hitsF a), .sl b.length (hitsF b)] : List FV)[0 * 1]? = some (FV.sl a.length (hitsF a)) := rfl
  have hx1 : ([.sl a.length (hitsF a), .sl b.length (hitsF b)] : List FV)[1 * 1]? = some (FV.sl b.length (hitsF b)) := rfl
  refine summW Tryz.func277 rfl rfl 36 rfl (by simp) (fun M0 => ?_)
  repeat (first
    | (apply s_a TY; exact rfl)
    | apply w_seq
    | apply w_region
    | apply s_nil
    | apply t_norm
    | apply w_block)
  apply w_loop (fun k : Nat => ⟨(Ab.upd (Ab.upd (Ab.upd (Ab.upd (Ab.upd (fun _ => .bot) 0 (.f (.sl 2 [.sl a.length (hitsF a), .sl b.length (hitsF b)]))) 3 (.f (iv (((partN a b k).length : Nat) : Int)))) 9 (.f (.sl 2 [.sl a.length (hitsF a), .sl b.length (hitsF b)]))) 10 (.f (iv 2))) 11 (.f (iv (k : Nat)))), (fun _ => none), 0⟩) (fun k => k ≤ 2) (fun k => 2 - k) 0 (Nat.zero_le _) (gh_le ⟨le_upd rfl trivial (le_upd rfl trivial (le_upd rfl trivial (le_upd rfl trivial (le_upd rfl trivial (le_nil _))))), le_h0 _ _⟩)
  intro k hk
  rcases (by omega : k = 0 ∨ k = 1 ∨ k = 2) with rfl | rfl | rfl
  · repeat (first
    | (apply s_a TY; exact rfl)
    | (apply s_t; exact rfl; (first | assumption | omega))
    | (apply s_f; exact rfl; (first | assumption | omega))
    | apply w_seq
    | apply w_region
    | apply s_nil
    | apply t_norm
    | apply k_norm
    | apply w_block
    | apply w_skip
    | (apply w_condT; exact rfl; exact rfl)
    | (apply w_condF; exact rfl; exact rfl)
    | (apply s_c TY; exact rfl; (first | omega | exact ⟨by omega, by (first | with_reducible assumption | assumption)⟩)))
    exact ⟨0 + 1, by omega, by omega, gh_le ⟨le_upd rfl trivial (le_upd rfl trivial (le_upd rfl trivial (le_upd (congrArg (fun z : Int => AV.f (iv z)) q0) trivial (le_upd rfl trivial (le_nil _))))), le_h0 _ _⟩⟩
  · repeat (first
    | (apply s_a TY; exact rfl)
    | (apply s_t; exact rfl; (first | assumption | omega))
    | (apply s_f; exact rfl; (first | assumption | omega))
    | apply w_seq
    | apply w_region
    | apply s_nil
    | apply t_norm
    | apply k_norm
    | apply w_block
    | apply w_skip
    | (apply w_condT; exact rfl; exact rfl)
    | (apply w_condF; exact rfl; exact rfl)
    | (apply s_c TY; exact rfl; (first | omega | exact ⟨by omega, by (first | with_reducible assumption | assumption)⟩)))
    exact ⟨1 + 1, by omega, by omega, gh_le ⟨le_upd rfl trivial (le_upd rfl trivial (le_upd rfl trivial (le_upd (congrArg (fun z : Int => AV.f (iv z)) q1) trivial (le_upd rfl trivial (le_nil _))))), le_h0 _ _⟩⟩
  · repeat (first
    | (apply s_a TY; exact rfl)
    | (apply s_f; exact rfl; (first | assumption | omega))
    | apply w_seq
    | apply w_region
    | apply s_nil
    | apply t_norm
    | apply t_exit
    | apply k_hit
    | apply w_block
    | apply w_exit
    | (apply w_condF; exact rfl; exact rfl)
    | (apply s_callG [] (growH_g (partN a b 2).length (by omega)); exact rfl; exact rfl; exact rfl; exact trivial; exact rfl; (first | exact ⟨rfl, rfl⟩ | exact ⟨⟨rfl, rfl⟩, ⟨rfl, rfl⟩⟩ | exact ⟨⟨rfl, rfl⟩, ⟨rfl, rfl⟩, ⟨rfl, rfl⟩⟩)))
    apply w_loop (fun k : Nat => ⟨(Ab.upd (Ab.upd (Ab.upd (Ab.upd (fun _ => .bot) 6 (.ow 0)) 25 (.f (.sl 2 [.sl a.length (hitsF a), .sl b.length (hitsF b)]))) 26 (.f (iv 2))) 27 (.f (iv (k : Nat)))), (Ab.upd (fun _ => none) 0 (some (.row 50 3 (partN a b k).length (hitsF (partN a b k))))), 1⟩) (fun k => k ≤ 2) (fun k => 2 - k) 0 (Nat.zero_le _) (gh_le ⟨le_upd rfl trivial (le_upd rfl trivial (le_upd rfl trivial (le_upd rfl rfl (le_nil _)))), le_hupd rfl trivial (le_h0 _ _)⟩)
    intro k hk
    rcases (by omega : k = 0 ∨ k = 1 ∨ k = 2) with rfl | rfl | rfl
    · repeat (first
    | (apply s_append TY; exact rfl; exact rfl; exact rfl; exact rfl; exact rfl; exact rfl; exact rfl; exact rfl; (first | exact rfl | exact hitsF_len _); (unfold maxLen; omega); omega)
    | (apply s_a TY; exact rfl)
    | (apply s_t; exact rfl; (first | assumption | omega))
    | apply w_seq
    | apply w_region
    | apply s_nil
    | apply t_norm
    | apply k_norm
    | apply w_block
    | apply w_skip
    | (apply w_condT; exact rfl; exact rfl)
    | (apply s_c TY; exact rfl; (first | omega | exact ⟨by omega, by (first | with_reducible assumption | assumption)⟩)))
      exact ⟨0 + 1, by omega, by omega, gh_le ⟨le_upd rfl trivial (le_upd rfl trivial (le_upd rfl trivial (le_upd rfl rfl (le_nil _)))), le_hupd (rowH_part a b a rfl).symm trivial (le_h0 _ _)⟩⟩
    · repeat (first
    | (apply s_append TY; exact rfl; exact rfl; exact rfl; exact rfl; exact rfl; exact rfl; exact rfl; exact rfl; (first | exact rfl | exact hitsF_len _); (unfold maxLen; omega); omega)
    | (apply s_a TY; exact rfl)
    | (apply s_t; exact rfl; (first | assumption | omega))
    | apply w_seq
    | apply w_region
    | apply s_nil
    | apply t_norm
    | apply k_norm
    | apply w_block
    | apply w_skip
    | (apply w_condT; exact rfl; exact rfl)
    | (apply s_c TY; exact rfl; (first | omega | exact ⟨by omega, by (first | with_reducible assumption | assumption)⟩)))
      exact ⟨1 + 1, by omega, by omega, gh_le ⟨le_upd rfl trivial (le_upd rfl trivial (le_upd rfl trivial (le_upd rfl rfl (le_nil _)))), le_hupd (rowH_part a b b rfl).symm trivial (le_h0 _ _)⟩⟩
    · repeat (first
    | (apply s_a TY; exact rfl)
    | (apply s_f; exact rfl; (first | assumption | omega))
    | apply w_seq
    | apply w_region
    | apply s_nil
    | apply t_norm
    | apply t_exit
    | apply k_hit
    | apply w_exit
    | apply w_ret
    | (apply w_condF; exact rfl; exact rfl))
      exact lv_ret (ret_gh (gh_row 0 rfl) (ret1 rfl (res_tmp rfl)))
end Go.Proofs.YtbkdjlahhcofmaaGreatDoor
namespace Go.Proofs.YtbkdjlahhcofmaaGreatDoor
open Go Go.RowKit Go.Proofs Go.Shelf Go.Ab
def woH (h : List Hit) (i : Nat) : List Hit := h.take i ++ h.drop (i + 1)
theorem woH_sub (h : List Hit) (i : Nat) : (woH h i).Sublist h := by
  have h1 : (h.take i ++ h.drop (i + 1)).Sublist (h.take i ++ h.drop i) := List.Sublist.append_left (by
    rw [show i + 1 = i + 1 from rfl, ← List.drop_drop]
    exact List.drop_sublist 1 _) _
  rw [List.take_append_drop] at h1
  exact h1
theorem hits_pw {l : List Site} {h : List Hit} (ho : HitsOk l h) : h.Pairwise before := by
  rw [List.pairwise_iff_getElem]
  intro i j hi hj hij
  obtain ⟨d, rfl⟩ : ∃ d, j = i + 1 + d := ⟨j - (i + 1), by omega⟩
  induction d with
  | zero => exact ho.next i hj
  | succ d ih => exact before_trans (ih (by omega) (by omega)) (ho.next (i + 1 + d) hj)
theorem hitsOk_sub {l : List Site} {h h' : List Hit} (ho : HitsOk l h) (hs : h'.Sublist h) : HitsOk l h' := by
  have hp := (hits_pw ho).sublist hs
  rw [List.pairwise_iff_getElem] at hp
  refine ⟨Nat.le_trans hs.length_le ho.len, fun i hi => ?_, fun i hi => hp i (i + 1) (by omega) hi (by omega)⟩
  obtain ⟨j, hj, e⟩ := List.getElem_of_mem (hs.subset (List.getElem_mem hi))
  rw [← e]; exact ho.hit j hj
def critN (l : List Site) (r : Rule) (h : List Hit) (n : Nat) : List Int := natsL ((List.range n).filter fun i => (firesV l r (woH h i) (woH h i).length).isEmpty)
def critV (l : List Site) (r : Rule) (h : List Hit) : List Int := if (firesV l r h h.length).isEmpty then [] else critN l r h h.length
theorem critN_succ (l : List Site) (r : Rule) (h : List Hit) (n : Nat) : critN l r h (n + 1) = critN l r h n ++ (if (firesV l r (woH h n) (woH h n).length).isEmpty = true then [(n : Int)] else []) := by
  unfold critN natsL
  rw [List.range_succ, List.filter_append, List.map_append]
  congr 1
  cases e : (firesV l r (woH h n) (woH h n).length).isEmpty with
  | true => simp only [List.filter, e, if_true]; rfl
  | false => simp only [List.filter, e]; rfl
theorem critN_len (l : List Site) (r : Rule) (h : List Hit) (n : Nat) : (critN l r h n).length ≤ n := by
  unfold critN natsL
  rw [List.length_map]
  exact Nat.le_trans (List.length_filter_le _ _) (by simp)
set_option maxRecDepth 100000 in
set_option maxHeartbeats 1600000 in
theorem Critical_ok (l : List Site) (r : Rule) (h : List Hit) (hl : l.length ≤ 1000000) (hh : h.length ≤ 1000000) (e : ruledErr l r h = 0) : Summ Tryz.prog GG 201 [arrF l, .agg (ruleF r), .sl h.length (hitsF h)] (.tup [if (firesV l r h h.length).isEmpty = true then .v (.slice none 0 0) else .sl (critV l r h).length (intsF (critV l r h)), iv 0]) := by
  obtain ⟨e1, e2, e3⟩ := ruledErr_parts e
  have hl0 := arrOk_of e1
  have ho := hitsOk_of hl0 e3
  have h40 := ho.len
  have HF := fires_s l r h e2 hl0 ho
  cases hf : (firesV l r h h.length).isEmpty with
  | true =>
    have h0 : (firesV l r h h.length).length = 0 := by rw [List.isEmpty_iff.1 hf]; rfl
    rw [if_pos rfl]
    refine summW Tryz.func201 rfl rfl 53 rfl (by simp) (fun M0 => ?_)
    repeat (first
    | (apply s_a TY; exact rfl)
    | (apply s_t; exact rfl; (first | assumption | omega))
    | apply w_seq
    | apply w_region
    | apply s_nil
    | apply t_norm
    | apply t_ret
    | apply w_ret
    | apply w_skip
    | (apply w_condT; exact rfl; exact rfl)
    | (apply w_condF; exact rfl; exact rfl)
    | (apply s_k (HF); exact rfl)
    | (apply s_k3 (openRule_ok _ _ _); exact rfl; (first | assumption | omega | decide); (first | assumption | omega | decide); (first | assumption | omega | decide))
    | (apply s_alloc TY; exact rfl; exact rfl; exact rfl)
    | (apply s_store TY; exact rfl; exact rfl; exact rfl; exact rfl; exact rfl; exact rfl))
    exact lv_ret (ret2 rfl (res_tmp rfl) (res_tmp rfl))
  | false =>
    have h0 : 0 < (firesV l r h h.length).length := List.length_pos_iff.2 (fun e => by rw [e] at hf; cases hf)
    rw [if_neg (by decide), show critV l r h = critN l r h h.length by unfold critV; rw [if_neg (by simp [hf])]]
    refine summW Tryz.func201 rfl rfl 53 rfl (by simp) (fun M0 => ?_)
    repeat (first
    | (apply s_a TY; exact rfl)
    | (apply s_t; exact rfl; (first | assumption | omega))
    | (apply s_f; exact rfl; (first | assumption | omega))
    | apply w_seq
    | apply w_region
    | apply s_nil
    | apply t_norm
    | apply w_block
    | apply w_skip
    | (apply w_condF; exact rfl; exact rfl)
    | (apply s_k (HF); exact rfl)
    | (apply s_k3 (openRule_ok _ _ _); exact rfl; (first | assumption | omega | decide); (first | assumption | omega | decide); (first | assumption | omega | decide))
    | (apply s_alloc TY; exact rfl; exact rfl; exact rfl)
    | (apply s_store TY; exact rfl; exact rfl; exact rfl; exact rfl; exact rfl; exact rfl))
    apply w_gh (gh_own 10 3 1 rfl rfl)
    apply w_loop (fun k : Nat => ⟨(Ab.upd (Ab.upd (Ab.upd (Ab.upd (Ab.upd (Ab.upd (Ab.upd (fun _ => .bot) 2 (.f (.sl h.length (hitsF h)))) 4 (.f (.pt (ruleF r) 0))) 8 (.bx 0 0)) 10 (.ow 1)) 28 (.f (.sl h.length (hitsF h)))) 29 (.f (iv h.length))) 30 (.f (iv (k : Nat)))), (Ab.upd (Ab.upd (fun _ => none) 0 (some (.box [.f (.sl l.length (sitesF l)), .f (.mp (mapS l l.length))]))) 1 (some (.row 3 1 (critN l r h k).length (intsF (critN l r h k))))), 2⟩) (fun k => k ≤ h.length) (fun k => h.length - k) 0 (Nat.zero_le _) (gh_le ⟨le_upd rfl trivial (le_upd rfl trivial (le_upd rfl trivial (le_upd rfl rfl (le_upd rfl rfl (le_upd rfl trivial (le_upd rfl trivial (le_nil _))))))), le_hupd rfl trivial (le_hupd rfl (fun y hy => by simp at hy; rcases hy with rfl | rfl <;> first | trivial | rfl) (le_h0 _ _))⟩)
    intro k hk
    have hcl := critN_len l r h k
    by_cases hc : k < h.length
    · have how := hitsOk_sub ho (woH_sub h k)
      have HW := fires_s l r (woH h k) e2 hl0 how
      have hs := critN_succ l r h k
      have e1 : ((((k : Nat) : Int)).toNat - Int.toNat 0) = (h.take k).length := by rw [List.length_take]; omega
      have e2 : (List.take (((((k : Nat) : Int)).toNat - Int.toNat 0) * 3) (List.drop (Int.toNat 0 * 3) (hitsF h))) = hitsF (h.take k) := by rw [Int.toNat_natCast, show Int.toNat 0 = 0 from rfl, Nat.zero_mul, List.drop_zero, Nat.sub_zero, hitsF_take]
      have e3 : ((((h.length : Nat) : Int)).toNat - (((k : Nat) : Int) + 1).toNat) = (h.drop (k + 1)).length := by rw [List.length_drop]; omega
      have e4 : (List.take (((((h.length : Nat) : Int)).toNat - (((k : Nat) : Int) + 1).toNat) * 3) (List.drop ((((k : Nat) : Int) + 1).toNat * 3) (hitsF h))) = hitsF (h.drop (k + 1)) := by rw [e3, show (((k : Nat) : Int) + 1).toNat = k + 1 by omega, hitsF_drop, List.take_of_length_le (by rw [hitsF_len]; exact Nat.le_refl _)]
      have HC : Summ Tryz.prog GG 277 [.sl 2 [.sl ((((k : Nat) : Int)).toNat - Int.toNat 0) (List.take (((((k : Nat) : Int)).toNat - Int.toNat 0) * 3) (List.drop (Int.toNat 0 * 3) (hitsF h))), .sl ((((h.length : Nat) : Int)).toNat - (((k : Nat) : Int) + 1).toNat) (List.take (((((h.length : Nat) : Int)).toNat - (((k : Nat) : Int) + 1).toNat) * 3) (List.drop ((((k : Nat) : Int) + 1).toNat * 3) (hitsF h)))]] (.sl (woH h k).length (hitsF (woH h k))) := by
        rw [e2, e4, e1, e3]
        exact concat_s (h.take k) (h.drop (k + 1)) (by rw [List.length_take]; omega) (by rw [List.length_drop]; omega)
      clear e1 e2 e3 e4
      cases hw : (firesV l r (woH h k) (woH h k).length).isEmpty with
      | true =>
        have h1 : (firesV l r (woH h k) (woH h k).length).length = 0 := by rw [List.isEmpty_iff.1 hw]; rfl
        rw [hw, if_pos rfl] at hs
        repeat (first
    | (apply s_a TY; exact rfl)
    | (apply s_t; exact rfl; (first | assumption | omega))
    | apply w_seq
    | apply w_region
    | (apply w_draw (id := 10) 11 rfl (by kernel_rfl))
    | apply s_nil
    | apply t_norm
    | apply k_norm
    | apply w_block
    | apply w_skip
    | (apply w_condT; exact rfl; exact rfl)
    | (apply s_k (HC); exact rfl)
    | (apply s_k (HW); exact rfl)
    | (apply s_c TY; exact rfl; omega)
    | (apply s_append TY; exact rfl; exact rfl; exact rfl; exact rfl; exact rfl; exact rfl; exact rfl; exact rfl; exact rfl; (unfold maxLen; omega); omega)
    | (apply s_slice TY; exact rfl; exact rfl; exact rfl; (first | exact rfl | exact ⟨_, rfl⟩); (first | exact rfl | exact ⟨_, rfl⟩); omega; omega; omega))
        exact ⟨k + 1, by omega, by omega, gh_le ⟨le_upd rfl trivial (le_upd rfl trivial (le_upd rfl trivial (le_upd rfl rfl (le_upd rfl rfl (le_upd rfl trivial (le_upd rfl trivial (le_nil _))))))), le_hupd (rowI_app hs) trivial (le_hupd rfl (fun y hy => by simp at hy; rcases hy with rfl | rfl <;> first | trivial | rfl) (le_h0 _ _))⟩⟩
      | false =>
        have h1 : 0 < (firesV l r (woH h k) (woH h k).length).length := List.length_pos_iff.2 (fun e => by rw [e] at hw; cases hw)
        rw [hw, if_neg (by decide), List.append_nil] at hs
        repeat (first
    | (apply s_a TY; exact rfl)
    | (apply s_t; exact rfl; (first | assumption | omega))
    | (apply s_f; exact rfl; (first | assumption | omega))
    | apply w_seq
    | apply w_region
    | (apply w_draw (id := 10) 11 rfl (by kernel_rfl))
    | apply s_nil
    | apply t_norm
    | apply k_norm
    | apply w_block
    | apply w_skip
    | (apply w_condT; exact rfl; exact rfl)
    | (apply w_condF; exact rfl; exact rfl)
    | (apply s_k (HC); exact rfl)
    | (apply s_k (HW); exact rfl)
    | (apply s_c TY; exact rfl; omega)
    | (apply s_slice TY; exact rfl; exact rfl; exact rfl; (first | exact rfl | exact ⟨_, rfl⟩); (first | exact rfl | exact ⟨_, rfl⟩); omega; omega; omega))
        exact ⟨k + 1, by omega, by omega, gh_le ⟨le_upd rfl trivial (le_upd rfl trivial (le_upd rfl trivial (le_upd rfl rfl (le_upd rfl rfl (le_upd rfl trivial (le_upd rfl trivial (le_nil _))))))), le_hupd (rowI _ _ hs.symm) trivial (le_hupd rfl (fun y hy => by simp at hy; rcases hy with rfl | rfl <;> first | trivial | rfl) (le_h0 _ _))⟩⟩
    · have hke : k = h.length := by omega
      subst hke
      repeat (first
    | (apply s_a TY; exact rfl)
    | (apply s_f; exact rfl; (first | assumption | omega))
    | apply w_seq
    | apply w_region
    | apply s_nil
    | apply t_norm
    | apply t_exit
    | apply k_hit
    | apply w_exit
    | apply w_ret
    | (apply w_condF; exact rfl; exact rfl))
      exact lv_ret (ret_gh (gh_row 1 rfl) (ret2 rfl (res_tmp rfl) (res_tmp rfl)))
end Go.Proofs.YtbkdjlahhcofmaaGreatDoor
namespace Go.Proofs.YtbkdjlahhcofmaaGreatDoor
open Go Go.RowKit Go.Proofs Go.Shelf Go.Ab
def exA : List Site := [⟨1, 1, 0, 0, 0⟩, ⟨1, 2, 0, 0, -17⟩, ⟨1, 3, 0, 0, -34⟩, ⟨2, 1, 100, 0, 0⟩]
def exH : List Hit := [⟨100, 1, 1⟩, ⟨110, 1, 2⟩, ⟨130, 1, 3⟩, ⟨135, 2, 1⟩, ⟨500, 2, 1⟩]
def exS : Setup := ⟨[⟨0, 3, 30, 0, 0⟩], 10, 20, 100⟩
def exR : Rule := ⟨2, 2, 40, 50, 20⟩
def exQ : Rule := ⟨3, 3, 25, 5, 0⟩
theorem ex1 : ruledErr exA exR exH = 0 := by decide
theorem ex2 : ruledErr exA exQ exH = 0 := by decide
theorem ex3 : setErr exA exS exH = 0 := by decide
theorem ex4 : firesV exA exR exH exH.length = [⟨0, 100, 110⟩, ⟨1, 110, 130⟩] := by decide
theorem ex5 : firesV exA exQ exH exH.length = [⟨0, 100, 130⟩] := by decide
theorem sortRng_id {l : List Rng} (hb : LoOk l) (h : l.Pairwise fun x y => x.lo ≤ y.lo) (hu : ∀ x, x ∈ l → ∀ y, y ∈ l → x.lo = y.lo → x = y) : sortRng l = l := by
  refine List.Perm.eq_of_pairwise (le := fun x y => x.lo ≤ y.lo) (fun a b ha hb' h1 h2 => ?_) (sortRng_pw l hb) h (sortRng_perm l)
  exact hu a ((sortRng_perm l).mem_iff.1 ha) b hb' (by omega)
theorem ex8 : sortRng [⟨90, 150⟩, ⟨100, 155⟩] = [⟨90, 150⟩, ⟨100, 155⟩] := sortRng_id (by unfold LoOk; decide) (by decide) (by decide)
theorem ex7 : singleV exA exS exH = [⟨90, 150⟩, ⟨100, 155⟩] := by decide
theorem ex9 : eventsV exA exS exH = [⟨90, 155, [0, 1, 2, 3]⟩] := by
  unfold eventsV windowsV joinedV
  rw [ex7, ex8]
  decide
def exT : Rule := ⟨0, 3, 30, 0, 0⟩
theorem ex10 : critV exA exT exH = [1, 2] := by decide
theorem ex11 : ruledErr exA exT exH = 0 := by decide
theorem ex12 : (firesV exA exT exH exH.length).isEmpty = false := by decide
theorem ex13 : liveErrV exS [⟨90, 155⟩] ⟨0, 299⟩ = 0 := by decide
theorem ex14 : liveV exS [⟨90, 155⟩] ⟨0, 299⟩ = 200 := by decide
set_option maxRecDepth 100000 in
theorem exA_s : Summ Tryz.prog GG 95 [] (arrF exA) := by
  refine summW Tryz.func95 rfl rfl 7 rfl (by simp) (fun M0 => ?_)
  repeat (first
    | (apply s_a TY; exact rfl)
    | apply w_seq
    | apply w_region
    | apply s_nil
    | apply t_norm
    | apply w_ret
    | (apply s_alloc TY; exact rfl; exact rfl; exact rfl)
    | (apply s_store TY; exact rfl; exact rfl; exact rfl; exact rfl; exact rfl; exact rfl))
  exact lv_ret (ret1 rfl (res_bxs TY rfl rfl rfl rfl rfl))
set_option maxRecDepth 100000 in
theorem exS_s : Summ Tryz.prog GG 96 [] (setF exS) := by
  refine summW Tryz.func96 rfl rfl 4 rfl (by simp) (fun M0 => ?_)
  repeat (first
    | (apply s_a TY; exact rfl)
    | apply w_seq
    | apply w_region
    | apply s_nil
    | apply t_norm
    | apply w_ret
    | (apply s_alloc TY; exact rfl; exact rfl; exact rfl)
    | (apply s_store TY; exact rfl; exact rfl; exact rfl; exact rfl; exact rfl; exact rfl))
  exact lv_ret (ret1 rfl (res_bxs TY rfl rfl rfl rfl rfl))
set_option maxRecDepth 100000 in
theorem exH_s : Summ Tryz.prog GG 97 [] (.sl exH.length (hitsF exH)) := by
  refine summW Tryz.func97 rfl rfl 7 rfl (by simp) (fun M0 => ?_)
  repeat (first
    | (apply s_a TY; exact rfl)
    | apply w_seq
    | apply w_region
    | apply s_nil
    | apply t_norm
    | apply w_ret)
  exact lv_ret (ret1 rfl (res_tmp rfl))
set_option maxRecDepth 100000 in
set_option maxHeartbeats 3200000 in
theorem tawake_s : Summ Tryz.prog GG 80 [] (bv true) := by
  have HF1 : Summ Tryz.prog GG 200 [arrF exA, .agg (ruleF exR), .sl exH.length (hitsF exH)] (.tup [.sl 2 (firesF [⟨0, 100, 110⟩, ⟨1, 110, 130⟩]), iv 0]) := by
    have := FiresOf_ok exA exR exH (by decide) (by decide) ex1
    rw [ex4] at this; exact this
  have HF2 : Summ Tryz.prog GG 200 [arrF exA, .agg (ruleF exQ), .sl exH.length (hitsF exH)] (.tup [.sl 1 (firesF [⟨0, 100, 130⟩]), iv 0]) := by
    have := FiresOf_ok exA exQ exH (by decide) (by decide) ex2
    rw [ex5] at this; exact this
  have HE : Summ Tryz.prog GG 23 [arrF exA, setF exS, .sl exH.length (hitsF exH)] (.tup [.sl 1 (evsF [⟨90, 155, [0, 1, 2, 3]⟩]), iv 0]) := by
    have := EventsOf_ok exA exS exH (by decide) (by decide) (by decide) ex3
    rw [ex9] at this; exact this
  have HC : Summ Tryz.prog GG 201 [arrF exA, .agg (ruleF exT), .sl exH.length (hitsF exH)] (.tup [.sl 2 (intsF [1, 2]), iv 0]) := by
    have := Critical_ok exA exT exH (by decide) (by decide) ex11
    rw [ex12, if_neg (by decide), ex10] at this; exact this
  have HL : Summ Tryz.prog GG 29 [setF exS, .sl 1 (rngsF [⟨90, 155⟩]), .agg (rngF ⟨0, 299⟩)] (.tup [iv 200, iv 0]) := by
    have := LiveIn_s exS [⟨90, 155⟩] ⟨0, 299⟩ (by decide) (by decide)
    rw [ex13, if_pos rfl, ex14] at this; exact this
  have S1 := SameFires_s [⟨0, 100, 110⟩, ⟨1, 110, 130⟩] [⟨0, 100, 110⟩, ⟨1, 110, 130⟩] (by decide) (by decide)
  have S2 := SameFires_s [⟨0, 100, 130⟩] [⟨0, 100, 130⟩] (by decide) (by decide)
  have S3 := SameEvents_s [⟨90, 155, [0, 1, 2, 3]⟩] [⟨90, 155, [0, 1, 2, 3]⟩] (by decide) (by decide) (by decide) (by decide)
  have S4 := Ints_s [1, 2] [1, 2] (by decide) (by decide)
  rw [decide_eq_true rfl] at S1 S2 S3 S4
  have hx1 : exS.rules.length = 1 := rfl
  have hx2 : rulesF exS.rules ≠ [] := rulesF_ne (k := 0) (by decide)
  refine summW Tryz.func80 rfl rfl 101 rfl (by simp) (fun M0 => ?_)
  repeat (first
    | (apply s_field TY Tryz.underlying27; exact rfl; exact rfl; exact rfl; exact rfl; exact rfl; exact rfl)
    | (apply s_a TY; exact rfl)
    | (apply s_t; exact rfl; (first | assumption | omega))
    | apply w_seq
    | apply w_region
    | (apply w_draw (id := 4) 11 rfl (by kernel_rfl))
    | apply s_nil
    | apply t_norm
    | apply w_ret
    | (apply s_k (exA_s); exact rfl)
    | (apply s_k (exS_s); exact rfl)
    | (apply s_k (exH_s); exact rfl)
    | (apply s_k (HF1); exact rfl)
    | (apply s_k (HF2); exact rfl)
    | (apply s_k (HE); exact rfl)
    | (apply s_k (HC); exact rfl)
    | (apply s_k (HL); exact rfl)
    | (apply s_k (S1); exact rfl)
    | (apply s_k (S2); exact rfl)
    | (apply s_k (S3); exact rfl)
    | (apply s_k (S4); exact rfl)
    | (apply s_z TY; exact rfl; (first | omega | exact ⟨by omega, by (first | with_reducible assumption | ((with_reducible apply rulesF_ne); omega) | assumption)⟩)))
  exact lv_ret (ret1 rfl (res_tmp rfl))
end Go.Proofs.YtbkdjlahhcofmaaGreatDoor
namespace Go.Ab
open Go Go.RowKit Go.Shelf Go.Proofs
section
variable {C : Ctx} {N : Nat} {st : St}
theorem v_len_owA {o : Oper} {T : TypeId} {x : Operand} {cs : List AV} {i n e sz E s bs : Nat} (ty : Ty C.P) (ho : o.op = .call { callee := .builtin .len, args := #[x], argTypes := #[T] }) (hd : dstB N o.dst = true) (hT : (ty.ty T).sl = some (E, s, bs)) (hx : st.ev C x = .ow i) (hi : st.h i = some (.rowA e sz n cs)) : ValOp C N o st (.f (.v (.int .i64 n))) :=
  valop_run hd fun w0 a w J st' hA S => by
    have e1 := S.eval x
    rw [hA.ev x (by simp [ho, Op.operands, Call.operands]), hx] at e1
    obtain ⟨hl, hv⟩ := e1
    have hu := (slE_spec ((ty.ok T).sl _ hT)).1
    obtain ⟨xs, q1, q0, q2, q3⟩ := blkOf hA S hi hl
    rcases q1.2 with ⟨e2, rfl⟩ | ⟨g, cap, cur, e2, _⟩
    · exact ⟨_, w, by simp [execOp, ho, resolve, invoke, builtin, Builtin.len_, hv, e2, run_underlying hu, goInt], Ext.refl _, RepF.v _⟩
    · exact ⟨_, w, by simp [execOp, ho, resolve, invoke, builtin, Builtin.len_, hv, e2, run_underlying hu, goInt], Ext.refl _, RepF.v _⟩
theorem a_bsliceP3 {o : Oper} {T E bs i o0 o1 o2 : Nat} {x0 x1 x2 : Operand} {zs : List Value} (ty : Ty C.P) (ho : o.op = .buildSlice T 3 #[(0, x0), (1, x1), (2, x2)]) (hd : dstB N o.dst = true) (hT : (ty.ty T).sl = some (E, 1, bs)) (hz : (ty.ty E).zero = some zs) (hzl : zs.length = 1) (hx0 : st.ev C x0 = .bx i o0) (hx1 : st.ev C x1 = .bx i o1) (hx2 : st.ev C x2 = .bx i o2) : AllOp C N o st (.ow st.nx) (.rowA E 1 3 [.bx i o0, .bx i o1, .bx i o2]) := by
  intro w0 a w st' hA hn ⟨J, S⟩ K Q hK
  have e0 := S.eval x0
  rw [hA.ev x0 (by simp [ho, Op.operands]), hx0] at e0
  have e1 := S.eval x1
  rw [hA.ev x1 (by simp [ho, Op.operands]), hx1] at e1
  have e2 := S.eval x2
  rw [hA.ev x2 (by simp [ho, Op.operands]), hx2] at e2
  obtain ⟨hlv, b, hb, hv0⟩ := e0
  obtain ⟨_, b1, hb1, hv1⟩ := e1
  have eb1 : b1 = b := Option.some.inj (hb1.symm.trans hb)
  rw [eb1] at hv1
  obtain ⟨_, b2, hb2, hv2⟩ := e2
  have eb2 : b2 = b := Option.some.inj (hb2.symm.trans hb)
  rw [eb2] at hv2
  have r0 : RepA C w st'.h J (.pointer (some ⟨b, o0, none⟩)) (.bx i o0) := ⟨hlv, b, hb, rfl⟩
  have r1 : RepA C w st'.h J (.pointer (some ⟨b, o1, none⟩)) (.bx i o1) := ⟨hlv, b, hb, rfl⟩
  have r2 : RepA C w st'.h J (.pointer (some ⟨b, o2, none⟩)) (.bx i o2) := ⟨hlv, b, hb, rfl⟩
  have hrun := run_buildSlice (w := w) (len := 3) (parts := #[((0 : Nat), Value.pointer (some ⟨b, o0, none⟩)), ((1 : Nat), Value.pointer (some ⟨b, o1, none⟩)), ((2 : Nat), Value.pointer (some ⟨b, o2, none⟩))]) (us := #[.pointer (some ⟨b, o0, none⟩), .pointer (some ⟨b, o1, none⟩), .pointer (some ⟨b, o2, none⟩)]) ((ty.ok T).sl _ hT) ((ty.ok E).zero zs hz) (by decide) (fun z' hz' => by
    have e : z'.cells.size = 1 := by rw [← hzl, ← hz']; simp
    have e2 : (madeCells z'.cells (3 * 1)).size = 3 := by simp [size_madeCells]
    have e3 : (madeCells z'.cells (3 * 1)).toList.length = 3 := by simpa using e2
    obtain ⟨L, hL⟩ : ∃ L, L = (madeCells z'.cells (3 * 1)).toList := ⟨_, rfl⟩
    have e4 : madeCells z'.cells (3 * 1) = L.toArray := by rw [hL]
    rw [← hL] at e3
    rw [e4]
    match L, e3 with
    | [y0, y1, y2], _ => simp [Instr.fill, Value.cells])
  refine op_value (show (execOp a.eval o).run C.P w = .ok (.value (.slice (some ⟨w.heap.size, 0, none⟩) 3 3)) (w.alloc (.cells #[.pointer (some ⟨b, o0, none⟩), .pointer (some ⟨b, o1, none⟩), .pointer (some ⟨b, o2, none⟩)] E)) by
    simp only [execOp, ho, Sem.run_bind, List.map_toArray, List.map_cons, List.map_nil, hv0, hv1, hv2]
    rw [hrun]; rfl) ?_
  refine hK _ _ ⟨upd J st.nx (.slice (some ⟨w.heap.size, 0, none⟩) 3 3), S.al hn hd (Ext.alloc _ _) (fun c hc => by simp [bk] at hc; omega) ?_ ?_ (fun e => by cases e)⟩
  · refine ⟨[.pointer (some ⟨b, o0, none⟩), .pointer (some ⟨b, o1, none⟩), .pointer (some ⟨b, o2, none⟩)], ⟨by simp, .inr ⟨w.heap.size, 3, #[.pointer (some ⟨b, o0, none⟩), .pointer (some ⟨b, o1, none⟩), .pointer (some ⟨b, o2, none⟩)], rfl, Nat.zero_le _, World.alloc_heap_new _ _, Nat.le_refl _, by decide, by simp, by simp⟩⟩, fun b hb => .inl (by simp [bk] at hb; rw [← hb]; exact S.ext.le), by simp [Value.oneCell'], rfl, fun k u y h1 h2 => ?_⟩
    match k, h1, h2 with
    | 0, h1, h2 => cases h1; cases h2; exact al_rep S hn (Ext.alloc _ _) (fun c hc => by simp [bk] at hc; omega) r0
    | 1, h1, h2 => cases h1; cases h2; exact al_rep S hn (Ext.alloc _ _) (fun c hc => by simp [bk] at hc; omega) r1
    | 2, h1, h2 => cases h1; cases h2; exact al_rep S hn (Ext.alloc _ _) (fun c hc => by simp [bk] at hc; omega) r2
    | k + 3, h1, _ => simp at h1
  · exact ⟨by rw [upd_same]; rfl, by rw [upd_same]⟩
theorem a_bsliceP5 {o : Oper} {T E bs i o0 o1 o2 o3 o4 : Nat} {x0 x1 x2 x3 x4 : Operand} {zs : List Value} (ty : Ty C.P) (ho : o.op = .buildSlice T 5 #[(0, x0), (1, x1), (2, x2), (3, x3), (4, x4)]) (hd : dstB N o.dst = true) (hT : (ty.ty T).sl = some (E, 1, bs)) (hz : (ty.ty E).zero = some zs) (hzl : zs.length = 1) (hx0 : st.ev C x0 = .bx i o0) (hx1 : st.ev C x1 = .bx i o1) (hx2 : st.ev C x2 = .bx i o2) (hx3 : st.ev C x3 = .bx i o3) (hx4 : st.ev C x4 = .bx i o4) : AllOp C N o st (.ow st.nx) (.rowA E 1 5 [.bx i o0, .bx i o1, .bx i o2, .bx i o3, .bx i o4]) := by
  intro w0 a w st' hA hn ⟨J, S⟩ K Q hK
  have e0 := S.eval x0
  rw [hA.ev x0 (by simp [ho, Op.operands]), hx0] at e0
  have e1 := S.eval x1
  rw [hA.ev x1 (by simp [ho, Op.operands]), hx1] at e1
  have e2 := S.eval x2
  rw [hA.ev x2 (by simp [ho, Op.operands]), hx2] at e2
  have e3 := S.eval x3
  rw [hA.ev x3 (by simp [ho, Op.operands]), hx3] at e3
  have e4 := S.eval x4
  rw [hA.ev x4 (by simp [ho, Op.operands]), hx4] at e4
  obtain ⟨hlv, b, hb, hv0⟩ := e0
  obtain ⟨_, b1, hb1, hv1⟩ := e1
  have eb1 : b1 = b := Option.some.inj (hb1.symm.trans hb)
  rw [eb1] at hv1
  obtain ⟨_, b2, hb2, hv2⟩ := e2
  have eb2 : b2 = b := Option.some.inj (hb2.symm.trans hb)
  rw [eb2] at hv2
  obtain ⟨_, b3, hb3, hv3⟩ := e3
  have eb3 : b3 = b := Option.some.inj (hb3.symm.trans hb)
  rw [eb3] at hv3
  obtain ⟨_, b4, hb4, hv4⟩ := e4
  have eb4 : b4 = b := Option.some.inj (hb4.symm.trans hb)
  rw [eb4] at hv4
  have r0 : RepA C w st'.h J (.pointer (some ⟨b, o0, none⟩)) (.bx i o0) := ⟨hlv, b, hb, rfl⟩
  have r1 : RepA C w st'.h J (.pointer (some ⟨b, o1, none⟩)) (.bx i o1) := ⟨hlv, b, hb, rfl⟩
  have r2 : RepA C w st'.h J (.pointer (some ⟨b, o2, none⟩)) (.bx i o2) := ⟨hlv, b, hb, rfl⟩
  have r3 : RepA C w st'.h J (.pointer (some ⟨b, o3, none⟩)) (.bx i o3) := ⟨hlv, b, hb, rfl⟩
  have r4 : RepA C w st'.h J (.pointer (some ⟨b, o4, none⟩)) (.bx i o4) := ⟨hlv, b, hb, rfl⟩
  have hrun := run_buildSlice (w := w) (len := 5) (parts := #[((0 : Nat), Value.pointer (some ⟨b, o0, none⟩)), ((1 : Nat), Value.pointer (some ⟨b, o1, none⟩)), ((2 : Nat), Value.pointer (some ⟨b, o2, none⟩)), ((3 : Nat), Value.pointer (some ⟨b, o3, none⟩)), ((4 : Nat), Value.pointer (some ⟨b, o4, none⟩))]) (us := #[.pointer (some ⟨b, o0, none⟩), .pointer (some ⟨b, o1, none⟩), .pointer (some ⟨b, o2, none⟩), .pointer (some ⟨b, o3, none⟩), .pointer (some ⟨b, o4, none⟩)]) ((ty.ok T).sl _ hT) ((ty.ok E).zero zs hz) (by decide) (fun z' hz' => by
    have e : z'.cells.size = 1 := by rw [← hzl, ← hz']; simp
    have e2 : (madeCells z'.cells (5 * 1)).size = 5 := by simp [size_madeCells]
    have e3 : (madeCells z'.cells (5 * 1)).toList.length = 5 := by simpa using e2
    obtain ⟨L, hL⟩ : ∃ L, L = (madeCells z'.cells (5 * 1)).toList := ⟨_, rfl⟩
    have e4 : madeCells z'.cells (5 * 1) = L.toArray := by rw [hL]
    rw [← hL] at e3
    rw [e4]
    match L, e3 with
    | [y0, y1, y2, y3, y4], _ => simp [Instr.fill, Value.cells])
  refine op_value (show (execOp a.eval o).run C.P w = .ok (.value (.slice (some ⟨w.heap.size, 0, none⟩) 5 5)) (w.alloc (.cells #[.pointer (some ⟨b, o0, none⟩), .pointer (some ⟨b, o1, none⟩), .pointer (some ⟨b, o2, none⟩), .pointer (some ⟨b, o3, none⟩), .pointer (some ⟨b, o4, none⟩)] E)) by
    simp only [execOp, ho, Sem.run_bind, List.map_toArray, List.map_cons, List.map_nil, hv0, hv1, hv2, hv3, hv4]
    rw [hrun]; rfl) ?_
  refine hK _ _ ⟨upd J st.nx (.slice (some ⟨w.heap.size, 0, none⟩) 5 5), S.al hn hd (Ext.alloc _ _) (fun c hc => by simp [bk] at hc; omega) ?_ ?_ (fun e => by cases e)⟩
  · refine ⟨[.pointer (some ⟨b, o0, none⟩), .pointer (some ⟨b, o1, none⟩), .pointer (some ⟨b, o2, none⟩), .pointer (some ⟨b, o3, none⟩), .pointer (some ⟨b, o4, none⟩)], ⟨by simp, .inr ⟨w.heap.size, 5, #[.pointer (some ⟨b, o0, none⟩), .pointer (some ⟨b, o1, none⟩), .pointer (some ⟨b, o2, none⟩), .pointer (some ⟨b, o3, none⟩), .pointer (some ⟨b, o4, none⟩)], rfl, Nat.zero_le _, World.alloc_heap_new _ _, Nat.le_refl _, by decide, by simp, by simp⟩⟩, fun b hb => .inl (by simp [bk] at hb; rw [← hb]; exact S.ext.le), by simp [Value.oneCell'], rfl, fun k u y h1 h2 => ?_⟩
    match k, h1, h2 with
    | 0, h1, h2 => cases h1; cases h2; exact al_rep S hn (Ext.alloc _ _) (fun c hc => by simp [bk] at hc; omega) r0
    | 1, h1, h2 => cases h1; cases h2; exact al_rep S hn (Ext.alloc _ _) (fun c hc => by simp [bk] at hc; omega) r1
    | 2, h1, h2 => cases h1; cases h2; exact al_rep S hn (Ext.alloc _ _) (fun c hc => by simp [bk] at hc; omega) r2
    | 3, h1, h2 => cases h1; cases h2; exact al_rep S hn (Ext.alloc _ _) (fun c hc => by simp [bk] at hc; omega) r3
    | 4, h1, h2 => cases h1; cases h2; exact al_rep S hn (Ext.alloc _ _) (fun c hc => by simp [bk] at hc; omega) r4
    | k + 5, h1, _ => simp at h1
  · exact ⟨by rw [upd_same]; rfl, by rw [upd_same]⟩
variable {ops : Array Oper} {pr : Bool} {K : St → Prop} {rest : List Oper} {d : Option Tmp} {T0 : TypeId} {pos : String} {af : Array Edge} {gd : Option (Nat × Bool)}
theorem s_lenOA (ty : Ty C.P) {T : TypeId} {x : Operand} {cs : List AV} {i n e sz E s bs : Nat} (hw : wantB st ops ⟨d, .call { callee := .builtin .len, args := #[x], argTypes := #[T] }, T0, pos, af, gd⟩ = some true) (hd : dstB N d = true) (hT : (ty.ty T).sl = some (E, s, bs)) (hx : st.ev C x = .ow i) (hi : st.h i = some (.rowA e sz n cs))
    (h : R C N ops pr K rest (st.put d (.f (.v (.int .i64 n))))) : R C N ops pr K (⟨d, .call { callee := .builtin .len, args := #[x], argTypes := #[T] }, T0, pos, af, gd⟩ :: rest) st := ⟨r_val hw (v_len_owA ty rfl hd hT hx hi) h.out⟩
theorem s_bsliceP3 (ty : Ty C.P) {T E bs i o0 o1 o2 : Nat} {x0 x1 x2 : Operand} {zs : List Value} (hd : dstB N d = true) (hn : st.h st.nx = none) (hT : (ty.ty T).sl = some (E, 1, bs)) (hz : (ty.ty E).zero = some zs) (hzl : zs.length = 1) (hx0 : st.ev C x0 = .bx i o0) (hx1 : st.ev C x1 = .bx i o1) (hx2 : st.ev C x2 = .bx i o2) (k : R C N ops pr K rest ⟨(st.put d (.ow st.nx)).s, upd st.h st.nx (some (.rowA E 1 3 [.bx i o0, .bx i o1, .bx i o2])), st.nx + 1⟩) : R C N ops pr K (⟨d, .buildSlice T 3 #[(0, x0), (1, x1), (2, x2)], T0, pos, af, none⟩ :: rest) st := ⟨r_all rfl rfl hn (a_bsliceP3 ty rfl hd hT hz hzl hx0 hx1 hx2) k.out⟩
theorem s_bsliceP5 (ty : Ty C.P) {T E bs i o0 o1 o2 o3 o4 : Nat} {x0 x1 x2 x3 x4 : Operand} {zs : List Value} (hd : dstB N d = true) (hn : st.h st.nx = none) (hT : (ty.ty T).sl = some (E, 1, bs)) (hz : (ty.ty E).zero = some zs) (hzl : zs.length = 1) (hx0 : st.ev C x0 = .bx i o0) (hx1 : st.ev C x1 = .bx i o1) (hx2 : st.ev C x2 = .bx i o2) (hx3 : st.ev C x3 = .bx i o3) (hx4 : st.ev C x4 = .bx i o4) (k : R C N ops pr K rest ⟨(st.put d (.ow st.nx)).s, upd st.h st.nx (some (.rowA E 1 5 [.bx i o0, .bx i o1, .bx i o2, .bx i o3, .bx i o4])), st.nx + 1⟩) : R C N ops pr K (⟨d, .buildSlice T 5 #[(0, x0), (1, x1), (2, x2), (3, x3), (4, x4)], T0, pos, af, none⟩ :: rest) st := ⟨r_all rfl rfl hn (a_bsliceP5 ty rfl hd hT hz hzl hx0 hx1 hx2 hx3 hx4) k.out⟩
end
end Go.Ab
namespace Go.Proofs.YtbkdjlahhcofmaaGreatDoor
open Go.Lib (itoa decDigits decFrom digitVal join atoiAll)
open Go Go.RowKit Go.Proofs Go.Shelf Go.Ab
set_option maxRecDepth 100000 in
set_option maxHeartbeats 1600000 in
theorem twords_s (l : List Int) (hl : l.length ≤ 1000) (hr : I64 l) : Summ Tryz.prog GS 108 [.sl l.length (intsF l)] (sv (wordsS l)) := by
  refine summW Tryz.func108 rfl rfl 20 rfl (by simp) (fun M0 => ?_)
  repeat (first
    | (apply s_a TY; exact rfl)
    | apply w_seq
    | apply w_region
    | apply s_nil
    | apply t_norm
    | apply w_block)
  apply w_gh (gh_own 3 9 1 rfl rfl)
  apply w_loop (fun k : Nat => ⟨(Ab.upd (Ab.upd (Ab.upd (Ab.upd (fun _ => .bot) 3 (.ow 0)) 6 (.f (.sl l.length (intsF l)))) 7 (.f (iv l.length))) 8 (.f (iv ((k : Nat) : Int)))), (Ab.upd (fun _ => none) 0 (some (.row 9 1 ((l.take k).map itoa).length (strsF ((l.take k).map itoa))))), 1⟩) (fun k => k ≤ l.length) (fun k => l.length - k) 0 (Nat.zero_le _) (gh_le ⟨le_upd rfl trivial (le_upd rfl trivial (le_upd rfl trivial (le_upd rfl rfl (le_nil _)))), le_hupd rfl trivial (le_h0 _ _)⟩)
  intro k hk
  have hrl : ((l.take k).map itoa).length = k := by rw [List.length_map, List.length_take]; omega
  by_cases hc : k < l.length
  · have hat : (intsF l)[k * 1]? = some (iv l[k]) := intsF_at hc
    have hne : intsF l ≠ [] := intsF_ne (k := k) hc
    have HI := Itoa_s l[k] (hr _ (List.getElem_mem hc))
    have hrow : some (Blk.row 9 1 (((l.take k).map itoa).length + 1) (strsF ((l.take k).map itoa) ++ [sv (itoa l[k])])) = some (Blk.row 9 1 ((l.take (k + 1)).map itoa).length (strsF ((l.take (k + 1)).map itoa))) := by
      rw [List.take_succ_eq_append_getElem hc, List.map_append, List.map_cons, List.map_nil, strsF_snoc, List.length_append]; rfl
    repeat (first
    | (apply s_append TY; exact rfl; exact rfl; exact rfl; exact rfl; exact rfl; exact rfl; exact rfl; exact rfl; exact rfl; (unfold maxLen; omega); omega)
    | (apply s_a TY; exact rfl)
    | (apply s_t; exact rfl; (first | assumption | omega))
    | apply w_seq
    | apply w_region
    | apply s_nil
    | apply t_norm
    | apply k_norm
    | apply w_block
    | apply w_skip
    | (apply w_condT; exact rfl; exact rfl)
    | (apply s_k (HI); exact rfl)
    | (apply s_c TY; exact rfl; (first | omega | exact ⟨by omega, by (first | with_reducible assumption | ((with_reducible apply intsF_ne); omega) | assumption)⟩))
    | (apply s_l TY; exact rfl; (first | exact rfl | with_reducible assumption | ((with_reducible apply intsF_at); omega) | assumption)))
    exact ⟨k + 1, by omega, by omega, gh_le ⟨le_upd rfl trivial (le_upd rfl trivial (le_upd rfl trivial (le_upd rfl rfl (le_nil _)))), le_hupd hrow trivial (le_h0 _ _)⟩⟩
  · have hke : k = l.length := by omega
    subst hke
    have hjl := wordsS_len hr
    have HJ := Join_s (l.map itoa) [32] (by rw [List.length_map]; omega) (by show (wordsS l).length ≤ _; omega)
    rw [List.take_length] at hrl
    have hrn : some (Blk.row 9 1 ((l.take l.length).map itoa).length (strsF ((l.take l.length).map itoa))) = some (Blk.row 9 1 (l.map itoa).length (strsF (l.map itoa))) := by rw [List.take_length]
    apply w_gh (gh_row 0 hrn)
    repeat (first
    | (apply s_a TY; exact rfl)
    | (apply s_f; exact rfl; (first | assumption | omega))
    | apply w_seq
    | apply w_region
    | apply s_nil
    | apply t_norm
    | apply t_exit
    | apply k_hit
    | apply w_exit
    | apply w_ret
    | (apply w_condF; exact rfl; exact rfl)
    | (apply s_k (HJ); exact rfl))
    exact lv_ret (ret1 rfl (res_tmp rfl))
set_option maxRecDepth 100000 in
set_option maxHeartbeats 1600000 in
theorem ttext_s (l : List Int) (hl : l.length ≤ 1000) (hr : I64 l) : Summ Tryz.prog GG 204 [.sl l.length (intsF l)] (sv (wordsS l)) := by
  refine summW Tryz.func204 rfl rfl 23 rfl (by simp) (fun M0 => ?_)
  repeat (first
    | (apply s_a TY; exact rfl)
    | apply w_seq
    | apply w_region
    | apply s_nil
    | apply t_norm
    | apply w_block)
  apply w_loop (fun k : Nat => ⟨(Ab.upd (Ab.upd (Ab.upd (fun _ => .bot) 0 (.f (.sl l.length (intsF l)))) 3 (.f (sv (textS [32] (l.map itoa) k)))) 4 (.f (iv ((k : Nat) : Int)))), (fun _ => none), 0⟩) (fun k => k ≤ l.length) (fun k => l.length - k) 0 (Nat.zero_le _) (gh_le ⟨le_upd rfl trivial (le_upd rfl trivial (le_upd rfl trivial (le_nil _))), le_h0 _ _⟩)
  intro k hk
  by_cases hc : k < l.length
  · have hat : (intsF l)[k * 1]? = some (iv l[k]) := intsF_at hc
    have hne : intsF l ≠ [] := intsF_ne (k := k) hc
    have HI := Decimal_s l[k] (hr _ (List.getElem_mem hc))
    have hil := itoa_len (hr _ (List.getElem_mem hc))
    have hkl : (textS [32] (l.map itoa) k).length ≤ 22 * l.length := by rw [textS_join _ _ k (by rw [List.length_map]; omega)]; exact itoas_len hr k
    have hgd : (l.map itoa).getD k [] = itoa l[k] := by rw [List.getD_eq_getElem?_getD, List.getElem?_map, List.getElem?_eq_getElem hc]; rfl
    by_cases h0 : 0 < k
    · have hs : (textS [32] (l.map itoa) (k + 1)) = (textS [32] (l.map itoa) k) ++ [32] ++ itoa l[k] := by rw [textS, if_pos h0, hgd]
      repeat (first
    | (apply s_bind; exact rfl; exact rfl; exact rfl; exact rfl; exact rfl; exact rfl; exact cat_run (by (first | omega | (simp only [List.length_cons, List.length_nil, List.length_append]; omega))))
    | (apply s_a TY; exact rfl)
    | (apply s_t; exact rfl; (first | assumption | omega))
    | apply w_seq
    | apply w_region
    | apply s_nil
    | apply t_norm
    | apply k_norm
    | apply w_block
    | apply w_skip
    | (apply w_condT; exact rfl; exact rfl)
    | (apply s_k (HI); exact rfl)
    | (apply s_c TY; exact rfl; (first | omega | exact ⟨by omega, by (first | with_reducible assumption | ((with_reducible apply intsF_ne); omega) | assumption)⟩))
    | (apply s_l TY; exact rfl; (first | exact rfl | with_reducible assumption | ((with_reducible apply intsF_at); omega) | assumption)))
      exact ⟨k + 1, by omega, by omega, gh_le ⟨le_upd rfl trivial (le_upd (congrArg (fun z => AV.f (sv z)) hs) trivial (le_upd rfl trivial (le_nil _))), le_h0 _ _⟩⟩
    · have hs : (textS [32] (l.map itoa) (k + 1)) = (textS [32] (l.map itoa) k) ++ itoa l[k] := by rw [textS, if_neg h0, hgd]
      repeat (first
    | (apply s_bind; exact rfl; exact rfl; exact rfl; exact rfl; exact rfl; exact rfl; exact cat_run (by (first | omega | (simp only [List.length_cons, List.length_nil, List.length_append]; omega))))
    | (apply s_a TY; exact rfl)
    | (apply s_t; exact rfl; (first | assumption | omega))
    | (apply s_f; exact rfl; (first | assumption | omega))
    | apply w_seq
    | apply w_region
    | apply s_nil
    | apply t_norm
    | apply k_norm
    | apply w_block
    | apply w_skip
    | (apply w_condT; exact rfl; exact rfl)
    | (apply w_condF; exact rfl; exact rfl)
    | (apply s_k (HI); exact rfl)
    | (apply s_c TY; exact rfl; (first | omega | exact ⟨by omega, by (first | with_reducible assumption | ((with_reducible apply intsF_ne); omega) | assumption)⟩))
    | (apply s_l TY; exact rfl; (first | exact rfl | with_reducible assumption | ((with_reducible apply intsF_at); omega) | assumption)))
      exact ⟨k + 1, by omega, by omega, gh_le ⟨le_upd rfl trivial (le_upd (congrArg (fun z => AV.f (sv z)) hs) trivial (le_upd rfl trivial (le_nil _))), le_h0 _ _⟩⟩
  · have hke : k = l.length := by omega
    subst hke
    rw [show wordsS l = (textS [32] (l.map itoa) l.length) by rw [textS_join _ _ _ (by rw [List.length_map]; omega), List.take_of_length_le (by rw [List.length_map]; omega)]; rfl]
    repeat (first
    | (apply s_a TY; exact rfl)
    | (apply s_f; exact rfl; (first | assumption | omega))
    | apply w_seq
    | apply w_region
    | apply s_nil
    | apply t_norm
    | apply t_exit
    | apply k_hit
    | apply w_exit
    | apply w_ret
    | (apply w_condF; exact rfl; exact rfl))
    exact lv_ret (ret1 rfl (res_tmp rfl))
def numsC (n d : Nat) (s : Nm) : Option (List Int) := if (cutS 32 s).length = n then numsO d (cutS 32 s) else none
theorem numsC_len {n d : Nat} {s : Nm} {l : List Int} (h : numsC n d s = some l) : l.length = n := by
  unfold numsC at h
  split at h
  · rename_i e; rw [numsO_len h, e]
  · cases h
theorem numsC_len' {n d : Nat} {s : Nm} (h : ¬ (cutS 32 s).length = n) : numsC n d s = none := if_neg h
theorem numsC_eq {n d : Nat} {s : Nm} (h : (cutS 32 s).length = n) : numsC n d s = numsO d (cutS 32 s) := if_pos h
theorem numsO_none {d : Nat} {ws : List Nm} (h : numsO d ws = none) : ∃ q, ∃ hq : q < ws.length, ∃ l, numsO d (ws.take q) = some l ∧ numP d ws[q] = none := by
  have hex : ∃ k, k ≤ ws.length ∧ numsO d (ws.take k) = none := ⟨ws.length, Nat.le_refl _, by rw [List.take_length]; exact h⟩
  obtain ⟨k, ⟨hk, hn⟩, hmin⟩ := exists_least hex
  cases k with
  | zero => cases hn
  | succ q =>
    have hq : q < ws.length := by omega
    cases e : numsO d (ws.take q) with
    | none => have := hmin q ⟨by omega, e⟩; omega
    | some l =>
      refine ⟨q, hq, l, e, ?_⟩
      cases e2 : numP d ws[q] with
      | none => rfl
      | some v => rw [numsO_next hq e e2] at hn; cases hn
def bxI (l : List Int) : List AV := l.map fun z => AV.f (iv z)
def ptI (n : Nat) : List AV := (List.range n).map fun k => AV.bx 0 k
theorem ptI_at {n k : Nat} (h : k < n) : (ptI n)[(((k : Nat) : Int)).toNat * 1]? = some (AV.bx 0 k) := by
  unfold ptI
  rw [show (((k : Nat) : Int)).toNat * 1 = k by omega, List.getElem?_map, List.getElem?_range h]; rfl
theorem ptI_cl (n : Nat) {h : Nat → Option Blk} (h0 : (h 0).isSome = true) : ∀ y ∈ ptI n, closedA h y := fun y hy => by
  obtain ⟨k, _, rfl⟩ := List.mem_map.1 hy
  exact h0
theorem bxI_cl (l : List Int) {h : Nat → Option Blk} : ∀ y ∈ bxI l, closedA h y := fun y hy => by
  obtain ⟨z, _, rfl⟩ := List.mem_map.1 hy
  trivial
theorem bxI_set {pre vs : List Int} {k : Nat} (hp : pre.length = k) (hk : k < vs.length) (v : Int) : setAt (bxI (pre ++ vs.drop k)) k [AV.f (iv v)] = bxI ((pre ++ [v]) ++ vs.drop (k + 1)) := by
  show (bxI (pre ++ vs.drop k)).set k (AV.f (iv v)) = _
  unfold bxI
  rw [← List.map_set (f := fun z => AV.f (iv z)) (a := v)]
  congr 1
  rw [List.set_append_right _ _ (by omega), hp, Nat.sub_self, List.drop_eq_getElem_cons hk, List.set_cons_zero, List.append_assoc]
  rfl
theorem bxI_len {pre vs : List Int} {k : Nat} (hp : pre.length = k) (hk : k < vs.length) : Nat.ble (k + 1) (bxI (pre ++ vs.drop k)).length = true := by
  unfold bxI
  rw [List.length_map, List.length_append, List.length_drop]
  exact Nat.ble_eq_true_of_le (by omega)
theorem boxI_eq {a b : List AV} (h : a = b) : some (Blk.box a) = some (Blk.box b) := by rw [h]
set_option maxRecDepth 100000 in
set_option maxHeartbeats 6400000 in
theorem parse_step (ws : List Nm) (d n k : Nat) (hd : d ≤ 17) (hn : ws.length = n) (_hl : n ≤ 1000) (_hw : ∀ w ∈ ws, w.length ≤ 1000000) (hkn : k < n) : (∃ v, numP d ws[k] = some v ∧ atoiAll ws[k] = .ok v ∧ 0 ≤ v ∧ itoa v = ws[k] ∧ ws[k].length ≤ d) ∨ (numP d ws[k] = none ∧ ((∀ v, atoiAll ws[k] ≠ .ok v) ∨ ∃ v, atoiAll ws[k] = .ok v ∧ (v < 0 ∨ (0 ≤ v ∧ ¬ itoa v = ws[k]) ∨ (0 ≤ v ∧ itoa v = ws[k] ∧ ¬ ws[k].length ≤ d)))) := by
  have LIB := @num_lib ws[k] d hd
  by_cases hok : ∃ v, atoiAll ws[k] = .ok v
  case neg =>
    refine .inr ⟨?_, .inl fun v e => hok ⟨v, e⟩⟩
    unfold numP
    cases e : numO ws[k] d with
    | none => rfl
    | some v => exact absurd ⟨v, (LIB.1 e).1⟩ hok
  obtain ⟨v, hv⟩ := hok
  by_cases hneg : v < 0
  · refine .inr ⟨?_, .inr ⟨v, hv, .inl hneg⟩⟩
    unfold numP
    cases e : numO ws[k] d with
    | none => rfl
    | some u =>
      have e1 := (LIB.1 e).1
      rw [hv] at e1
      injection e1 with e1
      show (if 0 ≤ u then some u else none) = none
      rw [if_neg (by omega)]
  by_cases hew : itoa v = ws[k]
  case neg =>
    refine .inr ⟨?_, .inr ⟨v, hv, .inr (.inl ⟨by omega, hew⟩)⟩⟩
    unfold numP
    cases e : numO ws[k] d with
    | none => rfl
    | some u =>
      have e1 := LIB.1 e
      rw [hv] at e1
      injection e1.1 with e2
      rw [← e2] at e1
      exact absurd e1.2.1 hew
  have hat0 : atS ws[k] = 0 := by rw [← hew]; exact atS_pos (by omega)
  by_cases hdl : ws[k].length ≤ d
  · refine .inl ⟨v, ?_, hv, by omega, hew, hdl⟩
    unfold numP
    rw [LIB.2 ⟨hv, hew, by rw [hat0]; exact hdl⟩]
    show (if 0 ≤ v then some v else none) = some v
    rw [if_pos (by omega)]
  · refine .inr ⟨?_, .inr ⟨v, hv, .inr (.inr ⟨by omega, hew, hdl⟩)⟩⟩
    unfold numP
    cases e : numO ws[k] d with
    | none => rfl
    | some u =>
      have e1 := (LIB.1 e).2.2
      rw [hat0] at e1
      exact absurd e1 hdl
set_option maxRecDepth 100000 in
set_option maxHeartbeats 6400000 in
theorem parse_ok (s : Nm) (hs : s.length ≤ 100000) (d n : Nat) (hd : d ≤ 17) (hn : n ≤ 10) (vs : List Int) (hv : vs.length = n) (l0 : List Int) (h0 : numsC n d s = some l0) : SummG Tryz.prog GS 104 [.box (bxI vs), .rowA 196 1 n (ptI n)] [.f (sv s), .f (iv ((d : Nat) : Int)), .ow 1] (.f (.v (.bool true))) [.box (bxI l0), .rowA 196 1 n (ptI n)] := by
  have HSp := Split_s s 32 (by omega)
  have hcl : (cutS 32 s).length = n := Classical.byContradiction fun h => by rw [numsC_len' h] at h0; cases h0
  rw [numsC_eq hcl] at h0
  have hw : ∀ w ∈ cutS 32 s, w.length ≤ 1000000 := fun w hw => by have := cutS_mem_len 32 s w hw; omega
  generalize cutS 32 s = ws at *
  refine summG_of Tryz.func104 rfl rfl 62 rfl (by simp) (by simp) (fun i B B' h1 h2 => by
    match i, h1, h2 with
    | 0, h1, h2 => cases h1; cases h2; rfl
    | 1, h1, h2 => cases h1; cases h2; rfl
    | _ + 2, h1, _ => simp at h1) (fun M X J => ?_)
  repeat (first
    | (apply s_lenOA TY; exact rfl; exact rfl; exact rfl; exact rfl; exact rfl)
    | (apply s_a TY; exact rfl)
    | (apply s_t; exact rfl; (first | assumption | omega))
    | apply w_seq
    | apply w_region
    | apply s_nil
    | apply t_norm
    | apply w_block
    | apply w_skip
    | (apply w_condF; exact rfl; exact rfl)
    | (apply s_k (HSp); exact rfl))
  apply w_loop (fun z : Nat × List Int => ⟨(Ab.upd (Ab.upd (Ab.upd (Ab.upd (Ab.upd (Ab.upd (fun _ => .bot) 1 (.f (iv ((d : Nat) : Int)))) 2 (.ow 1)) 7 (.f (.sl ws.length (strsF ws)))) 19 (.ow 1)) 20 (.f (iv ((n : Nat) : Int)))) 21 (.f (iv ((z.1 : Nat) : Int)))), (Ab.upd (Ab.upd (fun _ => none) 0 (some (.box (bxI (z.2 ++ vs.drop z.1))))) 1 (some (.rowA 196 1 n (ptI n)))), 2⟩) (fun z => numsO d (ws.take z.1) = some z.2 ∧ z.1 ≤ n) (fun z => n - z.1) (0, []) (⟨rfl, Nat.zero_le _⟩) (gh_le ⟨le_upd rfl trivial (le_upd rfl trivial (le_upd rfl rfl (le_upd rfl trivial (le_upd rfl rfl (le_upd rfl trivial (le_nil _)))))), le_hupd rfl (ptI_cl n rfl) (le_hupd rfl (bxI_cl _) (le_h0 _ _))⟩)
  rintro ⟨k, l⟩ ⟨hnk, hk⟩
  change numsO d (ws.take k) = some l at hnk
  change k ≤ n at hk
  change W _ _ _ _ (⟨(Ab.upd (Ab.upd (Ab.upd (Ab.upd (Ab.upd (Ab.upd (fun _ => .bot) 1 (.f (iv ((d : Nat) : Int)))) 2 (.ow 1)) 7 (.f (.sl ws.length (strsF ws)))) 19 (.ow 1)) 20 (.f (iv ((n : Nat) : Int)))) 21 (.f (iv ((k : Nat) : Int)))), (Ab.upd (Ab.upd (fun _ => none) 0 (some (.box (bxI (l ++ vs.drop k))))) 1 (some (.rowA 196 1 n (ptI n)))), 2⟩)
  have hll := numsO_len hnk
  rw [List.length_take] at hll
  have hlk : l.length = k := by omega
  by_cases hkn : k < n
  · have hpt : (ptI n)[(((k : Nat) : Int)).toNat * 1]? = some (AV.bx 0 k) := ptI_at hkn
    have hat : (strsF ws)[k * 1]? = some (sv ws[k]) := strsF_at (by omega)
    have hne : strsF ws ≠ [] := strsF_ne (k := k) (by omega)
    have hwk := hw _ (List.getElem_mem (by omega : k < ws.length))
    have hsz := strSz ws[k]
    have hst := bxI_len (vs := vs) hlk (by omega)
    rcases parse_step ws d n k hd hcl (by omega) hw hkn with ⟨v, hso, hv, h1, hew, h3⟩ | ⟨hno, _⟩
    case inr => exact absurd h0 (by rw [numsO_bad (by omega) hno]; simp)
    have HA := Atoi_ok ws[k] hwk hv
    have HI := Itoa_s v (atoi_rng hv)
    have hbx := boxI_eq (bxI_set (vs := vs) hlk (by omega) v)
    repeat (first
    | (apply s_idxOA TY; exact rfl; exact rfl; exact rfl; exact rfl; exact rfl; exact rfl; omega; omega)
    | (apply s_ldA TY; exact rfl; exact rfl; exact rfl; exact rfl; exact rfl; exact hpt)
    | (apply s_nilCheck; exact rfl; exact rfl; exact rfl)
    | (apply s_store TY; exact rfl; exact rfl; exact rfl; exact rfl; exact rfl; exact hst)
    | (apply s_bind; exact rfl; exact rfl; exact rfl; exact rfl; exact rfl; exact rfl; exact nes_f hew)
    | (apply s_ifcNil Tryz.underlying338; exact rfl; exact rfl; exact rfl)
    | (apply s_a TY; exact rfl)
    | (apply s_t; exact rfl; (first | assumption | omega))
    | (apply s_f; exact rfl; (first | assumption | omega))
    | apply w_seq
    | apply w_region
    | (apply w_draw (id := 8) 22 rfl (by kernel_rfl))
    | apply s_nil
    | apply t_norm
    | apply k_norm
    | apply w_block
    | apply w_skip
    | (apply w_condT; exact rfl; exact rfl)
    | (apply w_condF; exact rfl; exact rfl)
    | (apply s_k (HA); exact rfl)
    | (apply s_k (HI); exact rfl)
    | (apply s_c TY; exact rfl; (first | omega | exact ⟨by omega, by (first | with_reducible assumption | ((with_reducible apply strsF_ne); omega) | assumption)⟩))
    | (apply s_l TY; exact rfl; (first | exact rfl | with_reducible assumption | ((with_reducible apply strsF_at); omega) | assumption)))
    exact ⟨(k + 1, l ++ [v]), ⟨numsO_next (by omega) hnk hso, by show k + 1 ≤ _; omega⟩, by show _ - (k + 1) < _ - k; omega, gh_le ⟨le_upd rfl trivial (le_upd rfl trivial (le_upd rfl rfl (le_upd rfl trivial (le_upd rfl rfl (le_upd rfl trivial (le_nil _)))))), le_hupd rfl (ptI_cl n rfl) (le_hupd hbx (bxI_cl _) (le_h0 _ _))⟩⟩
  · have hke : k = ws.length := by omega
    subst hke
    rw [List.take_length, h0] at hnk
    obtain rfl := Option.some.inj hnk
    have hbe : some (Blk.box (bxI (l0 ++ vs.drop ws.length))) = some (Blk.box (bxI l0)) := boxI_eq (by rw [List.drop_of_length_le (by omega), List.append_nil])
    repeat (first
    | (apply s_a TY; exact rfl)
    | (apply s_f; exact rfl; (first | assumption | omega))
    | apply w_seq
    | apply w_region
    | apply s_nil
    | apply t_norm
    | apply t_exit
    | apply k_hit
    | apply w_exit
    | apply w_ret
    | (apply w_condF; exact rfl; exact rfl))
    exact lvG_ret (L' := [.box (bxI l0), .rowA 196 1 n (ptI n)]) (s := Ab.upd (fun _ => .bot) 6 (.f (.v (.bool true)))) (nx := 2) (gh_le ⟨le_upd rfl trivial (le_nil _), le_hupd hbe (bxI_cl _) (le_hupd rfl (ptI_cl n rfl) (le_h0 _ _))⟩) (rg1 rfl (rv_tmp rfl))
set_option maxRecDepth 100000 in
set_option maxHeartbeats 12800000 in
theorem parse_no (s : Nm) (hs : s.length ≤ 100000) (d n : Nat) (hd : d ≤ 17) (hn : n ≤ 10) (vs : List Int) (hv : vs.length = n) (h0 : numsC n d s = none) : ∃ us : List Int, us.length = n ∧ SummG Tryz.prog GS 104 [.box (bxI vs), .rowA 196 1 n (ptI n)] [.f (sv s), .f (iv ((d : Nat) : Int)), .ow 1] (.f (.v (.bool false))) [.box (bxI us), .rowA 196 1 n (ptI n)] := by
  have HSp := Split_s s 32 (by omega)
  have hw : ∀ w ∈ cutS 32 s, w.length ≤ 1000000 := fun w hw => by have := cutS_mem_len 32 s w hw; omega
  have hcl2 := cutS_len 32 s
  by_cases hcl : (cutS 32 s).length = n
  case neg =>
    refine ⟨vs, hv, ?_⟩
    generalize cutS 32 s = ws at *
    refine summG_of Tryz.func104 rfl rfl 62 rfl (by simp) (by simp) (fun i B B' h1 h2 => by
        match i, h1, h2 with
    | 0, h1, h2 => cases h1; cases h2; rfl
    | 1, h1, h2 => cases h1; cases h2; rfl
    | _ + 2, h1, _ => simp at h1) (fun M X J => ?_)
    repeat (first
    | (apply s_lenOA TY; exact rfl; exact rfl; exact rfl; exact rfl; exact rfl)
    | (apply s_a TY; exact rfl)
    | (apply s_f; exact rfl; (first | assumption | omega))
    | apply w_seq
    | apply w_region
    | apply s_nil
    | apply t_norm
    | apply t_ret
    | apply w_ret
    | (apply w_condT; exact rfl; exact rfl)
    | (apply s_k (HSp); exact rfl))
    exact lvG_ret (L' := [.box (bxI vs), .rowA 196 1 n (ptI n)]) (s := Ab.upd (fun _ => .bot) 6 (.f (.v (.bool false)))) (nx := 2) (gh_le ⟨le_upd rfl trivial (le_nil _), le_hupd rfl (bxI_cl _) (le_hupd rfl (ptI_cl n rfl) (le_h0 _ _))⟩) (rg1 rfl (rv_tmp rfl))
  rw [numsC_eq hcl] at h0
  generalize cutS 32 s = ws at *
  obtain ⟨q, hq, pre, hpre, hbad⟩ := numsO_none h0
  have hpl := numsO_len hpre
  rw [List.length_take] at hpl
  refine ⟨pre ++ vs.drop q, by rw [List.length_append, List.length_drop]; omega, ?_⟩
  refine summG_of Tryz.func104 rfl rfl 62 rfl (by simp) (by simp) (fun i B B' h1 h2 => by
    match i, h1, h2 with
    | 0, h1, h2 => cases h1; cases h2; rfl
    | 1, h1, h2 => cases h1; cases h2; rfl
    | _ + 2, h1, _ => simp at h1) (fun M X J => ?_)
  repeat (first
    | (apply s_lenOA TY; exact rfl; exact rfl; exact rfl; exact rfl; exact rfl)
    | (apply s_a TY; exact rfl)
    | (apply s_t; exact rfl; (first | assumption | omega))
    | apply w_seq
    | apply w_region
    | apply s_nil
    | apply t_norm
    | apply w_block
    | apply w_skip
    | (apply w_condF; exact rfl; exact rfl)
    | (apply s_k (HSp); exact rfl))
  apply w_loop (fun z : Nat × List Int => ⟨(Ab.upd (Ab.upd (Ab.upd (Ab.upd (Ab.upd (Ab.upd (fun _ => .bot) 1 (.f (iv ((d : Nat) : Int)))) 2 (.ow 1)) 7 (.f (.sl ws.length (strsF ws)))) 19 (.ow 1)) 20 (.f (iv ((n : Nat) : Int)))) 21 (.f (iv ((z.1 : Nat) : Int)))), (Ab.upd (Ab.upd (fun _ => none) 0 (some (.box (bxI (z.2 ++ vs.drop z.1))))) 1 (some (.rowA 196 1 n (ptI n)))), 2⟩) (fun z => numsO d (ws.take z.1) = some z.2 ∧ z.1 ≤ q) (fun z => q - z.1) (0, []) (⟨rfl, Nat.zero_le _⟩) (gh_le ⟨le_upd rfl trivial (le_upd rfl trivial (le_upd rfl rfl (le_upd rfl trivial (le_upd rfl rfl (le_upd rfl trivial (le_nil _)))))), le_hupd rfl (ptI_cl n rfl) (le_hupd rfl (bxI_cl _) (le_h0 _ _))⟩)
  rintro ⟨k, l⟩ ⟨hnk, hk⟩
  change numsO d (ws.take k) = some l at hnk
  change k ≤ q at hk
  change W _ _ _ _ (⟨(Ab.upd (Ab.upd (Ab.upd (Ab.upd (Ab.upd (Ab.upd (fun _ => .bot) 1 (.f (iv ((d : Nat) : Int)))) 2 (.ow 1)) 7 (.f (.sl ws.length (strsF ws)))) 19 (.ow 1)) 20 (.f (iv ((n : Nat) : Int)))) 21 (.f (iv ((k : Nat) : Int)))), (Ab.upd (Ab.upd (fun _ => none) 0 (some (.box (bxI (l ++ vs.drop k))))) 1 (some (.rowA 196 1 n (ptI n)))), 2⟩)
  have hll := numsO_len hnk
  rw [List.length_take] at hll
  have hlk : l.length = k := by omega
  have hkn : k < n := by omega
  have hpt : (ptI n)[(((k : Nat) : Int)).toNat * 1]? = some (AV.bx 0 k) := ptI_at hkn
  have hat : (strsF ws)[k * 1]? = some (sv ws[k]) := strsF_at (by omega)
  have hne : strsF ws ≠ [] := strsF_ne (k := k) (by omega)
  have hwk := hw _ (List.getElem_mem (by omega : k < ws.length))
  have hsz := strSz ws[k]
  have hst := bxI_len (vs := vs) hlk (by omega)
  by_cases hkq : k < q
  · rcases parse_step ws d n k hd hcl (by omega) hw hkn with ⟨v, hso, hv, h1, hew, h3⟩ | ⟨hno, _⟩
    case inr =>
      have e := List.take_succ_eq_append_getElem (show k < ws.length by omega)
      have h5 : numsO d (ws.take q) = none := by
        have h6 : k < (ws.take q).length := by rw [List.length_take]; omega
        exact numsO_bad h6 (by rw [List.getElem_take]; exact hno)
      rw [h5] at hpre; cases hpre
    have HA := Atoi_ok ws[k] hwk hv
    have HI := Itoa_s v (atoi_rng hv)
    have hbx := boxI_eq (bxI_set (vs := vs) hlk (by omega) v)
    repeat (first
    | (apply s_idxOA TY; exact rfl; exact rfl; exact rfl; exact rfl; exact rfl; exact rfl; omega; omega)
    | (apply s_ldA TY; exact rfl; exact rfl; exact rfl; exact rfl; exact rfl; exact hpt)
    | (apply s_nilCheck; exact rfl; exact rfl; exact rfl)
    | (apply s_store TY; exact rfl; exact rfl; exact rfl; exact rfl; exact rfl; exact hst)
    | (apply s_bind; exact rfl; exact rfl; exact rfl; exact rfl; exact rfl; exact rfl; exact nes_f hew)
    | (apply s_ifcNil Tryz.underlying338; exact rfl; exact rfl; exact rfl)
    | (apply s_a TY; exact rfl)
    | (apply s_t; exact rfl; (first | assumption | omega))
    | (apply s_f; exact rfl; (first | assumption | omega))
    | apply w_seq
    | apply w_region
    | (apply w_draw (id := 8) 22 rfl (by kernel_rfl))
    | apply s_nil
    | apply t_norm
    | apply k_norm
    | apply w_block
    | apply w_skip
    | (apply w_condT; exact rfl; exact rfl)
    | (apply w_condF; exact rfl; exact rfl)
    | (apply s_k (HA); exact rfl)
    | (apply s_k (HI); exact rfl)
    | (apply s_c TY; exact rfl; (first | omega | exact ⟨by omega, by (first | with_reducible assumption | ((with_reducible apply strsF_ne); omega) | assumption)⟩))
    | (apply s_l TY; exact rfl; (first | exact rfl | with_reducible assumption | ((with_reducible apply strsF_at); omega) | assumption)))
    exact ⟨(k + 1, l ++ [v]), ⟨numsO_next (by omega) hnk hso, by show k + 1 ≤ _; omega⟩, by show _ - (k + 1) < _ - k; omega, gh_le ⟨le_upd rfl trivial (le_upd rfl trivial (le_upd rfl rfl (le_upd rfl trivial (le_upd rfl rfl (le_upd rfl trivial (le_nil _)))))), le_hupd rfl (ptI_cl n rfl) (le_hupd hbx (bxI_cl _) (le_h0 _ _))⟩⟩
  · have hke : k = q := by omega
    subst hke
    rw [hpre] at hnk
    obtain rfl := Option.some.inj hnk
    rcases parse_step ws d n k hd hcl (by omega) hw hkn with ⟨v, hso, _⟩ | ⟨_, hno⟩
    case inl => rw [hbad] at hso; cases hso
    rcases hno with hno | ⟨v, hv, hneg | ⟨h1, hew⟩ | ⟨h1, hew, hdl⟩⟩
    · obtain ⟨m, HA⟩ := Atoi_err ws[k] hwk hno
      repeat (first
    | (apply s_idxOA TY; exact rfl; exact rfl; exact rfl; exact rfl; exact rfl; exact rfl; omega; omega)
    | (apply s_ldA TY; exact rfl; exact rfl; exact rfl; exact rfl; exact rfl; exact hpt)
    | (apply s_ifcNe Tryz.underlying338; exact rfl; exact rfl; exact rfl)
    | (apply s_a TY; exact rfl)
    | (apply s_t; exact rfl; (first | assumption | omega))
    | apply w_seq
    | apply w_region
    | (apply w_draw (id := 8) 22 rfl (by kernel_rfl))
    | apply s_nil
    | apply t_norm
    | apply t_ret
    | apply k_ret
    | apply w_block
    | apply w_ret
    | apply w_skip
    | (apply w_condT; exact rfl; exact rfl)
    | (apply s_k (HA); exact rfl)
    | (apply s_s; exact rfl)
    | (apply s_c TY; exact rfl; (first | omega | exact ⟨by omega, by (first | with_reducible assumption | ((with_reducible apply strsF_ne); omega) | assumption)⟩))
    | (apply s_l TY; exact rfl; (first | exact rfl | with_reducible assumption | ((with_reducible apply strsF_at); omega) | assumption)))
      exact lvG_ret (L' := [.box (bxI (pre ++ vs.drop k)), .rowA 196 1 n (ptI n)]) (s := Ab.upd (fun _ => .bot) 6 (.f (.v (.bool false)))) (nx := 2) (gh_le ⟨le_upd rfl trivial (le_nil _), le_hupd rfl (bxI_cl _) (le_hupd rfl (ptI_cl n rfl) (le_h0 _ _))⟩) (rg1 rfl (rv_tmp rfl))
    · have HA := Atoi_ok ws[k] hwk hv
      repeat (first
    | (apply s_idxOA TY; exact rfl; exact rfl; exact rfl; exact rfl; exact rfl; exact rfl; omega; omega)
    | (apply s_ldA TY; exact rfl; exact rfl; exact rfl; exact rfl; exact rfl; exact hpt)
    | (apply s_ifcNil Tryz.underlying338; exact rfl; exact rfl; exact rfl)
    | (apply s_a TY; exact rfl)
    | (apply s_t; exact rfl; (first | assumption | omega))
    | apply w_seq
    | apply w_region
    | (apply w_draw (id := 8) 22 rfl (by kernel_rfl))
    | apply s_nil
    | apply t_norm
    | apply t_ret
    | apply k_ret
    | apply w_block
    | apply w_ret
    | apply w_skip
    | (apply w_condT; exact rfl; exact rfl)
    | (apply s_k (HA); exact rfl)
    | (apply s_s; exact rfl)
    | (apply s_c TY; exact rfl; (first | omega | exact ⟨by omega, by (first | with_reducible assumption | ((with_reducible apply strsF_ne); omega) | assumption)⟩))
    | (apply s_l TY; exact rfl; (first | exact rfl | with_reducible assumption | ((with_reducible apply strsF_at); omega) | assumption)))
      exact lvG_ret (L' := [.box (bxI (pre ++ vs.drop k)), .rowA 196 1 n (ptI n)]) (s := Ab.upd (fun _ => .bot) 6 (.f (.v (.bool false)))) (nx := 2) (gh_le ⟨le_upd rfl trivial (le_nil _), le_hupd rfl (bxI_cl _) (le_hupd rfl (ptI_cl n rfl) (le_h0 _ _))⟩) (rg1 rfl (rv_tmp rfl))
    · have HA := Atoi_ok ws[k] hwk hv
      have HI := Itoa_s v (atoi_rng hv)
      have hnw : ¬ itoa v = ws[k] := hew
      repeat (first
    | (apply s_idxOA TY; exact rfl; exact rfl; exact rfl; exact rfl; exact rfl; exact rfl; omega; omega)
    | (apply s_ldA TY; exact rfl; exact rfl; exact rfl; exact rfl; exact rfl; exact hpt)
    | (apply s_bind; exact rfl; exact rfl; exact rfl; exact rfl; exact rfl; exact rfl; exact nes_t hnw)
    | (apply s_ifcNil Tryz.underlying338; exact rfl; exact rfl; exact rfl)
    | (apply s_a TY; exact rfl)
    | (apply s_t; exact rfl; (first | assumption | omega))
    | (apply s_f; exact rfl; (first | assumption | omega))
    | apply w_seq
    | apply w_region
    | (apply w_draw (id := 8) 22 rfl (by kernel_rfl))
    | apply s_nil
    | apply t_norm
    | apply t_ret
    | apply k_ret
    | apply w_block
    | apply w_ret
    | apply w_skip
    | (apply w_condT; exact rfl; exact rfl)
    | (apply s_k (HA); exact rfl)
    | (apply s_k (HI); exact rfl)
    | (apply s_s; exact rfl)
    | (apply s_c TY; exact rfl; (first | omega | exact ⟨by omega, by (first | with_reducible assumption | ((with_reducible apply strsF_ne); omega) | assumption)⟩))
    | (apply s_l TY; exact rfl; (first | exact rfl | with_reducible assumption | ((with_reducible apply strsF_at); omega) | assumption)))
      exact lvG_ret (L' := [.box (bxI (pre ++ vs.drop k)), .rowA 196 1 n (ptI n)]) (s := Ab.upd (fun _ => .bot) 6 (.f (.v (.bool false)))) (nx := 2) (gh_le ⟨le_upd rfl trivial (le_nil _), le_hupd rfl (bxI_cl _) (le_hupd rfl (ptI_cl n rfl) (le_h0 _ _))⟩) (rg1 rfl (rv_tmp rfl))
    · have HA := Atoi_ok ws[k] hwk hv
      have HI := Itoa_s v (atoi_rng hv)
      repeat (first
    | (apply s_idxOA TY; exact rfl; exact rfl; exact rfl; exact rfl; exact rfl; exact rfl; omega; omega)
    | (apply s_ldA TY; exact rfl; exact rfl; exact rfl; exact rfl; exact rfl; exact hpt)
    | (apply s_bind; exact rfl; exact rfl; exact rfl; exact rfl; exact rfl; exact rfl; exact nes_f hew)
    | (apply s_ifcNil Tryz.underlying338; exact rfl; exact rfl; exact rfl)
    | (apply s_a TY; exact rfl)
    | (apply s_t; exact rfl; (first | assumption | omega))
    | (apply s_f; exact rfl; (first | assumption | omega))
    | apply w_seq
    | apply w_region
    | (apply w_draw (id := 8) 22 rfl (by kernel_rfl))
    | apply s_nil
    | apply t_norm
    | apply t_ret
    | apply k_ret
    | apply w_block
    | apply w_ret
    | apply w_skip
    | (apply w_condT; exact rfl; exact rfl)
    | (apply s_k (HA); exact rfl)
    | (apply s_k (HI); exact rfl)
    | (apply s_c TY; exact rfl; (first | omega | exact ⟨by omega, by (first | with_reducible assumption | ((with_reducible apply strsF_ne); omega) | assumption)⟩))
    | (apply s_l TY; exact rfl; (first | exact rfl | with_reducible assumption | ((with_reducible apply strsF_at); omega) | assumption)))
      exact lvG_ret (L' := [.box (bxI (pre ++ vs.drop k)), .rowA 196 1 n (ptI n)]) (s := Ab.upd (fun _ => .bot) 6 (.f (.v (.bool false)))) (nx := 2) (gh_le ⟨le_upd rfl trivial (le_nil _), le_hupd rfl (bxI_cl _) (le_hupd rfl (ptI_cl n rfl) (le_h0 _ _))⟩) (rg1 rfl (rv_tmp rfl))
end Go.Proofs.YtbkdjlahhcofmaaGreatDoor
namespace Go.Proofs.YtbkdjlahhcofmaaGreatDoor
open Go.Lib (itoa decDigits decFrom digitVal join atoiAll)
open Go Go.RowKit Go.Proofs Go.Shelf Go.Ab
def parR (n d : Nat) (s : Nm) : FV := match numsC n d s with
  | some l => .tup [.sl l.length (intsF l), .v (.bool true)]
  | none => .tup [.sl 0 [], .v (.bool false)]
theorem parR_no {n d : Nat} {s : Nm} (h : numsC n d s = none) : parR n d s = .tup [.sl 0 [], .v (.bool false)] := by unfold parR; rw [h]
theorem parR_ok {n d : Nat} {s : Nm} {l : List Int} (h : numsC n d s = some l) : parR n d s = .tup [.sl l.length (intsF l), .v (.bool true)] := by unfold parR; rw [h]
theorem byte0 {w : Nm} {d : Nat} (hd : d ≤ 17) {v : Int} (h : numO w d = some v) : ∃ b : UInt8, w[((0 : Int)).toNat]? = some b ∧ (v < 0 → (b.toNat : Int) = 45) ∧ (0 ≤ v → ¬ (b.toNat : Int) = 45) := by
  have e := ((num_lib hd).1 h).2.1
  by_cases hv : v < 0
  · have hi : itoa v = 45 :: decDigits v.natAbs := by unfold itoa; rw [if_pos hv]
    rw [← e, hi]
    exact ⟨45, rfl, fun _ => rfl, fun h => by omega⟩
  · have h0 := atS_pos (v := v) (by omega)
    have hi := itoa_nn (v := v) (by omega)
    have hne := decDigits_ne v.toNat
    rw [← e]
    cases hw : itoa v with
    | nil => rw [hi] at hw; exact absurd hw hne
    | cons b r =>
      refine ⟨b, rfl, fun h => absurd h hv, fun _ hb => ?_⟩
      rw [hw] at h0
      unfold atS at h0
      have hb2 : b = 45 := UInt8.toNat_inj.1 (by show b.toNat = 45; omega)
      rw [hb2] at h0
      simp at h0
set_option maxRecDepth 100000 in
set_option maxHeartbeats 3200000 in
theorem rparse_s (s : Nm) (hs : s.length ≤ 100000) (n d : Nat) (hd : d ≤ 17) (hn : n ≤ 10) : Summ Tryz.prog GG 203 [sv s, iv ((n : Nat) : Int), iv ((d : Nat) : Int)] (parR n d s) := by
  have HC := Cut_s s 32 (by omega)
  have hw : ∀ w ∈ cutS 32 s, w.length ≤ 1000000 := fun w hw => by have := cutS_mem_len 32 s w hw; omega
  have hcl2 := cutS_len 32 s
  by_cases hcl : (cutS 32 s).length = n
  case neg =>
    rw [parR_no (numsC_len' hcl)]
    generalize cutS 32 s = ws at *
    refine summW Tryz.func203 rfl rfl 48 rfl (by simp) (fun M0 => ?_)
    repeat (first
    | (apply s_a TY; exact rfl)
    | (apply s_f; exact rfl; (first | assumption | omega))
    | apply w_seq
    | apply w_region
    | apply s_nil
    | apply t_norm
    | apply t_ret
    | apply w_ret
    | (apply w_condT; exact rfl; exact rfl)
    | (apply s_k (HC); exact rfl))
    exact lv_ret (ret2 rfl (res_nil rfl) (res_tmp rfl))
  have hPn : numsO d (cutS 32 s) = none → parR n d s = .tup [.sl 0 [], .v (.bool false)] := fun h => parR_no (by rw [numsC_eq hcl]; exact h)
  have hPs : ∀ l, numsO d (cutS 32 s) = some l → parR n d s = .tup [.sl l.length (intsF l), .v (.bool true)] := fun l h => parR_ok (by rw [numsC_eq hcl]; exact h)
  generalize cutS 32 s = ws at *
  refine summW Tryz.func203 rfl rfl 48 rfl (by simp) (fun M0 => ?_)
  repeat (first
    | (apply s_a TY; exact rfl)
    | (apply s_t; exact rfl; (first | assumption | omega))
    | apply w_seq
    | apply w_region
    | apply s_nil
    | apply t_norm
    | apply w_block
    | apply w_skip
    | (apply w_condF; exact rfl; exact rfl)
    | (apply s_k (HC); exact rfl))
  apply w_gh (gh_own 9 3 1 rfl rfl)
  apply w_loop (fun q : Nat × List Int => ⟨(Ab.upd (Ab.upd (Ab.upd (Ab.upd (Ab.upd (fun _ => .bot) 1 (.f (iv ((n : Nat) : Int)))) 2 (.f (iv ((d : Nat) : Int)))) 8 (.f (.sl ws.length (strsF ws)))) 9 (.ow 0)) 10 (.f (iv ((q.1 : Nat) : Int)))), (Ab.upd (fun _ => none) 0 (some (.row 3 1 q.2.length (intsF q.2)))), 1⟩) (fun q => numsO d (ws.take q.1) = some q.2 ∧ q.1 ≤ n) (fun q => n - q.1) (0, []) (⟨rfl, Nat.zero_le _⟩) (gh_le ⟨le_upd rfl trivial (le_upd rfl rfl (le_upd rfl trivial (le_upd rfl trivial (le_upd rfl trivial (le_nil _))))), le_hupd rfl trivial (le_h0 _ _)⟩)
  rintro ⟨k, l⟩ ⟨hnk, hk⟩
  change numsO d (ws.take k) = some l at hnk
  change k ≤ n at hk
  change W _ _ _ _ (⟨(Ab.upd (Ab.upd (Ab.upd (Ab.upd (Ab.upd (fun _ => .bot) 1 (.f (iv ((n : Nat) : Int)))) 2 (.f (iv ((d : Nat) : Int)))) 8 (.f (.sl ws.length (strsF ws)))) 9 (.ow 0)) 10 (.f (iv ((k : Nat) : Int)))), (Ab.upd (fun _ => none) 0 (some (.row 3 1 l.length (intsF l)))), 1⟩)
  have hll := numsO_len hnk
  rw [List.length_take] at hll
  by_cases hkn : k < n
  · have hc : k < ws.length := by omega
    have hat : (strsF ws)[k * 1]? = some (sv ws[k]) := strsF_at hc
    have hne : strsF ws ≠ [] := strsF_ne (k := k) hc
    have HN := Number_s ws[k] d hd (hw _ (List.getElem_mem hc))
    cases e : numO ws[k] d with
    | none =>
      rw [numR_no e] at HN
      rw [hPn (numsO_bad hc (by unfold numP; rw [e]))]
      repeat (first
    | (apply s_a TY; exact rfl)
    | (apply s_t; exact rfl; (first | assumption | omega))
    | apply w_seq
    | apply w_region
    | apply s_nil
    | apply t_norm
    | apply t_ret
    | apply k_ret
    | apply w_block
    | apply w_ret
    | apply w_skip
    | (apply w_condT; exact rfl; exact rfl)
    | (apply s_k (HN); exact rfl)
    | (apply s_s; exact rfl)
    | (apply s_c TY; exact rfl; (first | omega | exact ⟨by omega, by (first | with_reducible assumption | ((with_reducible apply strsF_ne); omega) | assumption)⟩))
    | (apply s_l TY; exact rfl; (first | exact rfl | with_reducible assumption | ((with_reducible apply strsF_at); omega) | assumption)))
      exact lv_ret (ret2 rfl (res_nil rfl) (res_tmp rfl))
    | some v =>
      rw [show numR ws[k] d = .tup [iv v, .v (.bool true)] by unfold numR; rw [e]] at HN
      obtain ⟨b, hby, hb1, hb2⟩ := byte0 hd e
      by_cases hneg : v < 0
      · have hb := hb1 hneg
        rw [hPn (numsO_bad hc (by unfold numP; rw [e]; exact if_neg (by omega)))]
        repeat (first
    | (apply s_idxS TY; exact rfl; exact rfl; exact rfl; exact rfl; exact rfl; omega; exact hby)
    | (apply s_a TY; exact rfl)
    | (apply s_t; exact rfl; (first | assumption | omega))
    | apply w_seq
    | apply w_region
    | apply s_nil
    | apply t_norm
    | apply t_ret
    | apply k_ret
    | apply w_block
    | apply w_ret
    | apply w_skip
    | (apply w_condT; exact rfl; exact rfl)
    | (apply s_k (HN); exact rfl)
    | (apply s_c TY; exact rfl; (first | omega | exact ⟨by omega, by (first | with_reducible assumption | ((with_reducible apply strsF_ne); omega) | assumption)⟩))
    | (apply s_l TY; exact rfl; (first | exact rfl | with_reducible assumption | ((with_reducible apply strsF_at); omega) | assumption)))
        exact lv_ret (ret2 rfl (res_nil rfl) (res_tmp rfl))
      · have hb := hb2 (by omega)
        have hso : numP d ws[k] = some v := by unfold numP; rw [e]; exact if_pos (by omega)
        have hrow : some (Blk.row 3 1 (l.length + 1) (intsF l ++ [iv v])) = some (Blk.row 3 1 (l ++ [v]).length (intsF (l ++ [v]))) := by rw [intsF_snoc, List.length_append]; rfl
        repeat (first
    | (apply s_append TY; exact rfl; exact rfl; exact rfl; exact rfl; exact rfl; exact rfl; exact rfl; exact rfl; exact rfl; (unfold maxLen; omega); omega)
    | (apply s_idxS TY; exact rfl; exact rfl; exact rfl; exact rfl; exact rfl; omega; exact hby)
    | (apply s_a TY; exact rfl)
    | (apply s_t; exact rfl; (first | assumption | omega))
    | (apply s_f; exact rfl; (first | assumption | omega))
    | apply w_seq
    | apply w_region
    | apply s_nil
    | apply t_norm
    | apply k_norm
    | apply w_block
    | apply w_skip
    | (apply w_condT; exact rfl; exact rfl)
    | (apply w_condF; exact rfl; exact rfl)
    | (apply s_k (HN); exact rfl)
    | (apply s_c TY; exact rfl; (first | omega | exact ⟨by omega, by (first | with_reducible assumption | ((with_reducible apply strsF_ne); omega) | assumption)⟩))
    | (apply s_l TY; exact rfl; (first | exact rfl | with_reducible assumption | ((with_reducible apply strsF_at); omega) | assumption)))
        exact ⟨(k + 1, l ++ [v]), ⟨numsO_next hc hnk hso, by show k + 1 ≤ _; omega⟩, by show _ - (k + 1) < _ - k; omega, gh_le ⟨le_upd rfl trivial (le_upd rfl rfl (le_upd rfl trivial (le_upd rfl trivial (le_upd rfl trivial (le_nil _))))), le_hupd hrow trivial (le_h0 _ _)⟩⟩
  · have hke : k = ws.length := by omega
    rw [hke, List.take_length] at hnk
    rw [hPs l hnk]
    repeat (first
    | (apply s_a TY; exact rfl)
    | (apply s_f; exact rfl; (first | assumption | omega))
    | apply w_seq
    | apply w_region
    | apply s_nil
    | apply t_norm
    | apply t_exit
    | apply k_hit
    | apply w_exit
    | apply w_ret
    | (apply w_condF; exact rfl; exact rfl))
    exact lv_ret (ret2 rfl (res_sees rfl (sees_row rfl)) (res_tmp rfl))
def rulZ : Rule := ⟨0, 0, 0, 0, 0⟩
def hitZ : Hit := ⟨0, 0, 0⟩
def hitB (h : Hit) : Prop := (0 ≤ h.tm ∧ h.tm ≤ 1000000000000) ∧ (1 ≤ h.line ∧ h.line ≤ 100) ∧ (1 ≤ h.sensor ∧ h.sensor ≤ 100)
instance (h : Hit) : Decidable (hitB h) := by unfold hitB; infer_instance
def rulO (l : List Int) : Rule × Int := match l with
  | [a, b, c, d, e] => if ruleErr ⟨a, b, c, d, e⟩ = 0 then (⟨a, b, c, d, e⟩, 0) else (rulZ, ruleErr ⟨a, b, c, d, e⟩)
  | _ => (rulZ, 7)
def hitO (l : List Int) : Hit × Int := match l with
  | [a, b, c] => if hitB ⟨a, b, c⟩ then (⟨a, b, c⟩, 0) else (hitZ, 2)
  | _ => (hitZ, 7)
def rulP (s : Nm) : Rule × Int := match numsC 5 7 s with
  | some l => rulO l
  | none => (rulZ, 7)
def hitP (s : Nm) : Hit × Int := match numsC 3 13 s with
  | some l => hitO l
  | none => (hitZ, 7)
theorem len5 {l : List Int} (h : l.length = 5) : ∃ a b c d e, l = [a, b, c, d, e] := by
  match l, h with
  | [a, b, c, d, e], _ => exact ⟨a, b, c, d, e, rfl⟩
theorem len3 {l : List Int} (h : l.length = 3) : ∃ a b c, l = [a, b, c] := by
  match l, h with
  | [a, b, c], _ => exact ⟨a, b, c, rfl⟩
set_option maxRecDepth 100000 in
set_option maxHeartbeats 3200000 in
theorem ParseRule_s (s : Nm) (hs : s.length ≤ 100000) : Summ Tryz.prog GS 16 [sv s] (.tup [.agg (ruleF (rulP s).1), iv (rulP s).2]) := by
  have HF2 := fun a b => up (tfirst2_s a b)
  have HUt := up (tunless_T 7)
  have HUf := up (tunless_F 7)
  cases h : numsC 5 7 s with
  | none =>
    obtain ⟨us, hu, HP⟩ := parse_no s hs 7 5 (by decide) (by decide) [0, 0, 0, 0, 0] rfl h
    obtain ⟨a, b, c, d, e, rfl⟩ := len5 hu
    rw [show rulP s = (rulZ, 7) by unfold rulP; rw [h]]
    have HK := up (CheckRule_s ⟨a, b, c, d, e⟩)
    generalize ruleErr ⟨a, b, c, d, e⟩ = E at *
    have H2 := HF2 7 E
    change Summ _ _ _ _ (iv 7) at H2
    refine summW Tryz.func16 rfl rfl 26 rfl (by simp) (fun M0 => ?_)
    repeat (first
    | (apply s_bsliceP5 TY; exact rfl; exact rfl; exact rfl; exact rfl; exact rfl; exact rfl; exact rfl; exact rfl; exact rfl; exact rfl)
    | (apply s_callG [1, 2] HP; exact rfl; exact rfl; exact rfl; exact ⟨rfl, rfl, trivial⟩; exact rfl; exact ⟨rfl, rfl⟩)
    | (apply s_a TY; exact rfl)
    | (apply s_f; exact rfl; (first | assumption | omega))
    | apply w_seq
    | apply w_region
    | (apply w_draw (id := 3) 3 rfl (by kernel_rfl))
    | apply s_nil
    | apply t_norm
    | apply t_ret
    | apply w_ret
    | (apply w_condT; exact rfl; exact rfl)
    | (apply s_k (HUf); exact rfl)
    | (apply s_k (HK); exact rfl)
    | (apply s_k (H2); exact rfl)
    | (apply s_alloc TY; exact rfl; exact rfl; exact rfl)
    | (apply s_store TY; exact rfl; exact rfl; exact rfl; exact rfl; exact rfl; exact rfl))
    exact lv_ret (ret2 rfl (res_bxs (sub := ruleF rulZ) TY rfl rfl rfl rfl rfl) (res_tmp rfl))
  | some l =>
    have HP := parse_ok s hs 7 5 (by decide) (by decide) [0, 0, 0, 0, 0] rfl l h
    obtain ⟨a, b, c, d, e, rfl⟩ := len5 (numsC_len h)
    have HK := up (CheckRule_s ⟨a, b, c, d, e⟩)
    by_cases hE : ruleErr ⟨a, b, c, d, e⟩ = 0
    · rw [show rulP s = (⟨a, b, c, d, e⟩, 0) by unfold rulP; rw [h]; exact if_pos hE]
      rw [hE] at HK
      have H2 := HF2 0 0
      change Summ _ _ _ _ (iv 0) at H2
      refine summW Tryz.func16 rfl rfl 26 rfl (by simp) (fun M0 => ?_)
      repeat (first
    | (apply s_bsliceP5 TY; exact rfl; exact rfl; exact rfl; exact rfl; exact rfl; exact rfl; exact rfl; exact rfl; exact rfl; exact rfl)
    | (apply s_callG [1, 2] HP; exact rfl; exact rfl; exact rfl; exact ⟨rfl, rfl, trivial⟩; exact rfl; exact ⟨rfl, rfl⟩)
    | (apply s_a TY; exact rfl)
    | (apply s_t; exact rfl; (first | assumption | omega))
    | apply w_seq
    | apply w_region
    | (apply w_draw (id := 3) 3 rfl (by kernel_rfl))
    | apply s_nil
    | apply t_norm
    | apply w_ret
    | apply w_skip
    | (apply w_condF; exact rfl; exact rfl)
    | (apply s_k (HUt); exact rfl)
    | (apply s_k (HK); exact rfl)
    | (apply s_k (H2); exact rfl)
    | (apply s_alloc TY; exact rfl; exact rfl; exact rfl)
    | (apply s_store TY; exact rfl; exact rfl; exact rfl; exact rfl; exact rfl; exact rfl))
      exact lv_ret (ret2 rfl (res_bxs (sub := ruleF ⟨a, b, c, d, e⟩) TY rfl rfl rfl rfl rfl) (res_tmp rfl))
    · rw [show rulP s = (rulZ, ruleErr ⟨a, b, c, d, e⟩) by unfold rulP; rw [h]; exact if_neg hE]
      generalize ruleErr ⟨a, b, c, d, e⟩ = E at *
      have H2 := HF2 0 E
      rw [show firstE [0, E] = E by rw [firstE_tl, firstE_hd hE]] at H2
      refine summW Tryz.func16 rfl rfl 26 rfl (by simp) (fun M0 => ?_)
      repeat (first
    | (apply s_bsliceP5 TY; exact rfl; exact rfl; exact rfl; exact rfl; exact rfl; exact rfl; exact rfl; exact rfl; exact rfl; exact rfl)
    | (apply s_callG [1, 2] HP; exact rfl; exact rfl; exact rfl; exact ⟨rfl, rfl, trivial⟩; exact rfl; exact ⟨rfl, rfl⟩)
    | (apply s_a TY; exact rfl)
    | (apply s_f; exact rfl; (first | assumption | omega))
    | apply w_seq
    | apply w_region
    | (apply w_draw (id := 3) 3 rfl (by kernel_rfl))
    | apply s_nil
    | apply t_norm
    | apply t_ret
    | apply w_ret
    | (apply w_condT; exact rfl; exact rfl)
    | (apply s_k (HUt); exact rfl)
    | (apply s_k (HK); exact rfl)
    | (apply s_k (H2); exact rfl)
    | (apply s_alloc TY; exact rfl; exact rfl; exact rfl)
    | (apply s_store TY; exact rfl; exact rfl; exact rfl; exact rfl; exact rfl; exact rfl))
      exact lv_ret (ret2 rfl (res_bxs (sub := ruleF rulZ) TY rfl rfl rfl rfl rfl) (res_tmp rfl))
set_option maxRecDepth 100000 in
set_option maxHeartbeats 6400000 in
theorem ParseHit_s (s : Nm) (hs : s.length ≤ 100000) : Summ Tryz.prog GS 18 [sv s] (.tup [.agg (hitF (hitP s).1), iv (hitP s).2]) := by
  have HUt := up (tunless_T 7)
  have HUf := up (tunless_F 7)
  cases h : numsC 3 13 s with
  | none =>
    obtain ⟨us, hu, HP⟩ := parse_no s hs 13 3 (by decide) (by decide) [0, 0, 0] rfl h
    obtain ⟨a, b, c, rfl⟩ := len3 hu
    rw [show hitP s = (hitZ, 7) by unfold hitP; rw [h]]
    by_cases h1 : 0 ≤ a ∧ a ≤ 1000000000000
    · by_cases h2 : 1 ≤ b ∧ b ≤ 100
      · by_cases h3 : 1 ≤ c ∧ c ≤ 100
        · have HB1 := up (isTick_T a h1)
          have HB2 := up (isNumber_T b h2)
          have HB3 := up (isNumber_T c h3)
          have HU2 := up (tunless_T 2)
          have H2 := up (tfirst2_s 7 0)
          change Summ _ _ _ _ (iv 7) at H2
          refine summW Tryz.func18 rfl rfl 36 rfl (by simp) (fun M0 => ?_)
          repeat (first
    | (apply s_bsliceP3 TY; exact rfl; exact rfl; exact rfl; exact rfl; exact rfl; exact rfl; exact rfl; exact rfl)
    | (apply s_callG [1, 2] HP; exact rfl; exact rfl; exact rfl; exact ⟨rfl, rfl, trivial⟩; exact rfl; exact ⟨rfl, rfl⟩)
    | (apply s_a TY; exact rfl)
    | (apply s_f; exact rfl; (first | assumption | omega))
    | apply w_seq
    | apply w_region
    | (apply w_draw (id := 3) 4 rfl (by kernel_rfl))
    | apply s_nil
    | apply t_norm
    | apply t_ret
    | apply w_ret
    | (apply w_condT; exact rfl; exact rfl)
    | (apply s_k (HUf); exact rfl)
    | (apply s_k (HU2); exact rfl)
    | (apply s_k (H2); exact rfl)
    | (apply s_k (HB1); exact rfl)
    | (apply s_k (HB2); exact rfl)
    | (apply s_k (HB3); exact rfl)
    | (apply s_alloc TY; exact rfl; exact rfl; exact rfl)
    | (apply s_store TY; exact rfl; exact rfl; exact rfl; exact rfl; exact rfl; exact rfl))
          exact lv_ret (ret2 rfl (res_bxs (sub := hitF hitZ) TY rfl rfl rfl rfl rfl) (res_tmp rfl))
        · have HB1 := up (isTick_T a h1)
          have HB2 := up (isNumber_T b h2)
          have HB3 := up (isNumber_F c h3)
          have HU2 := up (tunless_F 2)
          have H2 := up (tfirst2_s 7 2)
          change Summ _ _ _ _ (iv 7) at H2
          refine summW Tryz.func18 rfl rfl 36 rfl (by simp) (fun M0 => ?_)
          repeat (first
    | (apply s_bsliceP3 TY; exact rfl; exact rfl; exact rfl; exact rfl; exact rfl; exact rfl; exact rfl; exact rfl)
    | (apply s_callG [1, 2] HP; exact rfl; exact rfl; exact rfl; exact ⟨rfl, rfl, trivial⟩; exact rfl; exact ⟨rfl, rfl⟩)
    | (apply s_a TY; exact rfl)
    | (apply s_f; exact rfl; (first | assumption | omega))
    | apply w_seq
    | apply w_region
    | (apply w_draw (id := 3) 4 rfl (by kernel_rfl))
    | apply s_nil
    | apply t_norm
    | apply t_ret
    | apply w_ret
    | (apply w_condT; exact rfl; exact rfl)
    | (apply s_k (HUf); exact rfl)
    | (apply s_k (HU2); exact rfl)
    | (apply s_k (H2); exact rfl)
    | (apply s_k (HB1); exact rfl)
    | (apply s_k (HB2); exact rfl)
    | (apply s_k (HB3); exact rfl)
    | (apply s_alloc TY; exact rfl; exact rfl; exact rfl)
    | (apply s_store TY; exact rfl; exact rfl; exact rfl; exact rfl; exact rfl; exact rfl))
          exact lv_ret (ret2 rfl (res_bxs (sub := hitF hitZ) TY rfl rfl rfl rfl rfl) (res_tmp rfl))
      · have HB1 := up (isTick_T a h1)
        have HB2 := up (isNumber_F b h2)
        have HU2 := up (tunless_F 2)
        have H2 := up (tfirst2_s 7 2)
        change Summ _ _ _ _ (iv 7) at H2
        refine summW Tryz.func18 rfl rfl 36 rfl (by simp) (fun M0 => ?_)
        repeat (first
    | (apply s_bsliceP3 TY; exact rfl; exact rfl; exact rfl; exact rfl; exact rfl; exact rfl; exact rfl; exact rfl)
    | (apply s_callG [1, 2] HP; exact rfl; exact rfl; exact rfl; exact ⟨rfl, rfl, trivial⟩; exact rfl; exact ⟨rfl, rfl⟩)
    | (apply s_a TY; exact rfl)
    | (apply s_f; exact rfl; (first | assumption | omega))
    | apply w_seq
    | apply w_region
    | (apply w_draw (id := 3) 4 rfl (by kernel_rfl))
    | apply s_nil
    | apply t_norm
    | apply t_ret
    | apply w_ret
    | (apply w_condT; exact rfl; exact rfl)
    | (apply s_k (HUf); exact rfl)
    | (apply s_k (HU2); exact rfl)
    | (apply s_k (H2); exact rfl)
    | (apply s_k (HB1); exact rfl)
    | (apply s_k (HB2); exact rfl)
    | (apply s_s; exact rfl)
    | (apply s_alloc TY; exact rfl; exact rfl; exact rfl)
    | (apply s_store TY; exact rfl; exact rfl; exact rfl; exact rfl; exact rfl; exact rfl))
        exact lv_ret (ret2 rfl (res_bxs (sub := hitF hitZ) TY rfl rfl rfl rfl rfl) (res_tmp rfl))
    · have HB1 := up (isTick_F a h1)
      have HU2 := up (tunless_F 2)
      have H2 := up (tfirst2_s 7 2)
      change Summ _ _ _ _ (iv 7) at H2
      refine summW Tryz.func18 rfl rfl 36 rfl (by simp) (fun M0 => ?_)
      repeat (first
    | (apply s_bsliceP3 TY; exact rfl; exact rfl; exact rfl; exact rfl; exact rfl; exact rfl; exact rfl; exact rfl)
    | (apply s_callG [1, 2] HP; exact rfl; exact rfl; exact rfl; exact ⟨rfl, rfl, trivial⟩; exact rfl; exact ⟨rfl, rfl⟩)
    | (apply s_a TY; exact rfl)
    | (apply s_f; exact rfl; (first | assumption | omega))
    | apply w_seq
    | apply w_region
    | (apply w_draw (id := 3) 4 rfl (by kernel_rfl))
    | apply s_nil
    | apply t_norm
    | apply t_ret
    | apply w_ret
    | (apply w_condT; exact rfl; exact rfl)
    | (apply s_k (HUf); exact rfl)
    | (apply s_k (HU2); exact rfl)
    | (apply s_k (H2); exact rfl)
    | (apply s_k (HB1); exact rfl)
    | (apply s_s; exact rfl)
    | (apply s_alloc TY; exact rfl; exact rfl; exact rfl)
    | (apply s_store TY; exact rfl; exact rfl; exact rfl; exact rfl; exact rfl; exact rfl))
      exact lv_ret (ret2 rfl (res_bxs (sub := hitF hitZ) TY rfl rfl rfl rfl rfl) (res_tmp rfl))
  | some l =>
    have HP := parse_ok s hs 13 3 (by decide) (by decide) [0, 0, 0] rfl l h
    obtain ⟨a, b, c, rfl⟩ := len3 (numsC_len h)
    by_cases h1 : 0 ≤ a ∧ a ≤ 1000000000000
    · by_cases h2 : 1 ≤ b ∧ b ≤ 100
      · by_cases h3 : 1 ≤ c ∧ c ≤ 100
        · rw [show hitP s = (⟨a, b, c⟩, 0) by unfold hitP; rw [h]; exact if_pos ⟨h1, h2, h3⟩]
          have HB1 := up (isTick_T a h1)
          have HB2 := up (isNumber_T b h2)
          have HB3 := up (isNumber_T c h3)
          have HU2 := up (tunless_T 2)
          have H2 := up (tfirst2_s 0 0)
          change Summ _ _ _ _ (iv 0) at H2
          refine summW Tryz.func18 rfl rfl 36 rfl (by simp) (fun M0 => ?_)
          repeat (first
    | (apply s_bsliceP3 TY; exact rfl; exact rfl; exact rfl; exact rfl; exact rfl; exact rfl; exact rfl; exact rfl)
    | (apply s_callG [1, 2] HP; exact rfl; exact rfl; exact rfl; exact ⟨rfl, rfl, trivial⟩; exact rfl; exact ⟨rfl, rfl⟩)
    | (apply s_a TY; exact rfl)
    | (apply s_t; exact rfl; (first | assumption | omega))
    | apply w_seq
    | apply w_region
    | (apply w_draw (id := 3) 4 rfl (by kernel_rfl))
    | apply s_nil
    | apply t_norm
    | apply w_ret
    | apply w_skip
    | (apply w_condF; exact rfl; exact rfl)
    | (apply s_k (HUt); exact rfl)
    | (apply s_k (HU2); exact rfl)
    | (apply s_k (H2); exact rfl)
    | (apply s_k (HB1); exact rfl)
    | (apply s_k (HB2); exact rfl)
    | (apply s_k (HB3); exact rfl)
    | (apply s_alloc TY; exact rfl; exact rfl; exact rfl)
    | (apply s_store TY; exact rfl; exact rfl; exact rfl; exact rfl; exact rfl; exact rfl))
          exact lv_ret (ret2 rfl (res_bxs (sub := hitF ⟨a, b, c⟩) TY rfl rfl rfl rfl rfl) (res_tmp rfl))
        · rw [show hitP s = (hitZ, 2) by unfold hitP; rw [h]; exact if_neg fun q => h3 q.2.2]
          have HB1 := up (isTick_T a h1)
          have HB2 := up (isNumber_T b h2)
          have HB3 := up (isNumber_F c h3)
          have HU2 := up (tunless_F 2)
          have H2 := up (tfirst2_s 0 2)
          change Summ _ _ _ _ (iv 2) at H2
          refine summW Tryz.func18 rfl rfl 36 rfl (by simp) (fun M0 => ?_)
          repeat (first
    | (apply s_bsliceP3 TY; exact rfl; exact rfl; exact rfl; exact rfl; exact rfl; exact rfl; exact rfl; exact rfl)
    | (apply s_callG [1, 2] HP; exact rfl; exact rfl; exact rfl; exact ⟨rfl, rfl, trivial⟩; exact rfl; exact ⟨rfl, rfl⟩)
    | (apply s_a TY; exact rfl)
    | (apply s_f; exact rfl; (first | assumption | omega))
    | apply w_seq
    | apply w_region
    | (apply w_draw (id := 3) 4 rfl (by kernel_rfl))
    | apply s_nil
    | apply t_norm
    | apply t_ret
    | apply w_ret
    | (apply w_condT; exact rfl; exact rfl)
    | (apply s_k (HUt); exact rfl)
    | (apply s_k (HU2); exact rfl)
    | (apply s_k (H2); exact rfl)
    | (apply s_k (HB1); exact rfl)
    | (apply s_k (HB2); exact rfl)
    | (apply s_k (HB3); exact rfl)
    | (apply s_alloc TY; exact rfl; exact rfl; exact rfl)
    | (apply s_store TY; exact rfl; exact rfl; exact rfl; exact rfl; exact rfl; exact rfl))
          exact lv_ret (ret2 rfl (res_bxs (sub := hitF hitZ) TY rfl rfl rfl rfl rfl) (res_tmp rfl))
      · rw [show hitP s = (hitZ, 2) by unfold hitP; rw [h]; exact if_neg fun q => h2 q.2.1]
        have HB1 := up (isTick_T a h1)
        have HB2 := up (isNumber_F b h2)
        have HU2 := up (tunless_F 2)
        have H2 := up (tfirst2_s 0 2)
        change Summ _ _ _ _ (iv 2) at H2
        refine summW Tryz.func18 rfl rfl 36 rfl (by simp) (fun M0 => ?_)
        repeat (first
    | (apply s_bsliceP3 TY; exact rfl; exact rfl; exact rfl; exact rfl; exact rfl; exact rfl; exact rfl; exact rfl)
    | (apply s_callG [1, 2] HP; exact rfl; exact rfl; exact rfl; exact ⟨rfl, rfl, trivial⟩; exact rfl; exact ⟨rfl, rfl⟩)
    | (apply s_a TY; exact rfl)
    | (apply s_f; exact rfl; (first | assumption | omega))
    | apply w_seq
    | apply w_region
    | (apply w_draw (id := 3) 4 rfl (by kernel_rfl))
    | apply s_nil
    | apply t_norm
    | apply t_ret
    | apply w_ret
    | (apply w_condT; exact rfl; exact rfl)
    | (apply s_k (HUt); exact rfl)
    | (apply s_k (HU2); exact rfl)
    | (apply s_k (H2); exact rfl)
    | (apply s_k (HB1); exact rfl)
    | (apply s_k (HB2); exact rfl)
    | (apply s_s; exact rfl)
    | (apply s_alloc TY; exact rfl; exact rfl; exact rfl)
    | (apply s_store TY; exact rfl; exact rfl; exact rfl; exact rfl; exact rfl; exact rfl))
        exact lv_ret (ret2 rfl (res_bxs (sub := hitF hitZ) TY rfl rfl rfl rfl rfl) (res_tmp rfl))
    · rw [show hitP s = (hitZ, 2) by unfold hitP; rw [h]; exact if_neg fun q => h1 q.1]
      have HB1 := up (isTick_F a h1)
      have HU2 := up (tunless_F 2)
      have H2 := up (tfirst2_s 0 2)
      change Summ _ _ _ _ (iv 2) at H2
      refine summW Tryz.func18 rfl rfl 36 rfl (by simp) (fun M0 => ?_)
      repeat (first
    | (apply s_bsliceP3 TY; exact rfl; exact rfl; exact rfl; exact rfl; exact rfl; exact rfl; exact rfl; exact rfl)
    | (apply s_callG [1, 2] HP; exact rfl; exact rfl; exact rfl; exact ⟨rfl, rfl, trivial⟩; exact rfl; exact ⟨rfl, rfl⟩)
    | (apply s_a TY; exact rfl)
    | (apply s_f; exact rfl; (first | assumption | omega))
    | apply w_seq
    | apply w_region
    | (apply w_draw (id := 3) 4 rfl (by kernel_rfl))
    | apply s_nil
    | apply t_norm
    | apply t_ret
    | apply w_ret
    | (apply w_condT; exact rfl; exact rfl)
    | (apply s_k (HUt); exact rfl)
    | (apply s_k (HU2); exact rfl)
    | (apply s_k (H2); exact rfl)
    | (apply s_k (HB1); exact rfl)
    | (apply s_s; exact rfl)
    | (apply s_alloc TY; exact rfl; exact rfl; exact rfl)
    | (apply s_store TY; exact rfl; exact rfl; exact rfl; exact rfl; exact rfl; exact rfl))
      exact lv_ret (ret2 rfl (res_bxs (sub := hitF hitZ) TY rfl rfl rfl rfl rfl) (res_tmp rfl))
set_option maxRecDepth 100000 in
set_option maxHeartbeats 3200000 in
theorem rParseRule_s (s : Nm) (hs : s.length ≤ 100000) : Summ Tryz.prog GG 81 [sv s] (.tup [.agg (ruleF (rulP s).1), iv (rulP s).2]) := by
  have HP := rparse_s s hs 5 7 (by decide) (by decide)
  cases h : numsC 5 7 s with
  | none =>
    rw [parR_no h] at HP
    rw [show rulP s = (rulZ, 7) by unfold rulP; rw [h]]
    refine summW Tryz.func81 rfl rfl 39 rfl (by simp) (fun M0 => ?_)
    repeat (first
    | (apply s_a TY; exact rfl)
    | apply w_seq
    | apply w_region
    | apply s_nil
    | apply t_norm
    | apply t_ret
    | apply w_ret
    | (apply w_condT; exact rfl; exact rfl)
    | (apply s_k (HP); exact rfl)
    | (apply s_alloc TY; exact rfl; exact rfl; exact rfl)
    | (apply s_store TY; exact rfl; exact rfl; exact rfl; exact rfl; exact rfl; exact rfl))
    exact lv_ret (ret2 rfl (res_bxs (sub := ruleF rulZ) TY rfl rfl rfl rfl rfl) (res_tmp rfl))
  | some l =>
    rw [parR_ok h] at HP
    obtain ⟨a, b, c, d, e, rfl⟩ := len5 (numsC_len h)
    have HK := RuleErr_s ⟨a, b, c, d, e⟩
    have h0 : (intsF [a, b, c, d, e])[((0 : Int)).toNat * 1]? = some (iv a) := rfl
    have h1 : (intsF [a, b, c, d, e])[((1 : Int)).toNat * 1]? = some (iv b) := rfl
    have h2 : (intsF [a, b, c, d, e])[((2 : Int)).toNat * 1]? = some (iv c) := rfl
    have h3 : (intsF [a, b, c, d, e])[((3 : Int)).toNat * 1]? = some (iv d) := rfl
    have h4 : (intsF [a, b, c, d, e])[((4 : Int)).toNat * 1]? = some (iv e) := rfl
    have hne : intsF [a, b, c, d, e] ≠ [] := by simp [intsF]
    have hlen : [a, b, c, d, e].length = 5 := rfl
    by_cases hE : ruleErr ⟨a, b, c, d, e⟩ = 0
    · rw [show rulP s = (⟨a, b, c, d, e⟩, 0) by unfold rulP; rw [h]; exact if_pos hE]
      rw [hE] at HK
      refine summW Tryz.func81 rfl rfl 39 rfl (by simp) (fun M0 => ?_)
      repeat (first
    | (apply s_a TY; exact rfl)
    | (apply s_t; exact rfl; (first | assumption | omega))
    | apply w_seq
    | apply w_region
    | (apply w_draw (id := 4) 17 rfl (by kernel_rfl))
    | apply s_nil
    | apply t_norm
    | apply w_ret
    | apply w_skip
    | (apply w_condF; exact rfl; exact rfl)
    | (apply s_k (HP); exact rfl)
    | (apply s_k (HK); exact rfl)
    | (apply s_z TY; exact rfl; (first | omega | exact ⟨by omega, by (first | with_reducible assumption | ((with_reducible apply intsF_ne); omega) | assumption)⟩))
    | (apply s_alloc TY; exact rfl; exact rfl; exact rfl)
    | (apply s_store TY; exact rfl; exact rfl; exact rfl; exact rfl; exact rfl; exact rfl))
      exact lv_ret (ret2 rfl (res_bxs (sub := ruleF ⟨a, b, c, d, e⟩) TY rfl rfl rfl rfl rfl) (res_tmp rfl))
    · rw [show rulP s = (rulZ, ruleErr ⟨a, b, c, d, e⟩) by unfold rulP; rw [h]; exact if_neg hE]
      generalize ruleErr ⟨a, b, c, d, e⟩ = E at *
      refine summW Tryz.func81 rfl rfl 39 rfl (by simp) (fun M0 => ?_)
      repeat (first
    | (apply s_a TY; exact rfl)
    | (apply s_f; exact rfl; (first | assumption | omega))
    | apply w_seq
    | apply w_region
    | (apply w_draw (id := 4) 17 rfl (by kernel_rfl))
    | apply s_nil
    | apply t_norm
    | apply t_ret
    | apply w_ret
    | apply w_skip
    | (apply w_condT; exact rfl; exact rfl)
    | (apply w_condF; exact rfl; exact rfl)
    | (apply s_k (HP); exact rfl)
    | (apply s_k (HK); exact rfl)
    | (apply s_z TY; exact rfl; (first | omega | exact ⟨by omega, by (first | with_reducible assumption | ((with_reducible apply intsF_ne); omega) | assumption)⟩))
    | (apply s_alloc TY; exact rfl; exact rfl; exact rfl)
    | (apply s_store TY; exact rfl; exact rfl; exact rfl; exact rfl; exact rfl; exact rfl))
      exact lv_ret (ret2 rfl (res_bxs (sub := ruleF rulZ) TY rfl rfl rfl rfl rfl) (res_tmp rfl))
set_option maxRecDepth 100000 in
set_option maxHeartbeats 3200000 in
theorem rParseHit_s (s : Nm) (hs : s.length ≤ 100000) : Summ Tryz.prog GG 82 [sv s] (.tup [.agg (hitF (hitP s).1), iv (hitP s).2]) := by
  have HP := rparse_s s hs 3 13 (by decide) (by decide)
  cases h : numsC 3 13 s with
  | none =>
    rw [parR_no h] at HP
    rw [show hitP s = (hitZ, 7) by unfold hitP; rw [h]]
    refine summW Tryz.func82 rfl rfl 43 rfl (by simp) (fun M0 => ?_)
    repeat (first
    | (apply s_a TY; exact rfl)
    | apply w_seq
    | apply w_region
    | apply s_nil
    | apply t_norm
    | apply t_ret
    | apply w_ret
    | (apply w_condT; exact rfl; exact rfl)
    | (apply s_k (HP); exact rfl)
    | (apply s_alloc TY; exact rfl; exact rfl; exact rfl)
    | (apply s_store TY; exact rfl; exact rfl; exact rfl; exact rfl; exact rfl; exact rfl))
    exact lv_ret (ret2 rfl (res_bxs (sub := hitF hitZ) TY rfl rfl rfl rfl rfl) (res_tmp rfl))
  | some l =>
    rw [parR_ok h] at HP
    obtain ⟨a, b, c, rfl⟩ := len3 (numsC_len h)
    have g0 : (intsF [a, b, c])[((0 : Int)).toNat * 1]? = some (iv a) := rfl
    have g1 : (intsF [a, b, c])[((1 : Int)).toNat * 1]? = some (iv b) := rfl
    have g2 : (intsF [a, b, c])[((2 : Int)).toNat * 1]? = some (iv c) := rfl
    have hne : intsF [a, b, c] ≠ [] := by simp [intsF]
    have hlen : [a, b, c].length = 3 := rfl
    by_cases h1 : 0 ≤ a ∧ a ≤ 1000000000000
    · by_cases h2 : 1 ≤ b ∧ b ≤ 100
      · by_cases h3 : 1 ≤ c ∧ c ≤ 100
        · rw [show hitP s = (⟨a, b, c⟩, 0) by unfold hitP; rw [h]; exact if_pos ⟨h1, h2, h3⟩]
          have HB1 := bIsTick_T a h1
          have HB2 := rIsNumber_T b h2
          have HB3 := rIsNumber_T c h3
          refine summW Tryz.func82 rfl rfl 43 rfl (by simp) (fun M0 => ?_)
          repeat (first
    | (apply s_a TY; exact rfl)
    | apply w_seq
    | apply w_region
    | (apply w_draw (id := 4) 11 rfl (by kernel_rfl))
    | apply s_nil
    | apply t_norm
    | apply w_ret
    | apply w_skip
    | (apply w_condF; exact rfl; exact rfl)
    | (apply s_k (HP); exact rfl)
    | (apply s_k (HB1); exact rfl)
    | (apply s_k (HB2); exact rfl)
    | (apply s_k (HB3); exact rfl)
    | (apply s_z TY; exact rfl; (first | omega | exact ⟨by omega, by (first | with_reducible assumption | ((with_reducible apply intsF_ne); omega) | assumption)⟩))
    | (apply s_alloc TY; exact rfl; exact rfl; exact rfl)
    | (apply s_store TY; exact rfl; exact rfl; exact rfl; exact rfl; exact rfl; exact rfl))
          exact lv_ret (ret2 rfl (res_bxs (sub := hitF ⟨a, b, c⟩) TY rfl rfl rfl rfl rfl) (res_tmp rfl))
        · rw [show hitP s = (hitZ, 2) by unfold hitP; rw [h]; exact if_neg fun q => h3 q.2.2]
          have HB1 := bIsTick_T a h1
          have HB2 := rIsNumber_T b h2
          have HB3 := rIsNumber_F c h3
          refine summW Tryz.func82 rfl rfl 43 rfl (by simp) (fun M0 => ?_)
          repeat (first
    | (apply s_a TY; exact rfl)
    | apply w_seq
    | apply w_region
    | (apply w_draw (id := 4) 11 rfl (by kernel_rfl))
    | apply s_nil
    | apply t_norm
    | apply t_ret
    | apply w_ret
    | apply w_skip
    | (apply w_condT; exact rfl; exact rfl)
    | (apply w_condF; exact rfl; exact rfl)
    | (apply s_k (HP); exact rfl)
    | (apply s_k (HB1); exact rfl)
    | (apply s_k (HB2); exact rfl)
    | (apply s_k (HB3); exact rfl)
    | (apply s_z TY; exact rfl; (first | omega | exact ⟨by omega, by (first | with_reducible assumption | ((with_reducible apply intsF_ne); omega) | assumption)⟩))
    | (apply s_alloc TY; exact rfl; exact rfl; exact rfl)
    | (apply s_store TY; exact rfl; exact rfl; exact rfl; exact rfl; exact rfl; exact rfl))
          exact lv_ret (ret2 rfl (res_bxs (sub := hitF hitZ) TY rfl rfl rfl rfl rfl) (res_tmp rfl))
      · rw [show hitP s = (hitZ, 2) by unfold hitP; rw [h]; exact if_neg fun q => h2 q.2.1]
        have HB1 := bIsTick_T a h1
        have HB2 := rIsNumber_F b h2
        refine summW Tryz.func82 rfl rfl 43 rfl (by simp) (fun M0 => ?_)
        repeat (first
    | (apply s_a TY; exact rfl)
    | apply w_seq
    | apply w_region
    | (apply w_draw (id := 4) 11 rfl (by kernel_rfl))
    | apply s_nil
    | apply t_norm
    | apply t_ret
    | apply w_ret
    | apply w_skip
    | (apply w_condT; exact rfl; exact rfl)
    | (apply w_condF; exact rfl; exact rfl)
    | (apply s_k (HP); exact rfl)
    | (apply s_k (HB1); exact rfl)
    | (apply s_k (HB2); exact rfl)
    | (apply s_s; exact rfl)
    | (apply s_z TY; exact rfl; (first | omega | exact ⟨by omega, by (first | with_reducible assumption | ((with_reducible apply intsF_ne); omega) | assumption)⟩))
    | (apply s_alloc TY; exact rfl; exact rfl; exact rfl)
    | (apply s_store TY; exact rfl; exact rfl; exact rfl; exact rfl; exact rfl; exact rfl))
        exact lv_ret (ret2 rfl (res_bxs (sub := hitF hitZ) TY rfl rfl rfl rfl rfl) (res_tmp rfl))
    · rw [show hitP s = (hitZ, 2) by unfold hitP; rw [h]; exact if_neg fun q => h1 q.1]
      have HB1 := bIsTick_F a h1
      refine summW Tryz.func82 rfl rfl 43 rfl (by simp) (fun M0 => ?_)
      repeat (first
    | (apply s_a TY; exact rfl)
    | apply w_seq
    | apply w_region
    | (apply w_draw (id := 4) 11 rfl (by kernel_rfl))
    | apply s_nil
    | apply t_norm
    | apply t_ret
    | apply w_ret
    | apply w_skip
    | (apply w_condT; exact rfl; exact rfl)
    | (apply w_condF; exact rfl; exact rfl)
    | (apply s_k (HP); exact rfl)
    | (apply s_k (HB1); exact rfl)
    | (apply s_s; exact rfl)
    | (apply s_z TY; exact rfl; (first | omega | exact ⟨by omega, by (first | with_reducible assumption | ((with_reducible apply intsF_ne); omega) | assumption)⟩))
    | (apply s_alloc TY; exact rfl; exact rfl; exact rfl)
    | (apply s_store TY; exact rfl; exact rfl; exact rfl; exact rfl; exact rfl; exact rfl))
      exact lv_ret (ret2 rfl (res_bxs (sub := hitF hitZ) TY rfl rfl rfl rfl rfl) (res_tmp rfl))
theorem FormatRule_s (x : Rule) (hr : I64 [x.kind, x.count, x.window, x.reach, x.height]) : Summ Tryz.prog GS 17 [.agg (ruleF x)] (sv (wordsS [x.kind, x.count, x.window, x.reach, x.height])) := by
  have HW := twords_s [x.kind, x.count, x.window, x.reach, x.height] (by simp) hr
  refine summW Tryz.func17 rfl rfl 15 rfl (by simp) (fun M0 => ?_)
  repeat (first
    | (apply s_a TY; exact rfl)
    | apply w_seq
    | apply w_region
    | apply s_nil
    | apply t_norm
    | apply w_ret
    | (apply s_k (HW); exact rfl))
  exact lv_ret (ret1 rfl (res_tmp rfl))
theorem FormatHit_s (x : Hit) (hr : I64 [x.tm, x.line, x.sensor]) : Summ Tryz.prog GS 19 [.agg (hitF x)] (sv (wordsS [x.tm, x.line, x.sensor])) := by
  have HW := twords_s [x.tm, x.line, x.sensor] (by simp) hr
  refine summW Tryz.func19 rfl rfl 11 rfl (by simp) (fun M0 => ?_)
  repeat (first
    | (apply s_a TY; exact rfl)
    | apply w_seq
    | apply w_region
    | apply s_nil
    | apply t_norm
    | apply w_ret
    | (apply s_k (HW); exact rfl))
  exact lv_ret (ret1 rfl (res_tmp rfl))
theorem rFormatRule_s (x : Rule) (hr : I64 [x.kind, x.count, x.window, x.reach, x.height]) : Summ Tryz.prog GG 83 [.agg (ruleF x)] (sv (wordsS [x.kind, x.count, x.window, x.reach, x.height])) := by
  have HW := ttext_s [x.kind, x.count, x.window, x.reach, x.height] (by simp) hr
  refine summW Tryz.func83 rfl rfl 15 rfl (by simp) (fun M0 => ?_)
  repeat (first
    | (apply s_a TY; exact rfl)
    | apply w_seq
    | apply w_region
    | apply s_nil
    | apply t_norm
    | apply w_ret
    | (apply s_k (HW); exact rfl))
  exact lv_ret (ret1 rfl (res_tmp rfl))
theorem rFormatHit_s (x : Hit) (hr : I64 [x.tm, x.line, x.sensor]) : Summ Tryz.prog GG 84 [.agg (hitF x)] (sv (wordsS [x.tm, x.line, x.sensor])) := by
  have HW := ttext_s [x.tm, x.line, x.sensor] (by simp) hr
  refine summW Tryz.func84 rfl rfl 11 rfl (by simp) (fun M0 => ?_)
  repeat (first
    | (apply s_a TY; exact rfl)
    | apply w_seq
    | apply w_region
    | apply s_nil
    | apply t_norm
    | apply w_ret
    | (apply s_k (HW); exact rfl))
  exact lv_ret (ret1 rfl (res_tmp rfl))
end Go.Proofs.YtbkdjlahhcofmaaGreatDoor
namespace Go.Proofs.YtbkdjlahhcofmaaGreatDoor
open Go.Lib (itoa decDigits decFrom digitVal join atoiAll)
open Go Go.RowKit Go.Proofs Go.Shelf Go.Ab
theorem stood_rule : Tryz.prog.stoodInHeld 44 = false := by kernel_rfl
theorem fields_rule : Tryz.prog.fieldsOf 44 = #[{ name := "Kind", type := 3, offset := 0, embedded := false, tag := "", pkgPath := "", byteOffset := 0 }, { name := "Count", type := 3, offset := 1, embedded := false, tag := "", pkgPath := "", byteOffset := 8 }, { name := "Window", type := 3, offset := 2, embedded := false, tag := "", pkgPath := "", byteOffset := 16 }, { name := "Reach", type := 3, offset := 3, embedded := false, tag := "", pkgPath := "", byteOffset := 24 }, { name := "Height", type := 3, offset := 4, embedded := false, tag := "", pkgPath := "", byteOffset := 32 }] := by kernel_rfl
theorem equalIn_rule (d : Nat) (a b : Rule) (W : World) : (Op.equalIn (d + 2) 44 (.agg #[.int .i64 a.kind, .int .i64 a.count, .int .i64 a.window, .int .i64 a.reach, .int .i64 a.height]) (.agg #[.int .i64 b.kind, .int .i64 b.count, .int .i64 b.window, .int .i64 b.reach, .int .i64 b.height])).run Tryz.prog W = .ok (decide (a = b)) W := by
  rw [run_equalIn_agg W (d + 1) 44 _ _ (by rw [fields_rule]; exact Tryz.underlying44) stood_rule, fields_rule]
  have e : decide (a = b) = (a.kind == b.kind && a.count == b.count && a.window == b.window && a.reach == b.reach && a.height == b.height) := by
    cases a; cases b; simp [Rule.mk.injEq]
    try simp [Bool.and_assoc]
    try rfl
  rw [e]
  cases h0 : a.kind == b.kind <;> cases h1 : a.count == b.count <;> cases h2 : a.window == b.window <;> cases h3 : a.reach == b.reach <;> cases h4 : a.height == b.height <;> simp [Op.eqFields, part, run_equalIn_int W d 3 _ _ _ _ Tryz.underlying3, h0, h1, h2, h3, h4]
theorem guard_rule : Tryz.prog.eqGuardType Tryz.prog.depth 44 = false := by kernel_rfl
theorem ne_rule {x y : Operand} {a b : Rule} {c : Bool} (h : decide (a = b) = !c) : ∀ w, (do eqGuard .neq 44 x y (.agg #[.int .i64 a.kind, .int .i64 a.count, .int .i64 a.window, .int .i64 a.reach, .int .i64 a.height]) (.agg #[.int .i64 b.kind, .int .i64 b.count, .int .i64 b.window, .int .i64 b.reach, .int .i64 b.height]); binOp .neq 44 (.agg #[.int .i64 a.kind, .int .i64 a.count, .int .i64 a.window, .int .i64 a.reach, .int .i64 a.height]) (.agg #[.int .i64 b.kind, .int .i64 b.count, .int .i64 b.window, .int .i64 b.reach, .int .i64 b.height]) : Sem Value).run Tryz.prog w = .ok (.bool c) w := fun w => by
  have h1 := equalIn_rule 9998 a b w
  rw [h] at h1
  first
  | (simp [eqGuard, run_neq_struct, h1]; done)
  | simp [eqGuard, guard_rule, run_neq_struct, h1]
theorem eq_hit {x y : Operand} {a b : Hit} {c : Bool} (h : decide (a = b) = c) : ∀ w, (do eqGuard .eql 50 x y (.agg #[.int .i64 a.tm, .int .i64 a.line, .int .i64 a.sensor]) (.agg #[.int .i64 b.tm, .int .i64 b.line, .int .i64 b.sensor]); binOp .eql 50 (.agg #[.int .i64 a.tm, .int .i64 a.line, .int .i64 a.sensor]) (.agg #[.int .i64 b.tm, .int .i64 b.line, .int .i64 b.sensor]) : Sem Value).run Tryz.prog w = .ok (.bool c) w := fun w => by
  have h1 := equalIn_hit 9998 a b w
  rw [h] at h1
  first
  | (simp [eqGuard, run_eql_struct, h1]; done)
  | simp [eqGuard, guard_hit, run_eql_struct, h1]
def lR (r : Rule) : List Int := [r.kind, r.count, r.window, r.reach, r.height]
def lH (h : Hit) : List Int := [h.tm, h.line, h.sensor]
theorem rule_bd {r : Rule} (h : ruleErr r = 0) : ∀ z, z ∈ lR r → 0 ≤ z ∧ z.toNat < 10 ^ (6 + 1) := by
  have hb : (0 ≤ r.kind ∧ r.kind ≤ 3) ∧ (1 ≤ r.count ∧ r.count ≤ 40) ∧ (0 ≤ r.window ∧ r.window ≤ 1000000) ∧ (0 ≤ r.reach ∧ r.reach ≤ 1000000) ∧ (0 ≤ r.height ∧ r.height ≤ 1000000) := by
    unfold ruleErr at h
    split at h
    · cases h
    · split at h
      · cases h
      · omega
  intro z hz
  show 0 ≤ z ∧ z.toNat < 10000000
  unfold lR at hz
  simp only [List.mem_cons, List.not_mem_nil, or_false] at hz
  rcases hz with rfl | rfl | rfl | rfl | rfl <;> omega
theorem hit_bd {h : Hit} (hb : hitB h) : ∀ z, z ∈ lH h → 0 ≤ z ∧ z.toNat < 10 ^ (12 + 1) := by
  obtain ⟨h1, h2, h3⟩ := hb
  intro z hz
  show 0 ≤ z ∧ z.toNat < 10000000000000
  unfold lH at hz
  simp only [List.mem_cons, List.not_mem_nil, or_false] at hz
  rcases hz with rfl | rfl | rfl <;> omega
theorem numsC_again {n d : Nat} {l : List Int} (hl : l.length = n) (hne : l ≠ []) (h : ∀ z, z ∈ l → 0 ≤ z ∧ z.toNat < 10 ^ (d + 1)) : numsC n (d + 1) (wordsS l) = some l := by
  have e := words_again hne h
  have e2 := numsO_len e
  rw [numsC_eq (by omega), e]
theorem rulP_again {r : Rule} (h : ruleErr r = 0) : rulP (wordsS (lR r)) = (r, 0) := by
  unfold rulP
  rw [numsC_again (n := 5) (d := 6) rfl (by unfold lR; simp) (rule_bd h)]
  exact if_pos h
theorem hitP_again {h : Hit} (hb : hitB h) : hitP (wordsS (lH h)) = (h, 0) := by
  unfold hitP
  rw [numsC_again (n := 3) (d := 12) rfl (by unfold lH; simp) (hit_bd hb)]
  exact if_pos hb
set_option maxRecDepth 100000 in
set_option maxHeartbeats 12800000 in
theorem TriggerStrings_s (r : Rule) (h : Hit) (t : Nm) (hr : I64 (lR r)) (hh : I64 (lH h)) : Summ Tryz.prog GS 8 [.agg (ruleF r), .agg (hitF h), sv t] (.v (.bool true)) := by
  have HA := up tawake_s
  by_cases ht : t.length ≤ 60
  case neg =>
    have hsz := strSz t
    refine summW Tryz.func8 rfl rfl 123 rfl (by simp) (fun M0 => ?_)
    repeat (first
    | (apply s_a TY; exact rfl)
    | (apply s_t; exact rfl; (first | assumption | omega))
    | apply w_seq
    | apply w_region
    | apply s_nil
    | apply t_norm
    | apply t_ret
    | apply w_ret
    | apply w_skip
    | (apply w_condT; exact rfl; exact rfl)
    | (apply w_condF; exact rfl; exact rfl)
    | (apply s_k (HA); exact rfl))
    exact lv_ret (ret1 rfl (res_tmp rfl))
  have hsz := strSz t
  have HFr := FormatRule_s r hr
  have HFh := FormatHit_s h hh
  have HrFr := up (rFormatRule_s r hr)
  have HrFh := up (rFormatHit_s h hh)
  have hl1 := wordsS_len hr
  have hl2 := wordsS_len hh
  change _ ≤ 22 * 5 at hl1
  change _ ≤ 22 * 3 at hl2
  change Summ _ _ _ _ (sv (wordsS (lR r))) at HFr
  change Summ _ _ _ _ (sv (wordsS (lR r))) at HrFr
  change Summ _ _ _ _ (sv (wordsS (lH h))) at HFh
  change Summ _ _ _ _ (sv (wordsS (lH h))) at HrFh
  obtain ⟨SR, hSR⟩ : ∃ SR, SR = wordsS (lR r) := ⟨_, rfl⟩
  obtain ⟨SH, hSH⟩ : ∃ SH, SH = wordsS (lH h) := ⟨_, rfl⟩
  rw [← hSR] at HFr HrFr hl1
  rw [← hSH] at HFh HrFh hl2
  have HPr := ParseRule_s t (by omega)
  have HPh := ParseHit_s t (by omega)
  have HrPr := up (rParseRule_s t (by omega))
  have HrPh := up (rParseHit_s t (by omega))
  generalize rulP t = q at HPr HrPr
  generalize hitP t = u at HPh HrPh
  have HE := up (RuleErr_s r)
  have hs1 : SR = SR := rfl
  have hs2 : SH = SH := rfl
  have hd1 : decide (q.1 = q.1) = !false := by simp
  have hd2 : decide (u.1 = u.1) = !false := by simp
  have hd3 : decide (r = r) = !false := by simp
  have hdh : decide (h = h) = true := by simp
  by_cases hE : ruleErr r = 0
  · have HP3 := ParseRule_s SR (by omega)
    rw [hSR, rulP_again hE, ← hSR] at HP3
    rw [hE] at HE
    by_cases h1 : 0 ≤ h.tm ∧ h.tm ≤ 1000000000000
    · by_cases h2 : 1 ≤ h.line ∧ h.line ≤ 100
      · by_cases h3 : 1 ≤ h.sensor ∧ h.sensor ≤ 100
        · have HB1 := up (bIsTick_T h.tm h1)
          have HB2 := up (rIsNumber_T h.line h2)
          have HB3 := up (rIsNumber_T h.sensor h3)
          have HP4 := ParseHit_s SH (by omega)
          rw [hSH, hitP_again ⟨h1, h2, h3⟩, ← hSH] at HP4
          refine summW Tryz.func8 rfl rfl 123 rfl (by simp) (fun M0 => ?_)
          repeat (first
    | (apply s_bind; exact rfl; exact rfl; exact rfl; exact rfl; exact rfl; exact rfl; exact nes_f (by assumption))
    | (apply s_bind; exact rfl; exact rfl; exact rfl; exact rfl; exact rfl; exact rfl; exact ne_rule (by assumption))
    | (apply s_bind; exact rfl; exact rfl; exact rfl; exact rfl; exact rfl; exact rfl; exact ne_hit (by assumption))
    | (apply s_bind; exact rfl; exact rfl; exact rfl; exact rfl; exact rfl; exact rfl; exact eq_hit hdh)
    | (apply s_a TY; exact rfl)
    | (apply s_t; exact rfl; (first | assumption | omega))
    | (apply s_f; exact rfl; (first | assumption | omega))
    | apply w_seq
    | apply w_region
    | (apply w_draw (id := 5) 3 rfl (by kernel_rfl))
    | apply s_nil
    | apply t_norm
    | apply w_ret
    | apply w_skip
    | (apply w_condT; exact rfl; exact rfl)
    | (apply w_condF; exact rfl; exact rfl)
    | (apply s_k (HP3); exact rfl)
    | (apply s_k (HB1); exact rfl)
    | (apply s_k (HB2); exact rfl)
    | (apply s_k (HB3); exact rfl)
    | (apply s_k (HP4); exact rfl)
    | (apply s_k (HA); exact rfl)
    | (apply s_k (HFr); exact rfl)
    | (apply s_k (HFh); exact rfl)
    | (apply s_k (HPr); exact rfl)
    | (apply s_k (HPh); exact rfl)
    | (apply s_k (HrPr); exact rfl)
    | (apply s_k (HrPh); exact rfl)
    | (apply s_k (HrFr); exact rfl)
    | (apply s_k (HrFh); exact rfl)
    | (apply s_k (HE); exact rfl)
    | (apply s_alloc TY; exact rfl; exact rfl; exact rfl)
    | (apply s_store TY; exact rfl; exact rfl; exact rfl; exact rfl; exact rfl; exact rfl))
          exact lv_ret (ret1 rfl (res_tmp rfl))
        · have HB1 := up (bIsTick_T h.tm h1)
          have HB2 := up (rIsNumber_T h.line h2)
          have HB3 := up (rIsNumber_F h.sensor h3)
          refine summW Tryz.func8 rfl rfl 123 rfl (by simp) (fun M0 => ?_)
          repeat (first
    | (apply s_bind; exact rfl; exact rfl; exact rfl; exact rfl; exact rfl; exact rfl; exact nes_f (by assumption))
    | (apply s_bind; exact rfl; exact rfl; exact rfl; exact rfl; exact rfl; exact rfl; exact ne_rule (by assumption))
    | (apply s_bind; exact rfl; exact rfl; exact rfl; exact rfl; exact rfl; exact rfl; exact ne_hit (by assumption))
    | (apply s_a TY; exact rfl)
    | (apply s_t; exact rfl; (first | assumption | omega))
    | (apply s_f; exact rfl; (first | assumption | omega))
    | apply w_seq
    | apply w_region
    | (apply w_draw (id := 5) 3 rfl (by kernel_rfl))
    | apply s_nil
    | apply t_norm
    | apply t_ret
    | apply w_ret
    | apply w_skip
    | (apply w_condT; exact rfl; exact rfl)
    | (apply w_condF; exact rfl; exact rfl)
    | (apply s_k (HP3); exact rfl)
    | (apply s_k (HB1); exact rfl)
    | (apply s_k (HB2); exact rfl)
    | (apply s_k (HB3); exact rfl)
    | (apply s_k (HA); exact rfl)
    | (apply s_k (HFr); exact rfl)
    | (apply s_k (HFh); exact rfl)
    | (apply s_k (HPr); exact rfl)
    | (apply s_k (HPh); exact rfl)
    | (apply s_k (HrPr); exact rfl)
    | (apply s_k (HrPh); exact rfl)
    | (apply s_k (HrFr); exact rfl)
    | (apply s_k (HrFh); exact rfl)
    | (apply s_k (HE); exact rfl)
    | (apply s_alloc TY; exact rfl; exact rfl; exact rfl)
    | (apply s_store TY; exact rfl; exact rfl; exact rfl; exact rfl; exact rfl; exact rfl))
          exact lv_ret (ret1 rfl (res_tmp rfl))
      · have HB1 := up (bIsTick_T h.tm h1)
        have HB2 := up (rIsNumber_F h.line h2)
        refine summW Tryz.func8 rfl rfl 123 rfl (by simp) (fun M0 => ?_)
        repeat (first
    | (apply s_bind; exact rfl; exact rfl; exact rfl; exact rfl; exact rfl; exact rfl; exact nes_f (by assumption))
    | (apply s_bind; exact rfl; exact rfl; exact rfl; exact rfl; exact rfl; exact rfl; exact ne_rule (by assumption))
    | (apply s_bind; exact rfl; exact rfl; exact rfl; exact rfl; exact rfl; exact rfl; exact ne_hit (by assumption))
    | (apply s_a TY; exact rfl)
    | (apply s_t; exact rfl; (first | assumption | omega))
    | (apply s_f; exact rfl; (first | assumption | omega))
    | apply w_seq
    | apply w_region
    | (apply w_draw (id := 5) 3 rfl (by kernel_rfl))
    | apply s_nil
    | apply t_norm
    | apply t_ret
    | apply w_ret
    | apply w_skip
    | (apply w_condT; exact rfl; exact rfl)
    | (apply w_condF; exact rfl; exact rfl)
    | (apply s_k (HP3); exact rfl)
    | (apply s_k (HB1); exact rfl)
    | (apply s_k (HB2); exact rfl)
    | (apply s_k (HA); exact rfl)
    | (apply s_k (HFr); exact rfl)
    | (apply s_k (HFh); exact rfl)
    | (apply s_k (HPr); exact rfl)
    | (apply s_k (HPh); exact rfl)
    | (apply s_k (HrPr); exact rfl)
    | (apply s_k (HrPh); exact rfl)
    | (apply s_k (HrFr); exact rfl)
    | (apply s_k (HrFh); exact rfl)
    | (apply s_k (HE); exact rfl)
    | (apply s_s; exact rfl)
    | (apply s_alloc TY; exact rfl; exact rfl; exact rfl)
    | (apply s_store TY; exact rfl; exact rfl; exact rfl; exact rfl; exact rfl; exact rfl))
        exact lv_ret (ret1 rfl (res_tmp rfl))
    · have HB1 := up (bIsTick_F h.tm h1)
      refine summW Tryz.func8 rfl rfl 123 rfl (by simp) (fun M0 => ?_)
      repeat (first
    | (apply s_bind; exact rfl; exact rfl; exact rfl; exact rfl; exact rfl; exact rfl; exact nes_f (by assumption))
    | (apply s_bind; exact rfl; exact rfl; exact rfl; exact rfl; exact rfl; exact rfl; exact ne_rule (by assumption))
    | (apply s_bind; exact rfl; exact rfl; exact rfl; exact rfl; exact rfl; exact rfl; exact ne_hit (by assumption))
    | (apply s_a TY; exact rfl)
    | (apply s_t; exact rfl; (first | assumption | omega))
    | (apply s_f; exact rfl; (first | assumption | omega))
    | apply w_seq
    | apply w_region
    | (apply w_draw (id := 5) 3 rfl (by kernel_rfl))
    | apply s_nil
    | apply t_norm
    | apply t_ret
    | apply w_ret
    | apply w_skip
    | (apply w_condT; exact rfl; exact rfl)
    | (apply w_condF; exact rfl; exact rfl)
    | (apply s_k (HP3); exact rfl)
    | (apply s_k (HB1); exact rfl)
    | (apply s_k (HA); exact rfl)
    | (apply s_k (HFr); exact rfl)
    | (apply s_k (HFh); exact rfl)
    | (apply s_k (HPr); exact rfl)
    | (apply s_k (HPh); exact rfl)
    | (apply s_k (HrPr); exact rfl)
    | (apply s_k (HrPh); exact rfl)
    | (apply s_k (HrFr); exact rfl)
    | (apply s_k (HrFh); exact rfl)
    | (apply s_k (HE); exact rfl)
    | (apply s_s; exact rfl)
    | (apply s_alloc TY; exact rfl; exact rfl; exact rfl)
    | (apply s_store TY; exact rfl; exact rfl; exact rfl; exact rfl; exact rfl; exact rfl))
      exact lv_ret (ret1 rfl (res_tmp rfl))
  · by_cases h1 : 0 ≤ h.tm ∧ h.tm ≤ 1000000000000
    · by_cases h2 : 1 ≤ h.line ∧ h.line ≤ 100
      · by_cases h3 : 1 ≤ h.sensor ∧ h.sensor ≤ 100
        · have HB1 := up (bIsTick_T h.tm h1)
          have HB2 := up (rIsNumber_T h.line h2)
          have HB3 := up (rIsNumber_T h.sensor h3)
          have HP4 := ParseHit_s SH (by omega)
          rw [hSH, hitP_again ⟨h1, h2, h3⟩, ← hSH] at HP4
          refine summW Tryz.func8 rfl rfl 123 rfl (by simp) (fun M0 => ?_)
          repeat (first
    | (apply s_bind; exact rfl; exact rfl; exact rfl; exact rfl; exact rfl; exact rfl; exact nes_f (by assumption))
    | (apply s_bind; exact rfl; exact rfl; exact rfl; exact rfl; exact rfl; exact rfl; exact ne_rule (by assumption))
    | (apply s_bind; exact rfl; exact rfl; exact rfl; exact rfl; exact rfl; exact rfl; exact ne_hit (by assumption))
    | (apply s_bind; exact rfl; exact rfl; exact rfl; exact rfl; exact rfl; exact rfl; exact eq_hit hdh)
    | (apply s_a TY; exact rfl)
    | (apply s_t; exact rfl; (first | assumption | omega))
    | (apply s_f; exact rfl; (first | assumption | omega))
    | apply w_seq
    | apply w_region
    | (apply w_draw (id := 5) 3 rfl (by kernel_rfl))
    | apply s_nil
    | apply t_norm
    | apply w_ret
    | apply w_skip
    | (apply w_condF; exact rfl; exact rfl)
    | (apply s_k (HB1); exact rfl)
    | (apply s_k (HB2); exact rfl)
    | (apply s_k (HB3); exact rfl)
    | (apply s_k (HP4); exact rfl)
    | (apply s_k (HA); exact rfl)
    | (apply s_k (HFr); exact rfl)
    | (apply s_k (HFh); exact rfl)
    | (apply s_k (HPr); exact rfl)
    | (apply s_k (HPh); exact rfl)
    | (apply s_k (HrPr); exact rfl)
    | (apply s_k (HrPh); exact rfl)
    | (apply s_k (HrFr); exact rfl)
    | (apply s_k (HrFh); exact rfl)
    | (apply s_k (HE); exact rfl)
    | (apply s_alloc TY; exact rfl; exact rfl; exact rfl)
    | (apply s_store TY; exact rfl; exact rfl; exact rfl; exact rfl; exact rfl; exact rfl))
          exact lv_ret (ret1 rfl (res_tmp rfl))
        · have HB1 := up (bIsTick_T h.tm h1)
          have HB2 := up (rIsNumber_T h.line h2)
          have HB3 := up (rIsNumber_F h.sensor h3)
          refine summW Tryz.func8 rfl rfl 123 rfl (by simp) (fun M0 => ?_)
          repeat (first
    | (apply s_bind; exact rfl; exact rfl; exact rfl; exact rfl; exact rfl; exact rfl; exact nes_f (by assumption))
    | (apply s_bind; exact rfl; exact rfl; exact rfl; exact rfl; exact rfl; exact rfl; exact ne_rule (by assumption))
    | (apply s_bind; exact rfl; exact rfl; exact rfl; exact rfl; exact rfl; exact rfl; exact ne_hit (by assumption))
    | (apply s_a TY; exact rfl)
    | (apply s_t; exact rfl; (first | assumption | omega))
    | (apply s_f; exact rfl; (first | assumption | omega))
    | apply w_seq
    | apply w_region
    | (apply w_draw (id := 5) 3 rfl (by kernel_rfl))
    | apply s_nil
    | apply t_norm
    | apply t_ret
    | apply w_ret
    | apply w_skip
    | (apply w_condT; exact rfl; exact rfl)
    | (apply w_condF; exact rfl; exact rfl)
    | (apply s_k (HB1); exact rfl)
    | (apply s_k (HB2); exact rfl)
    | (apply s_k (HB3); exact rfl)
    | (apply s_k (HA); exact rfl)
    | (apply s_k (HFr); exact rfl)
    | (apply s_k (HFh); exact rfl)
    | (apply s_k (HPr); exact rfl)
    | (apply s_k (HPh); exact rfl)
    | (apply s_k (HrPr); exact rfl)
    | (apply s_k (HrPh); exact rfl)
    | (apply s_k (HrFr); exact rfl)
    | (apply s_k (HrFh); exact rfl)
    | (apply s_k (HE); exact rfl)
    | (apply s_alloc TY; exact rfl; exact rfl; exact rfl)
    | (apply s_store TY; exact rfl; exact rfl; exact rfl; exact rfl; exact rfl; exact rfl))
          exact lv_ret (ret1 rfl (res_tmp rfl))
      · have HB1 := up (bIsTick_T h.tm h1)
        have HB2 := up (rIsNumber_F h.line h2)
        refine summW Tryz.func8 rfl rfl 123 rfl (by simp) (fun M0 => ?_)
        repeat (first
    | (apply s_bind; exact rfl; exact rfl; exact rfl; exact rfl; exact rfl; exact rfl; exact nes_f (by assumption))
    | (apply s_bind; exact rfl; exact rfl; exact rfl; exact rfl; exact rfl; exact rfl; exact ne_rule (by assumption))
    | (apply s_bind; exact rfl; exact rfl; exact rfl; exact rfl; exact rfl; exact rfl; exact ne_hit (by assumption))
    | (apply s_a TY; exact rfl)
    | (apply s_t; exact rfl; (first | assumption | omega))
    | (apply s_f; exact rfl; (first | assumption | omega))
    | apply w_seq
    | apply w_region
    | (apply w_draw (id := 5) 3 rfl (by kernel_rfl))
    | apply s_nil
    | apply t_norm
    | apply t_ret
    | apply w_ret
    | apply w_skip
    | (apply w_condT; exact rfl; exact rfl)
    | (apply w_condF; exact rfl; exact rfl)
    | (apply s_k (HB1); exact rfl)
    | (apply s_k (HB2); exact rfl)
    | (apply s_k (HA); exact rfl)
    | (apply s_k (HFr); exact rfl)
    | (apply s_k (HFh); exact rfl)
    | (apply s_k (HPr); exact rfl)
    | (apply s_k (HPh); exact rfl)
    | (apply s_k (HrPr); exact rfl)
    | (apply s_k (HrPh); exact rfl)
    | (apply s_k (HrFr); exact rfl)
    | (apply s_k (HrFh); exact rfl)
    | (apply s_k (HE); exact rfl)
    | (apply s_s; exact rfl)
    | (apply s_alloc TY; exact rfl; exact rfl; exact rfl)
    | (apply s_store TY; exact rfl; exact rfl; exact rfl; exact rfl; exact rfl; exact rfl))
        exact lv_ret (ret1 rfl (res_tmp rfl))
    · have HB1 := up (bIsTick_F h.tm h1)
      refine summW Tryz.func8 rfl rfl 123 rfl (by simp) (fun M0 => ?_)
      repeat (first
    | (apply s_bind; exact rfl; exact rfl; exact rfl; exact rfl; exact rfl; exact rfl; exact nes_f (by assumption))
    | (apply s_bind; exact rfl; exact rfl; exact rfl; exact rfl; exact rfl; exact rfl; exact ne_rule (by assumption))
    | (apply s_bind; exact rfl; exact rfl; exact rfl; exact rfl; exact rfl; exact rfl; exact ne_hit (by assumption))
    | (apply s_a TY; exact rfl)
    | (apply s_t; exact rfl; (first | assumption | omega))
    | (apply s_f; exact rfl; (first | assumption | omega))
    | apply w_seq
    | apply w_region
    | (apply w_draw (id := 5) 3 rfl (by kernel_rfl))
    | apply s_nil
    | apply t_norm
    | apply t_ret
    | apply w_ret
    | apply w_skip
    | (apply w_condT; exact rfl; exact rfl)
    | (apply w_condF; exact rfl; exact rfl)
    | (apply s_k (HB1); exact rfl)
    | (apply s_k (HA); exact rfl)
    | (apply s_k (HFr); exact rfl)
    | (apply s_k (HFh); exact rfl)
    | (apply s_k (HPr); exact rfl)
    | (apply s_k (HPh); exact rfl)
    | (apply s_k (HrPr); exact rfl)
    | (apply s_k (HrPh); exact rfl)
    | (apply s_k (HrFr); exact rfl)
    | (apply s_k (HrFh); exact rfl)
    | (apply s_k (HE); exact rfl)
    | (apply s_s; exact rfl)
    | (apply s_alloc TY; exact rfl; exact rfl; exact rfl)
    | (apply s_store TY; exact rfl; exact rfl; exact rfl; exact rfl; exact rfl; exact rfl))
      exact lv_ret (ret1 rfl (res_tmp rfl))
end Go.Proofs.YtbkdjlahhcofmaaGreatDoor
namespace Go.Ab
open Go Go.RowKit
section
variable {P : Program} {w : World}
def InW (z : Int) : Prop := -9223372036854775808 ≤ z ∧ z < 9223372036854775808
theorem wf_inW {z : Int} (h : (Lit.int .i64 z).wf = true) : InW z := by
  have h2 := (Lit.wf_int_iff .i64 z).1 h
  have a : IntKind.i64.min = -9223372036854775808 := rfl
  have b : IntKind.i64.max = 9223372036854775807 := rfl
  rw [a, b] at h2
  unfold InW; omega
theorem opens_intw {T : TypeId} (ht : P.underlying T = some (.int .i64)) : Opens P w T (fun z : { z : Int // InW z } => [.v (.int .i64 z.1)]) := fun H enc base sp hd fuel cs x h => by
  obtain ⟨n, rfl, _, hw⟩ := DataW.trod_int ht h
  exact ⟨⟨n, wf_inW hw⟩, repL_one (RepF.v _), by simp [Value.oneCell']⟩
end
end Go.Ab
namespace Go.Proofs.YtbkdjlahhcofmaaGreatDoor
open Go Go.Ab Go.ChangeShapes Go.WideShapes Go.ChangeAt Go.RowKit
theorem ownKnobT : ownKnob Tryz.prog.godebug = none := by kernel_rfl
theorem laidOutT : laidOutB Tryz.prog = true := by kernel_rfl
theorem trodAll_stays {H : Type} {enc : TypeId × Value → H} {W W' : World} {sp : Nat → Bool} (hb : Below W.heap.size W W') : ∀ {ts : List TypeId} {vs : List Value} {ds : List (DataW H)} {ps : List MemPlace}, (∀ t ∈ ts, Tryz.prog.readableRec t = true ∧ t < Tryz.prog.types.size) → DataW.TrodAll enc Tryz.prog W 0 (fun _ => true) true ts vs ds ps → (∀ p ∈ ps, p.block < W.heap.size) → (∀ p ∈ ps, sp p.block = true) → DataW.TrodAll enc Tryz.prog W' 0 sp true ts vs ds ps
  | [], [], [], _, _, h, _, _ => h
  | t :: ts, v :: vs, d :: ds, ps, ht, ⟨p, q, h1, h2, e⟩, hlt, hsp => by
    have hp : ∀ x ∈ p, x ∈ ps := fun x hx => by rw [e]; exact List.mem_append_left _ hx
    have hq : ∀ x ∈ q, x ∈ ps := fun x hx => by rw [e]; exact List.mem_append_right _ hx
    exact ⟨p, q, WideElems.Trod_stays laidOutT (ht t (by simp)).1 (ht t (by simp)).2 h1 (fun x hx => hb.same (hlt x (hp x hx))) (fun x hx => hsp x (hp x hx)),
      trodAll_stays hb (fun u hu => ht u (by simp [hu])) h2 (fun x hx => hlt x (hq x hx)) (fun x hx => hsp x (hq x hx)), e⟩
theorem post_law {H : Type} {enc : TypeId × Value → H} {f : Func} {s : ChangeSpec} {W W' : World} {args : Array Value} {ds gs : List (DataW H)} {before : List MemPlace}
    (hW : DataW.Whole enc Tryz.prog f.params.toList s.vars false W args.toList ds gs before) (hv : s.vars = []) (hr : f.resultTypes = #[4])
    (ht : ∀ t ∈ f.params.toList, Tryz.prog.readableRec t = true ∧ t < Tryz.prog.types.size)
    (hres : (s.fn H (ds ++ gs)).results = [.lit (.bool true)]) (hargs : (s.fn H (ds ++ gs)).args = ds) (hvs : (s.fn H (ds ++ gs)).vars = [])
    (hb : Below W.heap.size W W') : s.post enc Tryz.prog f false true false false W args (.bool true) W' := by
  have hlt := hW.lt
  have hW0 := hW
  obtain ⟨p, q, h1, h2, e, hz, hn⟩ := hW
  have h2' := h2
  rw [hv] at h2'
  have hq : gs = [] ∧ q = [] := by
    cases gs with
    | nil => exact ⟨rfl, h2'⟩
    | cons g r => exact absurd h2' (by intro h; cases h)
  obtain ⟨rfl, rfl⟩ := hq
  rw [List.append_nil] at e
  subst e
  refine ⟨ds, [], before, [], before, [], hW0, ?_, ?_, ?_, Below.frame hb _, fun h => by cases h⟩
  · rw [hr, hres]; exact trodAll_mk1 (shut_bool Tryz.underlying4 true)
  · rw [hargs]
    exact trodAll_stays hb ht h1 hlt (fun x hx => by simpa using hlt x hx)
  · rw [hv, hvs]; rfl
section
variable {W : World}
theorem opens_w : Opens Tryz.prog W 3 (fun z : { z : Int // InW z } => [iv z.1]) := opens_intw Tryz.underlying3
end
set_option maxRecDepth 100000 in
theorem arg_st {H : Type} {enc : TypeId × Value → H} {W : World} {base : Nat} {T : TypeId} {fs : Array Field} {α : Type} {f : α → List FV} {v : Value} {d : DataW H} {ps : List MemPlace} (h : Opens Tryz.prog W T f) (ht : Tryz.prog.underlying T = some (.struct fs)) (hv : Value.okWide Tryz.prog W .any base T v) (hd : DataW.Trod enc Tryz.prog W 0 (fun _ => true) true T v d ps) : ∃ a, RepF W (fun _ => False) v (.agg (f a)) := by
  obtain ⟨cs, e, _⟩ := okWide_struct ht hv
  exact arg_agg h e hd
end Go.Proofs.YtbkdjlahhcofmaaGreatDoor
