/- Laws on which the proofs of this seat stand. No condition. -/
import Derived.Test.YtenkgipcblfocaaGreatCoinciding4
import Derived.ChangeKeysEq
import Derived.DataShut
import Derived.Test.YtenkgipcblfocaaGreatRows
import Derived.WalkKit
import Derived.ProofKit
import Derived.OpenShut
import Derived.Stop.Joined
namespace Go.Ab
open Go Go.RowKit Go.Shelf Go.Proofs
section
variable {C : Ctx} {N : Nat}
variable {ops : Array Oper} {pr : Bool} {K : St → Prop} {rest : List Oper} {d : Option Tmp} {T0 : TypeId} {pos : String} {af : Array Edge} {gd : Option (Nat × Bool)} {st : St}
end
theorem opens_arr2 {P : Program} {w : World} {T E : TypeId} {s : Nat} {α : Type} {g : α → List FV} (ht : P.underlying T = some (.array 2 E)) (ct : P.cellsOf T = 2 * s) (cE : P.cellsOf E = s) (h : Opens P w E g) : Opens P w T (fun p : α × α => g p.1 ++ g p.2) := fun H enc base sp hd fuel cs x hx => by
  obtain ⟨xs, n, _, _, hlen, hxl, hf⟩ := DataW.trod_array ht hx
  rw [ct] at hlen
  have go : ∀ i, i < 2 → ∃ a : α, RepL w (fun _ => False) ((cs.drop (i * s)).take s) (g a) ∧ ∀ u ∈ (cs.drop (i * s)).take s, u.oneCell' = true := fun i hi => by
    have e := hf i (by omega)
    have hlt : i < xs.length := by omega
    rw [List.getElem?_eq_getElem hlt, cE] at e
    exact h H enc base sp hd n _ _ e
  obtain ⟨a, r0, q0⟩ := go 0 (by decide)
  obtain ⟨b, r1, q1⟩ := go 1 (by decide)
  rw [Nat.zero_mul, List.drop_zero] at r0 q0
  rw [Nat.one_mul] at r1 q1
  have hs : cs = cs.take s ++ (cs.drop s).take s := by
    have e2 : (cs.drop s).take s = cs.drop s := List.take_of_length_le (by rw [List.length_drop]; omega)
    rw [e2, List.take_append_drop]
  refine ⟨(a, b), ?_, fun u hu => ?_⟩
  · rw [hs]; exact RepL.append r0 r1
  · rw [hs] at hu
    rcases List.mem_append.1 hu with hu | hu
    · exact q0 u hu
    · exact q1 u hu
end Go.Ab
namespace Go.Proofs.YtenkgipcblfocaaGreat
open Go Go.RowKit Go.Proofs Go.Shelf Go.Ab
def evE (c : Int) (x : Aev) : Int := firstE [tickE x.tick, celE c x.cell]
def evsE (c : Int) (l : List Aev) : Int := if 20 < l.length then 8 else (eachE l.length fun i => evE c (l.getD i default)).2
theorem evE_iff {c : Int} {x : Aev} : evE c x = 0 ↔ (0 ≤ x.tick ∧ x.tick ≤ 1000000000000) ∧ 0 ≤ x.cell ∧ x.cell ≤ c - 1 := by
  unfold evE tickE celE
  by_cases h1 : 0 ≤ x.tick ∧ x.tick ≤ 1000000000000
  · by_cases h2 : 0 ≤ x.cell ∧ x.cell ≤ c - 1
    · rw [if_pos h1, if_pos h2]; simp [firstE, h1, h2]
    · rw [if_pos h1, if_neg h2]; simp [firstE, h2]
  · rw [if_neg h1]; simp [firstE, h1]
theorem evsE_of {c : Int} {l : List Aev} (h : evsE c l = 0) : l.length ≤ 20 ∧ ∀ i (hi : i < l.length), (0 ≤ l[i].tick ∧ l[i].tick ≤ 1000000000000) ∧ 0 ≤ l[i].cell ∧ l[i].cell ≤ c - 1 := by
  unfold evsE at h
  split at h
  · cases h
  rename_i h2
  rcases eachE_cases l.length (fun i => evE c (l.getD i default)) with ⟨_, hz⟩ | ⟨q, _, _, hne, e⟩
  · refine ⟨by omega, fun i hi => ?_⟩
    have := evE_iff.1 (hz i hi)
    rwa [getD_at hi] at this
  · rw [e] at h; exact absurd h hne
set_option maxRecDepth 100000 in
theorem eventsErr_s (cs : List Cel) (l : List Aev) (hcs : cs.length ≤ 1000) (hl : l.length ≤ 1000000) : Summ Tryz.prog GG 125 [xF cs, .sl l.length (aevsF l)] (iv (evsE cs.length l)) := by
  by_cases h20 : 20 < l.length
  · rw [show evsE cs.length l = 8 from if_pos h20]
    refine summW Tryz.func125 rfl rfl 30 rfl (by simp) (fun M0 => ?_)
    repeat (first
    | (apply s_a TY; exact rfl)
    | (apply s_t; exact rfl; (first | assumption | omega))
    | apply w_seq
    | apply w_region
    | apply s_nil
    | apply t_norm
    | apply t_ret
    | apply w_ret
    | (apply w_condT; exact rfl; exact rfl))
    exact lv_ret (ret1 rfl (res_tmp rfl))
  rw [show evsE cs.length l = (eachE l.length fun i => evE cs.length (l.getD i default)).2 from if_neg h20]
  refine summW Tryz.func125 rfl rfl 30 rfl (by simp) (fun M0 => ?_)
  repeat (first
    | (apply s_a TY; exact rfl)
    | (apply s_f; exact rfl; (first | assumption | omega))
    | apply w_seq
    | apply w_region
    | apply s_nil
    | apply t_norm
    | apply w_block
    | apply w_skip
    | (apply w_condF; exact rfl; exact rfl))
  apply w_loop (fun k : Nat => ⟨(Ab.upd (Ab.upd (Ab.upd (Ab.upd (fun _ => .bot) 0 (.f (xF cs))) 11 (.f (.sl l.length (aevsF l)))) 12 (.f (iv l.length))) 13 (.f (iv (k : Nat)))), (fun _ => none), 0⟩) (fun k => k ≤ l.length ∧ ∀ i, i < k → evE cs.length (l.getD i default) = 0) (fun k => l.length - k) 0 (⟨Nat.zero_le _, fun i h => absurd h (Nat.not_lt_zero i)⟩) (gh_le ⟨le_upd rfl trivial (le_upd rfl trivial (le_upd rfl trivial (le_upd rfl trivial (le_nil _)))), le_h0 _ _⟩)
  intro k ⟨hk, hz⟩
  by_cases hc : k < l.length
  · have hg := getD_at hc
    have HT := tickErr_s l[k].tick
    have HE := cellErr_s cs l[k].cell hcs
    have HF := first2_s (tickE l[k].tick) (celE cs.length l[k].cell)
    by_cases he : firstE [tickE l[k].tick, celE cs.length l[k].cell] = 0
    · repeat (first
    | (apply s_a TY; exact rfl)
    | (apply s_t; exact rfl; (first | assumption | omega))
    | apply w_seq
    | apply w_region
    | (apply w_draw (id := 6) 6 rfl (by kernel_rfl))
    | apply s_nil
    | apply t_norm
    | apply k_norm
    | apply w_block
    | apply w_skip
    | (apply w_condT; exact rfl; exact rfl)
    | (apply w_condF; exact rfl; exact rfl)
    | (apply s_k (HT); exact rfl)
    | (apply s_k (HE); exact rfl)
    | (apply s_k (HF); exact rfl)
    | (apply s_c TY; exact rfl; (first | omega | exact ⟨by omega, by (first | with_reducible assumption | ((with_reducible apply aevsF_ne); omega) | assumption)⟩))
    | (apply s_m TY; exact rfl; (first | with_reducible assumption | ((with_reducible apply aevsF_sub); omega) | exact rfl); exact rfl)
    | (apply s_alloc TY; exact rfl; exact rfl; exact rfl)
    | (apply s_store TY; exact rfl; exact rfl; exact rfl; exact rfl; exact rfl; exact rfl))
      exact ⟨k + 1, ⟨by omega, fun i hi => by
        by_cases e : i = k
        · subst e; rw [hg]; exact he
        · exact hz i (by omega)⟩, by omega, gh_le ⟨le_upd rfl trivial (le_upd rfl trivial (le_upd rfl trivial (le_upd rfl trivial (le_nil _)))), le_h0 _ _⟩⟩
    · have hx : evE cs.length (l.getD k default) = firstE [tickE l[k].tick, celE cs.length l[k].cell] := by rw [hg]; rfl
      rw [eachE_at hc hz (by rw [hx]; exact he), hx]
      repeat (first
    | (apply s_a TY; exact rfl)
    | (apply s_t; exact rfl; (first | assumption | omega))
    | (apply s_f; exact rfl; (first | assumption | omega))
    | apply w_seq
    | apply w_region
    | (apply w_draw (id := 6) 6 rfl (by kernel_rfl))
    | apply s_nil
    | apply t_norm
    | apply t_ret
    | apply k_ret
    | apply w_block
    | apply w_ret
    | apply w_skip
    | (apply w_condT; exact rfl; exact rfl)
    | (apply s_k (HT); exact rfl)
    | (apply s_k (HE); exact rfl)
    | (apply s_k (HF); exact rfl)
    | (apply s_c TY; exact rfl; (first | omega | exact ⟨by omega, by (first | with_reducible assumption | ((with_reducible apply aevsF_ne); omega) | assumption)⟩))
    | (apply s_m TY; exact rfl; (first | with_reducible assumption | ((with_reducible apply aevsF_sub); omega) | exact rfl); exact rfl)
    | (apply s_alloc TY; exact rfl; exact rfl; exact rfl)
    | (apply s_store TY; exact rfl; exact rfl; exact rfl; exact rfl; exact rfl; exact rfl))
      exact lv_ret (ret1 rfl (res_tmp rfl))
  · rw [eachE_ok fun i hi => hz i (by omega)]
    repeat (first
    | (apply s_a TY; exact rfl)
    | (apply s_f; exact rfl; (first | assumption | omega))
    | apply w_seq
    | apply w_region
    | apply s_nil
    | apply t_norm
    | apply t_exit
    | apply k_hit
    | apply w_exit
    | apply w_ret
    | (apply w_condF; exact rfl; exact rfl))
    exact lv_ret (ret1 rfl (res_tmp rfl))
set_option maxRecDepth 100000 in
theorem rEventsErr_s (rs : List Int) (l : List Aev) (o : SkyOk rs) (hl : l.length ≤ 1000000) : Summ Tryz.prog GG 68 [skF rs, .sl l.length (aevsF l)] (iv (evsE (befK rs rs.length) l)) := by
  by_cases h20 : 20 < l.length
  · rw [show evsE (befK rs rs.length) l = 8 from if_pos h20]
    refine summW Tryz.func68 rfl rfl 36 rfl (by simp) (fun M0 => ?_)
    repeat (first
    | (apply s_a TY; exact rfl)
    | (apply s_t; exact rfl; (first | assumption | omega))
    | apply w_seq
    | apply w_region
    | apply s_nil
    | apply t_norm
    | apply t_ret
    | apply w_ret
    | (apply w_condT; exact rfl; exact rfl))
    exact lv_ret (ret1 rfl (res_tmp rfl))
  rw [show evsE (befK rs rs.length) l = (eachE l.length fun i => evE (befK rs rs.length) (l.getD i default)).2 from if_neg h20]
  refine summW Tryz.func68 rfl rfl 36 rfl (by simp) (fun M0 => ?_)
  repeat (first
    | (apply s_a TY; exact rfl)
    | (apply s_f; exact rfl; (first | assumption | omega))
    | apply w_seq
    | apply w_region
    | apply s_nil
    | apply t_norm
    | apply w_block
    | apply w_skip
    | (apply w_condF; exact rfl; exact rfl))
  apply w_loop (fun k : Nat => ⟨(Ab.upd (Ab.upd (Ab.upd (fun _ => .bot) 1 (.f (.sl l.length (aevsF l)))) 2 (.f (.pt [.sl rs.length (intsF rs)] 0))) 5 (.f (iv (k : Nat)))), (fun _ => none), 0⟩) (fun k => k ≤ l.length ∧ ∀ i, i < k → evE (befK rs rs.length) (l.getD i default) = 0) (fun k => l.length - k) 0 (⟨Nat.zero_le _, fun i h => absurd h (Nat.not_lt_zero i)⟩) (gh_le ⟨le_upd rfl trivial (le_upd rfl trivial (le_upd rfl trivial (le_nil _))), le_h0 _ _⟩)
  intro k ⟨hk, hz⟩
  by_cases hc : k < l.length
  · have hg := getD_at hc
    have HT := rTickErr_s l[k].tick
    have HE := rCellErr_s rs l[k].cell o
    have hx : evE (befK rs rs.length) (l.getD k default) = firstE [tickE l[k].tick, celE (befK rs rs.length) l[k].cell] := by rw [hg]; rfl
    by_cases ht : tickE l[k].tick = 0
    · have hx2 : evE (befK rs rs.length) (l.getD k default) = celE (befK rs rs.length) l[k].cell := by rw [hx]; simp [firstE, ht]; intro h; exact h.symm
      by_cases hce : celE (befK rs rs.length) l[k].cell = 0
      · have he : evE (befK rs rs.length) l[k] = 0 := by rw [← hg, hx2]; exact hce
        repeat (first
    | (apply s_a TY; exact rfl)
    | (apply s_t; exact rfl; (first | assumption | omega))
    | apply w_seq
    | apply w_region
    | (apply w_draw (id := 9) 6 rfl (by kernel_rfl))
    | apply s_nil
    | apply t_norm
    | apply k_norm
    | apply w_block
    | apply w_skip
    | (apply w_condT; exact rfl; exact rfl)
    | (apply w_condF; exact rfl; exact rfl)
    | (apply s_k (HT); exact rfl)
    | (apply s_k (HE); exact rfl)
    | (apply s_c TY; exact rfl; (first | omega | exact ⟨by omega, by (first | with_reducible assumption | ((with_reducible apply aevsF_ne); omega) | assumption)⟩))
    | (apply s_l TY; exact rfl; (first | exact rfl | with_reducible assumption | ((with_reducible apply aevsF_f0); omega) | ((with_reducible apply aevsF_f1); omega) | assumption)))
        exact ⟨k + 1, ⟨by omega, fun i hi => by
        by_cases e : i = k
        · subst e; rw [hg]; exact he
        · exact hz i (by omega)⟩, by omega, gh_le ⟨le_upd rfl trivial (le_upd rfl trivial (le_upd rfl trivial (le_nil _))), le_h0 _ _⟩⟩
      · rw [eachE_at hc hz (by rw [hx2]; exact hce), hx2]
        repeat (first
    | (apply s_a TY; exact rfl)
    | (apply s_t; exact rfl; (first | assumption | omega))
    | (apply s_f; exact rfl; (first | assumption | omega))
    | apply w_seq
    | apply w_region
    | (apply w_draw (id := 9) 6 rfl (by kernel_rfl))
    | apply s_nil
    | apply t_norm
    | apply t_ret
    | apply k_ret
    | apply w_block
    | apply w_ret
    | apply w_skip
    | (apply w_condT; exact rfl; exact rfl)
    | (apply w_condF; exact rfl; exact rfl)
    | (apply s_k (HT); exact rfl)
    | (apply s_k (HE); exact rfl)
    | (apply s_c TY; exact rfl; (first | omega | exact ⟨by omega, by (first | with_reducible assumption | ((with_reducible apply aevsF_ne); omega) | assumption)⟩))
    | (apply s_l TY; exact rfl; (first | exact rfl | with_reducible assumption | ((with_reducible apply aevsF_f0); omega) | ((with_reducible apply aevsF_f1); omega) | assumption)))
        exact lv_ret (ret1 rfl (res_tmp rfl))
    · have hx2 : evE (befK rs rs.length) (l.getD k default) = tickE l[k].tick := by rw [hx]; simp [firstE, ht]
      rw [eachE_at hc hz (by rw [hx2]; exact ht), hx2]
      repeat (first
    | (apply s_a TY; exact rfl)
    | (apply s_t; exact rfl; (first | assumption | omega))
    | (apply s_f; exact rfl; (first | assumption | omega))
    | apply w_seq
    | apply w_region
    | apply s_nil
    | apply t_norm
    | apply t_ret
    | apply k_ret
    | apply w_block
    | apply w_ret
    | apply w_skip
    | (apply w_condT; exact rfl; exact rfl)
    | (apply s_k (HT); exact rfl)
    | (apply s_c TY; exact rfl; (first | omega | exact ⟨by omega, by (first | with_reducible assumption | ((with_reducible apply aevsF_ne); omega) | assumption)⟩))
    | (apply s_l TY; exact rfl; (first | exact rfl | with_reducible assumption | ((with_reducible apply aevsF_f0); omega) | ((with_reducible apply aevsF_f1); omega) | assumption)))
      exact lv_ret (ret1 rfl (res_tmp rfl))
  · rw [eachE_ok fun i hi => hz i (by omega)]
    repeat (first
    | (apply s_a TY; exact rfl)
    | (apply s_f; exact rfl; (first | assumption | omega))
    | apply w_seq
    | apply w_region
    | apply s_nil
    | apply t_norm
    | apply t_exit
    | apply k_hit
    | apply w_exit
    | apply w_ret
    | (apply w_condF; exact rfl; exact rfl))
    exact lv_ret (ret1 rfl (res_tmp rfl))
def coin (rs : List Int) (w : Int) (x y : Aev) : Bool := decide (-w ≤ x.tick - y.tick ∧ x.tick - y.tick ≤ w) && (decide (x.cell = y.cell) || nearR rs x.cell y.cell)
def coinQ (rs : List Int) (w : Int) (a b : List Aev) (i k : Nat) : Bool := coin rs w (a.getD i default) (b.getD k default)
theorem coinQ_swap (rs : List Int) (w : Int) (a b : List Aev) : (fun k i => coinQ rs w a b i k) = coinQ rs w b a := by
  funext k i
  unfold coinQ coin
  rw [near_symm]
  congr 1
  · rw [decide_eq_decide]; omega
  · congr 1; rw [decide_eq_decide]; exact eq_comm
theorem prRow {L M : List Pr} (h : L = M) : some (Blk.row 86 2 L.length (prsF L)) = some (Blk.row 86 2 M.length (prsF M)) := by rw [h]
theorem prRow_app {L M : List Pr} {x : Pr} (h : M = L ++ [x]) : some (Blk.row 86 2 (L.length + 1) (prsF L ++ [iv x.1, iv x.2])) = some (Blk.row 86 2 M.length (prsF M)) := by
  rw [h, prsF_snoc, List.length_append]; rfl
theorem Coinciding_sky (rs : List Int) (a b : List Aev) (w : Int) (hl : rs.length ≤ 1000000) (ha : a.length ≤ 1000000) (hb : b.length ≤ 1000000) (h : (skyChk rs).2 ≠ 0) : Summ Tryz.prog GG 66 [skF rs, .sl a.length (aevsF a), .sl b.length (aevsF b), iv w] (.tup [.v (.slice none 0 0), iv (skyChk rs).2]) := by
  have HO := open_err rs hl h
  have H1 := eventsErr_s [] a (by simp) ha
  have H2 := eventsErr_s [] b (by simp) hb
  have HF := first4_0 (skyChk rs).2 (evsE (([] : List Cel).length : Nat) a) (evsE (([] : List Cel).length : Nat) b) (tickE w) h
  refine summW Tryz.func66 rfl rfl 83 rfl (by simp) (fun M0 => ?_)
  repeat (first
    | (apply s_a TY; exact rfl)
    | (apply s_f; exact rfl; (first | assumption | omega))
    | apply w_seq
    | apply w_region
    | apply s_nil
    | apply t_norm
    | apply t_ret
    | apply w_ret
    | (apply w_condT; exact rfl; exact rfl)
    | (apply s_k (HO); exact rfl)
    | (apply s_k (H1); exact rfl)
    | (apply s_k (H2); exact rfl)
    | (apply s_k (HF); exact rfl)
    | (apply s_k (tickErr_s _); exact rfl))
  exact lv_ret (ret2 rfl (res_tmp rfl) (res_tmp rfl))
theorem Coinciding_err (rs : List Int) (a b : List Aev) (w : Int) (o : SkyOk rs) (ha : a.length ≤ 1000000) (hb : b.length ≤ 1000000) (h : firstE [evsE (befK rs rs.length) a, evsE (befK rs rs.length) b, tickE w] ≠ 0) : Summ Tryz.prog GG 66 [skF rs, .sl a.length (aevsF a), .sl b.length (aevsF b), iv w] (.tup [.v (.slice none 0 0), iv (firstE [evsE (befK rs rs.length) a, evsE (befK rs rs.length) b, tickE w])]) := by
  have HO := open_ok rs o
  have hbd := skyC_bd o
  have H1 := eventsErr_s (skyC rs) a (by omega) ha
  have H2 := eventsErr_s (skyC rs) b (by omega) hb
  rw [skyC_len o] at H1 H2
  have HF := first4_s 0 (evsE (befK rs rs.length) a) (evsE (befK rs rs.length) b) (tickE w)
  rw [show firstE [0, evsE (befK rs rs.length) a, evsE (befK rs rs.length) b, tickE w] = firstE [evsE (befK rs rs.length) a, evsE (befK rs rs.length) b, tickE w] by simp [firstE]] at HF
  generalize firstE [evsE (befK rs rs.length) a, evsE (befK rs rs.length) b, tickE w] = E at *
  refine summW Tryz.func66 rfl rfl 83 rfl (by simp) (fun M0 => ?_)
  repeat (first
    | (apply s_a TY; exact rfl)
    | (apply s_f; exact rfl; (first | assumption | omega))
    | apply w_seq
    | apply w_region
    | apply s_nil
    | apply t_norm
    | apply t_ret
    | apply w_ret
    | (apply w_condT; exact rfl; exact rfl)
    | (apply s_k (HO); exact rfl)
    | (apply s_k (H1); exact rfl)
    | (apply s_k (H2); exact rfl)
    | (apply s_k (HF); exact rfl)
    | (apply s_k (tickErr_s _); exact rfl))
  exact lv_ret (ret2 rfl (res_tmp rfl) (res_tmp rfl))
set_option maxRecDepth 100000 in
set_option maxHeartbeats 3200000 in
theorem Coinciding_ok (rs : List Int) (a b : List Aev) (w : Int) (o : SkyOk rs) (h1 : evsE (befK rs rs.length) a = 0) (h2 : evsE (befK rs rs.length) b = 0) (h3 : 0 ≤ w ∧ w ≤ 1000000000000) : Summ Tryz.prog GG 66 [skF rs, .sl a.length (aevsF a), .sl b.length (aevsF b), iv w] (.tup [.sl (allP (coinQ rs w a b) b.length a.length).length (prsF (allP (coinQ rs w a b) b.length a.length)), iv 0]) := by
  have HO := open_ok rs o
  have hbd := skyC_bd o
  have hlc := skyC_len o
  obtain ⟨la, ea⟩ := evsE_of h1
  obtain ⟨lb, eb⟩ := evsE_of h2
  have H1 := eventsErr_s (skyC rs) a (by omega) (by omega)
  have H2 := eventsErr_s (skyC rs) b (by omega) (by omega)
  rw [hlc, h1] at H1
  rw [hlc, h2] at H2
  have HT := tickErr_s w
  rw [tickE_0 h3] at HT
  obtain ⟨iI, hiI, hzI⟩ := sizeB_spec (n := 1) (TY.ok 3) rfl
  refine summW Tryz.func66 rfl rfl 83 rfl (by simp) (fun M0 => ?_)
  repeat (first
    | (apply s_a TY; exact rfl)
    | (apply s_t; exact rfl; (first | assumption | omega))
    | apply w_seq
    | apply w_region
    | apply s_nil
    | apply t_norm
    | apply w_block
    | apply w_skip
    | (apply w_condF; exact rfl; exact rfl)
    | (apply s_k (HO); exact rfl)
    | (apply s_k (H1); exact rfl)
    | (apply s_k (H2); exact rfl)
    | (apply s_k (HT); exact rfl)
    | (apply s_k1 (first4_3 _ _ _ _); exact rfl; (first | assumption | omega | decide)))
  apply w_gh (gh_own 12 86 2 rfl rfl)
  apply w_loop (fun i : Nat => ⟨(Ab.upd (Ab.upd (Ab.upd (Ab.upd (Ab.upd (Ab.upd (Ab.upd (fun _ => .bot) 2 (.f (.sl b.length (aevsF b)))) 3 (.f (iv w))) 10 (.f (xF (skyC rs)))) 12 (.ow 0)) 36 (.f (.sl a.length (aevsF a)))) 37 (.f (iv a.length))) 38 (.f (iv (i : Nat)))), (Ab.upd (fun _ => none) 0 (some (.row 86 2 (allP (coinQ rs w a b) b.length i).length (prsF (allP (coinQ rs w a b) b.length i))))), 1⟩) (fun i => i ≤ a.length) (fun i => a.length - i) 0 (Nat.zero_le _) (gh_le ⟨le_upd rfl trivial (le_upd rfl trivial (le_upd rfl trivial (le_upd rfl rfl (le_upd rfl trivial (le_upd rfl trivial (le_upd rfl trivial (le_nil _))))))), le_hupd rfl trivial (le_h0 _ _)⟩)
  intro i hi
  by_cases hia : i < a.length
  · have hga := getD_at hia
    have hea := ea i hia
    repeat (first
    | (apply s_a TY; exact rfl)
    | (apply s_t; exact rfl; (first | assumption | omega))
    | apply w_seq
    | apply w_region
    | apply s_nil
    | apply t_norm
    | apply w_block
    | apply w_skip
    | (apply w_condT; exact rfl; exact rfl)
    | (apply s_c TY; exact rfl; (first | omega | exact ⟨by omega, by (first | with_reducible assumption | ((with_reducible apply aevsF_ne); omega) | assumption)⟩))
    | (apply s_m TY; exact rfl; (first | with_reducible assumption | ((with_reducible apply aevsF_sub); omega) | exact rfl); exact rfl)
    | (apply s_alloc TY; exact rfl; exact rfl; exact rfl)
    | (apply s_store TY; exact rfl; exact rfl; exact rfl; exact rfl; exact rfl; exact rfl))
    apply w_loop (fun k : Nat => ⟨(Ab.upd (Ab.upd (Ab.upd (Ab.upd (Ab.upd (Ab.upd (Ab.upd (Ab.upd (Ab.upd (Ab.upd (Ab.upd (Ab.upd (fun _ => .bot) 2 (.f (.sl b.length (aevsF b)))) 3 (.f (iv w))) 10 (.f (xF (skyC rs)))) 12 (.ow 0)) 13 (.f (iv ((i : Nat) : Int)))) 14 (.bx 1 0)) 36 (.f (.sl a.length (aevsF a)))) 37 (.f (iv a.length))) 38 (.f (iv ((i : Nat) : Int)))) 43 (.f (.sl b.length (aevsF b)))) 44 (.f (iv b.length))) 45 (.f (iv (k : Nat)))), (Ab.upd (Ab.upd (fun _ => none) 0 (some (.row 86 2 ((allP (coinQ rs w a b) b.length i) ++ rowP (coinQ rs w a b) i k).length (prsF ((allP (coinQ rs w a b) b.length i) ++ rowP (coinQ rs w a b) i k))))) 1 (some (.box [.f (iv a[i].tick), .f (iv a[i].cell)]))), 2⟩) (fun k => k ≤ b.length) (fun k => b.length - k) 0 (Nat.zero_le _) (gh_le ⟨le_upd rfl trivial (le_upd rfl trivial (le_upd rfl trivial (le_upd rfl trivial (le_upd rfl trivial (le_upd rfl trivial (le_upd rfl rfl (le_upd rfl trivial (le_upd rfl rfl (le_upd rfl trivial (le_upd rfl trivial (le_upd rfl trivial (le_nil _)))))))))))), le_hupd rfl (fun y hy => by simp at hy; rcases hy with rfl | rfl <;> trivial) (le_hupd (prRow (List.append_nil _).symm) trivial (le_h0 _ _))⟩)
    intro k hk
    by_cases hkb : k < b.length
    · have hgb := getD_at hkb
      have heb := eb k hkb
      have hlen := allP_len (coinQ rs w a b) b.length i
      have hrl := rowP_len (coinQ rs w a b) i k
      have hmul : i * b.length ≤ 20 * 20 := Nat.mul_le_mul (by omega) (by omega)
      have happ : ((allP (coinQ rs w a b) b.length i) ++ rowP (coinQ rs w a b) i k).length = (allP (coinQ rs w a b) b.length i).length + (rowP (coinQ rs w a b) i k).length := List.length_append
      have HN := near_s (skyC rs) (skyC_cels o) a[i].cell.toNat b[k].cell.toNat (by omega) (by omega)
      rw [near_eq o (by omega) (by omega), show ((a[i].cell.toNat : Nat) : Int) = a[i].cell by omega, show ((b[k].cell.toNat : Nat) : Int) = b[k].cell by omega] at HN
      by_cases hw1 : -w ≤ a[i].tick - b[k].tick ∧ a[i].tick - b[k].tick ≤ w
      · by_cases hcl : a[i].cell = b[k].cell
        · have hv : coinQ rs w a b i k = true := by unfold coinQ coin; rw [hga, hgb, decide_eq_true hw1, decide_eq_true hcl, Bool.true_or, Bool.true_and]
          have hs : rowP (coinQ rs w a b) i (k + 1) = rowP (coinQ rs w a b) i k ++ [((i : Int), (k : Int))] := by rw [rowP, if_pos hv]
          have hrow := prRow_app (L := ((allP (coinQ rs w a b) b.length i) ++ rowP (coinQ rs w a b) i k)) (M := ((allP (coinQ rs w a b) b.length i) ++ rowP (coinQ rs w a b) i (k + 1))) (x := (((i : Nat) : Int), ((k : Nat) : Int))) (by rw [hs, List.append_assoc])
          repeat (first
    | (apply s_append TY; exact rfl; exact rfl; exact rfl; exact rfl; exact rfl; exact rfl; exact rfl; exact rfl; exact rfl; (unfold maxLen; omega); omega)
    | (apply s_buildA TY Tryz.underlying86 hiI hzI; exact rfl; exact rfl; exact rfl; exact rfl; exact rfl)
    | (apply s_a TY; exact rfl)
    | (apply s_t; exact rfl; (first | assumption | omega))
    | apply w_seq
    | apply w_region
    | apply s_nil
    | apply t_norm
    | apply k_norm
    | apply w_block
    | apply w_skip
    | (apply w_condT; exact rfl; exact rfl)
    | (apply s_k1 (within_T _ _ _); exact rfl; (first | assumption | omega | decide))
    | (apply s_s; exact rfl)
    | (apply s_c TY; exact rfl; (first | omega | exact ⟨by omega, by (first | with_reducible assumption | ((with_reducible apply aevsF_ne); omega) | assumption)⟩))
    | (apply s_m TY; exact rfl; (first | with_reducible assumption | ((with_reducible apply aevsF_sub); omega) | exact rfl); exact rfl)
    | (apply s_alloc TY; exact rfl; exact rfl; exact rfl)
    | (apply s_store TY; exact rfl; exact rfl; exact rfl; exact rfl; exact rfl; exact rfl))
          exact ⟨k + 1, by omega, by omega, gh_le ⟨le_upd rfl trivial (le_upd rfl trivial (le_upd rfl trivial (le_upd rfl trivial (le_upd rfl trivial (le_upd rfl trivial (le_upd rfl rfl (le_upd rfl trivial (le_upd rfl rfl (le_upd rfl trivial (le_upd rfl trivial (le_upd rfl trivial (le_nil _)))))))))))), le_hupd rfl (fun y hy => by simp at hy; rcases hy with rfl | rfl <;> trivial) (le_hupd hrow trivial (le_h0 _ _))⟩⟩
        · by_cases hn : nearR rs a[i].cell b[k].cell = true
          · have hv : coinQ rs w a b i k = true := by unfold coinQ coin; rw [hga, hgb, decide_eq_true hw1, hn, Bool.or_true, Bool.true_and]
            rw [hn] at HN
            have hs : rowP (coinQ rs w a b) i (k + 1) = rowP (coinQ rs w a b) i k ++ [((i : Int), (k : Int))] := by rw [rowP, if_pos hv]
            have hrow := prRow_app (L := ((allP (coinQ rs w a b) b.length i) ++ rowP (coinQ rs w a b) i k)) (M := ((allP (coinQ rs w a b) b.length i) ++ rowP (coinQ rs w a b) i (k + 1))) (x := (((i : Nat) : Int), ((k : Nat) : Int))) (by rw [hs, List.append_assoc])
            repeat (first
    | (apply s_append TY; exact rfl; exact rfl; exact rfl; exact rfl; exact rfl; exact rfl; exact rfl; exact rfl; exact rfl; (unfold maxLen; omega); omega)
    | (apply s_buildA TY Tryz.underlying86 hiI hzI; exact rfl; exact rfl; exact rfl; exact rfl; exact rfl)
    | (apply s_a TY; exact rfl)
    | (apply s_t; exact rfl; (first | assumption | omega))
    | (apply s_f; exact rfl; (first | assumption | omega))
    | apply w_seq
    | apply w_region
    | apply s_nil
    | apply t_norm
    | apply k_norm
    | apply w_block
    | apply w_skip
    | (apply w_condT; exact rfl; exact rfl)
    | (apply s_k (HN); exact rfl)
    | (apply s_k1 (within_T _ _ _); exact rfl; (first | assumption | omega | decide))
    | (apply s_c TY; exact rfl; (first | omega | exact ⟨by omega, by (first | with_reducible assumption | ((with_reducible apply aevsF_ne); omega) | assumption)⟩))
    | (apply s_m TY; exact rfl; (first | with_reducible assumption | ((with_reducible apply aevsF_sub); omega) | exact rfl); exact rfl)
    | (apply s_alloc TY; exact rfl; exact rfl; exact rfl)
    | (apply s_store TY; exact rfl; exact rfl; exact rfl; exact rfl; exact rfl; exact rfl))
            exact ⟨k + 1, by omega, by omega, gh_le ⟨le_upd rfl trivial (le_upd rfl trivial (le_upd rfl trivial (le_upd rfl trivial (le_upd rfl trivial (le_upd rfl trivial (le_upd rfl rfl (le_upd rfl trivial (le_upd rfl rfl (le_upd rfl trivial (le_upd rfl trivial (le_upd rfl trivial (le_nil _)))))))))))), le_hupd rfl (fun y hy => by simp at hy; rcases hy with rfl | rfl <;> trivial) (le_hupd hrow trivial (le_h0 _ _))⟩⟩
          · have hn2 : nearR rs a[i].cell b[k].cell = false := by simpa using hn
            have hv : coinQ rs w a b i k = false := by unfold coinQ coin; rw [hga, hgb, decide_eq_true hw1, decide_eq_false hcl, hn2, Bool.or_false, Bool.and_false]
            rw [hn2] at HN
            have hs : rowP (coinQ rs w a b) i (k + 1) = rowP (coinQ rs w a b) i k := by rw [rowP, if_neg (by rw [hv]; decide)]
            have hrow := prRow (L := ((allP (coinQ rs w a b) b.length i) ++ rowP (coinQ rs w a b) i k)) (M := ((allP (coinQ rs w a b) b.length i) ++ rowP (coinQ rs w a b) i (k + 1))) (by rw [hs])
            repeat (first
    | (apply s_a TY; exact rfl)
    | (apply s_t; exact rfl; (first | assumption | omega))
    | (apply s_f; exact rfl; (first | assumption | omega))
    | apply w_seq
    | apply w_region
    | apply s_nil
    | apply t_norm
    | apply k_norm
    | apply w_block
    | apply w_skip
    | (apply w_condT; exact rfl; exact rfl)
    | (apply w_condF; exact rfl; exact rfl)
    | (apply s_k (HN); exact rfl)
    | (apply s_k1 (within_T _ _ _); exact rfl; (first | assumption | omega | decide))
    | (apply s_c TY; exact rfl; (first | omega | exact ⟨by omega, by (first | with_reducible assumption | ((with_reducible apply aevsF_ne); omega) | assumption)⟩))
    | (apply s_m TY; exact rfl; (first | with_reducible assumption | ((with_reducible apply aevsF_sub); omega) | exact rfl); exact rfl)
    | (apply s_alloc TY; exact rfl; exact rfl; exact rfl)
    | (apply s_store TY; exact rfl; exact rfl; exact rfl; exact rfl; exact rfl; exact rfl))
            exact ⟨k + 1, by omega, by omega, gh_le ⟨le_upd rfl trivial (le_upd rfl trivial (le_upd rfl trivial (le_upd rfl trivial (le_upd rfl trivial (le_upd rfl trivial (le_upd rfl rfl (le_upd rfl trivial (le_upd rfl rfl (le_upd rfl trivial (le_upd rfl trivial (le_upd rfl trivial (le_nil _)))))))))))), le_hupd rfl (fun y hy => by simp at hy; rcases hy with rfl | rfl <;> trivial) (le_hupd hrow trivial (le_h0 _ _))⟩⟩
      · have hv : coinQ rs w a b i k = false := by unfold coinQ coin; rw [hga, hgb, decide_eq_false hw1, Bool.false_and]
        have hs : rowP (coinQ rs w a b) i (k + 1) = rowP (coinQ rs w a b) i k := by rw [rowP, if_neg (by rw [hv]; decide)]
        have hrow := prRow (L := ((allP (coinQ rs w a b) b.length i) ++ rowP (coinQ rs w a b) i k)) (M := ((allP (coinQ rs w a b) b.length i) ++ rowP (coinQ rs w a b) i (k + 1))) (by rw [hs])
        repeat (first
    | (apply s_a TY; exact rfl)
    | (apply s_t; exact rfl; (first | assumption | omega))
    | apply w_seq
    | apply w_region
    | apply s_nil
    | apply t_norm
    | apply k_norm
    | apply w_block
    | apply w_skip
    | (apply w_condT; exact rfl; exact rfl)
    | (apply w_condF; exact rfl; exact rfl)
    | (apply s_k1 (within_F _ _ _); exact rfl; (first | assumption | omega | decide))
    | (apply s_s; exact rfl)
    | (apply s_c TY; exact rfl; (first | omega | exact ⟨by omega, by (first | with_reducible assumption | ((with_reducible apply aevsF_ne); omega) | assumption)⟩))
    | (apply s_m TY; exact rfl; (first | with_reducible assumption | ((with_reducible apply aevsF_sub); omega) | exact rfl); exact rfl)
    | (apply s_alloc TY; exact rfl; exact rfl; exact rfl)
    | (apply s_store TY; exact rfl; exact rfl; exact rfl; exact rfl; exact rfl; exact rfl))
        exact ⟨k + 1, by omega, by omega, gh_le ⟨le_upd rfl trivial (le_upd rfl trivial (le_upd rfl trivial (le_upd rfl trivial (le_upd rfl trivial (le_upd rfl trivial (le_upd rfl rfl (le_upd rfl trivial (le_upd rfl rfl (le_upd rfl trivial (le_upd rfl trivial (le_upd rfl trivial (le_nil _)))))))))))), le_hupd rfl (fun y hy => by simp at hy; rcases hy with rfl | rfl <;> trivial) (le_hupd hrow trivial (le_h0 _ _))⟩⟩
    · have hkl : k = b.length := by omega
      subst hkl
      repeat (first
    | (apply s_a TY; exact rfl)
    | (apply s_f; exact rfl; (first | assumption | omega))
    | apply w_seq
    | apply w_region
    | apply s_nil
    | apply t_norm
    | apply t_exit
    | apply k_hit
    | apply k_norm
    | apply w_exit
    | (apply w_condF; exact rfl; exact rfl)
    | (apply s_c TY; exact rfl; (first | omega | exact ⟨by omega, by (first | with_reducible assumption | ((with_reducible apply aevsF_ne); omega) | assumption)⟩)))
      exact ⟨i + 1, by omega, by omega, gh_le ⟨le_upd rfl trivial (le_upd rfl trivial (le_upd rfl trivial (le_upd rfl rfl (le_upd rfl trivial (le_upd rfl trivial (le_upd rfl trivial (le_nil _))))))), le_hupd rfl trivial (le_h0 _ _)⟩⟩
  · have hil : i = a.length := by omega
    subst hil
    repeat (first
    | (apply s_a TY; exact rfl)
    | (apply s_f; exact rfl; (first | assumption | omega))
    | apply w_seq
    | apply w_region
    | apply s_nil
    | apply t_norm
    | apply t_exit
    | apply k_hit
    | apply w_exit
    | apply w_ret
    | (apply w_condF; exact rfl; exact rfl))
    exact lv_ret (ret2 rfl (res_sees rfl (sees_row rfl)) (res_tmp rfl))
end Go.Proofs.YtenkgipcblfocaaGreat
namespace Go.Proofs.YtenkgipcblfocaaGreat
open Go Go.RowKit Go.Proofs Go.Shelf Go.Ab
set_option maxRecDepth 100000 in
theorem Coincide_s (rs : List Int) (o : SkyOk rs) (x y : Aev) (w : Int) (hx : (0 ≤ x.tick ∧ x.tick ≤ 1000000000000) ∧ 0 ≤ x.cell ∧ x.cell ≤ (befK rs rs.length) - 1) (hy : (0 ≤ y.tick ∧ y.tick ≤ 1000000000000) ∧ 0 ≤ y.cell ∧ y.cell ≤ (befK rs rs.length) - 1) : Summ Tryz.prog GG 127 [skF rs, .agg (aevF x), .agg (aevF y), iv w] (bv (coin rs w x y)) := by
  have HN := Near_s rs o x.cell.toNat y.cell.toNat (by omega) (by omega)
  rw [show ((x.cell.toNat : Nat) : Int) = x.cell by omega, show ((y.cell.toNat : Nat) : Int) = y.cell by omega] at HN
  have HS := Size_s (x.tick - y.tick) (by omega)
  by_cases hw1 : -w ≤ x.tick - y.tick ∧ x.tick - y.tick ≤ w
  · by_cases hcl : x.cell = y.cell
    · rw [show coin rs w x y = true by unfold coin; rw [decide_eq_true hw1, decide_eq_true hcl, Bool.true_or, Bool.true_and]]
      have hw2 : max (x.tick - y.tick) (-(x.tick - y.tick)) ≤ w := by omega
      refine summW Tryz.func127 rfl rfl 32 rfl (by simp) (fun M0 => ?_)
      repeat (first
    | (apply s_a TY; exact rfl)
    | (apply s_t; exact rfl; (first | assumption | omega))
    | apply w_seq
    | apply w_region
    | apply s_nil
    | apply t_norm
    | apply w_ret
    | (apply s_k (HS); exact rfl)
    | (apply s_s; exact rfl)
    | (apply s_c TY; exact rfl; omega))
      exact lv_ret (ret1 rfl (res_tmp rfl))
    · by_cases hn : nearR rs x.cell y.cell = true
      · rw [show coin rs w x y = true by unfold coin; rw [decide_eq_true hw1, hn, Bool.or_true, Bool.true_and]]
        rw [hn] at HN
        have hw2 : max (x.tick - y.tick) (-(x.tick - y.tick)) ≤ w := by omega
        refine summW Tryz.func127 rfl rfl 32 rfl (by simp) (fun M0 => ?_)
        repeat (first
    | (apply s_a TY; exact rfl)
    | (apply s_t; exact rfl; (first | assumption | omega))
    | (apply s_f; exact rfl; (first | assumption | omega))
    | apply w_seq
    | apply w_region
    | apply s_nil
    | apply t_norm
    | apply w_ret
    | (apply s_k (HN); exact rfl)
    | (apply s_k (HS); exact rfl)
    | (apply s_c TY; exact rfl; omega))
        exact lv_ret (ret1 rfl (res_tmp rfl))
      · have hn2 : nearR rs x.cell y.cell = false := by simpa using hn
        rw [show coin rs w x y = false by unfold coin; rw [decide_eq_true hw1, decide_eq_false hcl, hn2, Bool.or_false, Bool.and_false]]
        rw [hn2] at HN
        have hw2 : max (x.tick - y.tick) (-(x.tick - y.tick)) ≤ w := by omega
        refine summW Tryz.func127 rfl rfl 32 rfl (by simp) (fun M0 => ?_)
        repeat (first
    | (apply s_a TY; exact rfl)
    | (apply s_t; exact rfl; (first | assumption | omega))
    | (apply s_f; exact rfl; (first | assumption | omega))
    | apply w_seq
    | apply w_region
    | apply s_nil
    | apply t_norm
    | apply w_ret
    | (apply s_k (HN); exact rfl)
    | (apply s_k (HS); exact rfl)
    | (apply s_c TY; exact rfl; omega))
        exact lv_ret (ret1 rfl (res_tmp rfl))
  · rw [show coin rs w x y = false by unfold coin; rw [decide_eq_false hw1, Bool.false_and]]
    have hw2 : ¬ max (x.tick - y.tick) (-(x.tick - y.tick)) ≤ w := by omega
    refine summW Tryz.func127 rfl rfl 32 rfl (by simp) (fun M0 => ?_)
    repeat (first
    | (apply s_a TY; exact rfl)
    | (apply s_f; exact rfl; (first | assumption | omega))
    | apply w_seq
    | apply w_region
    | apply s_nil
    | apply t_norm
    | apply w_ret
    | (apply s_k (HS); exact rfl)
    | (apply s_s; exact rfl)
    | (apply s_c TY; exact rfl; omega))
    exact lv_ret (ret1 rfl (res_tmp rfl))
set_option maxRecDepth 100000 in
set_option maxHeartbeats 3200000 in
theorem rCoinciding_s (rs : List Int) (a b : List Aev) (w : Int) (o : SkyOk rs) (h1 : evsE (befK rs rs.length) a = 0) (h2 : evsE (befK rs rs.length) b = 0) : Summ Tryz.prog GG 70 [skF rs, .sl a.length (aevsF a), .sl b.length (aevsF b), iv w] (.sl (allP (coinQ rs w a b) b.length a.length).length (prsF (allP (coinQ rs w a b) b.length a.length))) := by
  obtain ⟨la, ea⟩ := evsE_of h1
  obtain ⟨lb, eb⟩ := evsE_of h2
  obtain ⟨iI, hiI, hzI⟩ := sizeB_spec (n := 1) (TY.ok 3) rfl
  refine summW Tryz.func70 rfl rfl 42 rfl (by simp) (fun M0 => ?_)
  repeat (first
    | (apply s_a TY; exact rfl)
    | apply w_seq
    | apply w_region
    | apply s_nil
    | apply t_norm
    | apply w_block)
  apply w_gh (gh_own 9 86 2 rfl rfl)
  apply w_loop (fun i : Nat => ⟨(Ab.upd (Ab.upd (Ab.upd (Ab.upd (Ab.upd (Ab.upd (fun _ => .bot) 1 (.f (.sl a.length (aevsF a)))) 2 (.f (.sl b.length (aevsF b)))) 3 (.f (iv w))) 4 (.f (.pt [.sl rs.length (intsF rs)] 0))) 9 (.ow 0)) 10 (.f (iv (i : Nat)))), (Ab.upd (fun _ => none) 0 (some (.row 86 2 (allP (coinQ rs w a b) b.length i).length (prsF (allP (coinQ rs w a b) b.length i))))), 1⟩) (fun i => i ≤ a.length) (fun i => a.length - i) 0 (Nat.zero_le _) (gh_le ⟨le_upd rfl trivial (le_upd rfl rfl (le_upd rfl trivial (le_upd rfl trivial (le_upd rfl trivial (le_upd rfl trivial (le_nil _)))))), le_hupd rfl trivial (le_h0 _ _)⟩)
  intro i hi
  by_cases hia : i < a.length
  · have hga := getD_at hia
    repeat (first
    | (apply s_a TY; exact rfl)
    | (apply s_t; exact rfl; (first | assumption | omega))
    | apply w_seq
    | apply w_region
    | apply s_nil
    | apply t_norm
    | apply w_block
    | apply w_skip
    | (apply w_condT; exact rfl; exact rfl))
    apply w_loop (fun k : Nat => ⟨(Ab.upd (Ab.upd (Ab.upd (Ab.upd (Ab.upd (Ab.upd (Ab.upd (fun _ => .bot) 1 (.f (.sl a.length (aevsF a)))) 2 (.f (.sl b.length (aevsF b)))) 3 (.f (iv w))) 4 (.f (.pt [.sl rs.length (intsF rs)] 0))) 9 (.ow 0)) 10 (.f (iv ((i : Nat) : Int)))) 11 (.f (iv (k : Nat)))), (Ab.upd (fun _ => none) 0 (some (.row 86 2 ((allP (coinQ rs w a b) b.length i) ++ rowP (coinQ rs w a b) i k).length (prsF ((allP (coinQ rs w a b) b.length i) ++ rowP (coinQ rs w a b) i k))))), 1⟩) (fun k => k ≤ b.length) (fun k => b.length - k) 0 (Nat.zero_le _) (gh_le ⟨le_upd rfl trivial (le_upd rfl trivial (le_upd rfl rfl (le_upd rfl trivial (le_upd rfl trivial (le_upd rfl trivial (le_upd rfl trivial (le_nil _))))))), le_hupd (prRow (List.append_nil _).symm) trivial (le_h0 _ _)⟩)
    intro k hk
    by_cases hkb : k < b.length
    · have hgb := getD_at hkb
      have hlen := allP_len (coinQ rs w a b) b.length i
      have hrl := rowP_len (coinQ rs w a b) i k
      have hmul : i * b.length ≤ 20 * 20 := Nat.mul_le_mul (by omega) (by omega)
      have happ : ((allP (coinQ rs w a b) b.length i) ++ rowP (coinQ rs w a b) i k).length = (allP (coinQ rs w a b) b.length i).length + (rowP (coinQ rs w a b) i k).length := List.length_append
      have HC := Coincide_s rs o a[i] b[k] w (ea i hia) (eb k hkb)
      have hq : coinQ rs w a b i k = coin rs w a[i] b[k] := by unfold coinQ; rw [hga, hgb]
      rw [← hq] at HC
      cases hv : coinQ rs w a b i k with
      | true =>
        rw [hv] at HC
        have hs : rowP (coinQ rs w a b) i (k + 1) = rowP (coinQ rs w a b) i k ++ [((i : Int), (k : Int))] := by rw [rowP, if_pos hv]
        have hrow := prRow_app (L := ((allP (coinQ rs w a b) b.length i) ++ rowP (coinQ rs w a b) i k)) (M := ((allP (coinQ rs w a b) b.length i) ++ rowP (coinQ rs w a b) i (k + 1))) (x := (((i : Nat) : Int), ((k : Nat) : Int))) (by rw [hs, List.append_assoc])
        repeat (first
    | (apply s_append TY; exact rfl; exact rfl; exact rfl; exact rfl; exact rfl; exact rfl; exact rfl; exact rfl; exact rfl; (unfold maxLen; omega); omega)
    | (apply s_buildA TY Tryz.underlying86 hiI hzI; exact rfl; exact rfl; exact rfl; exact rfl; exact rfl)
    | (apply s_a TY; exact rfl)
    | (apply s_t; exact rfl; (first | assumption | omega))
    | apply w_seq
    | apply w_region
    | (apply w_draw (id := 8) 10 rfl (by kernel_rfl))
    | apply s_nil
    | apply t_norm
    | apply k_norm
    | apply w_block
    | apply w_skip
    | (apply w_condT; exact rfl; exact rfl)
    | (apply s_k (HC); exact rfl)
    | (apply s_c TY; exact rfl; (first | omega | exact ⟨by omega, by (first | with_reducible assumption | ((with_reducible apply aevsF_ne); omega) | assumption)⟩))
    | (apply s_m TY; exact rfl; (first | with_reducible assumption | ((with_reducible apply aevsF_sub); omega) | exact rfl); exact rfl))
        exact ⟨k + 1, by omega, by omega, gh_le ⟨le_upd rfl trivial (le_upd rfl trivial (le_upd rfl rfl (le_upd rfl trivial (le_upd rfl trivial (le_upd rfl trivial (le_upd rfl trivial (le_nil _))))))), le_hupd hrow trivial (le_h0 _ _)⟩⟩
      | false =>
        rw [hv] at HC
        have hs : rowP (coinQ rs w a b) i (k + 1) = rowP (coinQ rs w a b) i k := by rw [rowP, if_neg (by rw [hv]; decide)]
        have hrow := prRow (L := ((allP (coinQ rs w a b) b.length i) ++ rowP (coinQ rs w a b) i k)) (M := ((allP (coinQ rs w a b) b.length i) ++ rowP (coinQ rs w a b) i (k + 1))) (by rw [hs])
        repeat (first
    | (apply s_a TY; exact rfl)
    | (apply s_t; exact rfl; (first | assumption | omega))
    | apply w_seq
    | apply w_region
    | (apply w_draw (id := 8) 10 rfl (by kernel_rfl))
    | apply s_nil
    | apply t_norm
    | apply k_norm
    | apply w_block
    | apply w_skip
    | (apply w_condT; exact rfl; exact rfl)
    | (apply w_condF; exact rfl; exact rfl)
    | (apply s_k (HC); exact rfl)
    | (apply s_c TY; exact rfl; (first | omega | exact ⟨by omega, by (first | with_reducible assumption | ((with_reducible apply aevsF_ne); omega) | assumption)⟩))
    | (apply s_m TY; exact rfl; (first | with_reducible assumption | ((with_reducible apply aevsF_sub); omega) | exact rfl); exact rfl))
        exact ⟨k + 1, by omega, by omega, gh_le ⟨le_upd rfl trivial (le_upd rfl trivial (le_upd rfl rfl (le_upd rfl trivial (le_upd rfl trivial (le_upd rfl trivial (le_upd rfl trivial (le_nil _))))))), le_hupd hrow trivial (le_h0 _ _)⟩⟩
    · have hkl : k = b.length := by omega
      subst hkl
      repeat (first
    | (apply s_a TY; exact rfl)
    | (apply s_f; exact rfl; (first | assumption | omega))
    | apply w_seq
    | apply w_region
    | apply s_nil
    | apply t_norm
    | apply t_exit
    | apply k_hit
    | apply k_norm
    | apply w_exit
    | (apply w_condF; exact rfl; exact rfl)
    | (apply s_c TY; exact rfl; (first | omega | exact ⟨by omega, by (first | with_reducible assumption | ((with_reducible apply aevsF_ne); omega) | assumption)⟩)))
      exact ⟨i + 1, by omega, by omega, gh_le ⟨le_upd rfl trivial (le_upd rfl rfl (le_upd rfl trivial (le_upd rfl trivial (le_upd rfl trivial (le_upd rfl trivial (le_nil _)))))), le_hupd rfl trivial (le_h0 _ _)⟩⟩
  · have hil : i = a.length := by omega
    subst hil
    repeat (first
    | (apply s_a TY; exact rfl)
    | (apply s_f; exact rfl; (first | assumption | omega))
    | apply w_seq
    | apply w_region
    | apply s_nil
    | apply t_norm
    | apply t_exit
    | apply k_hit
    | apply w_exit
    | apply w_ret
    | (apply w_condF; exact rfl; exact rfl))
    exact lv_ret (ret1 rfl (res_sees rfl (sees_row rfl)))
theorem CopyEvents_s (l : List Aev) (hl : l.length ≤ 1000000) : Summ Tryz.prog GG 67 [.sl l.length (aevsF l)] (.sl l.length (aevsF l)) := by
  have hlen := aevsF_len l
  refine summW Tryz.func67 rfl rfl 6 rfl (by simp) (fun M0 => ?_)
  repeat (first
    | (apply s_bslice_clip TY; exact rfl; exact rfl; exact rfl; exact rfl; exact rfl; exact rfl)
    | (apply s_append_copy TY; exact rfl; exact rfl; exact rfl; exact rfl; exact rfl; exact rfl; exact rfl; assumption; (unfold maxLen; omega); omega)
    | (apply s_a TY; exact rfl)
    | apply w_seq
    | apply w_region
    | apply s_nil
    | apply t_norm
    | apply w_ret)
  exact lv_ret (ret1 rfl (res_tmp rfl))
theorem equalIn_pr (d : Nat) (a b : Pr) (W : World) : (Op.equalIn (d + 2) 86 (.agg #[.int .i64 a.1, .int .i64 a.2]) (.agg #[.int .i64 b.1, .int .i64 b.2])).run Tryz.prog W = .ok (decide (a = b)) W := by
  obtain ⟨iI, hiI, hzI⟩ := sizeB_spec (n := 1) (TY.ok 3) rfl
  have hc : Tryz.prog.cellsOf 3 = 1 := by kernel_rfl
  rw [run_equalIn_array W (d + 1) _ _ Tryz.underlying86 hiI, hc]
  have e : decide (a = b) = (a.1 == b.1 && a.2 == b.2) := by
    obtain ⟨a1, a2⟩ := a
    obtain ⟨b1, b2⟩ := b
    simp [Prod.mk.injEq]
    rfl
  rw [e]
  cases h0 : a.1 == b.1 <;> cases h1 : a.2 == b.2 <;> simp [Op.eqItems, part, List.range_succ, run_equalIn_int W d 3 _ _ _ _ Tryz.underlying3, Tryz.isAgg3, Tryz.sizeOf3, h0, h1]
theorem guard_pr : Tryz.prog.eqGuardType Tryz.prog.depth 86 = false := by kernel_rfl
theorem ne_pr {x y : Operand} {a b : Pr} {c : Bool} (h : decide (a = b) = !c) : ∀ w, (do eqGuard .neq 86 x y (.agg #[.int .i64 a.1, .int .i64 a.2]) (.agg #[.int .i64 b.1, .int .i64 b.2]); binOp .neq 86 (.agg #[.int .i64 a.1, .int .i64 a.2]) (.agg #[.int .i64 b.1, .int .i64 b.2]) : Sem Value).run Tryz.prog w = .ok (.bool c) w := fun w => by
  have h1 := equalIn_pr 9998 a b w
  rw [h] at h1
  first
  | (simp [eqGuard, run_neq_struct, h1]; done)
  | simp [eqGuard, guard_pr, run_neq_struct, h1]
set_option maxRecDepth 100000 in
set_option maxHeartbeats 1600000 in
theorem SamePairs_s (a b : List Pr) (ha : a.length ≤ 1000000) (_hb : b.length ≤ 1000000) : Summ Tryz.prog GG 69 [.sl a.length (prsF a), .sl b.length (prsF b)] (bv (decide (a = b))) := by
  by_cases hl : a.length = b.length
  · refine summW Tryz.func69 rfl rfl 26 rfl (by simp) (fun M0 => ?_)
    repeat (first
    | (apply s_a TY; exact rfl)
    | (apply s_t; exact rfl; (first | assumption | omega))
    | apply w_seq
    | apply w_region
    | apply s_nil
    | apply t_norm
    | apply w_block
    | apply w_skip
    | (apply w_condF; exact rfl; exact rfl))
    apply w_loop (fun k : Nat => ⟨(Ab.upd (Ab.upd (Ab.upd (fun _ => .bot) 0 (.f (.sl a.length (prsF a)))) 1 (.f (.sl b.length (prsF b)))) 5 (.f (iv (k : Nat)))), (fun _ => none), 0⟩) (fun k => k ≤ a.length ∧ a.take k = b.take k) (fun k => a.length - k) 0 (⟨Nat.zero_le _, by simp⟩) (gh_le ⟨le_upd rfl trivial (le_upd rfl trivial (le_upd rfl trivial (le_nil _))), le_h0 _ _⟩)
    intro k ⟨hk, ht⟩
    by_cases hc : k < a.length
    · have hcb : k < b.length := by omega
      by_cases he : a[k] = b[k]
      · have hd : decide (a[k] = b[k]) = !false := by simp [he]
        repeat (first
    | (apply s_bind; exact rfl; exact rfl; exact rfl; exact rfl; exact rfl; exact rfl; exact ne_pr hd)
    | (apply s_a TY; exact rfl)
    | (apply s_t; exact rfl; (first | assumption | omega))
    | apply w_seq
    | apply w_region
    | (apply w_draw (id := 6) 8 rfl (by kernel_rfl))
    | apply s_nil
    | apply t_norm
    | apply k_norm
    | apply w_block
    | apply w_skip
    | (apply w_condT; exact rfl; exact rfl)
    | (apply w_condF; exact rfl; exact rfl)
    | (apply s_c TY; exact rfl; (first | omega | exact ⟨by omega, by (first | with_reducible assumption | ((with_reducible apply prsF_ne); omega) | assumption)⟩))
    | (apply s_m TY; exact rfl; (first | with_reducible assumption | ((with_reducible apply prsF_sub); omega) | exact rfl); exact rfl))
        exact ⟨k + 1, ⟨by omega, take_eq_succ hc hcb ht he⟩, by omega, gh_le ⟨le_upd rfl trivial (le_upd rfl trivial (le_upd rfl trivial (le_nil _))), le_h0 _ _⟩⟩
      · have hd : decide (a[k] = b[k]) = !true := by simp [he]
        have hne : ¬ a = b := fun e => he (by simp [e])
        rw [decide_eq_false hne]
        repeat (first
    | (apply s_bind; exact rfl; exact rfl; exact rfl; exact rfl; exact rfl; exact rfl; exact ne_pr hd)
    | (apply s_a TY; exact rfl)
    | (apply s_t; exact rfl; (first | assumption | omega))
    | apply w_seq
    | apply w_region
    | (apply w_draw (id := 6) 8 rfl (by kernel_rfl))
    | apply s_nil
    | apply t_norm
    | apply t_ret
    | apply k_ret
    | apply w_block
    | apply w_ret
    | apply w_skip
    | (apply w_condT; exact rfl; exact rfl)
    | (apply s_c TY; exact rfl; (first | omega | exact ⟨by omega, by (first | with_reducible assumption | ((with_reducible apply prsF_ne); omega) | assumption)⟩))
    | (apply s_m TY; exact rfl; (first | with_reducible assumption | ((with_reducible apply prsF_sub); omega) | exact rfl); exact rfl))
        exact lv_ret (ret1 rfl (res_tmp rfl))
    · rw [decide_eq_true (take_all_eq hl (by omega) ht)]
      repeat (first
    | (apply s_a TY; exact rfl)
    | (apply s_f; exact rfl; (first | assumption | omega))
    | apply w_seq
    | apply w_region
    | apply s_nil
    | apply t_norm
    | apply t_exit
    | apply k_hit
    | apply w_exit
    | apply w_ret
    | (apply w_condF; exact rfl; exact rfl))
      exact lv_ret (ret1 rfl (res_tmp rfl))
  · have hne : ¬ a = b := fun e => hl (by rw [e])
    rw [decide_eq_false hne]
    refine summW Tryz.func69 rfl rfl 26 rfl (by simp) (fun M0 => ?_)
    repeat (first
    | (apply s_a TY; exact rfl)
    | (apply s_f; exact rfl; (first | assumption | omega))
    | apply w_seq
    | apply w_region
    | apply s_nil
    | apply t_norm
    | apply t_ret
    | apply w_ret
    | (apply w_condT; exact rfl; exact rfl))
    exact lv_ret (ret1 rfl (res_tmp rfl))
set_option maxRecDepth 100000 in
set_option maxHeartbeats 6400000 in
theorem AlertCoinciding_s (rs : List Int) (a b : List Aev) (w : Int) : Summ Tryz.prog GG 11 [skF rs, .agg [.sl a.length (aevsF a), .sl b.length (aevsF b)], iv w] (.v (.bool true)) := by
  have HA := awake_s
  obtain ⟨iE, hiE, hzE⟩ := sizeB_spec (n := 1) (TY.ok 111) rfl
  by_cases h10 : rs.length ≤ 10
  case neg =>
    have HW := few_F rs (by omega)
    refine summW Tryz.func11 rfl rfl 119 rfl (by simp) (fun M0 => ?_)
    repeat (first
    | (apply s_a TY; exact rfl)
    | apply w_seq
    | apply w_region
    | apply s_nil
    | apply t_norm
    | apply t_ret
    | apply w_ret
    | apply w_skip
    | (apply w_condT; exact rfl; exact rfl)
    | (apply w_condF; exact rfl; exact rfl)
    | (apply s_k (HA); exact rfl)
    | (apply s_k (HW); exact rfl)
    | (apply s_s; exact rfl))
    exact lv_ret (ret1 rfl (res_tmp rfl))
  have HW := few_T rs h10
  by_cases ha22 : a.length ≤ 22
  case neg =>
    refine summW Tryz.func11 rfl rfl 119 rfl (by simp) (fun M0 => ?_)
    repeat (first
    | (apply s_idxAw Tryz.underlying112 hiE hzE; exact rfl; exact rfl; exact rfl; exact rfl; decide; decide)
    | (apply s_a TY; exact rfl)
    | (apply s_t; exact rfl; (first | assumption | omega))
    | apply w_seq
    | apply w_region
    | apply s_nil
    | apply t_norm
    | apply t_ret
    | apply w_ret
    | apply w_skip
    | (apply w_condT; exact rfl; exact rfl)
    | (apply w_condF; exact rfl; exact rfl)
    | (apply s_k (HA); exact rfl)
    | (apply s_k (HW); exact rfl)
    | (apply s_s; exact rfl))
    exact lv_ret (ret1 rfl (res_tmp rfl))
  by_cases hb22 : b.length ≤ 22
  case neg =>
    refine summW Tryz.func11 rfl rfl 119 rfl (by simp) (fun M0 => ?_)
    repeat (first
    | (apply s_idxAw Tryz.underlying112 hiE hzE; exact rfl; exact rfl; exact rfl; exact rfl; decide; decide)
    | (apply s_a TY; exact rfl)
    | (apply s_t; exact rfl; (first | assumption | omega))
    | (apply s_f; exact rfl; (first | assumption | omega))
    | apply w_seq
    | apply w_region
    | apply s_nil
    | apply t_norm
    | apply t_ret
    | apply w_ret
    | apply w_skip
    | (apply w_condT; exact rfl; exact rfl)
    | (apply w_condF; exact rfl; exact rfl)
    | (apply s_k (HA); exact rfl)
    | (apply s_k (HW); exact rfl))
    exact lv_ret (ret1 rfl (res_tmp rfl))
  have HCp := CopySky_s rs (by omega)
  have HCa := CopyEvents_s a (by omega)
  have HCb := CopyEvents_s b (by omega)
  have HS := SkyErr_s rs (by omega)
  have HT := rTickErr_s w
  by_cases he : (skyChk rs).2 = 0
  case neg =>
    have H1 := Coinciding_sky rs a b w (by omega) (by omega) (by omega) he
    refine summW Tryz.func11 rfl rfl 119 rfl (by simp) (fun M0 => ?_)
    repeat (first
    | (apply s_idxAw Tryz.underlying112 hiE hzE; exact rfl; exact rfl; exact rfl; exact rfl; decide; decide)
    | (apply s_a TY; exact rfl)
    | (apply s_f; exact rfl; (first | assumption | omega))
    | apply w_seq
    | apply w_region
    | (apply w_draw (id := 5) 14 rfl (by kernel_rfl))
    | apply s_nil
    | apply t_norm
    | apply w_block
    | apply w_skip
    | (apply w_condF; exact rfl; exact rfl)
    | (apply s_k (HA); exact rfl)
    | (apply s_k (HW); exact rfl)
    | (apply s_k (HCp); exact rfl)
    | (apply s_k (HCa); exact rfl)
    | (apply s_k (HCb); exact rfl)
    | (apply s_k (HS); exact rfl)
    | (apply s_k (H1); exact rfl))
    apply w_loop (fun q : Nat × Int => ⟨(Ab.upd (Ab.upd (Ab.upd (Ab.upd (Ab.upd (Ab.upd (Ab.upd (fun _ => .bot) 2 (.f (iv w))) 3 (.f (.pt [.sl rs.length (intsF rs)] 0))) 4 (.f (.pt [.sl a.length (aevsF a), .sl b.length (aevsF b)] 0))) 7 (.f (.v (.slice none 0 0)))) 8 (.f (iv (skyChk rs).2))) 9 (.f (iv q.2))) 10 (.f (iv ((q.1 : Nat) : Int)))), (fun _ => none), 0⟩) (fun q => (q.1 = 0 ∧ q.2 = (skyChk rs).2)) (fun q => 3 - q.1) (0, (skyChk rs).2) (⟨rfl, rfl⟩) (gh_le ⟨le_upd rfl trivial (le_upd rfl trivial (le_upd rfl trivial (le_upd rfl trivial (le_upd rfl trivial (le_upd rfl trivial (le_upd rfl trivial (le_nil _))))))), le_h0 _ _⟩)
    rintro ⟨k, d⟩ (⟨h1, h2⟩)
    change k = 0 at h1
    change d = (skyChk rs).2 at h2
    subst h1
    subst h2
    change W _ _ _ _ (⟨(Ab.upd (Ab.upd (Ab.upd (Ab.upd (Ab.upd (Ab.upd (Ab.upd (fun _ => .bot) 2 (.f (iv w))) 3 (.f (.pt [.sl rs.length (intsF rs)] 0))) 4 (.f (.pt [.sl a.length (aevsF a), .sl b.length (aevsF b)] 0))) 7 (.f (.v (.slice none 0 0)))) 8 (.f (iv (skyChk rs).2))) 9 (.f (iv (skyChk rs).2))) 10 (.f (iv ((0 : Nat) : Int)))), (fun _ => none), 0⟩)
    repeat (first
    | (apply s_a TY; exact rfl)
    | (apply s_t; exact rfl; (first | assumption | omega))
    | (apply s_f; exact rfl; (first | assumption | omega))
    | apply w_seq
    | apply w_region
    | apply s_nil
    | apply t_norm
    | apply t_exit
    | apply t_ret
    | apply k_hit
    | apply w_exit
    | apply w_ret
    | apply w_skip
    | (apply w_condT; exact rfl; exact rfl)
    | (apply w_condF; exact rfl; exact rfl))
    exact lv_ret (ret1 rfl (res_tmp rfl))
  have o := skyOk_of he
  rw [he] at HS
  have HEa := rEventsErr_s rs a o (by omega)
  have HEb := rEventsErr_s rs b o (by omega)
  by_cases ea : evsE (befK rs rs.length) a = 0
  case neg =>
    have hE : firstE [evsE (befK rs rs.length) a, evsE (befK rs rs.length) b, tickE w] = evsE (befK rs rs.length) a := by simp [firstE, ea]
    have H1 := Coinciding_err rs a b w o (by omega) (by omega) (by rw [hE]; exact ea)
    rw [hE] at H1
    refine summW Tryz.func11 rfl rfl 119 rfl (by simp) (fun M0 => ?_)
    repeat (first
    | (apply s_idxAw Tryz.underlying112 hiE hzE; exact rfl; exact rfl; exact rfl; exact rfl; decide; decide)
    | (apply s_a TY; exact rfl)
    | (apply s_f; exact rfl; (first | assumption | omega))
    | apply w_seq
    | apply w_region
    | (apply w_draw (id := 5) 14 rfl (by kernel_rfl))
    | apply s_nil
    | apply t_norm
    | apply w_block
    | apply w_skip
    | (apply w_condF; exact rfl; exact rfl)
    | (apply s_k (HA); exact rfl)
    | (apply s_k (HW); exact rfl)
    | (apply s_k (HCp); exact rfl)
    | (apply s_k (HCa); exact rfl)
    | (apply s_k (HCb); exact rfl)
    | (apply s_k (HS); exact rfl)
    | (apply s_k (H1); exact rfl))
    apply w_loop (fun q : Nat × Int => ⟨(Ab.upd (Ab.upd (Ab.upd (Ab.upd (Ab.upd (Ab.upd (Ab.upd (fun _ => .bot) 2 (.f (iv w))) 3 (.f (.pt [.sl rs.length (intsF rs)] 0))) 4 (.f (.pt [.sl a.length (aevsF a), .sl b.length (aevsF b)] 0))) 7 (.f (.v (.slice none 0 0)))) 8 (.f (iv (evsE (befK rs rs.length) a)))) 9 (.f (iv q.2))) 10 (.f (iv ((q.1 : Nat) : Int)))), (fun _ => none), 0⟩) (fun q => (q.1 = 0 ∧ q.2 = 0) ∨ (q.1 = 1 ∧ q.2 = (evsE (befK rs rs.length) a))) (fun q => 3 - q.1) (0, 0) (.inl ⟨rfl, rfl⟩) (gh_le ⟨le_upd rfl trivial (le_upd rfl trivial (le_upd rfl trivial (le_upd rfl trivial (le_upd rfl trivial (le_upd rfl trivial (le_upd rfl trivial (le_nil _))))))), le_h0 _ _⟩)
    rintro ⟨k, d⟩ (⟨h1, h2⟩ | ⟨h1, h2⟩)
    · change k = 0 at h1
      change d = 0 at h2
      subst h1
      subst h2
      change W _ _ _ _ (⟨(Ab.upd (Ab.upd (Ab.upd (Ab.upd (Ab.upd (Ab.upd (Ab.upd (fun _ => .bot) 2 (.f (iv w))) 3 (.f (.pt [.sl rs.length (intsF rs)] 0))) 4 (.f (.pt [.sl a.length (aevsF a), .sl b.length (aevsF b)] 0))) 7 (.f (.v (.slice none 0 0)))) 8 (.f (iv (evsE (befK rs rs.length) a)))) 9 (.f (iv 0))) 10 (.f (iv ((0 : Nat) : Int)))), (fun _ => none), 0⟩)
      repeat (first
    | (apply s_idxAw Tryz.underlying112 hiE hzE; exact rfl; exact rfl; exact rfl; exact rfl; decide; decide)
    | (apply s_a TY; exact rfl)
    | (apply s_t; exact rfl; (first | assumption | omega))
    | apply w_seq
    | apply w_region
    | (apply w_draw (id := 10) 4 rfl (by kernel_rfl))
    | apply s_nil
    | apply t_norm
    | apply k_norm
    | apply w_block
    | apply w_skip
    | (apply w_condT; exact rfl; exact rfl)
    | (apply s_k (HEa); exact rfl)
    | (apply s_c TY; exact rfl; (first | omega | exact ⟨by omega, by (first | with_reducible assumption | assumption)⟩)))
      exact ⟨(1, (evsE (befK rs rs.length) a)), .inr (⟨rfl, rfl⟩), by show 3 - 1 < 3 - 0; omega, gh_le ⟨le_upd rfl trivial (le_upd rfl trivial (le_upd rfl trivial (le_upd rfl trivial (le_upd rfl trivial (le_upd rfl trivial (le_upd rfl trivial (le_nil _))))))), le_h0 _ _⟩⟩
    · change k = 1 at h1
      change d = (evsE (befK rs rs.length) a) at h2
      subst h1
      subst h2
      change W _ _ _ _ (⟨(Ab.upd (Ab.upd (Ab.upd (Ab.upd (Ab.upd (Ab.upd (Ab.upd (fun _ => .bot) 2 (.f (iv w))) 3 (.f (.pt [.sl rs.length (intsF rs)] 0))) 4 (.f (.pt [.sl a.length (aevsF a), .sl b.length (aevsF b)] 0))) 7 (.f (.v (.slice none 0 0)))) 8 (.f (iv (evsE (befK rs rs.length) a)))) 9 (.f (iv (evsE (befK rs rs.length) a)))) 10 (.f (iv ((1 : Nat) : Int)))), (fun _ => none), 0⟩)
      repeat (first
    | (apply s_a TY; exact rfl)
    | (apply s_t; exact rfl; (first | assumption | omega))
    | (apply s_f; exact rfl; (first | assumption | omega))
    | apply w_seq
    | apply w_region
    | apply s_nil
    | apply t_norm
    | apply t_exit
    | apply t_ret
    | apply k_hit
    | apply w_exit
    | apply w_ret
    | apply w_skip
    | (apply w_condT; exact rfl; exact rfl)
    | (apply w_condF; exact rfl; exact rfl))
      exact lv_ret (ret1 rfl (res_tmp rfl))
  rw [ea] at HEa
  by_cases eb : evsE (befK rs rs.length) b = 0
  case neg =>
    have hE : firstE [evsE (befK rs rs.length) a, evsE (befK rs rs.length) b, tickE w] = evsE (befK rs rs.length) b := by simp [firstE, ea, eb]
    have H1 := Coinciding_err rs a b w o (by omega) (by omega) (by rw [hE]; exact eb)
    rw [hE] at H1
    refine summW Tryz.func11 rfl rfl 119 rfl (by simp) (fun M0 => ?_)
    repeat (first
    | (apply s_idxAw Tryz.underlying112 hiE hzE; exact rfl; exact rfl; exact rfl; exact rfl; decide; decide)
    | (apply s_a TY; exact rfl)
    | (apply s_f; exact rfl; (first | assumption | omega))
    | apply w_seq
    | apply w_region
    | (apply w_draw (id := 5) 14 rfl (by kernel_rfl))
    | apply s_nil
    | apply t_norm
    | apply w_block
    | apply w_skip
    | (apply w_condF; exact rfl; exact rfl)
    | (apply s_k (HA); exact rfl)
    | (apply s_k (HW); exact rfl)
    | (apply s_k (HCp); exact rfl)
    | (apply s_k (HCa); exact rfl)
    | (apply s_k (HCb); exact rfl)
    | (apply s_k (HS); exact rfl)
    | (apply s_k (H1); exact rfl))
    apply w_loop (fun q : Nat × Int => ⟨(Ab.upd (Ab.upd (Ab.upd (Ab.upd (Ab.upd (Ab.upd (Ab.upd (fun _ => .bot) 2 (.f (iv w))) 3 (.f (.pt [.sl rs.length (intsF rs)] 0))) 4 (.f (.pt [.sl a.length (aevsF a), .sl b.length (aevsF b)] 0))) 7 (.f (.v (.slice none 0 0)))) 8 (.f (iv (evsE (befK rs rs.length) b)))) 9 (.f (iv q.2))) 10 (.f (iv ((q.1 : Nat) : Int)))), (fun _ => none), 0⟩) (fun q => (q.1 = 0 ∧ q.2 = 0) ∨ (q.1 = 1 ∧ q.2 = 0) ∨ (q.1 = 2 ∧ q.2 = (evsE (befK rs rs.length) b))) (fun q => 3 - q.1) (0, 0) (.inl ⟨rfl, rfl⟩) (gh_le ⟨le_upd rfl trivial (le_upd rfl trivial (le_upd rfl trivial (le_upd rfl trivial (le_upd rfl trivial (le_upd rfl trivial (le_upd rfl trivial (le_nil _))))))), le_h0 _ _⟩)
    rintro ⟨k, d⟩ (⟨h1, h2⟩ | ⟨h1, h2⟩ | ⟨h1, h2⟩)
    · change k = 0 at h1
      change d = 0 at h2
      subst h1
      subst h2
      change W _ _ _ _ (⟨(Ab.upd (Ab.upd (Ab.upd (Ab.upd (Ab.upd (Ab.upd (Ab.upd (fun _ => .bot) 2 (.f (iv w))) 3 (.f (.pt [.sl rs.length (intsF rs)] 0))) 4 (.f (.pt [.sl a.length (aevsF a), .sl b.length (aevsF b)] 0))) 7 (.f (.v (.slice none 0 0)))) 8 (.f (iv (evsE (befK rs rs.length) b)))) 9 (.f (iv 0))) 10 (.f (iv ((0 : Nat) : Int)))), (fun _ => none), 0⟩)
      repeat (first
    | (apply s_idxAw Tryz.underlying112 hiE hzE; exact rfl; exact rfl; exact rfl; exact rfl; decide; decide)
    | (apply s_a TY; exact rfl)
    | (apply s_t; exact rfl; (first | assumption | omega))
    | apply w_seq
    | apply w_region
    | (apply w_draw (id := 10) 4 rfl (by kernel_rfl))
    | apply s_nil
    | apply t_norm
    | apply k_norm
    | apply w_block
    | apply w_skip
    | (apply w_condT; exact rfl; exact rfl)
    | (apply s_k (HEa); exact rfl)
    | (apply s_c TY; exact rfl; (first | omega | exact ⟨by omega, by (first | with_reducible assumption | assumption)⟩)))
      exact ⟨(1, 0), .inr (.inl ⟨rfl, rfl⟩), by show 3 - 1 < 3 - 0; omega, gh_le ⟨le_upd rfl trivial (le_upd rfl trivial (le_upd rfl trivial (le_upd rfl trivial (le_upd rfl trivial (le_upd rfl trivial (le_upd rfl trivial (le_nil _))))))), le_h0 _ _⟩⟩
    · change k = 1 at h1
      change d = 0 at h2
      subst h1
      subst h2
      change W _ _ _ _ (⟨(Ab.upd (Ab.upd (Ab.upd (Ab.upd (Ab.upd (Ab.upd (Ab.upd (fun _ => .bot) 2 (.f (iv w))) 3 (.f (.pt [.sl rs.length (intsF rs)] 0))) 4 (.f (.pt [.sl a.length (aevsF a), .sl b.length (aevsF b)] 0))) 7 (.f (.v (.slice none 0 0)))) 8 (.f (iv (evsE (befK rs rs.length) b)))) 9 (.f (iv 0))) 10 (.f (iv ((1 : Nat) : Int)))), (fun _ => none), 0⟩)
      repeat (first
    | (apply s_idxAw Tryz.underlying112 hiE hzE; exact rfl; exact rfl; exact rfl; exact rfl; decide; decide)
    | (apply s_a TY; exact rfl)
    | (apply s_t; exact rfl; (first | assumption | omega))
    | apply w_seq
    | apply w_region
    | (apply w_draw (id := 10) 4 rfl (by kernel_rfl))
    | apply s_nil
    | apply t_norm
    | apply k_norm
    | apply w_block
    | apply w_skip
    | (apply w_condT; exact rfl; exact rfl)
    | (apply s_k (HEb); exact rfl)
    | (apply s_c TY; exact rfl; (first | omega | exact ⟨by omega, by (first | with_reducible assumption | assumption)⟩)))
      exact ⟨(2, (evsE (befK rs rs.length) b)), .inr (.inr (⟨rfl, rfl⟩)), by show 3 - 2 < 3 - 1; omega, gh_le ⟨le_upd rfl trivial (le_upd rfl trivial (le_upd rfl trivial (le_upd rfl trivial (le_upd rfl trivial (le_upd rfl trivial (le_upd rfl trivial (le_nil _))))))), le_h0 _ _⟩⟩
    · change k = 2 at h1
      change d = (evsE (befK rs rs.length) b) at h2
      subst h1
      subst h2
      change W _ _ _ _ (⟨(Ab.upd (Ab.upd (Ab.upd (Ab.upd (Ab.upd (Ab.upd (Ab.upd (fun _ => .bot) 2 (.f (iv w))) 3 (.f (.pt [.sl rs.length (intsF rs)] 0))) 4 (.f (.pt [.sl a.length (aevsF a), .sl b.length (aevsF b)] 0))) 7 (.f (.v (.slice none 0 0)))) 8 (.f (iv (evsE (befK rs rs.length) b)))) 9 (.f (iv (evsE (befK rs rs.length) b)))) 10 (.f (iv ((2 : Nat) : Int)))), (fun _ => none), 0⟩)
      repeat (first
    | (apply s_a TY; exact rfl)
    | (apply s_t; exact rfl; (first | assumption | omega))
    | (apply s_f; exact rfl; (first | assumption | omega))
    | apply w_seq
    | apply w_region
    | apply s_nil
    | apply t_norm
    | apply t_exit
    | apply t_ret
    | apply k_hit
    | apply w_exit
    | apply w_ret
    | apply w_skip
    | (apply w_condT; exact rfl; exact rfl)
    | (apply w_condF; exact rfl; exact rfl)
    | (apply s_s; exact rfl))
      exact lv_ret (ret1 rfl (res_tmp rfl))
  rw [eb] at HEb
  by_cases hw : 0 ≤ w ∧ w ≤ 1000000000000
  case neg =>
    have hE : firstE [evsE (befK rs rs.length) a, evsE (befK rs rs.length) b, tickE w] = 2 := by rw [tickE_2 hw]; simp [firstE, ea, eb]
    have H1 := Coinciding_err rs a b w o (by omega) (by omega) (by rw [hE]; decide)
    rw [hE] at H1
    rw [tickE_2 hw] at HT
    refine summW Tryz.func11 rfl rfl 119 rfl (by simp) (fun M0 => ?_)
    repeat (first
    | (apply s_idxAw Tryz.underlying112 hiE hzE; exact rfl; exact rfl; exact rfl; exact rfl; decide; decide)
    | (apply s_a TY; exact rfl)
    | (apply s_f; exact rfl; (first | assumption | omega))
    | apply w_seq
    | apply w_region
    | (apply w_draw (id := 5) 14 rfl (by kernel_rfl))
    | apply s_nil
    | apply t_norm
    | apply w_block
    | apply w_skip
    | (apply w_condF; exact rfl; exact rfl)
    | (apply s_k (HA); exact rfl)
    | (apply s_k (HW); exact rfl)
    | (apply s_k (HCp); exact rfl)
    | (apply s_k (HCa); exact rfl)
    | (apply s_k (HCb); exact rfl)
    | (apply s_k (HS); exact rfl)
    | (apply s_k (H1); exact rfl))
    apply w_loop (fun q : Nat × Int => ⟨(Ab.upd (Ab.upd (Ab.upd (Ab.upd (Ab.upd (Ab.upd (Ab.upd (fun _ => .bot) 2 (.f (iv w))) 3 (.f (.pt [.sl rs.length (intsF rs)] 0))) 4 (.f (.pt [.sl a.length (aevsF a), .sl b.length (aevsF b)] 0))) 7 (.f (.v (.slice none 0 0)))) 8 (.f (iv 2))) 9 (.f (iv q.2))) 10 (.f (iv ((q.1 : Nat) : Int)))), (fun _ => none), 0⟩) (fun q => (q.1 = 0 ∧ q.2 = 0) ∨ (q.1 = 1 ∧ q.2 = 0) ∨ (q.1 = 2 ∧ q.2 = 0)) (fun q => 3 - q.1) (0, 0) (.inl ⟨rfl, rfl⟩) (gh_le ⟨le_upd rfl trivial (le_upd rfl trivial (le_upd rfl trivial (le_upd rfl trivial (le_upd rfl trivial (le_upd rfl trivial (le_upd rfl trivial (le_nil _))))))), le_h0 _ _⟩)
    rintro ⟨k, d⟩ (⟨h1, h2⟩ | ⟨h1, h2⟩ | ⟨h1, h2⟩)
    · change k = 0 at h1
      change d = 0 at h2
      subst h1
      subst h2
      change W _ _ _ _ (⟨(Ab.upd (Ab.upd (Ab.upd (Ab.upd (Ab.upd (Ab.upd (Ab.upd (fun _ => .bot) 2 (.f (iv w))) 3 (.f (.pt [.sl rs.length (intsF rs)] 0))) 4 (.f (.pt [.sl a.length (aevsF a), .sl b.length (aevsF b)] 0))) 7 (.f (.v (.slice none 0 0)))) 8 (.f (iv 2))) 9 (.f (iv 0))) 10 (.f (iv ((0 : Nat) : Int)))), (fun _ => none), 0⟩)
      repeat (first
    | (apply s_idxAw Tryz.underlying112 hiE hzE; exact rfl; exact rfl; exact rfl; exact rfl; decide; decide)
    | (apply s_a TY; exact rfl)
    | (apply s_t; exact rfl; (first | assumption | omega))
    | apply w_seq
    | apply w_region
    | (apply w_draw (id := 10) 4 rfl (by kernel_rfl))
    | apply s_nil
    | apply t_norm
    | apply k_norm
    | apply w_block
    | apply w_skip
    | (apply w_condT; exact rfl; exact rfl)
    | (apply s_k (HEa); exact rfl)
    | (apply s_c TY; exact rfl; (first | omega | exact ⟨by omega, by (first | with_reducible assumption | assumption)⟩)))
      exact ⟨(1, 0), .inr (.inl ⟨rfl, rfl⟩), by show 3 - 1 < 3 - 0; omega, gh_le ⟨le_upd rfl trivial (le_upd rfl trivial (le_upd rfl trivial (le_upd rfl trivial (le_upd rfl trivial (le_upd rfl trivial (le_upd rfl trivial (le_nil _))))))), le_h0 _ _⟩⟩
    · change k = 1 at h1
      change d = 0 at h2
      subst h1
      subst h2
      change W _ _ _ _ (⟨(Ab.upd (Ab.upd (Ab.upd (Ab.upd (Ab.upd (Ab.upd (Ab.upd (fun _ => .bot) 2 (.f (iv w))) 3 (.f (.pt [.sl rs.length (intsF rs)] 0))) 4 (.f (.pt [.sl a.length (aevsF a), .sl b.length (aevsF b)] 0))) 7 (.f (.v (.slice none 0 0)))) 8 (.f (iv 2))) 9 (.f (iv 0))) 10 (.f (iv ((1 : Nat) : Int)))), (fun _ => none), 0⟩)
      repeat (first
    | (apply s_idxAw Tryz.underlying112 hiE hzE; exact rfl; exact rfl; exact rfl; exact rfl; decide; decide)
    | (apply s_a TY; exact rfl)
    | (apply s_t; exact rfl; (first | assumption | omega))
    | apply w_seq
    | apply w_region
    | (apply w_draw (id := 10) 4 rfl (by kernel_rfl))
    | apply s_nil
    | apply t_norm
    | apply k_norm
    | apply w_block
    | apply w_skip
    | (apply w_condT; exact rfl; exact rfl)
    | (apply s_k (HEb); exact rfl)
    | (apply s_c TY; exact rfl; (first | omega | exact ⟨by omega, by (first | with_reducible assumption | assumption)⟩)))
      exact ⟨(2, 0), .inr (.inr (⟨rfl, rfl⟩)), by show 3 - 2 < 3 - 1; omega, gh_le ⟨le_upd rfl trivial (le_upd rfl trivial (le_upd rfl trivial (le_upd rfl trivial (le_upd rfl trivial (le_upd rfl trivial (le_upd rfl trivial (le_nil _))))))), le_h0 _ _⟩⟩
    · change k = 2 at h1
      change d = 0 at h2
      subst h1
      subst h2
      change W _ _ _ _ (⟨(Ab.upd (Ab.upd (Ab.upd (Ab.upd (Ab.upd (Ab.upd (Ab.upd (fun _ => .bot) 2 (.f (iv w))) 3 (.f (.pt [.sl rs.length (intsF rs)] 0))) 4 (.f (.pt [.sl a.length (aevsF a), .sl b.length (aevsF b)] 0))) 7 (.f (.v (.slice none 0 0)))) 8 (.f (iv 2))) 9 (.f (iv 0))) 10 (.f (iv ((2 : Nat) : Int)))), (fun _ => none), 0⟩)
      repeat (first
    | (apply s_a TY; exact rfl)
    | (apply s_t; exact rfl; (first | assumption | omega))
    | (apply s_f; exact rfl; (first | assumption | omega))
    | apply w_seq
    | apply w_region
    | apply s_nil
    | apply t_norm
    | apply t_exit
    | apply t_ret
    | apply k_hit
    | apply w_exit
    | apply w_ret
    | (apply w_condT; exact rfl; exact rfl)
    | (apply w_condF; exact rfl; exact rfl)
    | (apply s_k (HT); exact rfl)
    | (apply s_s; exact rfl))
      exact lv_ret (ret1 rfl (res_tmp rfl))
  rw [tickE_0 hw] at HT
  have H1 := Coinciding_ok rs a b w o ea eb hw
  have H2 := Coinciding_ok rs b a w o eb ea hw
  have HR1 := rCoinciding_s rs a b w o ea eb
  have HR2 := rCoinciding_s rs b a w o eb ea
  have hl1 := allP_len (coinQ rs w a b) b.length a.length
  have hl2 := allP_len (coinQ rs w b a) a.length b.length
  have hm1 : a.length * b.length ≤ 22 * 22 := Nat.mul_le_mul ha22 hb22
  have hm2 : b.length * a.length ≤ 22 * 22 := Nat.mul_le_mul hb22 ha22
  have hsw := allP_swap (coinQ rs w a b) b.length a.length
  rw [coinQ_swap] at hsw
  have HP1 := SamePairs_s (allP (coinQ rs w a b) b.length a.length) (allP (coinQ rs w a b) b.length a.length) (by omega) (by omega)
  have HP2 := SamePairs_s (allP (coinQ rs w b a) a.length b.length) (allP (coinQ rs w b a) a.length b.length) (by omega) (by omega)
  rw [decide_eq_true rfl] at HP1 HP2
  generalize allP (coinQ rs w a b) b.length a.length = L1 at *
  generalize allP (coinQ rs w b a) a.length b.length = L2 at *
  refine summW Tryz.func11 rfl rfl 119 rfl (by simp) (fun M0 => ?_)
  repeat (first
    | (apply s_idxAw Tryz.underlying112 hiE hzE; exact rfl; exact rfl; exact rfl; exact rfl; decide; decide)
    | (apply s_a TY; exact rfl)
    | (apply s_f; exact rfl; (first | assumption | omega))
    | apply w_seq
    | apply w_region
    | (apply w_draw (id := 5) 14 rfl (by kernel_rfl))
    | apply s_nil
    | apply t_norm
    | apply w_block
    | apply w_skip
    | (apply w_condF; exact rfl; exact rfl)
    | (apply s_k (HA); exact rfl)
    | (apply s_k (HW); exact rfl)
    | (apply s_k (HCp); exact rfl)
    | (apply s_k (HCa); exact rfl)
    | (apply s_k (HCb); exact rfl)
    | (apply s_k (HS); exact rfl)
    | (apply s_k (H1); exact rfl))
  apply w_loop (fun q : Nat × Int => ⟨(Ab.upd (Ab.upd (Ab.upd (Ab.upd (Ab.upd (Ab.upd (Ab.upd (fun _ => .bot) 2 (.f (iv w))) 3 (.f (.pt [.sl rs.length (intsF rs)] 0))) 4 (.f (.pt [.sl a.length (aevsF a), .sl b.length (aevsF b)] 0))) 7 (.f (.sl L1.length (prsF L1)))) 8 (.f (iv 0))) 9 (.f (iv q.2))) 10 (.f (iv ((q.1 : Nat) : Int)))), (fun _ => none), 0⟩) (fun q => (q.1 = 0 ∧ q.2 = 0) ∨ (q.1 = 1 ∧ q.2 = 0) ∨ (q.1 = 2 ∧ q.2 = 0)) (fun q => 3 - q.1) (0, 0) (.inl ⟨rfl, rfl⟩) (gh_le ⟨le_upd rfl trivial (le_upd rfl trivial (le_upd rfl trivial (le_upd rfl trivial (le_upd rfl trivial (le_upd rfl trivial (le_upd rfl trivial (le_nil _))))))), le_h0 _ _⟩)
  rintro ⟨k, d⟩ (⟨h1, h2⟩ | ⟨h1, h2⟩ | ⟨h1, h2⟩)
  · change k = 0 at h1
    change d = 0 at h2
    subst h1
    subst h2
    change W _ _ _ _ (⟨(Ab.upd (Ab.upd (Ab.upd (Ab.upd (Ab.upd (Ab.upd (Ab.upd (fun _ => .bot) 2 (.f (iv w))) 3 (.f (.pt [.sl rs.length (intsF rs)] 0))) 4 (.f (.pt [.sl a.length (aevsF a), .sl b.length (aevsF b)] 0))) 7 (.f (.sl L1.length (prsF L1)))) 8 (.f (iv 0))) 9 (.f (iv 0))) 10 (.f (iv ((0 : Nat) : Int)))), (fun _ => none), 0⟩)
    repeat (first
    | (apply s_idxAw Tryz.underlying112 hiE hzE; exact rfl; exact rfl; exact rfl; exact rfl; decide; decide)
    | (apply s_a TY; exact rfl)
    | (apply s_t; exact rfl; (first | assumption | omega))
    | apply w_seq
    | apply w_region
    | (apply w_draw (id := 10) 4 rfl (by kernel_rfl))
    | apply s_nil
    | apply t_norm
    | apply k_norm
    | apply w_block
    | apply w_skip
    | (apply w_condT; exact rfl; exact rfl)
    | (apply s_k (HEa); exact rfl)
    | (apply s_c TY; exact rfl; (first | omega | exact ⟨by omega, by (first | with_reducible assumption | assumption)⟩)))
    exact ⟨(1, 0), .inr (.inl ⟨rfl, rfl⟩), by show 3 - 1 < 3 - 0; omega, gh_le ⟨le_upd rfl trivial (le_upd rfl trivial (le_upd rfl trivial (le_upd rfl trivial (le_upd rfl trivial (le_upd rfl trivial (le_upd rfl trivial (le_nil _))))))), le_h0 _ _⟩⟩
  · change k = 1 at h1
    change d = 0 at h2
    subst h1
    subst h2
    change W _ _ _ _ (⟨(Ab.upd (Ab.upd (Ab.upd (Ab.upd (Ab.upd (Ab.upd (Ab.upd (fun _ => .bot) 2 (.f (iv w))) 3 (.f (.pt [.sl rs.length (intsF rs)] 0))) 4 (.f (.pt [.sl a.length (aevsF a), .sl b.length (aevsF b)] 0))) 7 (.f (.sl L1.length (prsF L1)))) 8 (.f (iv 0))) 9 (.f (iv 0))) 10 (.f (iv ((1 : Nat) : Int)))), (fun _ => none), 0⟩)
    repeat (first
    | (apply s_idxAw Tryz.underlying112 hiE hzE; exact rfl; exact rfl; exact rfl; exact rfl; decide; decide)
    | (apply s_a TY; exact rfl)
    | (apply s_t; exact rfl; (first | assumption | omega))
    | apply w_seq
    | apply w_region
    | (apply w_draw (id := 10) 4 rfl (by kernel_rfl))
    | apply s_nil
    | apply t_norm
    | apply k_norm
    | apply w_block
    | apply w_skip
    | (apply w_condT; exact rfl; exact rfl)
    | (apply s_k (HEb); exact rfl)
    | (apply s_c TY; exact rfl; (first | omega | exact ⟨by omega, by (first | with_reducible assumption | assumption)⟩)))
    exact ⟨(2, 0), .inr (.inr (⟨rfl, rfl⟩)), by show 3 - 2 < 3 - 1; omega, gh_le ⟨le_upd rfl trivial (le_upd rfl trivial (le_upd rfl trivial (le_upd rfl trivial (le_upd rfl trivial (le_upd rfl trivial (le_upd rfl trivial (le_nil _))))))), le_h0 _ _⟩⟩
  · change k = 2 at h1
    change d = 0 at h2
    subst h1
    subst h2
    change W _ _ _ _ (⟨(Ab.upd (Ab.upd (Ab.upd (Ab.upd (Ab.upd (Ab.upd (Ab.upd (fun _ => .bot) 2 (.f (iv w))) 3 (.f (.pt [.sl rs.length (intsF rs)] 0))) 4 (.f (.pt [.sl a.length (aevsF a), .sl b.length (aevsF b)] 0))) 7 (.f (.sl L1.length (prsF L1)))) 8 (.f (iv 0))) 9 (.f (iv 0))) 10 (.f (iv ((2 : Nat) : Int)))), (fun _ => none), 0⟩)
    repeat (first
    | (apply s_idxAw Tryz.underlying112 hiE hzE; exact rfl; exact rfl; exact rfl; exact rfl; decide; decide)
    | (apply s_a TY; exact rfl)
    | (apply s_t; exact rfl; (first | assumption | omega))
    | (apply s_f; exact rfl; (first | assumption | omega))
    | apply w_seq
    | apply w_region
    | (apply w_draw (id := 17) 14 rfl (by kernel_rfl))
    | apply s_nil
    | apply t_norm
    | apply t_exit
    | apply k_hit
    | apply w_exit
    | apply w_ret
    | apply w_skip
    | (apply w_condT; exact rfl; exact rfl)
    | (apply w_condF; exact rfl; exact rfl)
    | (apply s_k (HCp); exact rfl)
    | (apply s_k (HCa); exact rfl)
    | (apply s_k (HCb); exact rfl)
    | (apply s_k (HT); exact rfl)
    | (apply s_k (H2); exact rfl)
    | (apply s_k (HR1); exact rfl)
    | (apply s_k (HR2); exact rfl)
    | (apply s_k (HP1); exact rfl)
    | (apply s_k (HP2); exact rfl)
    | (apply s_s; exact rfl))
    exact lv_ret (ret1 rfl (res_tmp rfl))
end Go.Proofs.YtenkgipcblfocaaGreat
namespace Go.Ab
open Go Go.RowKit
section
variable {P : Program} {w : World}
end
end Go.Ab
namespace Go.Proofs.YtenkgipcblfocaaGreat
open Go Go.Ab Go.ChangeShapes Go.WideShapes Go.ChangeAt Go.RowKit
theorem ownKnobT : ownKnob Tryz.prog.godebug = none := by kernel_rfl
theorem laidOutT : laidOutB Tryz.prog = true := by kernel_rfl
theorem trodAll_stays {H : Type} {enc : TypeId × Value → H} {W W' : World} {sp : Nat → Bool} (hb : Below W.heap.size W W') : ∀ {ts : List TypeId} {vs : List Value} {ds : List (DataW H)} {ps : List MemPlace}, (∀ t ∈ ts, Tryz.prog.readableRec t = true ∧ t < Tryz.prog.types.size) → DataW.TrodAll enc Tryz.prog W 0 (fun _ => true) true ts vs ds ps → (∀ p ∈ ps, p.block < W.heap.size) → (∀ p ∈ ps, sp p.block = true) → DataW.TrodAll enc Tryz.prog W' 0 sp true ts vs ds ps
  | [], [], [], _, _, h, _, _ => h
  | t :: ts, v :: vs, d :: ds, ps, ht, ⟨p, q, h1, h2, e⟩, hlt, hsp => by
    have hp : ∀ x ∈ p, x ∈ ps := fun x hx => by rw [e]; exact List.mem_append_left _ hx
    have hq : ∀ x ∈ q, x ∈ ps := fun x hx => by rw [e]; exact List.mem_append_right _ hx
    exact ⟨p, q, WideElems.Trod_stays laidOutT (ht t (by simp)).1 (ht t (by simp)).2 h1 (fun x hx => hb.same (hlt x (hp x hx))) (fun x hx => hsp x (hp x hx)),
      trodAll_stays hb (fun u hu => ht u (by simp [hu])) h2 (fun x hx => hlt x (hq x hx)) (fun x hx => hsp x (hq x hx)), e⟩
theorem post_law {H : Type} {enc : TypeId × Value → H} {f : Func} {s : ChangeSpec} {W W' : World} {args : Array Value} {ds gs : List (DataW H)} {before : List MemPlace}
    (hW : DataW.Whole enc Tryz.prog f.params.toList s.vars false W args.toList ds gs before) (hv : s.vars = []) (hr : f.resultTypes = #[4])
    (ht : ∀ t ∈ f.params.toList, Tryz.prog.readableRec t = true ∧ t < Tryz.prog.types.size)
    (hres : (s.fn H (ds ++ gs)).results = [.lit (.bool true)]) (hargs : (s.fn H (ds ++ gs)).args = ds) (hvs : (s.fn H (ds ++ gs)).vars = [])
    (hb : Below W.heap.size W W') : s.post enc Tryz.prog f false true false false W args (.bool true) W' := by
  have hlt := hW.lt
  have hW0 := hW
  obtain ⟨p, q, h1, h2, e, hz, hn⟩ := hW
  have h2' := h2
  rw [hv] at h2'
  have hq : gs = [] ∧ q = [] := by
    cases gs with
    | nil => exact ⟨rfl, h2'⟩
    | cons g r => exact absurd h2' (by intro h; cases h)
  obtain ⟨rfl, rfl⟩ := hq
  rw [List.append_nil] at e
  subst e
  refine ⟨ds, [], before, [], before, [], hW0, ?_, ?_, ?_, Below.frame hb _, fun h => by cases h⟩
  · rw [hr, hres]; exact trodAll_mk1 (shut_bool Tryz.underlying4 true)
  · rw [hargs]
    exact trodAll_stays hb ht h1 hlt (fun x hx => by simpa using hlt x hx)
  · rw [hv, hvs]; rfl
theorem sq_map {α : Type} (f : α → FV) : ∀ l : List α, l.flatMap (fun x => [f x]) = l.map f
  | [] => rfl
  | x :: l => by rw [List.flatMap_cons, sq_map f l]; rfl
section
variable {W : World}
theorem opens_i : Opens Tryz.prog W 3 (fun z : Int => [iv z]) := opens_int Tryz.underlying3
theorem opens_ints : Opens Tryz.prog W 34 (fun l : List Int => [.sl l.length (intsF l)]) := (opens_sl (s := 1) Tryz.underlying34 (by kernel_rfl) (by decide) opens_i).map id fun l => by rw [sq_map]; rfl
theorem opens_sky : Opens Tryz.prog W 36 (fun l : List Int => [.sl l.length (intsF l)]) := (opens_st Tryz.underlying36 (by kernel_rfl) (ofs_cons (s := 1) (by kernel_rfl) rfl opens_ints (ofs_nil))).map (fun p => p.1) fun _ => rfl
theorem opens_aev : Opens Tryz.prog W 199 aevF := (opens_st Tryz.underlying199 (by kernel_rfl) (ofs_cons (s := 1) (by kernel_rfl) rfl opens_i (ofs_cons (s := 1) (by kernel_rfl) rfl opens_i (ofs_nil)))).map (fun p => ⟨p.1, p.2.1⟩) fun _ => rfl
theorem opens_aevs : Opens Tryz.prog W 111 (fun l : List Aev => [.sl l.length (aevsF l)]) := opens_sl (s := 2) Tryz.underlying111 (by kernel_rfl) (by decide) opens_aev
theorem opens_aev2 : Opens Tryz.prog W 112 (fun p : List Aev × List Aev => [.sl p.1.length (aevsF p.1)] ++ [.sl p.2.length (aevsF p.2)]) := opens_arr2 (s := 1) Tryz.underlying112 (by kernel_rfl) (by kernel_rfl) opens_aevs
end
set_option maxRecDepth 100000 in
theorem arg_st {H : Type} {enc : TypeId × Value → H} {W : World} {base : Nat} {T : TypeId} {fs : Array Field} {α : Type} {f : α → List FV} {v : Value} {d : DataW H} {ps : List MemPlace} (h : Opens Tryz.prog W T f) (ht : Tryz.prog.underlying T = some (.struct fs)) (hv : Value.okWide Tryz.prog W .any base T v) (hd : DataW.Trod enc Tryz.prog W 0 (fun _ => true) true T v d ps) : ∃ a, RepF W (fun _ => False) v (.agg (f a)) := by
  obtain ⟨cs, e, _⟩ := okWide_struct ht hv
  exact arg_agg h e hd
set_option maxRecDepth 100000 in
theorem arg_i {H : Type} {enc : TypeId × Value → H} {W : World} {base : Nat} {v : Value} {d : DataW H} {ps : List MemPlace} (hv : Value.okWide Tryz.prog W .any base 3 v) (hd : DataW.Trod enc Tryz.prog W 0 (fun _ => true) true 3 v d ps) : ∃ z : Int, RepF W (fun _ => False) v (iv z) ∧ (Lit.int .i64 z).wf = true := by
  obtain ⟨n, rfl, _, _, w⟩ := open_int Tryz.underlying3 hv hd
  exact ⟨n, RepF.v _, w⟩
theorem law_calls {f : Nat} {xs : List FV} (S : Summ Tryz.prog GG f xs (.v (.bool true))) {W : World} {args : Array Value} (R : RepL W (fun _ => False) args.toList xs) : Calls Tryz.prog f args W fun e W' => e = .returned (.bool true) ∧ Below W.heap.size W W' := by
  have := S.call W (fun _ => False) args.toList (fun _ h => h.elim) (fun g cs h => by cases h) R
  simp only [Array.toArray_toList] at this
  refine this.mono fun e w' ⟨v, h1, h2, h3⟩ => ⟨?_, h3⟩
  rw [h1, repV h2]
end Go.Proofs.YtenkgipcblfocaaGreat
