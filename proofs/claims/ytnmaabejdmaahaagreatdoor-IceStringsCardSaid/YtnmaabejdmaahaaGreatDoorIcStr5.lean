/- Laws on which the proofs of this seat stand. No condition. -/
import Derived.Test.YtnmaabejdmaahaaGreatDoorIcStr4
import Derived.Lib.ItoaLen
import Derived.DataShut
import Derived.Test.YtnmaabejdmaahaaGreatDoorRows
import Derived.WalkKit
import Derived.ProofKit
import Derived.OpenShut
import Derived.Stop.Joined
namespace Go.Proofs.YtnmaabejdmaahaaGreatDoor
open Go.Lib (itoa decDigits decFrom digitVal)
open Go Go.RowKit Go.Proofs Go.Shelf Go.Ab
theorem cat_run {x y : Operand} {T : TypeId} {a b : List UInt8} (hl : a.length + b.length ≤ 1000000000) (w : World) : (do eqGuard .add T x y (.string ⟨a.toArray⟩) (.string ⟨b.toArray⟩); binOp .add T (.string ⟨a.toArray⟩) (.string ⟨b.toArray⟩) : Sem Value).run Tryz.prog w = .ok (.string ⟨(a ++ b).toArray⟩) w := by
  have e : (⟨a.toArray⟩ : ByteArray) ++ ⟨b.toArray⟩ = ⟨(a ++ b).toArray⟩ := by
    apply ByteArray.ext
    simp [ByteArray.data_append]
  have h1 : ((⟨a.toArray⟩ : ByteArray).size : Int) + ((⟨b.toArray⟩ : ByteArray).size : Int) ≤ 9223372036854775807 := by simp [ByteArray.size]; omega
  simp [eqGuard, binOp, Op.stringOp, e, h1]
theorem conv8_run {d : Nat} (h : d < 10) (w : World) : (convert 3 5 (.int .i64 (48 + ((d : Nat) : Int)))).run Tryz.prog w = .ok (.int .u8 (48 + ((d : Nat) : Int))) w := by
  have e : IntKind.u8.wrap (48 + ((d : Nat) : Int)) = 48 + ((d : Nat) : Int) := by
    have hw : ∀ m : Nat, m < 256 → IntKind.u8.wrap ((m : Nat) : Int) = m := by decide +kernel
    have := hw (48 + d) (by omega)
    rw [Int.natCast_add] at this
    exact this
  simp [convert, run_underlying Tryz.underlying5, run_underlying Tryz.underlying3, Conv.intToInt, e]
theorem quo10_t {x y : Operand} {T : TypeId} {a : Int} (hr : -9223372036854775808 ≤ a ∧ a ≤ 9223372036854775807) : ∀ w, (do eqGuard .quo T x y (.int .i64 a) (.int .i64 10); binOp .quo T (.int .i64 a) (.int .i64 10) : Sem Value).run Tryz.prog w = .ok (.int .i64 (a.tdiv 10)) w := fun w => by
  have h1 : IntKind.i64.wrap (a.tdiv 10) = a.tdiv 10 := IntWalk.i64_quo' _ _ ⟨hr.1, hr.2, by omega⟩
  simp [eqGuard, binOp, Op.intDiv, h1]
def decP (m : Nat) : Nm := if m = 0 then [] else decDigits m
theorem decP_0 : decP 0 = [] := rfl
theorem decP_pos {m : Nat} (h : m ≠ 0) : decP m = decDigits m := if_neg h
theorem decP_step {m : Nat} (h : m ≠ 0) : decP m = decP (m / 10) ++ [UInt8.ofNat (48 + m % 10)] := by
  rw [decP_pos h, decDigits]
  split
  · rename_i h9
    rw [show m / 10 = 0 by omega, show m % 10 = m by omega]; rfl
  · rename_i h9
    rw [decP_pos (by omega)]
set_option maxRecDepth 100000 in
set_option maxHeartbeats 1600000 in
theorem Decimal_s (n : Int) (h : -9223372036854775808 ≤ n ∧ n ≤ 9223372036854775807) : Summ Tryz.prog GG 55 [iv n] (sv (itoa n)) := by
  by_cases h0 : n = 0
  · subst h0
    rw [show itoa 0 = [48] by unfold itoa; rw [if_neg (by decide)]; rw [decDigits]; rfl]
    refine summW Tryz.func55 rfl rfl 27 rfl (by simp) (fun M0 => ?_)
    repeat (first
    | (apply s_a TY; exact rfl)
    | (apply s_t; exact rfl; (first | assumption | omega))
    | apply w_seq
    | apply w_region
    | apply s_nil
    | apply t_norm
    | apply t_ret
    | apply w_ret
    | (apply w_condT; exact rfl; exact rfl))
    exact lv_ret (ret1 rfl (res_tmp rfl))
  have hdl : (decDigits n.natAbs).length ≤ 21 := by
    have e := Lib.itoa_length_le n h.1 h.2
    unfold itoa at e
    split at e
    · rw [List.length_cons] at e; omega
    · rw [show n.natAbs = n.toNat by omega]; exact e
  by_cases hneg : n < 0
  · have hne10 : (10 : Int) ≠ 0 := by decide
    refine summW Tryz.func55 rfl rfl 27 rfl (by simp) (fun M0 => ?_)
    repeat (first
    | (apply s_a TY; exact rfl)
    | (apply s_t; exact rfl; (first | assumption | omega))
    | (apply s_f; exact rfl; (first | assumption | omega))
    | apply w_seq
    | apply w_region
    | apply s_nil
    | apply t_norm
    | apply w_block
    | apply w_skip
    | (apply w_condT; exact rfl; exact rfl)
    | (apply w_condF; exact rfl; exact rfl))
    apply w_loop (fun q : Nat × Nm => ⟨(Ab.upd (Ab.upd (Ab.upd (fun _ => .bot) 0 (.f (iv (-((q.1 : Nat) : Int))))) 3 (.f (sv q.2))) 4 (.f (sv [45]))), (fun _ => none), 0⟩) (fun q => decP q.1 ++ q.2 = decDigits n.natAbs ∧ q.1 ≤ 9223372036854775808) (fun q => q.1) (n.natAbs, []) (⟨by rw [decP_pos (by omega)]; exact List.append_nil _, by show n.natAbs ≤ _; omega⟩) (gh_le ⟨le_upd rfl trivial (le_upd rfl trivial (le_upd (congrArg (fun z => AV.f (iv z)) (show (-((n.natAbs : Nat) : Int)) = n by omega)) trivial (le_nil _))), le_h0 _ _⟩)
    rintro ⟨m, s⟩ ⟨hs, hb⟩
    change decP m ++ s = decDigits n.natAbs at hs
    change m ≤ 9223372036854775808 at hb
    have hsl : s.length ≤ 30 := by
      have e := congrArg List.length hs
      rw [List.length_append] at e
      omega
    change W _ _ _ _ (⟨(Ab.upd (Ab.upd (Ab.upd (fun _ => .bot) 0 (.f (iv (-((m : Nat) : Int))))) 3 (.f (sv s))) 4 (.f (sv [45]))), (fun _ => none), 0⟩)
    by_cases hc : m = 0
    · subst hc
      rw [decP_0, List.nil_append] at hs
      repeat (first
    | (apply s_bind; exact rfl; exact rfl; exact rfl; exact rfl; exact rfl; exact rfl; exact cat_run (by (first | omega | (simp only [List.length_cons, List.length_nil, List.length_append]; omega))))
    | (apply s_a TY; exact rfl)
    | (apply s_t; exact rfl; (first | assumption | omega))
    | apply w_seq
    | apply w_region
    | apply s_nil
    | apply t_norm
    | apply t_exit
    | apply k_hit
    | apply w_exit
    | apply w_ret
    | (apply w_condF; exact rfl; exact rfl))
      rw [show itoa n = [45] ++ s by rw [hs]; unfold itoa; rw [if_pos hneg]; rfl]
      exact lv_ret (ret1 rfl (res_tmp rfl))
    · have hd10 : m % 10 < 10 := Nat.mod_lt m (by decide)
      have htm : ((-((m : Nat) : Int)).tmod 10) = -(((m % 10) : Nat) : Int) := by
        rw [Int.neg_tmod, Int.tmod_eq_emod_of_nonneg (by omega)]; omega
      have htd : (-(((m / 10) : Nat) : Int)) = (-((m : Nat) : Int)).tdiv 10 := by
        rw [Int.neg_tdiv, Int.tdiv_eq_ediv_of_nonneg (by omega)]; omega
      have HZ := Size_s ((-((m : Nat) : Int)).tmod 10) (by rw [htm]; omega)
      rw [show max ((-((m : Nat) : Int)).tmod 10) (-((-((m : Nat) : Int)).tmod 10)) = (((m % 10) : Nat) : Int) by rw [htm]; omega] at HZ
      repeat (first
    | (apply s_bslicew TY (len := 1); exact rfl; exact rfl; exact rfl; exact rfl; exact rfl; exact rfl; exact rfl; exact rfl; exact rfl)
    | (apply s_strOw Tryz.underlying142 Tryz.underlying9 Tryz.underlying5; exact rfl; exact rfl; exact rfl; exact rfl)
    | (apply s_convW; exact rfl; exact rfl; exact rfl; exact conv8_run hd10)
    | (apply s_bind; exact rfl; exact rfl; exact rfl; exact rfl; exact rfl; exact rfl; exact cat_run (by (first | omega | (simp only [List.length_cons, List.length_nil, List.length_append]; omega))))
    | (apply s_remT; exact rfl; exact rfl; exact rfl; exact hne10)
    | (apply s_bind; exact rfl; exact rfl; exact rfl; exact rfl; exact rfl; exact rfl; exact quo10_t ⟨by omega, by omega⟩)
    | (apply s_a TY; exact rfl)
    | (apply s_f; exact rfl; (first | assumption | omega))
    | apply w_seq
    | apply w_region
    | apply s_nil
    | apply t_norm
    | apply k_norm
    | apply w_block
    | apply w_skip
    | (apply w_condT; exact rfl; exact rfl)
    | (apply s_k (HZ); exact rfl)
    | (apply s_c TY; exact rfl; omega))
      exact ⟨(m / 10, [UInt8.ofNat (48 + (((m % 10) : Nat) : Int)).toNat] ++ s), ⟨by show decP (m / 10) ++ ([UInt8.ofNat (48 + (((m % 10) : Nat) : Int)).toNat] ++ s) = _; rw [← hs, decP_step hc, show (48 + (((m % 10) : Nat) : Int)).toNat = 48 + m % 10 by omega, List.append_assoc], by show m / 10 ≤ _; omega⟩, by show m / 10 < m; omega, gh_le ⟨le_upd rfl trivial (le_upd rfl trivial (le_upd (congrArg (fun z => AV.f (iv z)) htd) trivial (le_nil _))), le_h0 _ _⟩⟩
  · skip
    refine summW Tryz.func55 rfl rfl 27 rfl (by simp) (fun M0 => ?_)
    repeat (first
    | (apply s_a TY; exact rfl)
    | (apply s_f; exact rfl; (first | assumption | omega))
    | apply w_seq
    | apply w_region
    | apply s_nil
    | apply t_norm
    | apply w_block
    | apply w_skip
    | (apply w_condF; exact rfl; exact rfl))
    apply w_loop (fun q : Nat × Nm => ⟨(Ab.upd (Ab.upd (Ab.upd (fun _ => .bot) 0 (.f (iv ((q.1 : Nat) : Int)))) 3 (.f (sv q.2))) 4 (.f (sv []))), (fun _ => none), 0⟩) (fun q => decP q.1 ++ q.2 = decDigits n.natAbs ∧ q.1 ≤ 9223372036854775807) (fun q => q.1) (n.natAbs, []) (⟨by rw [decP_pos (by omega)]; exact List.append_nil _, by show n.natAbs ≤ _; omega⟩) (gh_le ⟨le_upd rfl trivial (le_upd rfl trivial (le_upd (congrArg (fun z => AV.f (iv z)) (show ((n.natAbs : Nat) : Int) = n by omega)) trivial (le_nil _))), le_h0 _ _⟩)
    rintro ⟨m, s⟩ ⟨hs, hb⟩
    change decP m ++ s = decDigits n.natAbs at hs
    change m ≤ 9223372036854775807 at hb
    have hsl : s.length ≤ 30 := by
      have e := congrArg List.length hs
      rw [List.length_append] at e
      omega
    change W _ _ _ _ (⟨(Ab.upd (Ab.upd (Ab.upd (fun _ => .bot) 0 (.f (iv ((m : Nat) : Int)))) 3 (.f (sv s))) 4 (.f (sv []))), (fun _ => none), 0⟩)
    by_cases hc : m = 0
    · subst hc
      rw [decP_0, List.nil_append] at hs
      repeat (first
    | (apply s_bind; exact rfl; exact rfl; exact rfl; exact rfl; exact rfl; exact rfl; exact cat_run (by (first | omega | (simp only [List.length_cons, List.length_nil, List.length_append]; omega))))
    | (apply s_a TY; exact rfl)
    | (apply s_t; exact rfl; (first | assumption | omega))
    | apply w_seq
    | apply w_region
    | apply s_nil
    | apply t_norm
    | apply t_exit
    | apply k_hit
    | apply w_exit
    | apply w_ret
    | (apply w_condF; exact rfl; exact rfl))
      rw [show itoa n = [] ++ s by rw [hs]; unfold itoa; rw [if_neg hneg, show n.toNat = n.natAbs by omega]; rfl]
      exact lv_ret (ret1 rfl (res_tmp rfl))
    · have hd10 : m % 10 < 10 := Nat.mod_lt m (by decide)
      have htm : (((m : Nat) : Int).tmod 10) = (((m % 10) : Nat) : Int) := by
        rw [Int.tmod_eq_emod_of_nonneg (by omega)]; omega
      have htd : (((m / 10) : Nat) : Int) = ((m : Nat) : Int).tdiv 10 := by
        rw [Int.tdiv_eq_ediv_of_nonneg (by omega)]; omega
      have HZ := Size_s (((m : Nat) : Int).tmod 10) (by rw [htm]; omega)
      rw [show max (((m : Nat) : Int).tmod 10) (-(((m : Nat) : Int).tmod 10)) = (((m % 10) : Nat) : Int) by rw [htm]; omega] at HZ
      repeat (first
    | (apply s_bslicew TY (len := 1); exact rfl; exact rfl; exact rfl; exact rfl; exact rfl; exact rfl; exact rfl; exact rfl; exact rfl)
    | (apply s_strOw Tryz.underlying142 Tryz.underlying9 Tryz.underlying5; exact rfl; exact rfl; exact rfl; exact rfl)
    | (apply s_convW; exact rfl; exact rfl; exact rfl; exact conv8_run hd10)
    | (apply s_bind; exact rfl; exact rfl; exact rfl; exact rfl; exact rfl; exact rfl; exact cat_run (by (first | omega | (simp only [List.length_cons, List.length_nil, List.length_append]; omega))))
    | (apply s_a TY; exact rfl)
    | (apply s_f; exact rfl; (first | assumption | omega))
    | apply w_seq
    | apply w_region
    | apply s_nil
    | apply t_norm
    | apply k_norm
    | apply w_block
    | apply w_skip
    | (apply w_condT; exact rfl; exact rfl)
    | (apply s_k (HZ); exact rfl)
    | (apply s_c TY; exact rfl; omega))
      exact ⟨(m / 10, [UInt8.ofNat (48 + (((m % 10) : Nat) : Int)).toNat] ++ s), ⟨by show decP (m / 10) ++ ([UInt8.ofNat (48 + (((m % 10) : Nat) : Int)).toNat] ++ s) = _; rw [← hs, decP_step hc, show (48 + (((m % 10) : Nat) : Int)).toNat = 48 + m % 10 by omega, List.append_assoc], by show m / 10 ≤ _; omega⟩, by show m / 10 < m; omega, gh_le ⟨le_upd rfl trivial (le_upd rfl trivial (le_upd (congrArg (fun z => AV.f (iv z)) htd) trivial (le_nil _))), le_h0 _ _⟩⟩
structure CutK (c : UInt8) (s : Nm) (k fr : Nat) (ws : List Nm) : Prop where
  le : fr ≤ k
  no : c ∉ (s.drop fr).take (k - fr)
  all : ws ++ cutS c (s.drop fr) = cutS c s
theorem cutK_start (c : UInt8) (s : Nm) : CutK c s 0 0 [] := ⟨Nat.le_refl _, by simp, rfl⟩
theorem take_snoc {s : Nm} {k fr : Nat} (hk : k < s.length) (hf : fr ≤ k) : (s.drop fr).take (k + 1 - fr) = (s.drop fr).take (k - fr) ++ [s[k]] := by
  rw [show k + 1 - fr = (k - fr) + 1 by omega, List.take_succ_eq_append_getElem (by rw [List.length_drop]; omega)]
  congr 2
  rw [List.getElem_drop]
  congr 1; omega
theorem cutK_miss {c : UInt8} {s : Nm} {k fr : Nat} {ws : List Nm} (q : CutK c s k fr ws) (hk : k < s.length) (h : s[k] ≠ c) : CutK c s (k + 1) fr ws :=
  ⟨Nat.le_succ_of_le q.le, by
    rw [take_snoc hk q.le]
    simp only [List.mem_append, List.mem_singleton, not_or]
    exact ⟨q.no, fun e => h e.symm⟩, q.all⟩
theorem cutK_hit {c : UInt8} {s : Nm} {k fr : Nat} {ws : List Nm} (q : CutK c s k fr ws) (hk : k < s.length) (h : s[k] = c) : CutK c s (k + 1) (k + 1) (ws ++ [(s.drop fr).take (k - fr)]) :=
  ⟨Nat.le_refl _, by rw [Nat.sub_self, List.take_zero]; simp, by
    have e : s.drop fr = (s.drop fr).take (k - fr) ++ c :: s.drop (k + 1) := by
      have e1 := (List.take_append_drop (k - fr) (s.drop fr)).symm
      rw [List.drop_drop, show fr + (k - fr) = k by have := q.le; omega, List.drop_eq_getElem_cons hk, h] at e1
      exact e1
    have h2 := q.all
    rw [e, cutS_hit c _ _ q.no] at h2
    rw [List.append_assoc]
    exact h2⟩
theorem cutK_end {c : UInt8} {s : Nm} {fr : Nat} {ws : List Nm} (q : CutK c s s.length fr ws) : ws ++ [s.drop fr] = cutS c s := by
  have h := q.no
  rw [List.take_of_length_le (by rw [List.length_drop]; omega)] at h
  rw [← q.all, cutS_miss c _ h]
theorem cutK_len {c : UInt8} {s : Nm} {k fr : Nat} {ws : List Nm} (q : CutK c s k fr ws) : ws.length ≤ s.length := by
  have h1 := congrArg List.length q.all
  rw [List.length_append] at h1
  have h2 := cutS_len c s
  have h3 : 0 < (cutS c (s.drop fr)).length := List.length_pos_iff.2 (cutS_ne c _)
  omega
set_option maxRecDepth 100000 in
set_option maxHeartbeats 1600000 in
theorem Cut_s (s : Nm) (c : UInt8) (hs : s.length ≤ 1000000) : Summ Tryz.prog GG 53 [sv s, .v (.int .u8 (c.toNat : Int))] (.sl (cutS c s).length (strsF (cutS c s))) := by
  have hsz := strSz s
  refine summW Tryz.func53 rfl rfl 34 rfl (by simp) (fun M0 => ?_)
  repeat (first
    | (apply s_a TY; exact rfl)
    | apply w_seq
    | apply w_region
    | apply s_nil
    | apply t_norm
    | apply w_block)
  apply w_gh (gh_own 5 9 1 rfl rfl)
  apply w_loop (fun q : Nat × Nat × List Nm => ⟨(Ab.upd (Ab.upd (Ab.upd (Ab.upd (Ab.upd (fun _ => .bot) 0 (.f (sv s))) 1 (.f (.v (.int .u8 (c.toNat : Int))))) 5 (.ow 0)) 6 (.f (iv ((q.2.1 : Nat) : Int)))) 7 (.f (iv ((q.1 : Nat) : Int)))), (Ab.upd (fun _ => none) 0 (some (.row 9 1 q.2.2.length (strsF q.2.2)))), 1⟩) (fun q => CutK c s q.1 q.2.1 q.2.2 ∧ q.1 ≤ s.length) (fun q => s.length - q.1) (0, 0, []) (⟨cutK_start c s, Nat.zero_le _⟩) (gh_le ⟨le_upd rfl trivial (le_upd rfl trivial (le_upd rfl rfl (le_upd rfl trivial (le_upd rfl trivial (le_nil _))))), le_hupd rfl trivial (le_h0 _ _)⟩)
  rintro ⟨k, fr, ws⟩ ⟨q, hk⟩
  change CutK c s k fr ws at q
  change k ≤ s.length at hk
  change W _ _ _ _ (⟨(Ab.upd (Ab.upd (Ab.upd (Ab.upd (Ab.upd (fun _ => .bot) 0 (.f (sv s))) 1 (.f (.v (.int .u8 (c.toNat : Int))))) 5 (.ow 0)) 6 (.f (iv ((fr : Nat) : Int)))) 7 (.f (iv ((k : Nat) : Int)))), (Ab.upd (fun _ => none) 0 (some (.row 9 1 ws.length (strsF ws)))), 1⟩)
  have hwl := cutK_len q
  have hfr := q.le
  by_cases hc : k < s.length
  · have hby : s[((k : Nat) : Int).toNat]? = some s[k] := by rw [Int.toNat_natCast]; exact List.getElem?_eq_getElem hc
    by_cases he : s[k] = c
    · have hnc : (s[k].toNat : Int) = (c.toNat : Int) := by rw [he]
      have hrow : some (Blk.row 9 1 (ws.length + 1) (strsF ws ++ [sv ((s.drop fr).take (k - fr))])) = some (Blk.row 9 1 (ws ++ [(s.drop fr).take (k - fr)]).length (strsF (ws ++ [(s.drop fr).take (k - fr)]))) := by rw [strsF_snoc, List.length_append]; rfl
      repeat (first
    | (apply s_sliceStr TY; exact rfl; exact rfl; exact rfl; exact rfl; exact ⟨_, rfl⟩; exact ⟨_, rfl⟩; omega; omega; omega)
    | (apply s_idxS TY; exact rfl; exact rfl; exact rfl; exact rfl; exact rfl; omega; exact hby)
    | (apply s_append TY; exact rfl; exact rfl; exact rfl; exact rfl; exact rfl; exact rfl; exact rfl; exact rfl; exact rfl; (unfold maxLen; omega); omega)
    | (apply s_a TY; exact rfl)
    | (apply s_t; exact rfl; (first | assumption | omega))
    | apply w_seq
    | apply w_region
    | apply s_nil
    | apply t_norm
    | apply k_norm
    | apply w_block
    | apply w_skip
    | (apply w_condT; exact rfl; exact rfl)
    | (apply s_c TY; exact rfl; omega))
      exact ⟨(k + 1, k + 1, _), ⟨cutK_hit q hc he, by show k + 1 ≤ _; omega⟩, by show _ - (k + 1) < _ - k; omega, gh_le ⟨le_upd rfl trivial (le_upd rfl trivial (le_upd rfl rfl (le_upd rfl trivial (le_upd rfl trivial (le_nil _))))), le_hupd hrow trivial (le_h0 _ _)⟩⟩
    · have hnc : ¬ (s[k].toNat : Int) = (c.toNat : Int) := fun e => he (UInt8.toNat_inj.1 (by omega))
      repeat (first
    | (apply s_idxS TY; exact rfl; exact rfl; exact rfl; exact rfl; exact rfl; omega; exact hby)
    | (apply s_a TY; exact rfl)
    | (apply s_t; exact rfl; (first | assumption | omega))
    | (apply s_f; exact rfl; (first | assumption | omega))
    | apply w_seq
    | apply w_region
    | apply s_nil
    | apply t_norm
    | apply k_norm
    | apply w_block
    | apply w_skip
    | (apply w_condT; exact rfl; exact rfl)
    | (apply w_condF; exact rfl; exact rfl)
    | (apply s_c TY; exact rfl; omega))
      exact ⟨(k + 1, fr, ws), ⟨cutK_miss q hc he, by show k + 1 ≤ _; omega⟩, by show _ - (k + 1) < _ - k; omega, gh_le ⟨le_upd rfl trivial (le_upd rfl trivial (le_upd rfl rfl (le_upd rfl trivial (le_upd rfl trivial (le_nil _))))), le_hupd rfl trivial (le_h0 _ _)⟩⟩
  · have hke : k = s.length := by omega
    subst hke
    have hend := cutK_end q
    have htk : (s.drop fr).take (s.length - fr) = s.drop fr := List.take_of_length_le (by rw [List.length_drop]; omega)
    have hres : FV.sl (cutS c s).length (strsF (cutS c s)) = .sl (ws.length + 1) (strsF ws ++ [sv ((s.drop fr).take (s.length - fr))]) := by rw [htk, ← hend, strsF_snoc, List.length_append]; rfl
    rw [hres]
    repeat (first
    | (apply s_sliceStr TY; exact rfl; exact rfl; exact rfl; exact rfl; exact ⟨_, rfl⟩; exact rfl; omega; omega; omega)
    | (apply s_append TY; exact rfl; exact rfl; exact rfl; exact rfl; exact rfl; exact rfl; exact rfl; exact rfl; exact rfl; (unfold maxLen; omega); omega)
    | (apply s_a TY; exact rfl)
    | (apply s_f; exact rfl; (first | assumption | omega))
    | apply w_seq
    | apply w_region
    | apply s_nil
    | apply t_norm
    | apply t_exit
    | apply k_hit
    | apply w_exit
    | apply w_ret
    | (apply w_condF; exact rfl; exact rfl))
    exact lv_ret (ret1 rfl (res_sees rfl (sees_row rfl)))
end Go.Proofs.YtnmaabejdmaahaaGreatDoor
namespace Go.Proofs.YtnmaabejdmaahaaGreatDoor
open Go.Lib (itoa decDigits decFrom digitVal)
open Go Go.RowKit Go.Proofs Go.Shelf Go.Ab
theorem sub8_run {x y : Operand} {T : TypeId} {n : Nat} (h1 : 48 ≤ n) (h2 : n ≤ 57) (w : World) : (do eqGuard .sub T x y (.int .u8 (n : Int)) (.int .u8 48); binOp .sub T (.int .u8 (n : Int)) (.int .u8 48) : Sem Value).run Tryz.prog w = .ok (.int .u8 (((n - 48 : Nat) : Nat) : Int)) w := by
  have hw : ∀ m : Nat, m < 256 → IntKind.u8.wrap ((m : Nat) : Int) = m := by decide +kernel
  have e : IntKind.u8.wrap ((n : Int) - 48) = ((n - 48 : Nat) : Int) := by rw [show (n : Int) - 48 = ((n - 48 : Nat) : Int) by omega]; exact hw _ (by omega)
  simp [eqGuard, binOp, Op.intArith, e]
theorem numO_nil {w : Nm} {d : Nat} (h : w.drop (atS w) = []) : numO w d = none := if_pos (.inl h)
theorem numO_len {w : Nm} {d : Nat} (h : d < (w.drop (atS w)).length) : numO w d = none := if_pos (.inr (.inl h))
theorem numO_zero {w : Nm} {d : Nat} (h1 : (w.drop (atS w)).head? = some 48) (h2 : 1 < w.length) : numO w d = none := if_pos (.inr (.inr ⟨h1, h2⟩))
theorem decFrom_bad {b : UInt8} (hb : digitVal b = none) : ∀ (l r : List UInt8) (acc : Nat), decFrom acc (l ++ b :: r) = none
  | [], r, acc => by rw [List.nil_append, decFrom, hb]
  | c :: l, r, acc => by
    rw [List.cons_append, decFrom]
    cases digitVal c with
    | none => rfl
    | some d => exact decFrom_bad hb l r _
theorem numO_bad {w : Nm} {d a k : Nat} {b : UInt8} {n : Nat} (ha : atS w = a) (hk : a + k < w.length) (_hn : decFrom 0 ((w.drop a).take k) = some n) (hb : w[a + k]? = some b) (hd : ¬ (48 ≤ b.toNat ∧ b.toNat ≤ 57)) : numO w d = none := by
  unfold numO
  split
  · rfl
  · rw [ha]
    have e : w.drop a = (w.drop a).take k ++ b :: w.drop (a + k + 1) := by
      have e1 := (List.take_append_drop k (w.drop a)).symm
      rw [List.drop_drop, List.drop_eq_getElem_cons hk] at e1
      rw [List.getElem?_eq_getElem hk] at hb
      rw [Option.some.inj hb] at e1
      exact e1
    rw [e, decFrom_bad (if_neg hd)]; rfl
def numR (w : Nm) (d : Nat) : FV := match numO w d with
  | some v => .tup [iv v, .v (.bool true)]
  | none => .tup [iv 0, .v (.bool false)]
theorem numR_no {w : Nm} {d : Nat} (h : numO w d = none) : numR w d = .tup [iv 0, .v (.bool false)] := by unfold numR; rw [h]
theorem numR_ok {w : Nm} {d a n : Nat} (ha : atS w = a) (h3 : ¬ ((w.drop (atS w)).head? = some 48 ∧ 1 < w.length)) (h1 : a < w.length) (h2 : ¬ d < (w.drop (atS w)).length) (hn : decFrom 0 (w.drop a) = some n) : numR w d = .tup [iv (if a = 1 then -(n : Int) else n), .v (.bool true)] := by
  have e : numO w d = some (if a = 1 then -(n : Int) else n) := by
    unfold numO
    rw [if_neg (by
      rintro (e | e | e)
      · have := congrArg List.length e
        rw [ha, List.length_drop, List.length_nil] at this
        omega
      · exact h2 e
      · exact h3 e), ha, hn]
    rfl
  unfold numR
  rw [e]
set_option maxRecDepth 100000 in
set_option maxHeartbeats 3200000 in
theorem Number_s (w : Nm) (d : Nat) (hd : d ≤ 17) (hw : w.length ≤ 1000000) : Summ Tryz.prog GG 88 [sv w, iv ((d : Nat) : Int)] (numR w d) := by
  have hsz := strSz w
  by_cases h0 : w.length = 0
  · rw [numR_no (numO_nil (by rw [List.eq_nil_of_length_eq_zero h0]; rfl))]
    refine summW Tryz.func88 rfl rfl 70 rfl (by simp) (fun M0 => ?_)
    repeat (first
    | (apply s_a TY; exact rfl)
    | (apply s_t; exact rfl; (first | assumption | omega))
    | (apply s_f; exact rfl; (first | assumption | omega))
    | apply w_seq
    | apply w_region
    | apply s_nil
    | apply t_norm
    | apply t_ret
    | apply w_ret
    | apply w_skip
    | (apply w_condT; exact rfl; exact rfl)
    | (apply w_condF; exact rfl; exact rfl)
    | (apply s_s; exact rfl))
    exact lv_ret (ret2 rfl (res_tmp rfl) (res_tmp rfl))
  have hl0 : 0 < w.length := by omega
  have hb0 : w[(0 : Int).toNat]? = some w[0] := List.getElem?_eq_getElem hl0
  have hhead : w.head? = some w[0] := by rw [List.head?_eq_getElem?]; exact List.getElem?_eq_getElem hl0
  by_cases h45 : w[0] = 45
  · have ha : atS w = 1 := if_pos (by rw [hhead, h45])
    have h45n : (w[0].toNat : Int) = 45 := by rw [h45]; rfl
    by_cases h1 : w.length = 1
    · rw [numR_no (numO_nil (by rw [ha]; exact List.drop_eq_nil_of_le (by omega)))]
      refine summW Tryz.func88 rfl rfl 70 rfl (by simp) (fun M0 => ?_)
      repeat (first
    | (apply s_idxS TY; exact rfl; exact rfl; exact rfl; exact rfl; exact rfl; omega; exact hb0)
    | (apply s_a TY; exact rfl)
    | (apply s_t; exact rfl; (first | assumption | omega))
    | apply w_seq
    | apply w_region
    | apply s_nil
    | apply t_norm
    | apply t_ret
    | apply w_ret
    | (apply w_condT; exact rfl; exact rfl)
    | (apply s_s; exact rfl))
      exact lv_ret (ret2 rfl (res_tmp rfl) (res_tmp rfl))
    have hbl : (w.drop (atS w)).length = w.length - 1 := by rw [ha, List.length_drop]
    by_cases h2 : d < w.length - 1
    · rw [numR_no (numO_len (by rw [hbl]; exact h2))]
      refine summW Tryz.func88 rfl rfl 70 rfl (by simp) (fun M0 => ?_)
      repeat (first
    | (apply s_idxS TY; exact rfl; exact rfl; exact rfl; exact rfl; exact rfl; omega; exact hb0)
    | (apply s_a TY; exact rfl)
    | (apply s_t; exact rfl; (first | assumption | omega))
    | (apply s_f; exact rfl; (first | assumption | omega))
    | apply w_seq
    | apply w_region
    | apply s_nil
    | apply t_norm
    | apply t_ret
    | apply w_ret
    | (apply w_condT; exact rfl; exact rfl)
    | (apply s_s; exact rfl)
    | (apply s_c TY; exact rfl; omega))
      exact lv_ret (ret2 rfl (res_tmp rfl) (res_tmp rfl))
    have hla : 1 < w.length := by omega
    have hba : w[(1 : Int).toNat]? = some w[1] := List.getElem?_eq_getElem hla
    have hdh : (w.drop (atS w)).head? = some w[1] := by rw [ha, List.head?_drop]; exact List.getElem?_eq_getElem hla
    by_cases h3a : w[1] = 48
    · have h3n : (w[1].toNat : Int) = 48 := by rw [h3a]; rfl
      by_cases h3b : 1 < w.length
      · rw [numR_no (numO_zero (by rw [hdh, h3a]) h3b)]
        refine summW Tryz.func88 rfl rfl 70 rfl (by simp) (fun M0 => ?_)
        repeat (first
    | (apply s_idxS TY; exact rfl; exact rfl; exact rfl; exact rfl; exact rfl; omega; exact hb0)
    | (apply s_idxS TY; exact rfl; exact rfl; exact rfl; exact rfl; exact rfl; omega; exact hba)
    | (apply s_a TY; exact rfl)
    | (apply s_t; exact rfl; (first | assumption | omega))
    | (apply s_f; exact rfl; (first | assumption | omega))
    | apply w_seq
    | apply w_region
    | apply s_nil
    | apply t_norm
    | apply t_ret
    | apply w_ret
    | (apply w_condT; exact rfl; exact rfl)
    | (apply s_c TY; exact rfl; omega))
        exact lv_ret (ret2 rfl (res_tmp rfl) (res_tmp rfl))
      · exact absurd hla h3b
    · have h3n : ¬ (w[1].toNat : Int) = 48 := fun e => h3a (UInt8.toNat_inj.1 (by show w[1].toNat = 48; omega))
      have h3 : ¬ ((w.drop (atS w)).head? = some 48 ∧ 1 < w.length) := fun e => h3a (Option.some.inj (hdh.symm.trans e.1))
      refine summW Tryz.func88 rfl rfl 70 rfl (by simp) (fun M0 => ?_)
      repeat (first
    | (apply s_idxS TY; exact rfl; exact rfl; exact rfl; exact rfl; exact rfl; omega; exact hb0)
    | (apply s_idxS TY; exact rfl; exact rfl; exact rfl; exact rfl; exact rfl; omega; exact hba)
    | (apply s_a TY; exact rfl)
    | (apply s_t; exact rfl; (first | assumption | omega))
    | (apply s_f; exact rfl; (first | assumption | omega))
    | apply w_seq
    | apply w_region
    | apply s_nil
    | apply t_norm
    | apply w_block
    | apply w_skip
    | (apply w_condT; exact rfl; exact rfl)
    | (apply w_condF; exact rfl; exact rfl)
    | (apply s_s; exact rfl)
    | (apply s_c TY; exact rfl; omega))
      apply w_loop (fun q : Nat × Nat => ⟨(Ab.upd (Ab.upd (Ab.upd (Ab.upd (fun _ => .bot) 0 (.f (sv w))) 6 (.f (iv 1))) 7 (.f (iv ((q.1 : Nat) : Int)))) 8 (.f (iv ((q.2 : Nat) : Int)))), (fun _ => none), 0⟩) (fun q => (1 ≤ q.2 ∧ q.2 ≤ w.length) ∧ decFrom 0 ((w.drop 1).take (q.2 - 1)) = some q.1) (fun q => w.length - q.2) (0, 1) (⟨⟨Nat.le_refl _, by show 1 ≤ _; omega⟩, rfl⟩) (gh_le ⟨le_upd rfl trivial (le_upd rfl trivial (le_upd rfl trivial (le_upd rfl trivial (le_nil _)))), le_h0 _ _⟩)
      rintro ⟨n, i⟩ ⟨⟨hi1, hi2⟩, hn⟩
      change 1 ≤ i at hi1
      change i ≤ w.length at hi2
      change decFrom 0 ((w.drop 1).take (i - 1)) = some n at hn
      change W _ _ _ _ (⟨(Ab.upd (Ab.upd (Ab.upd (Ab.upd (fun _ => .bot) 0 (.f (sv w))) 6 (.f (iv 1))) 7 (.f (iv ((n : Nat) : Int)))) 8 (.f (iv ((i : Nat) : Int)))), (fun _ => none), 0⟩)
      have hnb : n < 100000000000000000 := by
        have e := decFrom_lt hn
        have e2 : ((w.drop 1).take (i - 1)).length ≤ 17 := by rw [List.length_take, List.length_drop]; omega
        have e3 : 10 ^ ((w.drop 1).take (i - 1)).length ≤ 10 ^ 17 := Nat.pow_le_pow_right (by decide) e2
        have e4 : (10 : Nat) ^ 17 = 100000000000000000 := by decide
        rw [Nat.zero_add, Nat.one_mul] at e
        omega
      by_cases hc : i < w.length
      · have hbi : w[((i : Nat) : Int).toNat]? = some w[i] := by rw [Int.toNat_natCast]; exact List.getElem?_eq_getElem hc
        have hcv : w[i].toNat - 48 < 256 := by have := w[i].toNat_lt; omega
        by_cases hlo : 48 ≤ w[i].toNat
        case neg =>
          rw [numR_no (numO_bad (k := i - 1) ha (by omega) hn (by rw [show 1 + (i - 1) = i by omega]; exact List.getElem?_eq_getElem hc) (by omega))]
          repeat (first
    | (apply s_idxS TY; exact rfl; exact rfl; exact rfl; exact rfl; exact rfl; omega; exact hbi)
    | (apply s_a TY; exact rfl)
    | (apply s_t; exact rfl; (first | assumption | omega))
    | apply w_seq
    | apply w_region
    | apply s_nil
    | apply t_norm
    | apply t_ret
    | apply k_ret
    | apply w_block
    | apply w_ret
    | apply w_skip
    | (apply w_condT; exact rfl; exact rfl)
    | (apply s_s; exact rfl))
          exact lv_ret (ret2 rfl (res_tmp rfl) (res_tmp rfl))
        by_cases hhi : w[i].toNat ≤ 57
        case neg =>
          rw [numR_no (numO_bad (k := i - 1) ha (by omega) hn (by rw [show 1 + (i - 1) = i by omega]; exact List.getElem?_eq_getElem hc) (by omega))]
          repeat (first
    | (apply s_idxS TY; exact rfl; exact rfl; exact rfl; exact rfl; exact rfl; omega; exact hbi)
    | (apply s_a TY; exact rfl)
    | (apply s_t; exact rfl; (first | assumption | omega))
    | (apply s_f; exact rfl; (first | assumption | omega))
    | apply w_seq
    | apply w_region
    | apply s_nil
    | apply t_norm
    | apply t_ret
    | apply k_ret
    | apply w_block
    | apply w_ret
    | apply w_skip
    | (apply w_condT; exact rfl; exact rfl))
          exact lv_ret (ret2 rfl (res_tmp rfl) (res_tmp rfl))
        have hsn : decFrom 0 ((w.drop 1).take (i + 1 - 1)) = some (n * 10 + (w[i].toNat - 48)) := by
          rw [take_snoc hc hi1, decFrom_snoc, hn]
          show (digitVal w[i]).map _ = _
          unfold digitVal
          rw [if_pos ⟨hlo, hhi⟩]; rfl
        repeat (first
    | (apply s_idxS TY; exact rfl; exact rfl; exact rfl; exact rfl; exact rfl; omega; exact hbi)
    | (apply s_bind; exact rfl; exact rfl; exact rfl; exact rfl; exact rfl; exact rfl; exact sub8_run hlo hhi)
    | (apply s_convW; exact rfl; exact rfl; exact rfl; exact conv_run hcv)
    | (apply s_a TY; exact rfl)
    | (apply s_t; exact rfl; (first | assumption | omega))
    | (apply s_f; exact rfl; (first | assumption | omega))
    | apply w_seq
    | apply w_region
    | apply s_nil
    | apply t_norm
    | apply k_norm
    | apply w_block
    | apply w_skip
    | (apply w_condT; exact rfl; exact rfl)
    | (apply w_condF; exact rfl; exact rfl)
    | (apply s_c TY; exact rfl; omega))
        exact ⟨(n * 10 + (w[i].toNat - 48), i + 1), ⟨⟨by show 1 ≤ i + 1; omega, by show i + 1 ≤ _; omega⟩, hsn⟩, by show _ - (i + 1) < _ - i; omega, gh_le ⟨le_upd rfl trivial (le_upd (congrArg (fun z => AV.f (iv z)) (show (((n * 10 + (w[i].toNat - 48)) : Nat) : Int) = 10 * ((n : Nat) : Int) + (((w[i].toNat - 48) : Nat) : Int) by omega)) trivial (le_upd rfl trivial (le_upd rfl trivial (le_nil _)))), le_h0 _ _⟩⟩
      · have hie : i = w.length := by omega
        subst hie
        rw [List.take_of_length_le (by rw [List.length_drop]; omega)] at hn
        rw [numR_ok ha h3 (by omega) (by rw [hbl]; omega) hn]
        repeat (first
    | (apply s_a TY; exact rfl)
    | (apply s_t; exact rfl; (first | assumption | omega))
    | (apply s_f; exact rfl; (first | assumption | omega))
    | apply w_seq
    | apply w_region
    | apply s_nil
    | apply t_norm
    | apply t_exit
    | apply k_hit
    | apply w_exit
    | apply w_ret
    | (apply w_condT; exact rfl; exact rfl)
    | (apply w_condF; exact rfl; exact rfl)
    | (apply s_c TY; exact rfl; omega))
        exact lv_ret (ret2 rfl (res_tmp rfl) (res_tmp rfl))
  · have ha : atS w = 0 := if_neg (by rw [hhead]; intro e; exact h45 (Option.some.inj e))
    have h45n : ¬ (w[0].toNat : Int) = 45 := fun e => h45 (UInt8.toNat_inj.1 (by show w[0].toNat = 45; omega))
    have hbl : (w.drop (atS w)).length = w.length - 0 := by rw [ha, List.length_drop]
    by_cases h2 : d < w.length - 0
    · rw [numR_no (numO_len (by rw [hbl]; exact h2))]
      refine summW Tryz.func88 rfl rfl 70 rfl (by simp) (fun M0 => ?_)
      repeat (first
    | (apply s_idxS TY; exact rfl; exact rfl; exact rfl; exact rfl; exact rfl; omega; exact hb0)
    | (apply s_a TY; exact rfl)
    | (apply s_t; exact rfl; (first | assumption | omega))
    | (apply s_f; exact rfl; (first | assumption | omega))
    | apply w_seq
    | apply w_region
    | apply s_nil
    | apply t_norm
    | apply t_ret
    | apply w_ret
    | apply w_skip
    | (apply w_condT; exact rfl; exact rfl)
    | (apply w_condF; exact rfl; exact rfl)
    | (apply s_s; exact rfl)
    | (apply s_c TY; exact rfl; omega))
      exact lv_ret (ret2 rfl (res_tmp rfl) (res_tmp rfl))
    have hla : 0 < w.length := by omega
    have hba : w[(0 : Int).toNat]? = some w[0] := List.getElem?_eq_getElem hla
    have hdh : (w.drop (atS w)).head? = some w[0] := by rw [ha, List.head?_drop]; exact List.getElem?_eq_getElem hla
    by_cases h3a : w[0] = 48
    · have h3n : (w[0].toNat : Int) = 48 := by rw [h3a]; rfl
      by_cases h3b : 1 < w.length
      · rw [numR_no (numO_zero (by rw [hdh, h3a]) h3b)]
        refine summW Tryz.func88 rfl rfl 70 rfl (by simp) (fun M0 => ?_)
        repeat (first
    | (apply s_idxS TY; exact rfl; exact rfl; exact rfl; exact rfl; exact rfl; omega; exact hb0)
    | (apply s_a TY; exact rfl)
    | (apply s_t; exact rfl; (first | assumption | omega))
    | (apply s_f; exact rfl; (first | assumption | omega))
    | apply w_seq
    | apply w_region
    | apply s_nil
    | apply t_norm
    | apply t_ret
    | apply w_ret
    | apply w_skip
    | (apply w_condT; exact rfl; exact rfl)
    | (apply w_condF; exact rfl; exact rfl)
    | (apply s_c TY; exact rfl; omega))
        exact lv_ret (ret2 rfl (res_tmp rfl) (res_tmp rfl))
      · have h3 : ¬ ((w.drop (atS w)).head? = some 48 ∧ 1 < w.length) := fun e => h3b e.2
        refine summW Tryz.func88 rfl rfl 70 rfl (by simp) (fun M0 => ?_)
        repeat (first
    | (apply s_idxS TY; exact rfl; exact rfl; exact rfl; exact rfl; exact rfl; omega; exact hb0)
    | (apply s_a TY; exact rfl)
    | (apply s_t; exact rfl; (first | assumption | omega))
    | (apply s_f; exact rfl; (first | assumption | omega))
    | apply w_seq
    | apply w_region
    | apply s_nil
    | apply t_norm
    | apply w_block
    | apply w_skip
    | (apply w_condF; exact rfl; exact rfl)
    | (apply s_c TY; exact rfl; omega))
        apply w_loop (fun q : Nat × Nat => ⟨(Ab.upd (Ab.upd (Ab.upd (Ab.upd (fun _ => .bot) 0 (.f (sv w))) 6 (.f (iv 0))) 7 (.f (iv ((q.1 : Nat) : Int)))) 8 (.f (iv ((q.2 : Nat) : Int)))), (fun _ => none), 0⟩) (fun q => (0 ≤ q.2 ∧ q.2 ≤ w.length) ∧ decFrom 0 ((w.drop 0).take (q.2 - 0)) = some q.1) (fun q => w.length - q.2) (0, 0) (⟨⟨Nat.le_refl _, by show 0 ≤ _; omega⟩, rfl⟩) (gh_le ⟨le_upd rfl trivial (le_upd rfl trivial (le_upd rfl trivial (le_upd rfl trivial (le_nil _)))), le_h0 _ _⟩)
        rintro ⟨n, i⟩ ⟨⟨hi1, hi2⟩, hn⟩
        change 0 ≤ i at hi1
        change i ≤ w.length at hi2
        change decFrom 0 ((w.drop 0).take (i - 0)) = some n at hn
        change W _ _ _ _ (⟨(Ab.upd (Ab.upd (Ab.upd (Ab.upd (fun _ => .bot) 0 (.f (sv w))) 6 (.f (iv 0))) 7 (.f (iv ((n : Nat) : Int)))) 8 (.f (iv ((i : Nat) : Int)))), (fun _ => none), 0⟩)
        have hnb : n < 100000000000000000 := by
          have e := decFrom_lt hn
          have e2 : ((w.drop 0).take (i - 0)).length ≤ 17 := by rw [List.length_take, List.length_drop]; omega
          have e3 : 10 ^ ((w.drop 0).take (i - 0)).length ≤ 10 ^ 17 := Nat.pow_le_pow_right (by decide) e2
          have e4 : (10 : Nat) ^ 17 = 100000000000000000 := by decide
          rw [Nat.zero_add, Nat.one_mul] at e
          omega
        by_cases hc : i < w.length
        · have hbi : w[((i : Nat) : Int).toNat]? = some w[i] := by rw [Int.toNat_natCast]; exact List.getElem?_eq_getElem hc
          have hcv : w[i].toNat - 48 < 256 := by have := w[i].toNat_lt; omega
          by_cases hlo : 48 ≤ w[i].toNat
          case neg =>
            rw [numR_no (numO_bad (k := i - 0) ha (by omega) hn (by rw [show 0 + (i - 0) = i by omega]; exact List.getElem?_eq_getElem hc) (by omega))]
            repeat (first
    | (apply s_idxS TY; exact rfl; exact rfl; exact rfl; exact rfl; exact rfl; omega; exact hbi)
    | (apply s_a TY; exact rfl)
    | (apply s_t; exact rfl; (first | assumption | omega))
    | apply w_seq
    | apply w_region
    | apply s_nil
    | apply t_norm
    | apply t_ret
    | apply k_ret
    | apply w_block
    | apply w_ret
    | apply w_skip
    | (apply w_condT; exact rfl; exact rfl)
    | (apply s_s; exact rfl))
            exact lv_ret (ret2 rfl (res_tmp rfl) (res_tmp rfl))
          by_cases hhi : w[i].toNat ≤ 57
          case neg =>
            rw [numR_no (numO_bad (k := i - 0) ha (by omega) hn (by rw [show 0 + (i - 0) = i by omega]; exact List.getElem?_eq_getElem hc) (by omega))]
            repeat (first
    | (apply s_idxS TY; exact rfl; exact rfl; exact rfl; exact rfl; exact rfl; omega; exact hbi)
    | (apply s_a TY; exact rfl)
    | (apply s_t; exact rfl; (first | assumption | omega))
    | (apply s_f; exact rfl; (first | assumption | omega))
    | apply w_seq
    | apply w_region
    | apply s_nil
    | apply t_norm
    | apply t_ret
    | apply k_ret
    | apply w_block
    | apply w_ret
    | apply w_skip
    | (apply w_condT; exact rfl; exact rfl))
            exact lv_ret (ret2 rfl (res_tmp rfl) (res_tmp rfl))
          have hsn : decFrom 0 ((w.drop 0).take (i + 1 - 0)) = some (n * 10 + (w[i].toNat - 48)) := by
            rw [take_snoc hc hi1, decFrom_snoc, hn]
            show (digitVal w[i]).map _ = _
            unfold digitVal
            rw [if_pos ⟨hlo, hhi⟩]; rfl
          repeat (first
    | (apply s_idxS TY; exact rfl; exact rfl; exact rfl; exact rfl; exact rfl; omega; exact hbi)
    | (apply s_bind; exact rfl; exact rfl; exact rfl; exact rfl; exact rfl; exact rfl; exact sub8_run hlo hhi)
    | (apply s_convW; exact rfl; exact rfl; exact rfl; exact conv_run hcv)
    | (apply s_a TY; exact rfl)
    | (apply s_t; exact rfl; (first | assumption | omega))
    | (apply s_f; exact rfl; (first | assumption | omega))
    | apply w_seq
    | apply w_region
    | apply s_nil
    | apply t_norm
    | apply k_norm
    | apply w_block
    | apply w_skip
    | (apply w_condT; exact rfl; exact rfl)
    | (apply w_condF; exact rfl; exact rfl)
    | (apply s_c TY; exact rfl; omega))
          exact ⟨(n * 10 + (w[i].toNat - 48), i + 1), ⟨⟨by show 0 ≤ i + 1; omega, by show i + 1 ≤ _; omega⟩, hsn⟩, by show _ - (i + 1) < _ - i; omega, gh_le ⟨le_upd rfl trivial (le_upd (congrArg (fun z => AV.f (iv z)) (show (((n * 10 + (w[i].toNat - 48)) : Nat) : Int) = 10 * ((n : Nat) : Int) + (((w[i].toNat - 48) : Nat) : Int) by omega)) trivial (le_upd rfl trivial (le_upd rfl trivial (le_nil _)))), le_h0 _ _⟩⟩
        · have hie : i = w.length := by omega
          subst hie
          rw [List.take_of_length_le (by rw [List.length_drop]; omega)] at hn
          rw [numR_ok ha h3 (by omega) (by rw [hbl]; omega) hn]
          repeat (first
    | (apply s_a TY; exact rfl)
    | (apply s_f; exact rfl; (first | assumption | omega))
    | apply w_seq
    | apply w_region
    | apply s_nil
    | apply t_norm
    | apply t_exit
    | apply k_hit
    | apply w_exit
    | apply w_ret
    | apply w_skip
    | (apply w_condF; exact rfl; exact rfl))
          exact lv_ret (ret2 rfl (res_tmp rfl) (res_tmp rfl))
    · have h3n : ¬ (w[0].toNat : Int) = 48 := fun e => h3a (UInt8.toNat_inj.1 (by show w[0].toNat = 48; omega))
      have h3 : ¬ ((w.drop (atS w)).head? = some 48 ∧ 1 < w.length) := fun e => h3a (Option.some.inj (hdh.symm.trans e.1))
      refine summW Tryz.func88 rfl rfl 70 rfl (by simp) (fun M0 => ?_)
      repeat (first
    | (apply s_idxS TY; exact rfl; exact rfl; exact rfl; exact rfl; exact rfl; omega; exact hb0)
    | (apply s_a TY; exact rfl)
    | (apply s_t; exact rfl; (first | assumption | omega))
    | (apply s_f; exact rfl; (first | assumption | omega))
    | apply w_seq
    | apply w_region
    | apply s_nil
    | apply t_norm
    | apply w_block
    | apply w_skip
    | (apply w_condF; exact rfl; exact rfl)
    | (apply s_s; exact rfl)
    | (apply s_c TY; exact rfl; omega))
      apply w_loop (fun q : Nat × Nat => ⟨(Ab.upd (Ab.upd (Ab.upd (Ab.upd (fun _ => .bot) 0 (.f (sv w))) 6 (.f (iv 0))) 7 (.f (iv ((q.1 : Nat) : Int)))) 8 (.f (iv ((q.2 : Nat) : Int)))), (fun _ => none), 0⟩) (fun q => (0 ≤ q.2 ∧ q.2 ≤ w.length) ∧ decFrom 0 ((w.drop 0).take (q.2 - 0)) = some q.1) (fun q => w.length - q.2) (0, 0) (⟨⟨Nat.le_refl _, by show 0 ≤ _; omega⟩, rfl⟩) (gh_le ⟨le_upd rfl trivial (le_upd rfl trivial (le_upd rfl trivial (le_upd rfl trivial (le_nil _)))), le_h0 _ _⟩)
      rintro ⟨n, i⟩ ⟨⟨hi1, hi2⟩, hn⟩
      change 0 ≤ i at hi1
      change i ≤ w.length at hi2
      change decFrom 0 ((w.drop 0).take (i - 0)) = some n at hn
      change W _ _ _ _ (⟨(Ab.upd (Ab.upd (Ab.upd (Ab.upd (fun _ => .bot) 0 (.f (sv w))) 6 (.f (iv 0))) 7 (.f (iv ((n : Nat) : Int)))) 8 (.f (iv ((i : Nat) : Int)))), (fun _ => none), 0⟩)
      have hnb : n < 100000000000000000 := by
        have e := decFrom_lt hn
        have e2 : ((w.drop 0).take (i - 0)).length ≤ 17 := by rw [List.length_take, List.length_drop]; omega
        have e3 : 10 ^ ((w.drop 0).take (i - 0)).length ≤ 10 ^ 17 := Nat.pow_le_pow_right (by decide) e2
        have e4 : (10 : Nat) ^ 17 = 100000000000000000 := by decide
        rw [Nat.zero_add, Nat.one_mul] at e
        omega
      by_cases hc : i < w.length
      · have hbi : w[((i : Nat) : Int).toNat]? = some w[i] := by rw [Int.toNat_natCast]; exact List.getElem?_eq_getElem hc
        have hcv : w[i].toNat - 48 < 256 := by have := w[i].toNat_lt; omega
        by_cases hlo : 48 ≤ w[i].toNat
        case neg =>
          rw [numR_no (numO_bad (k := i - 0) ha (by omega) hn (by rw [show 0 + (i - 0) = i by omega]; exact List.getElem?_eq_getElem hc) (by omega))]
          repeat (first
    | (apply s_idxS TY; exact rfl; exact rfl; exact rfl; exact rfl; exact rfl; omega; exact hbi)
    | (apply s_a TY; exact rfl)
    | (apply s_t; exact rfl; (first | assumption | omega))
    | apply w_seq
    | apply w_region
    | apply s_nil
    | apply t_norm
    | apply t_ret
    | apply k_ret
    | apply w_block
    | apply w_ret
    | apply w_skip
    | (apply w_condT; exact rfl; exact rfl)
    | (apply s_s; exact rfl))
          exact lv_ret (ret2 rfl (res_tmp rfl) (res_tmp rfl))
        by_cases hhi : w[i].toNat ≤ 57
        case neg =>
          rw [numR_no (numO_bad (k := i - 0) ha (by omega) hn (by rw [show 0 + (i - 0) = i by omega]; exact List.getElem?_eq_getElem hc) (by omega))]
          repeat (first
    | (apply s_idxS TY; exact rfl; exact rfl; exact rfl; exact rfl; exact rfl; omega; exact hbi)
    | (apply s_a TY; exact rfl)
    | (apply s_t; exact rfl; (first | assumption | omega))
    | (apply s_f; exact rfl; (first | assumption | omega))
    | apply w_seq
    | apply w_region
    | apply s_nil
    | apply t_norm
    | apply t_ret
    | apply k_ret
    | apply w_block
    | apply w_ret
    | apply w_skip
    | (apply w_condT; exact rfl; exact rfl))
          exact lv_ret (ret2 rfl (res_tmp rfl) (res_tmp rfl))
        have hsn : decFrom 0 ((w.drop 0).take (i + 1 - 0)) = some (n * 10 + (w[i].toNat - 48)) := by
          rw [take_snoc hc hi1, decFrom_snoc, hn]
          show (digitVal w[i]).map _ = _
          unfold digitVal
          rw [if_pos ⟨hlo, hhi⟩]; rfl
        repeat (first
    | (apply s_idxS TY; exact rfl; exact rfl; exact rfl; exact rfl; exact rfl; omega; exact hbi)
    | (apply s_bind; exact rfl; exact rfl; exact rfl; exact rfl; exact rfl; exact rfl; exact sub8_run hlo hhi)
    | (apply s_convW; exact rfl; exact rfl; exact rfl; exact conv_run hcv)
    | (apply s_a TY; exact rfl)
    | (apply s_t; exact rfl; (first | assumption | omega))
    | (apply s_f; exact rfl; (first | assumption | omega))
    | apply w_seq
    | apply w_region
    | apply s_nil
    | apply t_norm
    | apply k_norm
    | apply w_block
    | apply w_skip
    | (apply w_condT; exact rfl; exact rfl)
    | (apply w_condF; exact rfl; exact rfl)
    | (apply s_c TY; exact rfl; omega))
        exact ⟨(n * 10 + (w[i].toNat - 48), i + 1), ⟨⟨by show 0 ≤ i + 1; omega, by show i + 1 ≤ _; omega⟩, hsn⟩, by show _ - (i + 1) < _ - i; omega, gh_le ⟨le_upd rfl trivial (le_upd (congrArg (fun z => AV.f (iv z)) (show (((n * 10 + (w[i].toNat - 48)) : Nat) : Int) = 10 * ((n : Nat) : Int) + (((w[i].toNat - 48) : Nat) : Int) by omega)) trivial (le_upd rfl trivial (le_upd rfl trivial (le_nil _)))), le_h0 _ _⟩⟩
      · have hie : i = w.length := by omega
        subst hie
        rw [List.take_of_length_le (by rw [List.length_drop]; omega)] at hn
        rw [numR_ok ha h3 (by omega) (by rw [hbl]; omega) hn]
        repeat (first
    | (apply s_a TY; exact rfl)
    | (apply s_f; exact rfl; (first | assumption | omega))
    | apply w_seq
    | apply w_region
    | apply s_nil
    | apply t_norm
    | apply t_exit
    | apply k_hit
    | apply w_exit
    | apply w_ret
    | apply w_skip
    | (apply w_condF; exact rfl; exact rfl))
        exact lv_ret (ret2 rfl (res_tmp rfl) (res_tmp rfl))
end Go.Proofs.YtnmaabejdmaahaaGreatDoor
namespace Go.Proofs.YtnmaabejdmaahaaGreatDoor
open Go.Lib (itoa decDigits decFrom digitVal join atoiAll)
open Go Go.RowKit Go.Proofs Go.Shelf Go.Ab
def I64 (l : List Int) : Prop := ∀ z ∈ l, -9223372036854775808 ≤ z ∧ z ≤ 9223372036854775807
def wordsS (l : List Int) : Nm := join (l.map itoa) [32]
theorem join_len : ∀ (l : List Nm) (B : Nat), (∀ s ∈ l, s.length ≤ B) → (join l [32]).length ≤ (B + 1) * l.length
  | [], B, _ => by rw [Lib.join_nil]; simp
  | [x], B, h => by rw [Lib.join_one]; have := h x (by simp); simp; omega
  | x :: y :: r, B, h => by
    have ih := join_len (y :: r) B (fun s hs => h s (by simp [List.mem_cons.1 hs]))
    have e : join (x :: y :: r) [32] = x ++ 32 :: join (y :: r) [32] := by
      rw [Lib.join_cons, Lib.join_cons]
      unfold Lib.joinTail
      simp
    have hx := h x (by simp)
    rw [e, List.length_append, List.length_cons, List.length_cons, Nat.mul_succ]
    omega
theorem itoa_len {z : Int} (h : -9223372036854775808 ≤ z ∧ z ≤ 9223372036854775807) : (itoa z).length ≤ 21 := Lib.itoa_length_le z h.1 h.2
theorem itoas_len {l : List Int} (h : I64 l) (k : Nat) : (join ((l.map itoa).take k) [32]).length ≤ 22 * l.length := by
  have h1 := join_len ((l.map itoa).take k) 21 (fun s hs => by
    obtain ⟨z, hz, rfl⟩ := List.mem_map.1 (List.mem_of_mem_take hs)
    exact itoa_len (h z hz))
  have h2 : ((l.map itoa).take k).length ≤ l.length := by rw [List.length_take, List.length_map]; omega
  have := Nat.mul_le_mul_left 22 h2
  omega
theorem wordsS_len {l : List Int} (h : I64 l) : (wordsS l).length ≤ 22 * l.length := by
  have := itoas_len h l.length
  rw [List.take_of_length_le (by simp)] at this
  exact this
theorem res_nil {C : Ctx} {n : Nat} {st : St} {t : Nat} (h : st.s t = .f (.v (.slice none 0 0))) : ResOk C n st (.tmp t) (.sl 0 []) := fun w0 a w S =>
  let ⟨v, h1, h2⟩ := res_tmp h w0 a w S
  ⟨v, h1, rep_nilsl h2⟩
theorem atoi_rng {l : Nm} {v : Int} (h : atoiAll l = .ok v) : -9223372036854775808 ≤ v ∧ v ≤ 9223372036854775807 := by
  unfold atoiAll at h
  cases l with
  | nil => cases h
  | cons c r =>
    simp only at h
    split at h
    · cases h
    · cases h
    · rename_i u hu
      split at h
      · cases h
      · split at h
        · cases h
        · injection h with h
          by_cases hn : c.toNat = 45
          · rw [if_pos hn] at h; omega
          · rw [if_neg hn] at h; omega
theorem atS_pos {v : Int} (h : 0 ≤ v) : atS (itoa v) = 0 := by
  unfold itoa
  rw [if_neg (by omega)]
  exact atS_dec _
end Go.Proofs.YtnmaabejdmaahaaGreatDoor
namespace Go.Proofs.YtnmaabejdmaahaaGreatDoor
open Go Go.RowKit Go.Proofs Go.Shelf Go.Ab
open Go.Lib (indexByte)
def encS (x : Nm) : Array Value := #[.string ⟨x.toArray⟩]
theorem indexByte_cases (c : UInt8) : ∀ (s : List UInt8), (indexByte s c = -1 ∧ c ∉ s) ∨ ∃ a b, s = a ++ c :: b ∧ c ∉ a ∧ indexByte s c = (a.length : Nat)
  | [] => .inl ⟨rfl, by simp⟩
  | x :: s => by
    rw [indexByte]
    by_cases hx : x = c
    · subst hx
      rw [if_pos (by simp)]
      exact .inr ⟨[], s, rfl, by simp, rfl⟩
    · rw [if_neg (by simpa using hx)]
      rcases indexByte_cases c s with ⟨h1, h2⟩ | ⟨a, b, h1, h2, h3⟩
      · rw [h1]
        exact .inl ⟨rfl, by simp [h2]; exact fun e => hx e.symm⟩
      · rw [h3, if_neg (by simp)]
        refine .inr ⟨x :: a, b, by rw [h1]; rfl, by simp [h2]; exact fun e => hx e.symm, ?_⟩
        rw [List.length_cons]; omega
theorem drop_cut {c : UInt8} {L : List Nm} {k : Nat} {r a b : Nm} (h : L.drop k = cutS c r) (hr : r = a ++ c :: b) (ha : c ∉ a) : ∃ hk : k < L.length, L[k] = a ∧ L.drop (k + 1) = cutS c b := by
  rw [hr, cutS_hit c a b ha] at h
  have hk : k < L.length := by
    refine Classical.byContradiction fun hn => ?_
    rw [List.drop_of_length_le (by omega)] at h; cases h
  rw [List.drop_eq_getElem_cons hk] at h
  injection h with h1 h2
  exact ⟨hk, h1, h2⟩
theorem drop_last {c : UInt8} {L : List Nm} {k : Nat} {r : Nm} (h : L.drop k = cutS c r) (hr : c ∉ r) : ∃ hk : k < L.length, L[k] = r ∧ k + 1 = L.length := by
  rw [cutS_miss c r hr] at h
  have hk : k < L.length := by
    refine Classical.byContradiction fun hn => ?_
    rw [List.drop_of_length_le (by omega)] at h; cases h
  have hl := congrArg List.length h
  rw [List.length_drop, List.length_singleton] at hl
  rw [List.drop_eq_getElem_cons hk] at h
  injection h with h1 h2
  exact ⟨hk, h1, by omega⟩
theorem one_live {b : Nat} {v : Value} {A : World} (h : OneAt b v A) : A.frozen? ⟨b, 0, none⟩ = false := by
  obtain ⟨T, e⟩ := h
  unfold World.frozen?
  rw [e]; rfl
theorem one_set {b : Nat} {v v' : Value} {A : World} (h : OneAt b v A) : OneAt b v' (A.setCell ⟨b, 0, none⟩ v') ∧ A.grownBy (A.setCell ⟨b, 0, none⟩ v') (some b) := by
  obtain ⟨T, e⟩ := h
  exact ⟨⟨T, by simp [World.setCell, Array.getElem?_modify, e]⟩, grownBy_setCell' A b v'⟩
theorem one_cell {b : Nat} {v : Value} {A : World} (h : OneAt b v A) : A.cell? ⟨b, 0, none⟩ = some v := by
  obtain ⟨T, e⟩ := h
  unfold World.cell?
  rw [e]; rfl
def boxLen (b : Nat) (w : World) : Nat := match w.cell? ⟨b, 0, none⟩ with | some (.string s) => s.size | _ => 0
structure SqRd (B1 o1 b B3 o3 : Nat) (c : UInt8) (v : Value) (w : World) : Prop where
  c1 : w.cell? ⟨B1, o1, none⟩ = some (.string ⟨#[c]⟩)
  c3 : w.cell? ⟨B3, o3, none⟩ = some (.int .i64 0)
  one : OneAt b v w
section
attribute [local go_sem] Oper.semAt_some
set_option maxRecDepth 100000 in
set_option maxHeartbeats 4000000 in
theorem splitSeq_seq (B1 o1 b B3 o3 : Nat) (c : UInt8) (s : Nm) (hs : s.length ≤ 1000000) (Rd : Value → World → Prop) (hR : ∀ v A, Rd v A → SqRd B1 o1 b B3 o3 c v A) : SeqH Tryz.prog 143 #[.pointer (some ⟨B1, o1, none⟩), .pointer (some ⟨b, 0, none⟩), .pointer (some ⟨B3, o3, none⟩)] encS (cutS c s) Rd (fun v A v' A' => OneAt b v A ∧ A.grownBy A' (some b) ∧ OneAt b v' A' ∧ v'.oneCell' = true) (.string ⟨s.toArray⟩) := by
  intro l J Jx W hJ hJx hSt hRd hY h0
  have HJ := Lib.hid hJ
  have HY := Lib.hid hY
  have HS := Lib.hid hSt
  have HRD := Lib.hid (fun k v A (h : J k v A) => hR v A (hRd k v A h))
  have H0 := Lib.hid h0
  obtain ⟨c1, c3, one⟩ := hR _ _ (hRd 0 _ W h0)
  have c2 := one_cell one
  clear hJ hJx hY hSt hRd h0 hR
  refine callsIn_of_wp Tryz.func143 rfl trivial ?_ rfl
  simp only [Tryz.ntmps143, List.size_toArray, List.length_cons, List.length_nil, Nat.reduceAdd, Nat.reduceSub, Array.replicate_succ, Array.replicate_zero, List.push_toArray, List.append_toArray, List.nil_append, List.cons_append]
  gi_wp2
  gi_loopw [] (fun wr => ∃ (k : Nat) (r : Nm), (cutS c s).drop k = cutS c r ∧ r.length ≤ 1000000 ∧ Hid (J k (.string ⟨r.toArray⟩) wr)) (fun wr => boxLen b wr)
  case atStart => exact ⟨0, s, by rw [List.drop_zero], hs, H0⟩
  case round =>
    obtain ⟨k, r, hd, hrl, Hj⟩ := hrel
    obtain ⟨d1, d3, do_⟩ := HRD.out _ _ _ Hj.out
    have d2 := one_cell do_
    clear c1 c3 c2 one
    have hIX : ∀ X : World, Calls Tryz.prog 116 #[.string ⟨r.toArray⟩, .string ⟨#[c]⟩] X fun e w' => e = .returned (.int .i64 (indexByte r c)) ∧ w' = X := fun X => Any.strings_Index_one laysIndex ⟨r.toArray⟩ c X
    have HIX := Lib.hid hIX
    clear hIX
    rcases indexByte_cases c r with ⟨hi, hn⟩ | ⟨a, t, hr, hn, hi⟩
    · have HIX2 : Hid (∀ X : World, Calls Tryz.prog 116 #[.string ⟨r.toArray⟩, .string ⟨#[c]⟩] X fun e w' => e = .returned (.int .i64 (-1)) ∧ w' = X) := Lib.hid (by rw [← hi]; exact HIX.out)
      clear HIX
      obtain ⟨hk, hg, hlast⟩ := drop_last hd hn
      have HYk := HY.out k hk _ wr Hj.out
      rw [hg, encS] at HYk
      obtain ⟨fn, tmps, assign, body, hy, hR⟩ := HYk
      replace hR := Lib.hid hR
      gi_wp2_with (refine ⟨trivial, ?_⟩; gi_at_call 116; refine (callsIn_wide.2 (HIX2.out _)).mono ?_; rintro e w' ⟨rfl, hw'⟩; subst hw')
      refine hR.out.mono ?_
      rintro e W' (⟨rfl, hJ'⟩ | ⟨rfl, hJx'⟩)
      · gi_wp2
        refine bodyPost_end (results_none rfl _ _ _) rfl ?_
        exact ⟨⟨_, rfl⟩, .inl ⟨_, by rw [← hlast]; exact hJ'⟩⟩
      · gi_wp2
        refine bodyPost_end (results_none rfl _ _ _) rfl ?_
        exact ⟨⟨_, rfl⟩, .inr ⟨_, _, Nat.le_of_eq hlast, hJx'⟩⟩
    · subst hr
      have HIX2 : Hid (∀ X : World, Calls Tryz.prog 116 #[.string ⟨(a ++ c :: t).toArray⟩, .string ⟨#[c]⟩] X fun e w' => e = .returned (.int .i64 (a.length : Nat)) ∧ w' = X) := Lib.hid (by rw [← hi]; exact HIX.out)
      clear HIX
      obtain ⟨hk, hg, hd'⟩ := drop_cut hd rfl hn
      have hsz : (⟨(a ++ c :: t).toArray⟩ : ByteArray).size = a.length + 1 + t.length := by simp [ByteArray.size]; omega
      have hab : a.length + 1 + t.length ≤ 1000000 := by rw [List.length_append, List.length_cons] at hrl; omega
      have he1 : (⟨(a ++ c :: t).toArray⟩ : ByteArray).extract 0 a.length = ⟨a.toArray⟩ := by
        apply ByteArray.ext
        apply Array.toList_inj.1
        rw [Lib.extract_from_zero]; simp
      have hm : Hid (boxLen b wr = a.length + 1 + t.length) := Lib.hid (by unfold boxLen; rw [d2]; exact hsz)
      have HYk := HY.out k hk _ wr Hj.out
      rw [hg, encS] at HYk
      obtain ⟨fn, tmps, assign, body, hy, hR⟩ := HYk
      replace hR := Lib.hid hR
      gi_wp2_with (refine ⟨trivial, ?_⟩; gi_at_call 116; refine (callsIn_wide.2 (HIX2.out _)).mono ?_; rintro e w' ⟨rfl, hw'⟩; subst hw')
      refine hR.out.mono ?_
      rintro e W' (⟨rfl, hJ'⟩ | ⟨rfl, hJx'⟩)
      · obtain ⟨f1, f3, fo⟩ := HRD.out _ _ _ hJ'
        have f2 := one_cell fo
        have f4 := one_live fo
        have FO := Lib.hid fo
        have Hj2 := Lib.hid hJ'
        have he2 : (⟨(a ++ c :: t).toArray⟩ : ByteArray).extract (a.length + 1) (a.length + 1 + t.length) = ⟨t.toArray⟩ := by
          apply ByteArray.ext
          apply Array.toList_inj.1
          rw [show a.length + 1 + t.length = (⟨(a ++ c :: t).toArray⟩ : ByteArray).size by rw [hsz], Lib.extract_to_end]; simp
        clear d1 d2 d3 do_ hJ' fo hy hR Hj
        gi_wp2
        obtain ⟨o1', g1'⟩ := one_set (v' := .string ⟨t.toArray⟩) FO.out
        refine ⟨⟨k + 1, t, hd', by omega, Lib.hid (HS.out _ _ _ _ _ ⟨FO.out, g1', o1', rfl⟩ Hj2.out)⟩, ?_⟩
        rw [hm.out]
        have := one_cell o1'
        unfold boxLen
        rw [this]
        simp [ByteArray.size]
      · clear d1 d2 d3 do_ hy hR Hj
        gi_wp2
        refine bodyPost_ret (results_none rfl _ _ _) rfl ?_
        exact ⟨⟨_, rfl⟩, .inr ⟨_, _, hk, hJx'⟩⟩
end
theorem lies_cell1 {w : World} {M : Nat → Prop} {b off k : Nat} {us : List Value} {v : Value} (h : Lies w M b off us) (hv : us[k]? = some v) : w.cell? ⟨b, off + k, none⟩ = some v := (h.at_ k (List.getElem?_eq_some_iff.1 hv).1).trans hv
theorem splitSeq_B {G : Nat → Option FV} (c : UInt8) (s : Nm) (hs : s.length ≤ 1000000) : SeqB Tryz.prog G 143 [.pt [sv [c]] 0] [.pt [iv 0] 0] encS (cutS c s) (.string ⟨s.toArray⟩) := by
  refine ⟨enters_of Tryz.func143 (by kernel_rfl) rfl, fun w M us vs b hM hG R1 R2 hb => ?_⟩
  obtain ⟨u1, us1, rfl, r1, R1⟩ := R1.head
  have := R1.end; subst this
  obtain ⟨u2, vs1, rfl, r2, R2⟩ := R2.head
  have := R2.end; subst this
  cases r1 with
  | pt B1 o1 _ _ cv c1 c2 c3 c4 =>
  cases r2 with
  | pt B3 o3 _ _ gv g1 g2 g3 g4 =>
  have ec : cv = [.string ⟨#[c]⟩] := detC_spec ⟨c1, c4⟩ rfl
  have eg : gv = [.int .i64 0] := detC_spec ⟨g1, g4⟩ rfl
  subst ec; subst eg
  refine splitSeq_seq B1 o1 b B3 o3 c s hs _ (fun v X hX => ?_)
  obtain ⟨hsz, hk, ho⟩ := hX
  have lc1 := c3.mono (M' := M) hk hsz (fun _ _ h => h)
  have lg1 := g3.mono (M' := M) hk hsz (fun _ _ h => h)
  exact ⟨lies_cell1 (k := 0) lc1 rfl, lies_cell1 (k := 0) lg1 rfl, ho⟩
theorem splitSeq_g {G : Nat → Option FV} (s sep : Nm) : SummG Tryz.prog G 117 [] [.f (sv s), .f (sv sep), .f (iv 0)] (.fb 143 [.f (.pt [sv sep] 0), .bx 0 0, .f (.pt [iv 0] 0)]) [.box [.f (sv s)]] := by
  refine summG_of Tryz.func117 rfl rfl 8 rfl (by simp) (by simp) (fun i B B_ h1 h2 => by simp at h1) (fun M X J => ?_)
  repeat (first
    | (apply s_boxw (d := some 3); exact rfl; exact rfl; exact rfl; exact rfl)
    | (apply s_a TY; exact rfl)
    | (apply s_makefbC; exact rfl; exact rfl; exact rfl)
    | apply w_seq
    | apply w_region
    | apply s_nil
    | apply t_norm
    | apply w_ret)
  exact lvG_ret (gh_trans (b := ⟨Ab.upd (fun _ => .bot) 6 (.fb 143 [.f (.pt [sv sep] 0), .bx 0 0, .f (.pt [iv 0] 0)]), Ab.upd (fun _ => none) 0 (some (.box [.f (sv s)])), 1⟩) (gh_le ⟨le_upd rfl rfl (le_nil _), le_hupd rfl (fun x hx => by simp at hx; subst hx; trivial) (le_h0 _ _)⟩) (gh_eq (by funext k; cases k <;> rfl))) (rg1 rfl (rv_tmp rfl))
theorem SplitSeq_g {G : Nat → Option FV} (s sep : Nm) : SummG Tryz.prog G 84 [] [.f (sv s), .f (sv sep)] (.fb 143 [.f (.pt [sv sep] 0), .bx 0 0, .f (.pt [iv 0] 0)]) [.box [.f (sv s)]] := by
  have H := splitSeq_g (G := G) s sep
  refine summG_of Tryz.func84 rfl rfl 8 rfl (by simp) (by simp) (fun i B B_ h1 h2 => by simp at h1) (fun M X J => ?_)
  repeat (first
    | (apply s_a TY; exact rfl)
    | apply w_seq
    | apply w_region
    | apply s_nil
    | apply t_norm
    | apply w_ret
    | (apply s_callG [] (H); exact rfl; exact rfl; exact rfl; exact trivial; exact rfl; (first | exact ⟨rfl, rfl⟩ | exact ⟨⟨rfl, rfl⟩, ⟨rfl, rfl⟩⟩ | exact ⟨⟨rfl, rfl⟩, ⟨rfl, rfl⟩, ⟨rfl, rfl⟩⟩)))
  exact lvG_ret (gh_trans (b := ⟨Ab.upd (fun _ => .bot) 4 (.fb 143 [.f (.pt [sv sep] 0), .bx 0 0, .f (.pt [iv 0] 0)]), Ab.upd (fun _ => none) 0 (some (.box [.f (sv s)])), 1⟩) (gh_le ⟨le_upd rfl rfl (le_nil _), le_hupd rfl (fun x hx => by simp at hx; subst hx; trivial) (le_h0 _ _)⟩) (gh_eq (by funext k; cases k <;> rfl))) (rg1 rfl (rv_tmp rfl))
theorem TrimPrefix_s {G : Nat → Option FV} (s q : Nm) : Summ Tryz.prog G 86 [sv s, sv q] (sv (Lib.trimPrefix s q)) :=
  ⟨enters_of Tryz.func86 (by kernel_rfl) rfl, fun w M us _ hG hR => by
    obtain rfl := two_args hR
    exact (Any.strings_TrimPrefix laysTrimp ⟨s.toArray⟩ ⟨q.toArray⟩ w).mono fun e w' ⟨he, hw⟩ => ⟨_, he, RepF.v _, by rw [hw]; exact Ext.refl _⟩⟩
end Go.Proofs.YtnmaabejdmaahaaGreatDoor
namespace Go.Proofs.YtnmaabejdmaahaaGreatDoor
open Go Go.RowKit Go.Proofs Go.Shelf Go.Ab
structure Layer where
  delay : Int
  loss : Int
  scatter : Int
deriving DecidableEq, Inhabited
structure ICel where
  col : Int
  row : Int
deriving DecidableEq, Inhabited
structure Grid where
  layers : List Layer
  rows : Int
  tilt : List Int
deriving DecidableEq
structure Valid (x : Grid) : Prop where
  l1 : 1 ≤ x.layers.length
  l6 : x.layers.length ≤ 6
  lay : ∀ l ∈ x.layers, (1 ≤ l.delay ∧ l.delay ≤ 1000) ∧ (0 ≤ l.loss ∧ l.loss ≤ 1000) ∧ 0 ≤ l.scatter ∧ l.scatter ≤ 1000
  r1 : 1 ≤ x.rows
  r12 : x.rows ≤ 12
  t1 : 1 ≤ x.tilt.length
  t8 : x.tilt.length ≤ 8
  til : ∀ t ∈ x.tilt, -12 ≤ t ∧ t ≤ 12
def InG (x : Grid) (c : ICel) : Prop := (0 ≤ c.col ∧ c.col < x.tilt.length) ∧ 0 ≤ c.row ∧ c.row < x.rows
instance (x : Grid) (c : ICel) : Decidable (InG x c) := by unfold InG; infer_instance
def cellB (x : Grid) (c : ICel) : Bool := decide (InG x c)
theorem cellB_in {x : Grid} {c : ICel} (_v : Valid x) : cellB x c = true ↔ InG x c := by unfold cellB; exact decide_eq_true_iff
def layerI (x : Grid) (c : ICel) : Int := max 0 (min (c.row - x.tilt.getD c.col.toNat 0) ((x.layers.length : Int) - 1))
def delayAt (x : Grid) (c : ICel) : Int := (x.layers.getD (layerI x c).toNat ⟨0, 0, 0⟩).delay
def stepI (x : Grid) (a b : ICel) : Int := delayAt x a + delayAt x b
theorem layerI_bd {x : Grid} (v : Valid x) (c : ICel) : 0 ≤ layerI x c ∧ layerI x c < x.layers.length := by
  have := v.l1
  unfold layerI; omega
theorem delayAt_bd {x : Grid} (v : Valid x) (c : ICel) : 1 ≤ delayAt x c ∧ delayAt x c ≤ 1000 := by
  obtain ⟨h1, h2⟩ := layerI_bd v c
  have h3 : (layerI x c).toNat < x.layers.length := by omega
  unfold delayAt
  rw [List.getD_eq_getElem?_getD, List.getElem?_eq_getElem h3, Option.getD_some]
  exact (v.lay _ (List.getElem_mem h3)).1
def cand (c : ICel) : List ICel := [⟨c.col + -1, c.row + 0⟩, ⟨c.col + 0, c.row + -1⟩, ⟨c.col + 0, c.row + 1⟩, ⟨c.col + 1, c.row + 0⟩]
def nbrs (x : Grid) (c : ICel) : List ICel := (cand c).filter (cellB x)
def cellsL (x : Grid) : List ICel := (List.range x.rows.toNat).flatMap fun (r : Nat) => (List.range x.tilt.length).map fun (c : Nat) => (⟨(c : Int), (r : Int)⟩ : ICel)
theorem mem_nbrs {x : Grid} (v : Valid x) {c n : ICel} : n ∈ nbrs x c ↔ InG x n ∧ ((n.col = c.col - 1 ∧ n.row = c.row) ∨ (n.col = c.col ∧ n.row = c.row - 1) ∨ (n.col = c.col ∧ n.row = c.row + 1) ∨ (n.col = c.col + 1 ∧ n.row = c.row)) := by
  unfold nbrs
  rw [List.mem_filter, cellB_in v]
  have : n ∈ cand c ↔ ((n.col = c.col - 1 ∧ n.row = c.row) ∨ (n.col = c.col ∧ n.row = c.row - 1) ∨ (n.col = c.col ∧ n.row = c.row + 1) ∨ (n.col = c.col + 1 ∧ n.row = c.row)) := by
    cases n; cases c
    simp [cand]
    omega
  rw [this]
  exact And.comm
theorem nbrs_symm {x : Grid} (v : Valid x) {c n : ICel} (hc : InG x c) (h : n ∈ nbrs x c) : c ∈ nbrs x n := by
  rw [mem_nbrs v] at h ⊢
  refine ⟨hc, ?_⟩
  omega
theorem nbrs_in {x : Grid} (v : Valid x) {c n : ICel} (h : n ∈ nbrs x c) : InG x n := ((mem_nbrs v).1 h).1
theorem stepI_symm (x : Grid) (a b : ICel) : stepI x a b = stepI x b a := Int.add_comm _ _
theorem stepI_bd {x : Grid} (v : Valid x) (a b : ICel) : 2 ≤ stepI x a b ∧ stepI x a b ≤ 2000 := by
  have := delayAt_bd v a
  have := delayAt_bd v b
  unfold stepI; omega
structure IsDist (x : Grid) (fr : ICel) (d : ICel → Int) : Prop where
  zero : d fr = 0
  nonneg : ∀ c, InG x c → 0 ≤ d c
  le : ∀ c n, InG x c → n ∈ nbrs x c → d n ≤ d c + stepI x c n
  tight : ∀ c, InG x c → c ≠ fr → ∃ n ∈ nbrs x c, d c = d n + stepI x n c
theorem IsDist.le_of {x : Grid} (v : Valid x) {fr : ICel} {d d' : ICel → Int} (h : IsDist x fr d) (h' : IsDist x fr d') : ∀ (k : Nat) (c : ICel), InG x c → (d' c).toNat ≤ k → d c ≤ d' c := by
  intro k
  induction k using Nat.strongRecOn with
  | _ k ih =>
    intro c hc hk
    by_cases hf : c = fr
    · subst hf; rw [h.zero, h'.zero]; exact Int.le_refl _
    · obtain ⟨n, hn, e⟩ := h'.tight c hc hf
      have hin := nbrs_in v hn
      have s := stepI_bd v n c
      have p := h'.nonneg n hin
      have := ih (d' n).toNat (by omega) n hin (Nat.le_refl _)
      have := h.le n c hin (nbrs_symm v hc hn)
      omega
theorem IsDist.unique {x : Grid} (v : Valid x) {fr : ICel} {d d' : ICel → Int} (h : IsDist x fr d) (h' : IsDist x fr d') {c : ICel} (hc : InG x c) : d c = d' c :=
  Int.le_antisymm (h.le_of v h' _ c hc (Nat.le_refl _)) (h'.le_of v h _ c hc (Nat.le_refl _))
theorem IsDist.pos {x : Grid} (v : Valid x) {fr : ICel} {d : ICel → Int} (h : IsDist x fr d) {c : ICel} (hc : InG x c) : d c = 0 ↔ c = fr := by
  constructor
  · intro e
    refine Classical.byContradiction fun hn => ?_
    obtain ⟨n, hn, e2⟩ := h.tight c hc hn
    have := h.nonneg n (nbrs_in v hn)
    have := stepI_bd v n c
    omega
  · rintro rfl; exact h.zero
theorem grid_conn {x : Grid} (v : Valid x) {P : ICel → Prop} {fr : ICel} (hf : InG x fr) (h0 : P fr) (hs : ∀ c n, InG x c → P c → n ∈ nbrs x c → P n) : ∀ c, InG x c → P c := by
  have right : ∀ (k : Nat) (c r : Int), InG x ⟨c, r⟩ → P ⟨c, r⟩ → c + k < x.tilt.length → P ⟨c + k, r⟩ := by
    intro k
    induction k with
    | zero => intro c r _ hp _; simpa using hp
    | succ k ih =>
      intro c r hc hp hk
      have h1 := ih c r hc hp (by omega)
      have hin : InG x ⟨c + k, r⟩ := ⟨⟨by have := hc.1.1; simp only at this ⊢; omega, by simp only; omega⟩, hc.2⟩
      have := hs ⟨c + k, r⟩ ⟨c + (k + 1 : Nat), r⟩ hin h1 ((mem_nbrs v).2 ⟨⟨⟨by have := hc.1.1; simp only at this ⊢; omega, by simp only; omega⟩, hc.2⟩, .inr (.inr (.inr ⟨by simp only; omega, rfl⟩))⟩)
      exact this
  have left : ∀ (k : Nat) (c r : Int), InG x ⟨c, r⟩ → P ⟨c, r⟩ → 0 ≤ c - k → P ⟨c - k, r⟩ := by
    intro k
    induction k with
    | zero => intro c r _ hp _; simpa using hp
    | succ k ih =>
      intro c r hc hp hk
      have h1 := ih c r hc hp (by omega)
      have hin : InG x ⟨c - k, r⟩ := ⟨⟨by simp only; omega, by have := hc.1.2; simp only at this ⊢; omega⟩, hc.2⟩
      exact hs ⟨c - k, r⟩ ⟨c - (k + 1 : Nat), r⟩ hin h1 ((mem_nbrs v).2 ⟨⟨⟨by simp only; omega, by have := hc.1.2; simp only at this ⊢; omega⟩, hc.2⟩, .inl ⟨by simp only; omega, rfl⟩⟩)
  have down : ∀ (k : Nat) (c r : Int), InG x ⟨c, r⟩ → P ⟨c, r⟩ → r + k < x.rows → P ⟨c, r + k⟩ := by
    intro k
    induction k with
    | zero => intro c r _ hp _; simpa using hp
    | succ k ih =>
      intro c r hc hp hk
      have h1 := ih c r hc hp (by omega)
      have hin : InG x ⟨c, r + k⟩ := ⟨hc.1, by have := hc.2.1; simp only at this ⊢; omega, by simp only; omega⟩
      exact hs ⟨c, r + k⟩ ⟨c, r + (k + 1 : Nat)⟩ hin h1 ((mem_nbrs v).2 ⟨⟨hc.1, by have := hc.2.1; simp only at this ⊢; omega, by simp only; omega⟩, .inr (.inr (.inl ⟨rfl, by simp only; omega⟩))⟩)
  have up : ∀ (k : Nat) (c r : Int), InG x ⟨c, r⟩ → P ⟨c, r⟩ → 0 ≤ r - k → P ⟨c, r - k⟩ := by
    intro k
    induction k with
    | zero => intro c r _ hp _; simpa using hp
    | succ k ih =>
      intro c r hc hp hk
      have h1 := ih c r hc hp (by omega)
      have hin : InG x ⟨c, r - k⟩ := ⟨hc.1, by simp only; omega, by have := hc.2.2; simp only at this ⊢; omega⟩
      exact hs ⟨c, r - k⟩ ⟨c, r - (k + 1 : Nat)⟩ hin h1 ((mem_nbrs v).2 ⟨⟨hc.1, by simp only; omega, by have := hc.2.2; simp only at this ⊢; omega⟩, .inr (.inl ⟨rfl, by simp only; omega⟩)⟩)
  intro c hc
  obtain ⟨fc, fr⟩ := fr
  obtain ⟨cc, cr⟩ := c
  have m : P ⟨cc, fr⟩ := by
    rcases Int.le_total fc cc with h | h
    · have := right (cc - fc).toNat fc fr hf h0 (by have := hc.1.2; simp only at this; omega)
      rwa [show fc + ((cc - fc).toNat : Int) = cc by omega] at this
    · have := left (fc - cc).toNat fc fr hf h0 (by have := hc.1.1; simp only at this; omega)
      rwa [show fc - ((fc - cc).toNat : Int) = cc by omega] at this
  have hm : InG x ⟨cc, fr⟩ := ⟨hc.1, hf.2⟩
  rcases Int.le_total fr cr with h | h
  · have := down (cr - fr).toNat cc fr hm m (by have := hc.2.2; simp only at this; omega)
    rwa [show fr + ((cr - fr).toNat : Int) = cr by omega] at this
  · have := up (fr - cr).toNat cc fr hm m (by have := hc.2.1; simp only at this; omega)
    rwa [show fr - ((fr - cr).toNat : Int) = cr by omega] at this
structure Search (x : Grid) (fr : ICel) (S O : ICel → Option Int) (N : Nat) : Prop where
  apart : ∀ c t, O c = some t → S c = none
  sIn : ∀ c t, S c = some t → InG x c ∧ 0 ≤ t
  oIn : ∀ c t, O c = some t → InG x c ∧ 0 ≤ t ∧ t ≤ 2000 * N
  edge : ∀ a t n, S a = some t → n ∈ nbrs x a → ∃ u, (S n = some u ∨ O n = some u) ∧ u ≤ t + stepI x a n
  sTight : ∀ c t, S c = some t → c ≠ fr → ∃ n ∈ nbrs x c, ∃ u, S n = some u ∧ t = u + stepI x n c
  oTight : ∀ c t, O c = some t → c ≠ fr → ∃ n ∈ nbrs x c, ∃ u, S n = some u ∧ t = u + stepI x n c
  mono : ∀ a t c u, S a = some t → O c = some u → t ≤ u
  start : S fr = some 0 ∨ (O fr = some 0 ∧ (∀ c, S c = none) ∧ ∀ c t, O c = some t → c = fr)
theorem Search.done {x : Grid} (v : Valid x) {fr : ICel} (hf : InG x fr) {S O : ICel → Option Int} {N : Nat} (h : Search x fr S O N) (ho : ∀ c, O c = none) :
    IsDist x fr (fun c => (S c).getD 0) ∧ ∀ c, InG x c → ∃ t, S c = some t := by
  have hs : S fr = some 0 := by
    rcases h.start with h | ⟨h, _⟩
    · exact h
    · rw [ho] at h; cases h
  have hall : ∀ c, InG x c → ∃ t, S c = some t := grid_conn v hf ⟨0, hs⟩ (fun c n _ ⟨t, ht⟩ hn => by
    obtain ⟨u, hu | hu, _⟩ := h.edge c t n ht hn
    · exact ⟨u, hu⟩
    · rw [ho] at hu; cases hu)
  refine ⟨⟨by simp [hs], fun c hc => ?_, fun c n hc hn => ?_, fun c hc hne => ?_⟩, hall⟩
  · obtain ⟨t, ht⟩ := hall c hc
    simp only [ht, Option.getD_some]
    exact (h.sIn c t ht).2
  · obtain ⟨t, ht⟩ := hall c hc
    obtain ⟨u, hu | hu, hle⟩ := h.edge c t n ht hn
    · simp only [ht, hu, Option.getD_some]; exact hle
    · rw [ho] at hu; cases hu
  · obtain ⟨t, ht⟩ := hall c hc
    obtain ⟨n, hn, u, hu, e⟩ := h.sTight c t ht hne
    exact ⟨n, hn, by simp only [ht, hu, Option.getD_some]; exact e⟩
structure Round (x : Grid) (fr now : ICel) (m : Int) (S O : ICel → Option Int) (N : Nat) (pre : List ICel) : Prop where
  apart : ∀ c t, O c = some t → S c = none
  sIn : ∀ c t, S c = some t → InG x c ∧ 0 ≤ t
  oIn : ∀ c t, O c = some t → InG x c ∧ 0 ≤ t ∧ t ≤ 2000 * N
  edge : ∀ a t n, S a = some t → n ∈ nbrs x a → (a = now → n ∈ pre) → ∃ u, (S n = some u ∨ O n = some u) ∧ u ≤ t + stepI x a n
  sTight : ∀ c t, S c = some t → c ≠ fr → ∃ n ∈ nbrs x c, ∃ u, S n = some u ∧ t = u + stepI x n c
  oTight : ∀ c t, O c = some t → c ≠ fr → ∃ n ∈ nbrs x c, ∃ u, S n = some u ∧ t = u + stepI x n c
  mono : ∀ a t c u, S a = some t → O c = some u → t ≤ u
  top : ∀ a t, S a = some t → t ≤ m
  here : S now = some m
  start : S fr = some 0
  small : m ≤ 2000 * (N - 1 : Nat) ∧ 1 ≤ N
theorem Search.pick {x : Grid} (_v : Valid x) {fr now : ICel} {m : Int} {S O S' O' : ICel → Option Int} {N : Nat} (h : Search x fr S O N) (hn : O now = some m) (hmin : ∀ c t, O c = some t → m ≤ t)
    (hS : ∀ c, S' c = if c = now then some m else S c) (hO : ∀ c, O' c = if c = now then none else O c) : Round x fr now m S' O' (N + 1) [] := by
  have hin := h.oIn now m hn
  refine ⟨fun c t hc => ?_, fun c t hc => ?_, fun c t hc => ?_, fun a t n ha hna hp => ?_, fun c t hc hne => ?_, fun c t hc hne => ?_, fun a t c u ha hc => ?_, fun a t ha => ?_, by rw [hS]; simp, ?_, ?_⟩
  · rw [hO] at hc; split at hc
    · cases hc
    · rename_i e; rw [hS, if_neg e]; exact h.apart c t hc
  · rw [hS] at hc; split at hc
    · rename_i e; cases hc; subst e; exact ⟨hin.1, hin.2.1⟩
    · exact h.sIn c t hc
  · rw [hO] at hc; split at hc
    · cases hc
    · have := h.oIn c t hc; exact ⟨this.1, this.2.1, by omega⟩
  · rw [hS] at ha; split at ha
    · rename_i e; have := hp e; cases this
    · obtain ⟨u, hu, hle⟩ := h.edge a t n ha hna
      rcases hu with hu | hu
      · refine ⟨u, .inl ?_, hle⟩
        rw [hS, if_neg]
        · exact hu
        · rintro rfl; rw [h.apart _ _ hn] at hu; cases hu
      · by_cases e : n = now
        · subst e
          rw [hn] at hu; cases hu
          exact ⟨m, .inl (by rw [hS]; simp), hle⟩
        · exact ⟨u, .inr (by rw [hO, if_neg e]; exact hu), hle⟩
  · have keep : ∀ n u, S n = some u → S' n = some u := fun n u hu => by
      rw [hS, if_neg]
      · exact hu
      · rintro rfl; rw [h.apart _ _ hn] at hu; cases hu
    rw [hS] at hc; split at hc
    · rename_i e; cases hc; subst e
      obtain ⟨n, h1, u, h2, h3⟩ := h.oTight c m hn hne
      exact ⟨n, h1, u, keep n u h2, h3⟩
    · obtain ⟨n, h1, u, h2, h3⟩ := h.sTight c t hc hne
      exact ⟨n, h1, u, keep n u h2, h3⟩
  · have keep : ∀ n u, S n = some u → S' n = some u := fun n u hu => by
      rw [hS, if_neg]
      · exact hu
      · rintro rfl; rw [h.apart _ _ hn] at hu; cases hu
    rw [hO] at hc; split at hc
    · cases hc
    · obtain ⟨n, h1, u, h2, h3⟩ := h.oTight c t hc hne
      exact ⟨n, h1, u, keep n u h2, h3⟩
  · rw [hO] at hc; split at hc
    · cases hc
    · rw [hS] at ha; split at ha
      · cases ha; exact hmin c u hc
      · exact h.mono a t c u ha hc
  · rw [hS] at ha; split at ha
    · cases ha; exact Int.le_refl _
    · exact h.mono a t now m ha hn
  · rw [hS]
    rcases h.start with hs | ⟨h1, h2, h3⟩
    · rw [if_neg]
      · exact hs
      · rintro rfl; rw [h.apart _ _ hn] at hs; cases hs
    · have e := h3 now m hn
      subst e
      rw [h1] at hn; cases hn
      simp
  · have := hin.2.2
    exact ⟨by simpa using this, by omega⟩
theorem Round.end {x : Grid} {fr now : ICel} {m : Int} {S O : ICel → Option Int} {N : Nat} (h : Round x fr now m S O N (nbrs x now)) : Search x fr S O N :=
  ⟨h.apart, h.sIn, h.oIn, fun a t n ha hn => h.edge a t n ha hn (fun e => by rw [← e]; exact hn), h.sTight, h.oTight, h.mono, .inl h.start⟩
theorem Round.skip {x : Grid} (v : Valid x) {fr now : ICel} {m : Int} {S O : ICel → Option Int} {N : Nat} {pre : List ICel} (h : Round x fr now m S O N pre) {n : ICel} {u : Int} (hs : S n = some u) : Round x fr now m S O N (pre ++ [n]) :=
  ⟨h.apart, h.sIn, h.oIn, fun a t k ha hk hp => by
    by_cases e : a = now ∧ k = n
    · obtain ⟨rfl, rfl⟩ := e
      rw [h.here] at ha; cases ha
      have := h.top k u hs
      have := stepI_bd v a k
      exact ⟨u, .inl hs, by omega⟩
    · refine h.edge a t k ha hk (fun e2 => ?_)
      have := hp e2
      simp at this
      rcases this with h1 | h1
      · exact h1
      · exact absurd ⟨e2, h1⟩ e, h.sTight, h.oTight, h.mono, h.top, h.here, h.start, h.small⟩
theorem Round.stay {x : Grid} {fr now : ICel} {m : Int} {S O : ICel → Option Int} {N : Nat} {pre : List ICel} (h : Round x fr now m S O N pre) {n : ICel} {u : Int} (ho : O n = some u) (hle : u ≤ m + stepI x now n) : Round x fr now m S O N (pre ++ [n]) :=
  ⟨h.apart, h.sIn, h.oIn, fun a t k ha hk hp => by
    by_cases e : a = now ∧ k = n
    · obtain ⟨rfl, rfl⟩ := e
      rw [h.here] at ha; cases ha
      exact ⟨u, .inr ho, hle⟩
    · refine h.edge a t k ha hk (fun e2 => ?_)
      have := hp e2
      simp at this
      rcases this with h1 | h1
      · exact h1
      · exact absurd ⟨e2, h1⟩ e, h.sTight, h.oTight, h.mono, h.top, h.here, h.start, h.small⟩
theorem Round.lower {x : Grid} (v : Valid x) {fr now : ICel} {m : Int} {S O O' : ICel → Option Int} {N : Nat} {pre : List ICel} (h : Round x fr now m S O N pre) {n : ICel} (hn : n ∈ nbrs x now) (hs : S n = none) (hlow : ∀ u, O n = some u → m + stepI x now n ≤ u)
    (hO : ∀ c, O' c = if c = n then some (m + stepI x now n) else O c) : Round x fr now m S O' N (pre ++ [n]) := by
  have hm := h.sIn now m h.here
  have st := stepI_bd v now n
  have sm := h.small
  refine ⟨fun c t hc => ?_, h.sIn, fun c t hc => ?_, fun a t k ha hk hp => ?_, h.sTight, fun c t hc hne => ?_, fun a t c u ha hc => ?_, h.top, h.here, h.start, h.small⟩
  · rw [hO] at hc; split at hc
    · rename_i e; subst e; exact hs
    · exact h.apart c t hc
  · rw [hO] at hc; split at hc
    · rename_i e; cases hc; subst e
      exact ⟨nbrs_in v hn, by omega, by omega⟩
    · exact h.oIn c t hc
  · by_cases e : a = now ∧ k = n
    · obtain ⟨rfl, rfl⟩ := e
      rw [h.here] at ha; cases ha
      exact ⟨m + stepI x a k, .inr (by rw [hO]; simp), Int.le_refl _⟩
    · obtain ⟨u, hu, hle⟩ := h.edge a t k ha hk (fun e2 => by
        have := hp e2
        simp at this
        rcases this with h1 | h1
        · exact h1
        · exact absurd ⟨e2, h1⟩ e)
      rcases hu with hu | hu
      · exact ⟨u, .inl hu, hle⟩
      · by_cases e2 : k = n
        · subst e2
          have := hlow u hu
          exact ⟨m + stepI x now k, .inr (by rw [hO]; simp), by omega⟩
        · exact ⟨u, .inr (by rw [hO, if_neg e2]; exact hu), hle⟩
  · rw [hO] at hc; split at hc
    · rename_i e; cases hc; subst e
      exact ⟨now, nbrs_symm v hm.1 hn, m, h.here, rfl⟩
    · exact h.oTight c t hc hne
  · rw [hO] at hc; split at hc
    · cases hc
      have := h.top a t ha
      omega
    · exact h.mono a t c u ha hc
theorem Search.begin {x : Grid} {fr : ICel} (hf : InG x fr) {S O : ICel → Option Int} (hS : ∀ c, S c = none) (hO : ∀ c, O c = if c = fr then some 0 else none) : Search x fr S O 0 := by
  have ho : ∀ c t, O c = some t → c = fr ∧ t = 0 := fun c t h => by
    rw [hO] at h; split at h
    · rename_i e; cases h; exact ⟨e, rfl⟩
    · cases h
  refine ⟨fun c t _ => hS c, fun c t h => ?_, fun c t h => ?_, fun a t n h => ?_, fun c t h => ?_, fun c t h hne => absurd (ho c t h).1 hne, fun a t c u h => ?_, .inr ⟨by rw [hO]; simp, hS, fun c t h => (ho c t h).1⟩⟩
  · rw [hS] at h; cases h
  · obtain ⟨rfl, rfl⟩ := ho c t h; exact ⟨hf, by decide, by decide⟩
  · rw [hS] at h; cases h
  · rw [hS] at h; cases h
  · rw [hS] at h; cases h
end Go.Proofs.YtnmaabejdmaahaaGreatDoor
namespace Go.Proofs.YtnmaabejdmaahaaGreatDoor
open Go Go.RowKit Go.Proofs Go.Shelf Go.Ab
structure IRng where
  lo : Int
  hi : Int
deriving DecidableEq, Inhabited
def ilayF (x : Layer) : List FV := [iv x.delay, iv x.loss, iv x.scatter]
def ilaysF (l : List Layer) : List FV := l.flatMap ilayF
theorem ilaysF_len (l : List Layer) : (ilaysF l).length = l.length * 3 := flat_len (f := ilayF) (fun _ => rfl) l
theorem ilaysF_ne {l : List Layer} {k : Nat} (h : k < l.length) : ilaysF l ≠ [] := flat_ne (f := ilayF) (fun _ => rfl) (by decide : 0 < 3) h
theorem ilaysF_sub {l : List Layer} {k : Nat} (h : k < l.length) : ((ilaysF l).drop (k * 3)).take 3 = ilayF l[k] := flat_sub (f := ilayF) (fun _ => rfl) h
theorem ilaysF_f0 {l : List Layer} {k : Nat} (h : k < l.length) : (ilaysF l)[k * 3 + 0]? = some (iv l[k].delay) := (flat_at (f := ilayF) (fun _ => rfl) h (by decide : 0 < 3)).trans rfl
theorem ilaysF_f1 {l : List Layer} {k : Nat} (h : k < l.length) : (ilaysF l)[k * 3 + 1]? = some (iv l[k].loss) := (flat_at (f := ilayF) (fun _ => rfl) h (by decide : 1 < 3)).trans rfl
theorem ilaysF_f2 {l : List Layer} {k : Nat} (h : k < l.length) : (ilaysF l)[k * 3 + 2]? = some (iv l[k].scatter) := (flat_at (f := ilayF) (fun _ => rfl) h (by decide : 2 < 3)).trans rfl
theorem ilaysF_app (a b : List Layer) : ilaysF (a ++ b) = ilaysF a ++ ilaysF b := List.flatMap_append
theorem ilaysF_one (x : Layer) : ilaysF [x] = ilayF x := by simp [ilaysF]
theorem ilaysF_snoc (l : List Layer) (x : Layer) : ilaysF (l ++ [x]) = ilaysF l ++ ilayF x := by rw [ilaysF_app, ilaysF_one]
def gridL (x : Grid) : List FV := [.sl x.layers.length (ilaysF x.layers), iv x.rows, .sl x.tilt.length (intsF x.tilt)]
def gridF (x : Grid) : FV := .agg (gridL x)
theorem iwithin_T (n lo hi : Int) (h : lo ≤ n ∧ n ≤ hi) : Summ Tryz.prog GG 69 [iv n, iv lo, iv hi] (.v (.bool true)) := by
  obtain ⟨h1, h2⟩ := h
  refine summW Tryz.func69 rfl rfl 15 rfl (by simp) (fun M0 => ?_)
  repeat (first
    | (apply s_a TY; exact rfl)
    | (apply s_t; exact rfl; (first | assumption | omega))
    | apply w_seq
    | apply w_region
    | apply s_nil
    | apply t_norm
    | apply w_ret)
  exact lv_ret (ret1 rfl (res_tmp rfl))
theorem iwithin_F (n lo hi : Int) (h : ¬ (lo ≤ n ∧ n ≤ hi)) : Summ Tryz.prog GG 69 [iv n, iv lo, iv hi] (.v (.bool false)) := by
  by_cases h1 : lo ≤ n
  · have h2 : ¬ n ≤ hi := fun h2 => h ⟨h1, h2⟩
    refine summW Tryz.func69 rfl rfl 15 rfl (by simp) (fun M0 => ?_)
    repeat (first
    | (apply s_a TY; exact rfl)
    | (apply s_t; exact rfl; (first | assumption | omega))
    | (apply s_f; exact rfl; (first | assumption | omega))
    | apply w_seq
    | apply w_region
    | apply s_nil
    | apply t_norm
    | apply w_ret)
    exact lv_ret (ret1 rfl (res_tmp rfl))
  · refine summW Tryz.func69 rfl rfl 15 rfl (by simp) (fun M0 => ?_)
    repeat (first
    | (apply s_a TY; exact rfl)
    | (apply s_f; exact rfl; (first | assumption | omega))
    | apply w_seq
    | apply w_region
    | apply s_nil
    | apply t_norm
    | apply w_ret
    | (apply s_s; exact rfl))
    exact lv_ret (ret1 rfl (res_tmp rfl))
theorem iunless_T (k : Int) : Summ Tryz.prog GG 36 [.v (.bool true), iv k] (iv 0) := by
  refine summW Tryz.func36 rfl rfl 7 rfl (by simp) (fun M0 => ?_)
  repeat (first
    | (apply s_a TY; exact rfl)
    | apply w_seq
    | apply w_region
    | apply s_nil
    | apply t_norm
    | apply t_ret
    | apply w_ret
    | (apply w_condT; exact rfl; exact rfl))
  exact lv_ret (ret1 rfl (res_tmp rfl))
theorem iunless_F (k : Int) : Summ Tryz.prog GG 36 [.v (.bool false), iv k] (iv k) := by
  refine summW Tryz.func36 rfl rfl 7 rfl (by simp) (fun M0 => ?_)
  repeat (first
    | (apply s_a TY; exact rfl)
    | apply w_seq
    | apply w_region
    | apply s_nil
    | apply t_norm
    | apply w_ret
    | apply w_skip
    | (apply w_condF; exact rfl; exact rfl))
  exact lv_ret (ret1 rfl (res_tmp rfl))
set_option maxRecDepth 100000 in
theorem ifirst_s (l : List Int) (hl : l.length ≤ 1000000) : Summ Tryz.prog GG 34 [.sl l.length (intsF l)] (iv (firstE l)) := by
  refine summW Tryz.func34 rfl rfl 15 rfl (by simp) (fun M0 => ?_)
  repeat (first
    | (apply s_a TY; exact rfl)
    | apply w_seq
    | apply w_region
    | apply s_nil
    | apply t_norm
    | apply w_block)
  apply w_loop (fun k : Nat => ⟨(Ab.upd (Ab.upd (Ab.upd (fun _ => .bot) 5 (.f (.sl l.length (intsF l)))) 6 (.f (iv l.length))) 7 (.f (iv (k : Nat)))), (fun _ => none), 0⟩) (fun k => k ≤ l.length ∧ ∀ j (hj : j < l.length), j < k → l[j] = 0) (fun k => l.length - k) 0 (⟨Nat.zero_le _, fun j _ h => absurd h (Nat.not_lt_zero j)⟩) (gh_le ⟨le_upd rfl trivial (le_upd rfl trivial (le_upd rfl trivial (le_nil _))), le_h0 _ _⟩)
  intro k ⟨hk, hz⟩
  by_cases hc : k < l.length
  · by_cases he : l[k] = 0
    · repeat (first
    | (apply s_a TY; exact rfl)
    | (apply s_t; exact rfl; (first | assumption | omega))
    | apply w_seq
    | apply w_region
    | apply s_nil
    | apply t_norm
    | apply k_norm
    | apply w_block
    | apply w_skip
    | (apply w_condT; exact rfl; exact rfl)
    | (apply w_condF; exact rfl; exact rfl)
    | (apply s_c TY; exact rfl; (first | omega | exact ⟨by omega, by (first | with_reducible assumption | ((with_reducible apply intsF_ne); omega) | assumption)⟩))
    | (apply s_l TY; exact rfl; (first | exact rfl | with_reducible assumption | ((with_reducible apply intsF_at); omega) | assumption)))
      exact ⟨k + 1, ⟨by omega, fun j hj hlt => by
        by_cases e : j = k
        · subst e; exact he
        · exact hz j hj (by omega)⟩, by omega, gh_le ⟨le_upd rfl trivial (le_upd rfl trivial (le_upd rfl trivial (le_nil _))), le_h0 _ _⟩⟩
    · rw [firstE_at hc (fun j hj hlt => hz j hj hlt) he]
      repeat (first
    | (apply s_a TY; exact rfl)
    | (apply s_t; exact rfl; (first | assumption | omega))
    | (apply s_f; exact rfl; (first | assumption | omega))
    | apply w_seq
    | apply w_region
    | apply s_nil
    | apply t_norm
    | apply t_ret
    | apply k_ret
    | apply w_block
    | apply w_ret
    | apply w_skip
    | (apply w_condT; exact rfl; exact rfl)
    | (apply s_c TY; exact rfl; (first | omega | exact ⟨by omega, by (first | with_reducible assumption | ((with_reducible apply intsF_ne); omega) | assumption)⟩))
    | (apply s_l TY; exact rfl; (first | exact rfl | with_reducible assumption | ((with_reducible apply intsF_at); omega) | assumption)))
      exact lv_ret (ret1 rfl (res_tmp rfl))
  · rw [firstE_zeros (fun j hj => hz j hj (by omega))]
    repeat (first
    | (apply s_a TY; exact rfl)
    | (apply s_f; exact rfl; (first | assumption | omega))
    | apply w_seq
    | apply w_region
    | apply s_nil
    | apply t_norm
    | apply t_exit
    | apply k_hit
    | apply w_exit
    | apply w_ret
    | (apply w_condF; exact rfl; exact rfl))
    exact lv_ret (ret1 rfl (res_tmp rfl))
theorem ifirst2_0 (a0 a1 : Int) (h : a0 ≠ 0) : Summ Tryz.prog GG 34 [.sl 2 [iv a0, iv a1]] (iv a0) := by
  have := ifirst_s [a0, a1] (by simp)
  rwa [show firstE [a0, a1] = a0 by simp [firstE, h]] at this
theorem ifirst2_1 (a0 a1 : Int) (h : a0 = 0) : Summ Tryz.prog GG 34 [.sl 2 [iv a0, iv a1]] (iv a1) := by
  have := ifirst_s [a0, a1] (by simp)
  rwa [show firstE [a0, a1] = a1 by simp [firstE, h] <;> exact fun e => e.symm] at this
theorem ifirst3_0 (a0 a1 a2 : Int) (h : a0 ≠ 0) : Summ Tryz.prog GG 34 [.sl 3 [iv a0, iv a1, iv a2]] (iv a0) := by
  have := ifirst_s [a0, a1, a2] (by simp)
  rwa [show firstE [a0, a1, a2] = a0 by simp [firstE, h]] at this
theorem ifirst3_1 (a0 a1 a2 : Int) (h : a0 = 0 ∧ a1 ≠ 0) : Summ Tryz.prog GG 34 [.sl 3 [iv a0, iv a1, iv a2]] (iv a1) := by
  have := ifirst_s [a0, a1, a2] (by simp)
  rwa [show firstE [a0, a1, a2] = a1 by simp [firstE, h]] at this
theorem ifirst3_2 (a0 a1 a2 : Int) (h : a0 = 0 ∧ a1 = 0) : Summ Tryz.prog GG 34 [.sl 3 [iv a0, iv a1, iv a2]] (iv a2) := by
  have := ifirst_s [a0, a1, a2] (by simp)
  rwa [show firstE [a0, a1, a2] = a2 by simp [firstE, h] <;> exact fun e => e.symm] at this
theorem isDelay_T (n : Int) (h : 1 ≤ n ∧ n ≤ 1000) : Summ Tryz.prog GG 123 [iv n] (.v (.bool true)) := by
  refine summW Tryz.func123 rfl rfl 5 rfl (by simp) (fun M0 => ?_)
  repeat (first
    | (apply s_a TY; exact rfl)
    | apply w_seq
    | apply w_region
    | apply s_nil
    | apply t_norm
    | apply w_ret
    | (apply s_k1 (iwithin_T _ _ _); exact rfl; (first | assumption | omega | decide)))
  exact lv_ret (ret1 rfl (res_tmp rfl))
theorem isDelay_F (n : Int) (h : ¬ (1 ≤ n ∧ n ≤ 1000)) : Summ Tryz.prog GG 123 [iv n] (.v (.bool false)) := by
  refine summW Tryz.func123 rfl rfl 5 rfl (by simp) (fun M0 => ?_)
  repeat (first
    | (apply s_a TY; exact rfl)
    | apply w_seq
    | apply w_region
    | apply s_nil
    | apply t_norm
    | apply w_ret
    | (apply s_k1 (iwithin_F _ _ _); exact rfl; (first | assumption | omega | decide)))
  exact lv_ret (ret1 rfl (res_tmp rfl))
theorem isPart_T (n : Int) (h : 0 ≤ n ∧ n ≤ 1000) : Summ Tryz.prog GG 124 [iv n] (.v (.bool true)) := by
  refine summW Tryz.func124 rfl rfl 5 rfl (by simp) (fun M0 => ?_)
  repeat (first
    | (apply s_a TY; exact rfl)
    | apply w_seq
    | apply w_region
    | apply s_nil
    | apply t_norm
    | apply w_ret
    | (apply s_k1 (iwithin_T _ _ _); exact rfl; (first | assumption | omega | decide)))
  exact lv_ret (ret1 rfl (res_tmp rfl))
theorem isPart_F (n : Int) (h : ¬ (0 ≤ n ∧ n ≤ 1000)) : Summ Tryz.prog GG 124 [iv n] (.v (.bool false)) := by
  refine summW Tryz.func124 rfl rfl 5 rfl (by simp) (fun M0 => ?_)
  repeat (first
    | (apply s_a TY; exact rfl)
    | apply w_seq
    | apply w_region
    | apply s_nil
    | apply t_norm
    | apply w_ret
    | (apply s_k1 (iwithin_F _ _ _); exact rfl; (first | assumption | omega | decide)))
  exact lv_ret (ret1 rfl (res_tmp rfl))
end Go.Proofs.YtnmaabejdmaahaaGreatDoor
namespace Go.Proofs.YtnmaabejdmaahaaGreatDoor
open Go.Lib (itoa decDigits decFrom digitVal join atoiAll)
open Go Go.RowKit Go.Proofs Go.Shelf Go.Ab
set_option maxRecDepth 100000 in
set_option maxHeartbeats 1600000 in
theorem iwords_s (l : List Int) (hl : l.length ≤ 1000) (hr : I64 l) : Summ Tryz.prog GS 47 [.sl l.length (intsF l)] (sv (wordsS l)) := by
  refine summW Tryz.func47 rfl rfl 20 rfl (by simp) (fun M0 => ?_)
  repeat (first
    | (apply s_a TY; exact rfl)
    | apply w_seq
    | apply w_region
    | apply s_nil
    | apply t_norm
    | apply w_block)
  apply w_gh (gh_own 3 9 1 rfl rfl)
  apply w_loop (fun k : Nat => ⟨(Ab.upd (Ab.upd (Ab.upd (Ab.upd (fun _ => .bot) 3 (.ow 0)) 6 (.f (.sl l.length (intsF l)))) 7 (.f (iv l.length))) 8 (.f (iv ((k : Nat) : Int)))), (Ab.upd (fun _ => none) 0 (some (.row 9 1 ((l.take k).map itoa).length (strsF ((l.take k).map itoa))))), 1⟩) (fun k => k ≤ l.length) (fun k => l.length - k) 0 (Nat.zero_le _) (gh_le ⟨le_upd rfl trivial (le_upd rfl trivial (le_upd rfl trivial (le_upd rfl rfl (le_nil _)))), le_hupd rfl trivial (le_h0 _ _)⟩)
  intro k hk
  have hrl : ((l.take k).map itoa).length = k := by rw [List.length_map, List.length_take]; omega
  by_cases hc : k < l.length
  · have hat : (intsF l)[k * 1]? = some (iv l[k]) := intsF_at hc
    have hne : intsF l ≠ [] := intsF_ne (k := k) hc
    have HI := Itoa_s l[k] (hr _ (List.getElem_mem hc))
    have hrow : some (Blk.row 9 1 (((l.take k).map itoa).length + 1) (strsF ((l.take k).map itoa) ++ [sv (itoa l[k])])) = some (Blk.row 9 1 ((l.take (k + 1)).map itoa).length (strsF ((l.take (k + 1)).map itoa))) := by
      rw [List.take_succ_eq_append_getElem hc, List.map_append, List.map_cons, List.map_nil, strsF_snoc, List.length_append]; rfl
    repeat (first
    | (apply s_append TY; exact rfl; exact rfl; exact rfl; exact rfl; exact rfl; exact rfl; exact rfl; exact rfl; exact rfl; (unfold maxLen; omega); omega)
    | (apply s_a TY; exact rfl)
    | (apply s_t; exact rfl; (first | assumption | omega))
    | apply w_seq
    | apply w_region
    | apply s_nil
    | apply t_norm
    | apply k_norm
    | apply w_block
    | apply w_skip
    | (apply w_condT; exact rfl; exact rfl)
    | (apply s_k (HI); exact rfl)
    | (apply s_c TY; exact rfl; (first | omega | exact ⟨by omega, by (first | with_reducible assumption | ((with_reducible apply intsF_ne); omega) | assumption)⟩))
    | (apply s_l TY; exact rfl; (first | exact rfl | with_reducible assumption | ((with_reducible apply intsF_at); omega) | assumption)))
    exact ⟨k + 1, by omega, by omega, gh_le ⟨le_upd rfl trivial (le_upd rfl trivial (le_upd rfl trivial (le_upd rfl rfl (le_nil _)))), le_hupd hrow trivial (le_h0 _ _)⟩⟩
  · have hke : k = l.length := by omega
    subst hke
    have hjl := wordsS_len hr
    have HJ := Join_s (l.map itoa) [32] (by rw [List.length_map]; omega) (by show (wordsS l).length ≤ _; omega)
    rw [List.take_length] at hrl
    have hrn : some (Blk.row 9 1 ((l.take l.length).map itoa).length (strsF ((l.take l.length).map itoa))) = some (Blk.row 9 1 (l.map itoa).length (strsF (l.map itoa))) := by rw [List.take_length]
    apply w_gh (gh_row 0 hrn)
    repeat (first
    | (apply s_a TY; exact rfl)
    | (apply s_f; exact rfl; (first | assumption | omega))
    | apply w_seq
    | apply w_region
    | apply s_nil
    | apply t_norm
    | apply t_exit
    | apply k_hit
    | apply w_exit
    | apply w_ret
    | (apply w_condF; exact rfl; exact rfl)
    | (apply s_k (HJ); exact rfl))
    exact lv_ret (ret1 rfl (res_tmp rfl))
set_option maxRecDepth 100000 in
set_option maxHeartbeats 1600000 in
theorem itext_s (l : List Int) (hl : l.length ≤ 1000) (hr : I64 l) : Summ Tryz.prog GG 56 [.sl l.length (intsF l)] (sv (wordsS l)) := by
  refine summW Tryz.func56 rfl rfl 23 rfl (by simp) (fun M0 => ?_)
  repeat (first
    | (apply s_a TY; exact rfl)
    | apply w_seq
    | apply w_region
    | apply s_nil
    | apply t_norm
    | apply w_block)
  apply w_loop (fun k : Nat => ⟨(Ab.upd (Ab.upd (Ab.upd (fun _ => .bot) 0 (.f (.sl l.length (intsF l)))) 3 (.f (sv (textS [32] (l.map itoa) k)))) 4 (.f (iv ((k : Nat) : Int)))), (fun _ => none), 0⟩) (fun k => k ≤ l.length) (fun k => l.length - k) 0 (Nat.zero_le _) (gh_le ⟨le_upd rfl trivial (le_upd rfl trivial (le_upd rfl trivial (le_nil _))), le_h0 _ _⟩)
  intro k hk
  by_cases hc : k < l.length
  · have hat : (intsF l)[k * 1]? = some (iv l[k]) := intsF_at hc
    have hne : intsF l ≠ [] := intsF_ne (k := k) hc
    have HI := Decimal_s l[k] (hr _ (List.getElem_mem hc))
    have hil := itoa_len (hr _ (List.getElem_mem hc))
    have hkl : (textS [32] (l.map itoa) k).length ≤ 22 * l.length := by rw [textS_join _ _ k (by rw [List.length_map]; omega)]; exact itoas_len hr k
    have hgd : (l.map itoa).getD k [] = itoa l[k] := by rw [List.getD_eq_getElem?_getD, List.getElem?_map, List.getElem?_eq_getElem hc]; rfl
    by_cases h0 : 0 < k
    · have hs : (textS [32] (l.map itoa) (k + 1)) = (textS [32] (l.map itoa) k) ++ [32] ++ itoa l[k] := by rw [textS, if_pos h0, hgd]
      repeat (first
    | (apply s_bind; exact rfl; exact rfl; exact rfl; exact rfl; exact rfl; exact rfl; exact cat_run (by (first | omega | (simp only [List.length_cons, List.length_nil, List.length_append]; omega))))
    | (apply s_a TY; exact rfl)
    | (apply s_t; exact rfl; (first | assumption | omega))
    | apply w_seq
    | apply w_region
    | apply s_nil
    | apply t_norm
    | apply k_norm
    | apply w_block
    | apply w_skip
    | (apply w_condT; exact rfl; exact rfl)
    | (apply s_k (HI); exact rfl)
    | (apply s_c TY; exact rfl; (first | omega | exact ⟨by omega, by (first | with_reducible assumption | ((with_reducible apply intsF_ne); omega) | assumption)⟩))
    | (apply s_l TY; exact rfl; (first | exact rfl | with_reducible assumption | ((with_reducible apply intsF_at); omega) | assumption)))
      exact ⟨k + 1, by omega, by omega, gh_le ⟨le_upd rfl trivial (le_upd (congrArg (fun z => AV.f (sv z)) hs) trivial (le_upd rfl trivial (le_nil _))), le_h0 _ _⟩⟩
    · have hs : (textS [32] (l.map itoa) (k + 1)) = (textS [32] (l.map itoa) k) ++ itoa l[k] := by rw [textS, if_neg h0, hgd]
      repeat (first
    | (apply s_bind; exact rfl; exact rfl; exact rfl; exact rfl; exact rfl; exact rfl; exact cat_run (by (first | omega | (simp only [List.length_cons, List.length_nil, List.length_append]; omega))))
    | (apply s_a TY; exact rfl)
    | (apply s_t; exact rfl; (first | assumption | omega))
    | (apply s_f; exact rfl; (first | assumption | omega))
    | apply w_seq
    | apply w_region
    | apply s_nil
    | apply t_norm
    | apply k_norm
    | apply w_block
    | apply w_skip
    | (apply w_condT; exact rfl; exact rfl)
    | (apply w_condF; exact rfl; exact rfl)
    | (apply s_k (HI); exact rfl)
    | (apply s_c TY; exact rfl; (first | omega | exact ⟨by omega, by (first | with_reducible assumption | ((with_reducible apply intsF_ne); omega) | assumption)⟩))
    | (apply s_l TY; exact rfl; (first | exact rfl | with_reducible assumption | ((with_reducible apply intsF_at); omega) | assumption)))
      exact ⟨k + 1, by omega, by omega, gh_le ⟨le_upd rfl trivial (le_upd (congrArg (fun z => AV.f (sv z)) hs) trivial (le_upd rfl trivial (le_nil _))), le_h0 _ _⟩⟩
  · have hke : k = l.length := by omega
    subst hke
    rw [show wordsS l = (textS [32] (l.map itoa) l.length) by rw [textS_join _ _ _ (by rw [List.length_map]; omega), List.take_of_length_le (by rw [List.length_map]; omega)]; rfl]
    repeat (first
    | (apply s_a TY; exact rfl)
    | (apply s_f; exact rfl; (first | assumption | omega))
    | apply w_seq
    | apply w_region
    | apply s_nil
    | apply t_norm
    | apply t_exit
    | apply k_hit
    | apply w_exit
    | apply w_ret
    | (apply w_condF; exact rfl; exact rfl))
    exact lv_ret (ret1 rfl (res_tmp rfl))
def numB (b : Bool) (d : Nat) (w : Nm) : Option Int := match numO w d with
  | some v => if b = true ∨ 0 ≤ v then some v else none
  | none => none
def numsB (b : Bool) (d : Nat) (ws : List Nm) : Option (List Int) := ws.foldl (fun o w => o.bind fun l => (numB b d w).map fun v => l ++ [v]) (some [])
theorem numsB_snoc (b : Bool) (d : Nat) (ws : List Nm) (w : Nm) : numsB b d (ws ++ [w]) = (numsB b d ws).bind fun l => (numB b d w).map fun v => l ++ [v] := by
  unfold numsB
  rw [List.foldl_append]; rfl
theorem fold_noneB (b : Bool) (d : Nat) : ∀ ws : List Nm, ws.foldl (fun (o : Option (List Int)) w => o.bind fun l => (numB b d w).map fun v => l ++ [v]) none = none
  | [] => rfl
  | _ :: ws => fold_noneB b d ws
theorem numsB_bad {b : Bool} {d : Nat} {ws : List Nm} {k : Nat} (hk : k < ws.length) (h : numB b d ws[k] = none) : numsB b d ws = none := by
  have e : ws = (ws.take k ++ [ws[k]]) ++ ws.drop (k + 1) := by
    rw [← List.take_succ_eq_append_getElem hk, List.take_append_drop]
  unfold numsB
  rw [e, List.foldl_append, List.foldl_append]
  generalize (ws.take k).foldl _ _ = o
  have e2 : List.foldl (fun (o : Option (List Int)) w => o.bind fun l => (numB b d w).map fun v => l ++ [v]) o [ws[k]] = none := by
    show (o.bind fun l => (numB b d ws[k]).map fun v => l ++ [v]) = none
    rw [h]
    cases o <;> rfl
  rw [e2]
  exact fold_noneB b d _
theorem numsB_next {b : Bool} {d : Nat} {ws : List Nm} {k : Nat} {l : List Int} {v : Int} (hk : k < ws.length) (hl : numsB b d (ws.take k) = some l) (h : numB b d ws[k] = some v) : numsB b d (ws.take (k + 1)) = some (l ++ [v]) := by
  rw [List.take_succ_eq_append_getElem hk, numsB_snoc, hl, h]; rfl
theorem fold_lenB (b : Bool) (d : Nat) : ∀ (ws : List Nm) (l0 l : List Int), ws.foldl (fun (o : Option (List Int)) w => o.bind fun l => (numB b d w).map fun v => l ++ [v]) (some l0) = some l → l.length = l0.length + ws.length
  | [], l0, l, h => by rw [← Option.some.inj h]; simp
  | w :: ws, l0, l, h => by
    rw [List.foldl_cons] at h
    cases hw : numB b d w with
    | none =>
      have e : ((some l0).bind fun l => (numB b d w).map fun v => l ++ [v]) = none := by rw [hw]; rfl
      rw [e, fold_noneB] at h; cases h
    | some v =>
      have e : ((some l0).bind fun l => (numB b d w).map fun v => l ++ [v]) = some (l0 ++ [v]) := by rw [hw]; rfl
      rw [e] at h
      have := fold_lenB b d ws (l0 ++ [v]) l h
      rw [this, List.length_append, List.length_singleton, List.length_cons]; omega
theorem numsB_len {b : Bool} {d : Nat} {ws : List Nm} {l : List Int} (h : numsB b d ws = some l) : l.length = ws.length := by
  have := fold_lenB b d ws [] l h
  rw [this]; simp
def numsRB (b : Bool) (d : Nat) (ws : List Nm) : FV := match numsB b d ws with
  | some l => .tup [.sl l.length (intsF l), .v (.bool true)]
  | none => .tup [.sl 0 [], .v (.bool false)]
theorem numsRB_no {b : Bool} {d : Nat} {ws : List Nm} (h : numsB b d ws = none) : numsRB b d ws = .tup [.sl 0 [], .v (.bool false)] := by unfold numsRB; rw [h]
theorem numsRB_ok {b : Bool} {d : Nat} {ws : List Nm} {l : List Int} (h : numsB b d ws = some l) : numsRB b d ws = .tup [.sl l.length (intsF l), .v (.bool true)] := by unfold numsRB; rw [h]
theorem numB_none {b : Bool} {d : Nat} {w : Nm} (h : numO w d = none) : numB b d w = none := by unfold numB; rw [h]
theorem numB_some {b : Bool} {d : Nat} {w : Nm} {v : Int} (h : numO w d = some v) : numB b d w = if b = true ∨ 0 ≤ v then some v else none := by unfold numB; rw [h]
theorem res_bxnil {C : Ctx} {n : Nat} {st : St} {t T i off : Nat} {cs : List AV} (ty : Go.Ab.Ty C.P) (hT : (ty.ty T).scal = true) (hx : st.s t = .bx i off) (hi : st.h i = some (.box cs)) (hc : cs[off]? = some (.f (.v (.slice none 0 0)))) : ResOk C n st (.cell t T) (.sl 0 []) := fun w0 a w S =>
  let ⟨v, h1, h2⟩ := res_bx ty hT hx hi hc w0 a w S
  ⟨v, h1, rep_nilsl h2⟩
theorem trim_len (s : Nm) : (Lib.trimPrefix s [45]).length = s.length - atS s := by
  cases s with
  | nil => rfl
  | cons b r =>
    unfold Lib.trimPrefix atS Lib.hasPrefix
    by_cases h : b = 45
    · subst h; simp
    · have h2 : ¬ (45 : UInt8) = b := fun e => h e.symm
      simp [h, h2]
theorem nm_enS (x : Nm) (w : World) (M : Nat → Prop) : RepL w M (encS x).toList [sv x] := RepL.cons (RepF.v _) (RepL.nil _ _)
set_option maxRecDepth 100000 in
set_option maxHeartbeats 6400000 in
theorem inumbers_s (s : Nm) (b : Bool) (hs : s.length ≤ 1000000) : Summ Tryz.prog GS 51 [sv s, bv b] (numsRB b 7 (cutS 32 s)) := by
  have HQ := SplitSeq_g (G := GS) s [32]
  refine summW Tryz.func51 rfl rfl 45 rfl (by simp) (fun M0 => ?_)
  repeat (first
    | (apply s_a TY; exact rfl)
    | apply w_seq
    | apply w_region
    | apply s_nil
    | apply t_norm
    | apply w_block
    | (apply s_callG [] (HQ); exact rfl; exact rfl; exact rfl; exact trivial; exact rfl; (first | exact ⟨rfl, rfl⟩ | exact ⟨⟨rfl, rfl⟩, ⟨rfl, rfl⟩⟩ | exact ⟨⟨rfl, rfl⟩, ⟨rfl, rfl⟩, ⟨rfl, rfl⟩⟩))
    | (apply s_alloc TY; exact rfl; exact rfl; exact rfl))
  apply w_gh (gh_ownB 2 0 3 1 rfl rfl rfl)
  refine w_rangeH (s1 := (Ab.upd (Ab.upd (Ab.upd (Ab.upd (Ab.upd (fun _ => .bot) 3 (.f (.pt [bv b] 0))) 4 (.bx 0 0)) 5 (.bx 1 0)) 6 (.bx 2 0)) 11 (.fb 143 [.f (.pt [sv [32]] 0), .bx 3 0, .f (.pt [iv 0] 0)]))) (s := (Ab.upd (Ab.upd (Ab.upd (Ab.upd (fun _ => .bot) 3 (.f (.pt [bv b] 0))) 4 (.bx 0 0)) 5 (.bx 1 0)) 6 (.bx 2 0))) (i0 := 3) (splitSeq_B (G := GS) 32 s hs) (fun k => (Ab.upd (Ab.upd (Ab.upd (Ab.upd (fun _ => none) 0 (some (.box [.f (.v (.slice none 0 0))]))) 1 (some (.box [.f (.v (.bool false))]))) 2 (some (.box [.ow 4]))) 4 (some (.row 3 1 ((numsB b 7 ((cutS 32 s).take k)).getD []).length (intsF ((numsB b 7 ((cutS 32 s).take k)).getD [])))))) (fun (k : Nat) (p : Nm) => (Ab.upd (Ab.upd (Ab.upd (Ab.upd (fun _ => none) 0 (some (.box [.f (.v (.slice none 0 0))]))) 1 (some (.box [.f (.v (.bool false))]))) 2 (some (.box [.ow 4]))) 4 (some (.row 3 1 ((numsB b 7 ((cutS 32 s).take k)).getD []).length (intsF ((numsB b 7 ((cutS 32 s).take k)).getD [])))))) (fun (k : Nat) (p : Nm) => (Ab.upd (Ab.upd (Ab.upd (Ab.upd (Ab.upd (fun _ => .bot) 3 (.f (.pt [bv b] 0))) 4 (.bx 0 0)) 5 (.bx 1 0)) 6 (.bx 2 0)) 7 (.f (sv p)))) 5 5 (fun i => i = 0 ∨ i = 1 ∨ i = 2) (fun p => [sv p]) (fun k => k ≤ (cutS 32 s).length → (numsB b 7 ((cutS 32 s).take k)).isSome = true) (fun _ => rfl) rfl (fun _ => rfl) (by decide) (gh_le ⟨le_upd rfl rfl (le_upd rfl rfl (le_upd rfl rfl (le_upd rfl rfl (le_upd rfl trivial (le_nil _))))), le_hupd rfl (fun x hx => by simp at hx; subst hx; trivial) (le_hupd rfl trivial (le_hupd rfl (fun x hx => by simp at hx; subst hx; rfl) (le_hupd rfl (fun x hx => by simp at hx; subst hx; trivial) (le_hupd rfl (fun x hx => by simp at hx; subst hx; trivial) (le_h0 _ _)))))⟩) rfl ⟨le_upd rfl rfl (le_upd rfl rfl (le_upd rfl rfl (le_upd rfl trivial (le_nil _)))), le_hupd rfl (fun x hx => by simp at hx; subst hx; trivial) (le_hupd rfl trivial (le_hupd rfl (fun x hx => by simp at hx; subst hx; rfl) (le_hupd rfl (fun x hx => by simp at hx; subst hx; trivial) (le_hupd rfl (fun x hx => by simp at hx; subst hx; trivial) (le_h0 _ _)))))⟩ (fun _ => rfl) (fun _ => rfl) (fun q hq => by simp at hq; subst hq; rfl) nm_enS (kept_x rfl (by simp) (kept_x rfl (by simp) (kept_x rfl (by simp) (kept_f (kept_nil _ _))))) (by rintro k v i (rfl | rfl | rfl) <;> exact ⟨_, rfl, rfl⟩) (fun k p v => ⟨le_nil _, le_hupd rfl (fun x hx => by simp at hx; subst hx; trivial) (le_hupd rfl trivial (le_hupd rfl (fun x hx => by simp at hx; subst hx; rfl) (le_hupd rfl (fun x hx => by simp at hx; subst hx; trivial) (le_hupd rfl (fun x hx => by simp at hx; subst hx; trivial) (le_h0 _ _)))))⟩) (fun k p => ⟨mo_upd rfl (mo_upd rfl (mo_upd rfl (mo_upd rfl (mo_nil)))), mo_upd rfl (mo_upd rfl (mo_upd rfl (mo_upd rfl (mo_nil))))⟩) ?_ ?_ ?_
  · intro k hk v X l p
    repeat (first
    | (apply s_a TY; exact rfl)
    | apply w_region
    | apply s_nil
    | apply t_norm)
    exact gh_le ⟨le_upd rfl trivial (le_upd rfl rfl (le_upd rfl rfl (le_upd rfl rfl (le_upd rfl trivial (le_nil _))))), le_hupd rfl (fun x hx => by simp at hx; subst hx; trivial) (le_hupd rfl trivial (le_hupd rfl (fun x hx => by simp at hx; subst hx; rfl) (le_hupd rfl (fun x hx => by simp at hx; subst hx; trivial) (le_hupd rfl (fun x hx => by simp at hx; subst hx; trivial) (le_h0 _ _)))))⟩
  · intro k hk hPr rs X l pp
    have hl0 : (numsB b 7 ((cutS 32 s).take k)).isSome = true := hPr (by omega)
    obtain ⟨l0, hl1⟩ := Option.isSome_iff_exists.1 hl0
    have hget : ((numsB b 7 ((cutS 32 s).take k)).getD []) = l0 := by rw [hl1]; rfl
    have hll := numsB_len hl1
    rw [List.length_take] at hll
    have hwl := cutS_len 32 s
    have hlk : ((numsB b 7 ((cutS 32 s).take k)).getD []).length ≤ 1000001 := by rw [hget]; omega
    have hwk : (cutS 32 s)[k].length ≤ 1000000 := Nat.le_trans (cutS_mem_len 32 s _ (List.getElem_mem hk)) hs
    have hsz := strSz (cutS 32 s)[k]
    have LIB := @num_lib (cutS 32 s)[k] 7 (by decide)
    by_cases hok : ∃ v, atoiAll (cutS 32 s)[k] = .ok v
    case neg =>
      obtain ⟨m, HA⟩ := Atoi_err (cutS 32 s)[k] hwk (fun v e => hok ⟨v, e⟩)
      have hno : numB b 7 (cutS 32 s)[k] = none := numB_none (by
        cases e : numO (cutS 32 s)[k] 7 with
        | none => rfl
        | some v => exact absurd ⟨v, (LIB.1 e).1⟩ hok)
      repeat (first
    | (apply s_ifcNe Tryz.underlying147; exact rfl; exact rfl; exact rfl)
    | (apply s_a TY; exact rfl)
    | apply w_seq
    | apply w_region
    | apply s_nil
    | apply t_norm
    | apply t_ret
    | apply k_ret
    | apply w_block
    | apply w_ret
    | (apply w_condT; exact rfl; exact rfl)
    | (apply s_k (HA); exact rfl)
    | (apply s_s; exact rfl)
    | (apply s_store TY; exact rfl; exact rfl; exact rfl; exact rfl; exact rfl; exact rfl))
      refine ⟨(Ab.upd (Ab.upd (Ab.upd (Ab.upd (fun _ => none) 0 (some (.box [.f (.v (.slice none 0 0))]))) 1 (some (.box [.f (.v (.bool false))]))) 2 (some (.box [.ow 4]))) 4 (some (.row 3 1 ((numsB b 7 ((cutS 32 s).take k)).getD []).length (intsF ((numsB b 7 ((cutS 32 s).take k)).getD []))))), gh_le ⟨le_nil _, le_hupd rfl trivial (le_hupd rfl (fun x hx => by simp at hx; subst hx; rfl) (le_hupd rfl (fun x hx => by simp at hx; subst hx; trivial) (le_hupd rfl (fun x hx => by simp at hx; subst hx; trivial) (le_h0 _ _))))⟩, ?_, ?_⟩
      · rintro i (rfl | rfl | rfl) <;> exact ⟨_, rfl, rfl⟩
      · rw [numsRB_no (numsB_bad hk hno)]
        repeat (first | apply t_norm | apply t_exit | apply t_ret | apply k_hit | (apply k_miss; exact rfl) | apply k_norm | apply k_ret)
        refine lv_ret (ret2 rfl (res_bxnil TY rfl rfl rfl rfl) ?_)
        exact res_bx TY rfl rfl rfl rfl
    obtain ⟨v, hv⟩ := hok
    have HA := Atoi_ok (cutS 32 s)[k] hwk hv
    have HI := Itoa_s v (atoi_rng hv)
    have hbad : ∀ u, numO (cutS 32 s)[k] 7 = some u → u = v := fun u e => by
      have e1 := (LIB.1 e).1
      rw [hv] at e1
      injection e1 with e1
      exact e1.symm
    by_cases hew : itoa v = (cutS 32 s)[k]
    case neg =>
      have hnw : ¬ itoa v = (cutS 32 s)[k] := hew
      have hno : numB b 7 (cutS 32 s)[k] = none := numB_none (by
        cases e : numO (cutS 32 s)[k] 7 with
        | none => rfl
        | some u =>
          have e2 := hbad u e
          subst e2
          exact absurd (LIB.1 e).2.1 hew)
      repeat (first
    | (apply s_bind; exact rfl; exact rfl; exact rfl; exact rfl; exact rfl; exact rfl; exact nes_t hnw)
    | (apply s_ifcNil Tryz.underlying147; exact rfl; exact rfl; exact rfl)
    | (apply s_a TY; exact rfl)
    | apply w_seq
    | apply w_region
    | apply s_nil
    | apply t_norm
    | apply t_ret
    | apply k_ret
    | apply w_block
    | apply w_ret
    | (apply w_condT; exact rfl; exact rfl)
    | (apply s_k (HA); exact rfl)
    | (apply s_k (HI); exact rfl)
    | (apply s_s; exact rfl)
    | (apply s_store TY; exact rfl; exact rfl; exact rfl; exact rfl; exact rfl; exact rfl))
      refine ⟨(Ab.upd (Ab.upd (Ab.upd (Ab.upd (fun _ => none) 0 (some (.box [.f (.v (.slice none 0 0))]))) 1 (some (.box [.f (.v (.bool false))]))) 2 (some (.box [.ow 4]))) 4 (some (.row 3 1 ((numsB b 7 ((cutS 32 s).take k)).getD []).length (intsF ((numsB b 7 ((cutS 32 s).take k)).getD []))))), gh_le ⟨le_nil _, le_hupd rfl trivial (le_hupd rfl (fun x hx => by simp at hx; subst hx; rfl) (le_hupd rfl (fun x hx => by simp at hx; subst hx; trivial) (le_hupd rfl (fun x hx => by simp at hx; subst hx; trivial) (le_h0 _ _))))⟩, ?_, ?_⟩
      · rintro i (rfl | rfl | rfl) <;> exact ⟨_, rfl, rfl⟩
      · rw [numsRB_no (numsB_bad hk hno)]
        repeat (first | apply t_norm | apply t_exit | apply t_ret | apply k_hit | (apply k_miss; exact rfl) | apply k_norm | apply k_ret)
        refine lv_ret (ret2 rfl (res_bxnil TY rfl rfl rfl rfl) ?_)
        exact res_bx TY rfl rfl rfl rfl
    have HT := TrimPrefix_s (G := GS) (cutS 32 s)[k] [45]
    have htl := trim_len (cutS 32 s)[k]
    have hts := strSz (Lib.trimPrefix (cutS 32 s)[k] [45])
    have hnum : (cutS 32 s)[k].length - atS (cutS 32 s)[k] ≤ 7 → numO (cutS 32 s)[k] 7 = some v := fun h => LIB.2 ⟨hv, hew, by rw [List.length_drop]; exact h⟩
    by_cases hneg : v < 0
    · cases b with
      | false =>
        have hno : numB false 7 (cutS 32 s)[k] = none := by
          cases e : numO (cutS 32 s)[k] 7 with
          | none => exact numB_none e
          | some u =>
            have e2 := hbad u e
            subst e2
            rw [numB_some e, if_neg (by intro h; rcases h with h | h; cases h; omega)]
        repeat (first
    | (apply s_bind; exact rfl; exact rfl; exact rfl; exact rfl; exact rfl; exact rfl; exact nes_f hew)
    | (apply s_ifcNil Tryz.underlying147; exact rfl; exact rfl; exact rfl)
    | (apply s_a TY; exact rfl)
    | (apply s_t; exact rfl; (first | assumption | omega))
    | apply w_seq
    | apply w_region
    | apply s_nil
    | apply t_norm
    | apply t_ret
    | apply k_ret
    | apply w_block
    | apply w_ret
    | (apply w_condT; exact rfl; exact rfl)
    | (apply s_k (HA); exact rfl)
    | (apply s_k (HI); exact rfl)
    | (apply s_s; exact rfl)
    | (apply s_store TY; exact rfl; exact rfl; exact rfl; exact rfl; exact rfl; exact rfl))
        refine ⟨(Ab.upd (Ab.upd (Ab.upd (Ab.upd (fun _ => none) 0 (some (.box [.f (.v (.slice none 0 0))]))) 1 (some (.box [.f (.v (.bool false))]))) 2 (some (.box [.ow 4]))) 4 (some (.row 3 1 ((numsB false 7 ((cutS 32 s).take k)).getD []).length (intsF ((numsB false 7 ((cutS 32 s).take k)).getD []))))), gh_le ⟨le_nil _, le_hupd rfl trivial (le_hupd rfl (fun x hx => by simp at hx; subst hx; rfl) (le_hupd rfl (fun x hx => by simp at hx; subst hx; trivial) (le_hupd rfl (fun x hx => by simp at hx; subst hx; trivial) (le_h0 _ _))))⟩, ?_, ?_⟩
        · rintro i (rfl | rfl | rfl) <;> exact ⟨_, rfl, rfl⟩
        · rw [numsRB_no (numsB_bad hk hno)]
          repeat (first | apply t_norm | apply t_exit | apply t_ret | apply k_hit | (apply k_miss; exact rfl) | apply k_norm | apply k_ret)
          refine lv_ret (ret2 rfl (res_bxnil TY rfl rfl rfl rfl) ?_)
          exact res_bx TY rfl rfl rfl rfl
      | true =>
        by_cases hdl : (cutS 32 s)[k].length - atS (cutS 32 s)[k] ≤ 7
        · have hyes : numB true 7 (cutS 32 s)[k] = some v := by rw [numB_some (hnum hdl), if_pos (.inl rfl)]
          have hs := numsB_next hk hl1 hyes
          have hgk : ((numsB true 7 ((cutS 32 s).take (k + 1))).getD []) = ((numsB true 7 ((cutS 32 s).take k)).getD []) ++ [v] := by rw [hs, hl1]; rfl
          repeat (first
    | (apply s_append TY; exact rfl; exact rfl; exact rfl; exact rfl; exact rfl; exact rfl; exact rfl; exact rfl; exact rfl; (unfold maxLen; omega); omega)
    | (apply s_bind; exact rfl; exact rfl; exact rfl; exact rfl; exact rfl; exact rfl; exact nes_f hew)
    | (apply s_ifcNil Tryz.underlying147; exact rfl; exact rfl; exact rfl)
    | (apply s_a TY; exact rfl)
    | (apply s_t; exact rfl; (first | assumption | omega))
    | (apply s_f; exact rfl; (first | assumption | omega))
    | apply w_seq
    | apply w_region
    | apply s_nil
    | apply t_norm
    | apply k_norm
    | apply w_block
    | apply w_skip
    | (apply w_condF; exact rfl; exact rfl)
    | (apply s_k (HA); exact rfl)
    | (apply s_k (HI); exact rfl)
    | (apply s_k (HT); exact rfl)
    | (apply s_store TY; exact rfl; exact rfl; exact rfl; exact rfl; exact rfl; exact rfl))
          exact ⟨fun _ => by rw [hs]; rfl, gh_le ⟨le_nil _, le_hupd rfl (fun x hx => by simp at hx; subst hx; trivial) (le_hupd (by rw [hgk, intsF_snoc, List.length_append]; rfl) trivial (le_hupd rfl (fun x hx => by simp at hx; subst hx; rfl) (le_hupd rfl (fun x hx => by simp at hx; subst hx; trivial) (le_hupd rfl (fun x hx => by simp at hx; subst hx; trivial) (le_h0 _ _)))))⟩⟩
        · have hno : numB true 7 (cutS 32 s)[k] = none := numB_none (by
            cases e : numO (cutS 32 s)[k] 7 with
            | none => rfl
            | some u => exact absurd (by have := (LIB.1 e).2.2; rwa [List.length_drop] at this) hdl)
          repeat (first
    | (apply s_bind; exact rfl; exact rfl; exact rfl; exact rfl; exact rfl; exact rfl; exact nes_f hew)
    | (apply s_ifcNil Tryz.underlying147; exact rfl; exact rfl; exact rfl)
    | (apply s_a TY; exact rfl)
    | (apply s_t; exact rfl; (first | assumption | omega))
    | apply w_seq
    | apply w_region
    | apply s_nil
    | apply t_norm
    | apply t_ret
    | apply k_ret
    | apply w_block
    | apply w_ret
    | (apply w_condT; exact rfl; exact rfl)
    | (apply s_k (HA); exact rfl)
    | (apply s_k (HI); exact rfl)
    | (apply s_k (HT); exact rfl)
    | (apply s_store TY; exact rfl; exact rfl; exact rfl; exact rfl; exact rfl; exact rfl))
          refine ⟨(Ab.upd (Ab.upd (Ab.upd (Ab.upd (fun _ => none) 0 (some (.box [.f (.v (.slice none 0 0))]))) 1 (some (.box [.f (.v (.bool false))]))) 2 (some (.box [.ow 4]))) 4 (some (.row 3 1 ((numsB true 7 ((cutS 32 s).take k)).getD []).length (intsF ((numsB true 7 ((cutS 32 s).take k)).getD []))))), gh_le ⟨le_nil _, le_hupd rfl trivial (le_hupd rfl (fun x hx => by simp at hx; subst hx; rfl) (le_hupd rfl (fun x hx => by simp at hx; subst hx; trivial) (le_hupd rfl (fun x hx => by simp at hx; subst hx; trivial) (le_h0 _ _))))⟩, ?_, ?_⟩
          · rintro i (rfl | rfl | rfl) <;> exact ⟨_, rfl, rfl⟩
          · rw [numsRB_no (numsB_bad hk hno)]
            repeat (first | apply t_norm | apply t_exit | apply t_ret | apply k_hit | (apply k_miss; exact rfl) | apply k_norm | apply k_ret)
            refine lv_ret (ret2 rfl (res_bxnil TY rfl rfl rfl rfl) ?_)
            exact res_bx TY rfl rfl rfl rfl
    · by_cases hdl : (cutS 32 s)[k].length - atS (cutS 32 s)[k] ≤ 7
      · have hyes : numB b 7 (cutS 32 s)[k] = some v := by rw [numB_some (hnum hdl), if_pos (.inr (by omega))]
        have hs := numsB_next hk hl1 hyes
        have hgk : ((numsB b 7 ((cutS 32 s).take (k + 1))).getD []) = ((numsB b 7 ((cutS 32 s).take k)).getD []) ++ [v] := by rw [hs, hl1]; rfl
        repeat (first
    | (apply s_append TY; exact rfl; exact rfl; exact rfl; exact rfl; exact rfl; exact rfl; exact rfl; exact rfl; exact rfl; (unfold maxLen; omega); omega)
    | (apply s_bind; exact rfl; exact rfl; exact rfl; exact rfl; exact rfl; exact rfl; exact nes_f hew)
    | (apply s_ifcNil Tryz.underlying147; exact rfl; exact rfl; exact rfl)
    | (apply s_a TY; exact rfl)
    | (apply s_f; exact rfl; (first | assumption | omega))
    | apply w_seq
    | apply w_region
    | apply s_nil
    | apply t_norm
    | apply k_norm
    | apply w_block
    | apply w_skip
    | (apply w_condF; exact rfl; exact rfl)
    | (apply s_k (HA); exact rfl)
    | (apply s_k (HI); exact rfl)
    | (apply s_k (HT); exact rfl)
    | (apply s_s; exact rfl)
    | (apply s_store TY; exact rfl; exact rfl; exact rfl; exact rfl; exact rfl; exact rfl))
        exact ⟨fun _ => by rw [hs]; rfl, gh_le ⟨le_nil _, le_hupd rfl (fun x hx => by simp at hx; subst hx; trivial) (le_hupd (by rw [hgk, intsF_snoc, List.length_append]; rfl) trivial (le_hupd rfl (fun x hx => by simp at hx; subst hx; rfl) (le_hupd rfl (fun x hx => by simp at hx; subst hx; trivial) (le_hupd rfl (fun x hx => by simp at hx; subst hx; trivial) (le_h0 _ _)))))⟩⟩
      · have hno : numB b 7 (cutS 32 s)[k] = none := numB_none (by
          cases e : numO (cutS 32 s)[k] 7 with
          | none => rfl
          | some u => exact absurd (by have := (LIB.1 e).2.2; rwa [List.length_drop] at this) hdl)
        repeat (first
    | (apply s_bind; exact rfl; exact rfl; exact rfl; exact rfl; exact rfl; exact rfl; exact nes_f hew)
    | (apply s_ifcNil Tryz.underlying147; exact rfl; exact rfl; exact rfl)
    | (apply s_a TY; exact rfl)
    | (apply s_t; exact rfl; (first | assumption | omega))
    | (apply s_f; exact rfl; (first | assumption | omega))
    | apply w_seq
    | apply w_region
    | apply s_nil
    | apply t_norm
    | apply t_ret
    | apply k_ret
    | apply w_block
    | apply w_ret
    | (apply w_condT; exact rfl; exact rfl)
    | (apply s_k (HA); exact rfl)
    | (apply s_k (HI); exact rfl)
    | (apply s_k (HT); exact rfl)
    | (apply s_s; exact rfl)
    | (apply s_store TY; exact rfl; exact rfl; exact rfl; exact rfl; exact rfl; exact rfl))
        refine ⟨(Ab.upd (Ab.upd (Ab.upd (Ab.upd (fun _ => none) 0 (some (.box [.f (.v (.slice none 0 0))]))) 1 (some (.box [.f (.v (.bool false))]))) 2 (some (.box [.ow 4]))) 4 (some (.row 3 1 ((numsB b 7 ((cutS 32 s).take k)).getD []).length (intsF ((numsB b 7 ((cutS 32 s).take k)).getD []))))), gh_le ⟨le_nil _, le_hupd rfl trivial (le_hupd rfl (fun x hx => by simp at hx; subst hx; rfl) (le_hupd rfl (fun x hx => by simp at hx; subst hx; trivial) (le_hupd rfl (fun x hx => by simp at hx; subst hx; trivial) (le_h0 _ _))))⟩, ?_, ?_⟩
        · rintro i (rfl | rfl | rfl) <;> exact ⟨_, rfl, rfl⟩
        · rw [numsRB_no (numsB_bad hk hno)]
          repeat (first | apply t_norm | apply t_exit | apply t_ret | apply k_hit | (apply k_miss; exact rfl) | apply k_norm | apply k_ret)
          refine lv_ret (ret2 rfl (res_bxnil TY rfl rfl rfl rfl) ?_)
          exact res_bx TY rfl rfl rfl rfl
  · intro hPr rs
    have hl0 := hPr (Nat.le_refl _)
    rw [List.take_length] at hl0
    obtain ⟨l0, hl1⟩ := Option.isSome_iff_exists.1 hl0
    rw [numsRB_ok hl1]
    have hrn : some (Blk.row 3 1 ((numsB b 7 ((cutS 32 s).take (cutS 32 s).length)).getD []).length (intsF ((numsB b 7 ((cutS 32 s).take (cutS 32 s).length)).getD []))) = some (Blk.row 3 1 l0.length (intsF l0)) := by rw [List.take_length, hl1]; rfl
    repeat (first | apply k_norm | apply t_norm)
    apply w_gh (gh_row 4 hrn)
    repeat (first
    | (apply s_a TY; exact rfl)
    | apply w_seq
    | apply w_region
    | apply s_nil
    | apply t_norm
    | apply w_ret
    | (apply s_store TY; exact rfl; exact rfl; exact rfl; exact rfl; exact rfl; exact rfl))
    exact lv_ret (ret2 rfl (res_bx TY rfl rfl rfl rfl) (res_bx TY rfl rfl rfl rfl))
end Go.Proofs.YtnmaabejdmaahaaGreatDoor
namespace Go.Proofs.YtnmaabejdmaahaaGreatDoor
open Go Go.RowKit Go.Proofs Go.Shelf Go.Ab
def idxP (n : Nat) (p : Nat → Bool) : Int := match (List.range n).find? p with
  | some i => i
  | none => -1
def anyP (n : Nat) (p : Nat → Bool) : Bool := (List.range n).any p
theorem idxP_no {n : Nat} {p : Nat → Bool} (h : ∀ i, i < n → p i = false) : idxP n p = -1 := by
  unfold idxP
  rw [List.find?_eq_none.2 (fun i hi => by rw [h i (List.mem_range.1 hi)]; decide)]
theorem idxP_at {n k : Nat} {p : Nat → Bool} (hk : k < n) (h : ∀ i, i < k → p i = false) (hp : p k = true) : idxP n p = k := by
  obtain ⟨m, rfl⟩ : ∃ m, n = k + 1 + m := ⟨n - k - 1, by omega⟩
  unfold idxP
  rw [List.range_add, List.range_succ, List.append_assoc, List.find?_append, List.find?_eq_none.2 (fun i hi => by rw [h i (List.mem_range.1 hi)]; decide), Option.none_or, List.singleton_append, List.find?_cons, hp]
theorem anyP_iff {n : Nat} {p : Nat → Bool} : anyP n p = true ↔ ∃ i, i < n ∧ p i = true := by
  unfold anyP
  rw [List.any_eq_true]
  exact ⟨fun ⟨i, h1, h2⟩ => ⟨i, List.mem_range.1 h1, h2⟩, fun ⟨i, h1, h2⟩ => ⟨i, List.mem_range.2 h1, h2⟩⟩
theorem idxP_cases (n : Nat) (p : Nat → Bool) : (idxP n p = -1 ∧ ∀ i, i < n → p i = false) ∨ ∃ k, k < n ∧ (∀ i, i < k → p i = false) ∧ p k = true ∧ idxP n p = k := by
  by_cases h : ∃ i, i < n ∧ p i = true
  · obtain ⟨k, ⟨hk, hp⟩, hmin⟩ := exists_least h
    have hz : ∀ i, i < k → p i = false := fun i hi => by
      cases hpi : p i with
      | false => rfl
      | true => have := hmin i ⟨by omega, hpi⟩; omega
    exact .inr ⟨k, hk, hz, hp, idxP_at hk hz hp⟩
  · have hz : ∀ i, i < n → p i = false := fun i hi => by
      cases hpi : p i with
      | false => rfl
      | true => exact absurd ⟨i, hi, hpi⟩ h
    exact .inl ⟨idxP_no hz, hz⟩
theorem idxP_pos (n : Nat) (p : Nat → Bool) : 0 ≤ idxP n p ↔ anyP n p = true := by
  rw [anyP_iff]
  rcases idxP_cases n p with ⟨e, h⟩ | ⟨k, hk, _, hp, e⟩
  · rw [e]
    exact ⟨fun h => by omega, fun ⟨i, h1, h2⟩ => by rw [h i h1] at h2; cases h2⟩
  · rw [e]
    exact ⟨fun _ => ⟨k, hk, hp⟩, fun _ => by omega⟩
set_option maxRecDepth 100000 in
theorem idxL_s (l : List Layer) (g : Nat) (caps : List FV) (p : Nat → Bool) (hl : l.length ≤ 1000000) (hg : ∀ i (hi : i < l.length), Summ Tryz.prog GG g ([.agg (ilayF l[i])] ++ caps) (bv (p i))) : Summ Tryz.prog GG 121 [.sl l.length (ilaysF l), .fn g caps] (iv (idxP l.length p)) := by
  refine summW Tryz.func121 rfl rfl 19 rfl (by simp) (fun M0 => ?_)
  repeat (first
    | (apply s_a TY; exact rfl)
    | apply w_seq
    | apply w_region
    | apply s_nil
    | apply t_norm
    | apply w_block)
  apply w_loop (fun k : Nat => ⟨(Ab.upd (Ab.upd (Ab.upd (Ab.upd (fun _ => .bot) 0 (.f (.sl l.length (ilaysF l)))) 1 (.f (.fn g caps))) 7 (.f (iv l.length))) 8 (.f (iv (k : Nat)))), (fun _ => none), 0⟩) (fun k => k ≤ l.length ∧ ∀ i, i < k → p i = false) (fun k => l.length - k) 0 (⟨Nat.zero_le _, fun j h => absurd h (Nat.not_lt_zero j)⟩) (gh_le ⟨le_upd rfl trivial (le_upd rfl trivial (le_upd rfl trivial (le_upd rfl trivial (le_nil _)))), le_h0 _ _⟩)
  intro k ⟨hk, hz⟩
  by_cases hc : k < l.length
  · have Hc := hg k hc
    cases hp : p k with
    | true =>
      rw [hp] at Hc
      rw [idxP_at hc hz hp]
      repeat (first
    | (apply s_a TY; exact rfl)
    | (apply s_t; exact rfl; (first | assumption | omega))
    | apply w_seq
    | apply w_region
    | apply s_nil
    | apply t_norm
    | apply t_ret
    | apply k_ret
    | apply w_block
    | apply w_ret
    | apply w_skip
    | (apply w_condT; exact rfl; exact rfl)
    | (apply s_k (Hc); exact rfl)
    | (apply s_c TY; exact rfl; (first | omega | exact ⟨by omega, by (first | with_reducible assumption | ((with_reducible apply ilaysF_ne); omega) | assumption)⟩))
    | (apply s_m TY; exact rfl; (first | with_reducible assumption | ((with_reducible apply ilaysF_sub); omega) | exact rfl); exact rfl))
      exact lv_ret (ret1 rfl (res_tmp rfl))
    | false =>
      rw [hp] at Hc
      repeat (first
    | (apply s_a TY; exact rfl)
    | (apply s_t; exact rfl; (first | assumption | omega))
    | apply w_seq
    | apply w_region
    | apply s_nil
    | apply t_norm
    | apply k_norm
    | apply w_block
    | apply w_skip
    | (apply w_condT; exact rfl; exact rfl)
    | (apply w_condF; exact rfl; exact rfl)
    | (apply s_k (Hc); exact rfl)
    | (apply s_c TY; exact rfl; (first | omega | exact ⟨by omega, by (first | with_reducible assumption | ((with_reducible apply ilaysF_ne); omega) | assumption)⟩))
    | (apply s_m TY; exact rfl; (first | with_reducible assumption | ((with_reducible apply ilaysF_sub); omega) | exact rfl); exact rfl))
      exact ⟨k + 1, ⟨by omega, fun i hi => by
        by_cases e : i = k
        · subst e; exact hp
        · exact hz i (by omega)⟩, by omega, gh_le ⟨le_upd rfl trivial (le_upd rfl trivial (le_upd rfl trivial (le_upd rfl trivial (le_nil _)))), le_h0 _ _⟩⟩
  · rw [idxP_no fun i hi => hz i (by omega)]
    repeat (first
    | (apply s_a TY; exact rfl)
    | (apply s_f; exact rfl; (first | assumption | omega))
    | apply w_seq
    | apply w_region
    | apply s_nil
    | apply t_norm
    | apply t_exit
    | apply k_hit
    | apply w_exit
    | apply w_ret
    | (apply w_condF; exact rfl; exact rfl))
    exact lv_ret (ret1 rfl (res_tmp rfl))
set_option maxRecDepth 100000 in
theorem idxN_s (l : List Int) (g : Nat) (caps : List FV) (p : Nat → Bool) (hl : l.length ≤ 1000000) (hg : ∀ i (hi : i < l.length), Summ Tryz.prog GG g ([iv l[i]] ++ caps) (bv (p i))) : Summ Tryz.prog GG 125 [.sl l.length (intsF l), .fn g caps] (iv (idxP l.length p)) := by
  refine summW Tryz.func125 rfl rfl 19 rfl (by simp) (fun M0 => ?_)
  repeat (first
    | (apply s_a TY; exact rfl)
    | apply w_seq
    | apply w_region
    | apply s_nil
    | apply t_norm
    | apply w_block)
  apply w_loop (fun k : Nat => ⟨(Ab.upd (Ab.upd (Ab.upd (Ab.upd (fun _ => .bot) 0 (.f (.sl l.length (intsF l)))) 1 (.f (.fn g caps))) 7 (.f (iv l.length))) 8 (.f (iv (k : Nat)))), (fun _ => none), 0⟩) (fun k => k ≤ l.length ∧ ∀ i, i < k → p i = false) (fun k => l.length - k) 0 (⟨Nat.zero_le _, fun j h => absurd h (Nat.not_lt_zero j)⟩) (gh_le ⟨le_upd rfl trivial (le_upd rfl trivial (le_upd rfl trivial (le_upd rfl trivial (le_nil _)))), le_h0 _ _⟩)
  intro k ⟨hk, hz⟩
  by_cases hc : k < l.length
  · have Hc := hg k hc
    cases hp : p k with
    | true =>
      rw [hp] at Hc
      rw [idxP_at hc hz hp]
      repeat (first
    | (apply s_a TY; exact rfl)
    | (apply s_t; exact rfl; (first | assumption | omega))
    | apply w_seq
    | apply w_region
    | apply s_nil
    | apply t_norm
    | apply t_ret
    | apply k_ret
    | apply w_block
    | apply w_ret
    | apply w_skip
    | (apply w_condT; exact rfl; exact rfl)
    | (apply s_k (Hc); exact rfl)
    | (apply s_c TY; exact rfl; (first | omega | exact ⟨by omega, by (first | with_reducible assumption | ((with_reducible apply intsF_ne); omega) | assumption)⟩))
    | (apply s_l TY; exact rfl; (first | exact rfl | with_reducible assumption | ((with_reducible apply intsF_at); omega) | assumption)))
      exact lv_ret (ret1 rfl (res_tmp rfl))
    | false =>
      rw [hp] at Hc
      repeat (first
    | (apply s_a TY; exact rfl)
    | (apply s_t; exact rfl; (first | assumption | omega))
    | apply w_seq
    | apply w_region
    | apply s_nil
    | apply t_norm
    | apply k_norm
    | apply w_block
    | apply w_skip
    | (apply w_condT; exact rfl; exact rfl)
    | (apply w_condF; exact rfl; exact rfl)
    | (apply s_k (Hc); exact rfl)
    | (apply s_c TY; exact rfl; (first | omega | exact ⟨by omega, by (first | with_reducible assumption | ((with_reducible apply intsF_ne); omega) | assumption)⟩))
    | (apply s_l TY; exact rfl; (first | exact rfl | with_reducible assumption | ((with_reducible apply intsF_at); omega) | assumption)))
      exact ⟨k + 1, ⟨by omega, fun i hi => by
        by_cases e : i = k
        · subst e; exact hp
        · exact hz i (by omega)⟩, by omega, gh_le ⟨le_upd rfl trivial (le_upd rfl trivial (le_upd rfl trivial (le_upd rfl trivial (le_nil _)))), le_h0 _ _⟩⟩
  · rw [idxP_no fun i hi => hz i (by omega)]
    repeat (first
    | (apply s_a TY; exact rfl)
    | (apply s_f; exact rfl; (first | assumption | omega))
    | apply w_seq
    | apply w_region
    | apply s_nil
    | apply t_norm
    | apply t_exit
    | apply k_hit
    | apply w_exit
    | apply w_ret
    | (apply w_condF; exact rfl; exact rfl))
    exact lv_ret (ret1 rfl (res_tmp rfl))
def layOk (l : Layer) : Bool := decide ((1 ≤ l.delay ∧ l.delay ≤ 1000) ∧ (0 ≤ l.loss ∧ l.loss ≤ 1000) ∧ 0 ≤ l.scatter ∧ l.scatter ≤ 1000)
def tilOk (n : Int) : Bool := decide (-12 ≤ n ∧ n ≤ 12)
theorem chkL_s (l : Layer) : Summ Tryz.prog GG 122 [.agg (ilayF l)] (bv (!layOk l)) := by
  by_cases h1 : 1 ≤ l.delay ∧ l.delay ≤ 1000
  · by_cases h2 : 0 ≤ l.loss ∧ l.loss ≤ 1000
    · by_cases h3 : 0 ≤ l.scatter ∧ l.scatter ≤ 1000
      · rw [show layOk l = true from decide_eq_true (⟨h1, h2, h3⟩)]
        refine summW Tryz.func122 rfl rfl 19 rfl (by simp) (fun M0 => ?_)
        repeat (first
    | (apply s_a TY; exact rfl)
    | apply w_seq
    | apply w_region
    | apply s_nil
    | apply t_norm
    | apply w_ret
    | (apply s_k1 (isDelay_T _); exact rfl; (first | assumption | omega | decide))
    | (apply s_k1 (isPart_T _); exact rfl; (first | assumption | omega | decide)))
        exact lv_ret (ret1 rfl (res_tmp rfl))
      · rw [show layOk l = false from decide_eq_false (fun h => h3 h.2.2)]
        refine summW Tryz.func122 rfl rfl 19 rfl (by simp) (fun M0 => ?_)
        repeat (first
    | (apply s_a TY; exact rfl)
    | apply w_seq
    | apply w_region
    | apply s_nil
    | apply t_norm
    | apply w_ret
    | (apply s_k1 (isDelay_T _); exact rfl; (first | assumption | omega | decide))
    | (apply s_k1 (isPart_T _); exact rfl; (first | assumption | omega | decide))
    | (apply s_k1 (isPart_F _); exact rfl; (first | assumption | omega | decide)))
        exact lv_ret (ret1 rfl (res_tmp rfl))
    · rw [show layOk l = false from decide_eq_false (fun h => h2 h.2.1)]
      refine summW Tryz.func122 rfl rfl 19 rfl (by simp) (fun M0 => ?_)
      repeat (first
    | (apply s_a TY; exact rfl)
    | apply w_seq
    | apply w_region
    | apply s_nil
    | apply t_norm
    | apply w_ret
    | (apply s_k1 (isDelay_T _); exact rfl; (first | assumption | omega | decide))
    | (apply s_k1 (isPart_F _); exact rfl; (first | assumption | omega | decide))
    | (apply s_s; exact rfl))
      exact lv_ret (ret1 rfl (res_tmp rfl))
  · rw [show layOk l = false from decide_eq_false (fun h => h1 h.1)]
    refine summW Tryz.func122 rfl rfl 19 rfl (by simp) (fun M0 => ?_)
    repeat (first
    | (apply s_a TY; exact rfl)
    | apply w_seq
    | apply w_region
    | apply s_nil
    | apply t_norm
    | apply w_ret
    | (apply s_k1 (isDelay_F _); exact rfl; (first | assumption | omega | decide))
    | (apply s_s; exact rfl))
    exact lv_ret (ret1 rfl (res_tmp rfl))
theorem chkT_s (n : Int) : Summ Tryz.prog GG 126 [iv n] (bv (!tilOk n)) := by
  by_cases h : -12 ≤ n ∧ n ≤ 12
  · rw [show tilOk n = true from decide_eq_true h]
    refine summW Tryz.func126 rfl rfl 6 rfl (by simp) (fun M0 => ?_)
    repeat (first
    | (apply s_a TY; exact rfl)
    | apply w_seq
    | apply w_region
    | apply s_nil
    | apply t_norm
    | apply w_ret
    | (apply s_k1 (iwithin_T _ _ _); exact rfl; (first | assumption | omega | decide)))
    exact lv_ret (ret1 rfl (res_tmp rfl))
  · rw [show tilOk n = false from decide_eq_false h]
    refine summW Tryz.func126 rfl rfl 6 rfl (by simp) (fun M0 => ?_)
    repeat (first
    | (apply s_a TY; exact rfl)
    | apply w_seq
    | apply w_region
    | apply s_nil
    | apply t_norm
    | apply w_ret
    | (apply s_k1 (iwithin_F _ _ _); exact rfl; (first | assumption | omega | decide)))
    exact lv_ret (ret1 rfl (res_tmp rfl))
def badL (x : Grid) : Int := idxP x.layers.length fun i => !layOk (x.layers.getD i default)
def badT (x : Grid) : Int := idxP x.tilt.length fun i => !tilOk (x.tilt.getD i default)
def chkI (x : Grid) : Int × Int :=
  if x.layers.length = 0 then (0, 10) else if 6 < x.layers.length then (0, 8) else if 0 ≤ badL x then (badL x, 2) else
  if ¬ (1 ≤ x.rows ∧ x.rows ≤ 12) then (0, 2) else if x.tilt.length = 0 then (0, 10) else if 8 < x.tilt.length then (0, 8) else if 0 ≤ badT x then (badT x, 2) else (0, 0)
theorem chkI_zero {x : Grid} : (chkI x).2 = 0 ↔ Valid x := by
  have a3 : ¬ 0 ≤ badL x ↔ ∀ l ∈ x.layers, layOk l = true := by
    unfold badL
    rw [idxP_pos, anyP_iff]
    constructor
    · intro h l hl
      obtain ⟨i, hi, e⟩ := List.getElem_of_mem hl
      cases hb : layOk l with
      | true => rfl
      | false => exact absurd ⟨i, hi, by rw [getD_at hi, e, hb]; rfl⟩ h
    · rintro h ⟨i, hi, e⟩
      rw [getD_at hi, h _ (List.getElem_mem hi)] at e; cases e
  have a4 : ¬ 0 ≤ badT x ↔ ∀ t ∈ x.tilt, tilOk t = true := by
    unfold badT
    rw [idxP_pos, anyP_iff]
    constructor
    · intro h l hl
      obtain ⟨i, hi, e⟩ := List.getElem_of_mem hl
      cases hb : tilOk l with
      | true => rfl
      | false => exact absurd ⟨i, hi, by rw [getD_at hi, e, hb]; rfl⟩ h
    · rintro h ⟨i, hi, e⟩
      rw [getD_at hi, h _ (List.getElem_mem hi)] at e; cases e
  unfold chkI
  constructor
  · intro h
    repeat' split at h
    all_goals first | (simp at h; done) | skip
    rename_i g1 g2 g3 g4 g5 g6 g7
    have g4' : 1 ≤ x.rows ∧ x.rows ≤ 12 := Classical.not_not.1 g4
    exact ⟨by omega, by omega, fun l hl => of_decide_eq_true (a3.1 g3 l hl), g4'.1, g4'.2, by omega, by omega, fun t ht => of_decide_eq_true (a4.1 g7 t ht)⟩
  · intro v
    rw [if_neg (by have := v.l1; omega), if_neg (by have := v.l6; omega), if_neg (a3.2 fun l hl => decide_eq_true (v.lay l hl)), if_neg (Classical.not_not.2 ⟨v.r1, v.r12⟩), if_neg (by have := v.t1; omega), if_neg (by have := v.t8; omega), if_neg (a4.2 fun t ht => decide_eq_true (v.til t ht))]
set_option maxRecDepth 100000 in
set_option maxHeartbeats 1600000 in
theorem CheckIce_s (x : Grid) (hl : x.layers.length ≤ 1000000) (ht : x.tilt.length ≤ 1000000) : Summ Tryz.prog GG 87 [gridF x] (.tup [iv (chkI x).1, iv (chkI x).2]) := by
  by_cases h1 : x.layers.length = 0
  · rw [show chkI x = (0, 10) by unfold chkI; rw [if_pos h1]]
    refine summW Tryz.func87 rfl rfl 54 rfl (by simp) (fun M0 => ?_)
    repeat (first
    | (apply s_a TY; exact rfl)
    | (apply s_t; exact rfl; (first | assumption | omega))
    | (apply s_f; exact rfl; (first | assumption | omega))
    | apply w_seq
    | apply w_region
    | (apply w_draw (id := 1) 9 rfl (by kernel_rfl))
    | apply s_nil
    | apply t_norm
    | apply t_ret
    | apply w_ret
    | (apply w_condT; exact rfl; exact rfl)
    | (apply s_k1 (ifirst2_0 _ _); exact rfl; (first | assumption | omega | decide))
    | (apply s_k (iunless_T _); exact rfl)
    | (apply s_k (iunless_F _); exact rfl))
    exact lv_ret (ret2 rfl (res_tmp rfl) (res_tmp rfl))
  · by_cases h2 : 6 < x.layers.length
    · rw [show chkI x = (0, 8) by unfold chkI; rw [if_neg h1, if_pos h2]]
      refine summW Tryz.func87 rfl rfl 54 rfl (by simp) (fun M0 => ?_)
      repeat (first
    | (apply s_a TY; exact rfl)
    | (apply s_t; exact rfl; (first | assumption | omega))
    | (apply s_f; exact rfl; (first | assumption | omega))
    | apply w_seq
    | apply w_region
    | (apply w_draw (id := 1) 9 rfl (by kernel_rfl))
    | apply s_nil
    | apply t_norm
    | apply t_ret
    | apply w_ret
    | (apply w_condT; exact rfl; exact rfl)
    | (apply s_k1 (ifirst2_1 _ _); exact rfl; (first | assumption | omega | decide))
    | (apply s_k (iunless_T _); exact rfl)
    | (apply s_k (iunless_F _); exact rfl))
      exact lv_ret (ret2 rfl (res_tmp rfl) (res_tmp rfl))
    · by_cases h3 : 0 ≤ badL x
      · rw [show chkI x = (badL x, 2) by unfold chkI; rw [if_neg h1, if_neg h2, if_pos h3]]
        have HL := idxL_s x.layers 122 [] (fun i => !layOk (x.layers.getD i default)) (by omega) (fun i hi => by rw [getD_at hi]; exact chkL_s x.layers[i])
        rw [show idxP x.layers.length (fun i => !layOk (x.layers.getD i default)) = badL x from rfl] at HL
        refine summW Tryz.func87 rfl rfl 54 rfl (by simp) (fun M0 => ?_)
        repeat (first
    | (apply s_a TY; exact rfl)
    | (apply s_t; exact rfl; (first | assumption | omega))
    | apply w_seq
    | apply w_region
    | (apply w_draw (id := 1) 9 rfl (by kernel_rfl))
    | apply s_nil
    | apply t_norm
    | apply t_ret
    | apply w_ret
    | apply w_skip
    | (apply w_condT; exact rfl; exact rfl)
    | (apply w_condF; exact rfl; exact rfl)
    | (apply s_k (HL); exact rfl)
    | (apply s_k1 (ifirst2_1 _ _); exact rfl; (first | assumption | omega | decide))
    | (apply s_k (iunless_T _); exact rfl))
        exact lv_ret (ret2 rfl (res_tmp rfl) (res_tmp rfl))
      · by_cases h4 : ¬ (1 ≤ x.rows ∧ x.rows ≤ 12)
        · rw [show chkI x = (0, 2) by unfold chkI; rw [if_neg h1, if_neg h2, if_neg h3, if_pos h4]]
          have HL := idxL_s x.layers 122 [] (fun i => !layOk (x.layers.getD i default)) (by omega) (fun i hi => by rw [getD_at hi]; exact chkL_s x.layers[i])
          rw [show idxP x.layers.length (fun i => !layOk (x.layers.getD i default)) = badL x from rfl] at HL
          by_cases k1 : 0 < x.tilt.length
          · by_cases k2 : x.tilt.length ≤ 8
            · refine summW Tryz.func87 rfl rfl 54 rfl (by simp) (fun M0 => ?_)
              repeat (first
    | (apply s_a TY; exact rfl)
    | (apply s_t; exact rfl; (first | assumption | omega))
    | (apply s_f; exact rfl; (first | assumption | omega))
    | apply w_seq
    | apply w_region
    | (apply w_draw (id := 1) 9 rfl (by kernel_rfl))
    | (apply w_draw (id := 7) 13 rfl (by kernel_rfl))
    | apply s_nil
    | apply t_norm
    | apply t_ret
    | apply w_ret
    | apply w_skip
    | (apply w_condT; exact rfl; exact rfl)
    | (apply w_condF; exact rfl; exact rfl)
    | (apply s_k (HL); exact rfl)
    | (apply s_k1 (ifirst2_1 _ _); exact rfl; (first | assumption | omega | decide))
    | (apply s_k1 (ifirst3_0 _ _ _); exact rfl; (first | assumption | omega | decide))
    | (apply s_k (iunless_T _); exact rfl)
    | (apply s_k (iunless_F _); exact rfl)
    | (apply s_k1 (iwithin_F _ _ _); exact rfl; (first | assumption | omega | decide)))
              exact lv_ret (ret2 rfl (res_tmp rfl) (res_tmp rfl))
            · refine summW Tryz.func87 rfl rfl 54 rfl (by simp) (fun M0 => ?_)
              repeat (first
    | (apply s_a TY; exact rfl)
    | (apply s_t; exact rfl; (first | assumption | omega))
    | (apply s_f; exact rfl; (first | assumption | omega))
    | apply w_seq
    | apply w_region
    | (apply w_draw (id := 1) 9 rfl (by kernel_rfl))
    | (apply w_draw (id := 7) 13 rfl (by kernel_rfl))
    | apply s_nil
    | apply t_norm
    | apply t_ret
    | apply w_ret
    | apply w_skip
    | (apply w_condT; exact rfl; exact rfl)
    | (apply w_condF; exact rfl; exact rfl)
    | (apply s_k (HL); exact rfl)
    | (apply s_k1 (ifirst2_1 _ _); exact rfl; (first | assumption | omega | decide))
    | (apply s_k1 (ifirst3_0 _ _ _); exact rfl; (first | assumption | omega | decide))
    | (apply s_k (iunless_T _); exact rfl)
    | (apply s_k (iunless_F _); exact rfl)
    | (apply s_k1 (iwithin_F _ _ _); exact rfl; (first | assumption | omega | decide)))
              exact lv_ret (ret2 rfl (res_tmp rfl) (res_tmp rfl))
          · refine summW Tryz.func87 rfl rfl 54 rfl (by simp) (fun M0 => ?_)
            repeat (first
    | (apply s_a TY; exact rfl)
    | (apply s_t; exact rfl; (first | assumption | omega))
    | (apply s_f; exact rfl; (first | assumption | omega))
    | apply w_seq
    | apply w_region
    | (apply w_draw (id := 1) 9 rfl (by kernel_rfl))
    | (apply w_draw (id := 7) 13 rfl (by kernel_rfl))
    | apply s_nil
    | apply t_norm
    | apply t_ret
    | apply w_ret
    | apply w_skip
    | (apply w_condT; exact rfl; exact rfl)
    | (apply w_condF; exact rfl; exact rfl)
    | (apply s_k (HL); exact rfl)
    | (apply s_k1 (ifirst2_1 _ _); exact rfl; (first | assumption | omega | decide))
    | (apply s_k1 (ifirst3_0 _ _ _); exact rfl; (first | assumption | omega | decide))
    | (apply s_k (iunless_T _); exact rfl)
    | (apply s_k (iunless_F _); exact rfl)
    | (apply s_k1 (iwithin_F _ _ _); exact rfl; (first | assumption | omega | decide)))
            exact lv_ret (ret2 rfl (res_tmp rfl) (res_tmp rfl))
        · by_cases h5 : x.tilt.length = 0
          · rw [show chkI x = (0, 10) by unfold chkI; rw [if_neg h1, if_neg h2, if_neg h3, if_neg h4, if_pos h5]]
            have HL := idxL_s x.layers 122 [] (fun i => !layOk (x.layers.getD i default)) (by omega) (fun i hi => by rw [getD_at hi]; exact chkL_s x.layers[i])
            rw [show idxP x.layers.length (fun i => !layOk (x.layers.getD i default)) = badL x from rfl] at HL
            have h4b := Classical.not_not.1 h4
            refine summW Tryz.func87 rfl rfl 54 rfl (by simp) (fun M0 => ?_)
            repeat (first
    | (apply s_a TY; exact rfl)
    | (apply s_t; exact rfl; (first | assumption | omega))
    | (apply s_f; exact rfl; (first | assumption | omega))
    | apply w_seq
    | apply w_region
    | (apply w_draw (id := 1) 9 rfl (by kernel_rfl))
    | (apply w_draw (id := 7) 13 rfl (by kernel_rfl))
    | apply s_nil
    | apply t_norm
    | apply t_ret
    | apply w_ret
    | apply w_skip
    | (apply w_condT; exact rfl; exact rfl)
    | (apply w_condF; exact rfl; exact rfl)
    | (apply s_k (HL); exact rfl)
    | (apply s_k1 (ifirst2_1 _ _); exact rfl; (first | assumption | omega | decide))
    | (apply s_k1 (ifirst3_1 _ _ _); exact rfl; (first | assumption | omega | decide))
    | (apply s_k (iunless_T _); exact rfl)
    | (apply s_k (iunless_F _); exact rfl)
    | (apply s_k1 (iwithin_T _ _ _); exact rfl; (first | assumption | omega | decide)))
            exact lv_ret (ret2 rfl (res_tmp rfl) (res_tmp rfl))
          · by_cases h6 : 8 < x.tilt.length
            · rw [show chkI x = (0, 8) by unfold chkI; rw [if_neg h1, if_neg h2, if_neg h3, if_neg h4, if_neg h5, if_pos h6]]
              have HL := idxL_s x.layers 122 [] (fun i => !layOk (x.layers.getD i default)) (by omega) (fun i hi => by rw [getD_at hi]; exact chkL_s x.layers[i])
              rw [show idxP x.layers.length (fun i => !layOk (x.layers.getD i default)) = badL x from rfl] at HL
              have h4b := Classical.not_not.1 h4
              refine summW Tryz.func87 rfl rfl 54 rfl (by simp) (fun M0 => ?_)
              repeat (first
    | (apply s_a TY; exact rfl)
    | (apply s_t; exact rfl; (first | assumption | omega))
    | (apply s_f; exact rfl; (first | assumption | omega))
    | apply w_seq
    | apply w_region
    | (apply w_draw (id := 1) 9 rfl (by kernel_rfl))
    | (apply w_draw (id := 7) 13 rfl (by kernel_rfl))
    | apply s_nil
    | apply t_norm
    | apply t_ret
    | apply w_ret
    | apply w_skip
    | (apply w_condT; exact rfl; exact rfl)
    | (apply w_condF; exact rfl; exact rfl)
    | (apply s_k (HL); exact rfl)
    | (apply s_k1 (ifirst2_1 _ _); exact rfl; (first | assumption | omega | decide))
    | (apply s_k1 (ifirst3_2 _ _ _); exact rfl; (first | assumption | omega | decide))
    | (apply s_k (iunless_T _); exact rfl)
    | (apply s_k (iunless_F _); exact rfl)
    | (apply s_k1 (iwithin_T _ _ _); exact rfl; (first | assumption | omega | decide)))
              exact lv_ret (ret2 rfl (res_tmp rfl) (res_tmp rfl))
            · by_cases h7 : 0 ≤ badT x
              · rw [show chkI x = (badT x, 2) by unfold chkI; rw [if_neg h1, if_neg h2, if_neg h3, if_neg h4, if_neg h5, if_neg h6, if_pos h7]]
                have HL := idxL_s x.layers 122 [] (fun i => !layOk (x.layers.getD i default)) (by omega) (fun i hi => by rw [getD_at hi]; exact chkL_s x.layers[i])
                rw [show idxP x.layers.length (fun i => !layOk (x.layers.getD i default)) = badL x from rfl] at HL
                have h4b := Classical.not_not.1 h4
                have HT := idxN_s x.tilt 126 [] (fun i => !tilOk (x.tilt.getD i default)) (by omega) (fun i hi => by rw [getD_at hi]; exact chkT_s x.tilt[i])
                rw [show idxP x.tilt.length (fun i => !tilOk (x.tilt.getD i default)) = badT x from rfl] at HT
                refine summW Tryz.func87 rfl rfl 54 rfl (by simp) (fun M0 => ?_)
                repeat (first
    | (apply s_a TY; exact rfl)
    | (apply s_t; exact rfl; (first | assumption | omega))
    | (apply s_f; exact rfl; (first | assumption | omega))
    | apply w_seq
    | apply w_region
    | (apply w_draw (id := 1) 9 rfl (by kernel_rfl))
    | (apply w_draw (id := 7) 13 rfl (by kernel_rfl))
    | apply s_nil
    | apply t_norm
    | apply t_ret
    | apply w_ret
    | apply w_skip
    | (apply w_condT; exact rfl; exact rfl)
    | (apply w_condF; exact rfl; exact rfl)
    | (apply s_k (HL); exact rfl)
    | (apply s_k (HT); exact rfl)
    | (apply s_k1 (ifirst2_1 _ _); exact rfl; (first | assumption | omega | decide))
    | (apply s_k1 (ifirst3_2 _ _ _); exact rfl; (first | assumption | omega | decide))
    | (apply s_k (iunless_T _); exact rfl)
    | (apply s_k1 (iwithin_T _ _ _); exact rfl; (first | assumption | omega | decide)))
                exact lv_ret (ret2 rfl (res_tmp rfl) (res_tmp rfl))
              · rw [show chkI x = (0, 0) by unfold chkI; rw [if_neg h1, if_neg h2, if_neg h3, if_neg h4, if_neg h5, if_neg h6, if_neg h7]]
                have HL := idxL_s x.layers 122 [] (fun i => !layOk (x.layers.getD i default)) (by omega) (fun i hi => by rw [getD_at hi]; exact chkL_s x.layers[i])
                rw [show idxP x.layers.length (fun i => !layOk (x.layers.getD i default)) = badL x from rfl] at HL
                have h4b := Classical.not_not.1 h4
                have HT := idxN_s x.tilt 126 [] (fun i => !tilOk (x.tilt.getD i default)) (by omega) (fun i hi => by rw [getD_at hi]; exact chkT_s x.tilt[i])
                rw [show idxP x.tilt.length (fun i => !tilOk (x.tilt.getD i default)) = badT x from rfl] at HT
                refine summW Tryz.func87 rfl rfl 54 rfl (by simp) (fun M0 => ?_)
                repeat (first
    | (apply s_a TY; exact rfl)
    | (apply s_t; exact rfl; (first | assumption | omega))
    | (apply s_f; exact rfl; (first | assumption | omega))
    | apply w_seq
    | apply w_region
    | (apply w_draw (id := 1) 9 rfl (by kernel_rfl))
    | (apply w_draw (id := 7) 13 rfl (by kernel_rfl))
    | apply s_nil
    | apply t_norm
    | apply w_ret
    | apply w_skip
    | (apply w_condF; exact rfl; exact rfl)
    | (apply s_k (HL); exact rfl)
    | (apply s_k (HT); exact rfl)
    | (apply s_k1 (ifirst2_1 _ _); exact rfl; (first | assumption | omega | decide))
    | (apply s_k1 (ifirst3_2 _ _ _); exact rfl; (first | assumption | omega | decide))
    | (apply s_k (iunless_T _); exact rfl)
    | (apply s_k1 (iwithin_T _ _ _); exact rfl; (first | assumption | omega | decide)))
                exact lv_ret (ret2 rfl (res_tmp rfl) (res_tmp rfl))
theorem iceErr_s (x : Grid) (hl : x.layers.length ≤ 1000000) (ht : x.tilt.length ≤ 1000000) : Summ Tryz.prog GG 52 [gridF x] (iv (chkI x).2) := by
  refine summW Tryz.func52 rfl rfl 11 rfl (by simp) (fun M0 => ?_)
  repeat (first
    | (apply s_a TY; exact rfl)
    | apply w_seq
    | apply w_region
    | apply s_nil
    | apply t_norm
    | apply w_ret
    | (apply s_k2 (CheckIce_s _); exact rfl; (first | assumption | omega | decide); (first | assumption | omega | decide)))
  exact lv_ret (ret1 rfl (res_tmp rfl))
end Go.Proofs.YtnmaabejdmaahaaGreatDoor
namespace Go.Proofs.YtnmaabejdmaahaaGreatDoor
open Go.Lib (itoa decDigits decFrom digitVal join atoiAll)
open Go Go.RowKit Go.Proofs Go.Shelf Go.Ab
def layS (l : Layer) : Nm := wordsS [l.delay, l.loss, l.scatter]
def icePt (x : Grid) : List Nm := [wordsS [x.rows], wordsS x.tilt] ++ x.layers.map layS
def iceS (x : Grid) : Nm := join (icePt x) [59]
structure IceI (x : Grid) : Prop where
  rows : I64 [x.rows]
  tilt : I64 x.tilt
  lay : ∀ l ∈ x.layers, I64 [l.delay, l.loss, l.scatter]
theorem join_lenC (c : UInt8) : ∀ (l : List Nm) (B : Nat), (∀ s ∈ l, s.length ≤ B) → (join l [c]).length ≤ (B + 1) * l.length
  | [], B, _ => by rw [Lib.join_nil]; simp
  | [x], B, h => by rw [Lib.join_one]; have := h x (by simp); simp; omega
  | x :: y :: r, B, h => by
    have ih := join_lenC c (y :: r) B (fun s hs => h s (by simp [List.mem_cons.1 hs]))
    have e : join (x :: y :: r) [c] = x ++ c :: join (y :: r) [c] := by
      rw [Lib.join_cons, Lib.join_cons]
      unfold Lib.joinTail
      simp
    have hx := h x (by simp)
    rw [e, List.length_append, List.length_cons, List.length_cons, Nat.mul_succ]
    omega
theorem icePt_len (x : Grid) : (icePt x).length = 2 + x.layers.length := by unfold icePt; rw [List.length_append, List.length_map]; rfl
theorem icePt_mem {x : Grid} (h : IceI x) (ht : x.tilt.length ≤ 100) : ∀ s ∈ icePt x, s.length ≤ 2200 := by
  intro s hs
  unfold icePt at hs
  rcases List.mem_append.1 hs with e | e
  · rcases List.mem_cons.1 e with e | e
    · subst e; have := wordsS_len h.rows; simp at this; omega
    · rw [List.mem_singleton] at e; subst e; have := wordsS_len h.tilt; omega
  · obtain ⟨l, hl, rfl⟩ := List.mem_map.1 e
    have := wordsS_len (h.lay l hl); simp at this; show (wordsS _).length ≤ _; omega
theorem iceT_len {x : Grid} (h : IceI x) (ht : x.tilt.length ≤ 100) (hl : x.layers.length ≤ 100) (k : Nat) : (join ((icePt x).take k) [59]).length ≤ 300000 := by
  have h1 := join_lenC 59 ((icePt x).take k) 2200 (fun s hs => icePt_mem h ht s (List.mem_of_mem_take hs))
  have h2 : ((icePt x).take k).length ≤ 102 := by rw [List.length_take, icePt_len]; omega
  have := Nat.mul_le_mul_left (2200 + 1) h2
  omega
theorem icePt_tk {x : Grid} {k : Nat} (hk : k < x.layers.length) : (icePt x).take (2 + (k + 1)) = (icePt x).take (2 + k) ++ [layS x.layers[k]] := by
  have hl : 2 + k < (icePt x).length := by rw [icePt_len]; omega
  rw [show 2 + (k + 1) = (2 + k) + 1 by omega, List.take_succ_eq_append_getElem hl]
  have he : (icePt x)[2 + k]? = some (layS x.layers[k]) := by
    unfold icePt
    rw [List.getElem?_append_right (by simp), List.getElem?_map]
    simp [hk]
  rw [Option.some.inj ((List.getElem?_eq_getElem hl).symm.trans he)]
theorem icePt_0 (x : Grid) : (icePt x).take (2 + 0) = [wordsS [x.rows], wordsS x.tilt] := by unfold icePt; simp
theorem icePt_all (x : Grid) : (icePt x).take (2 + x.layers.length) = icePt x := List.take_of_length_le (by rw [icePt_len]; exact Nat.le_refl _)
set_option maxRecDepth 100000 in
set_option maxHeartbeats 3200000 in
theorem FormatIce_s (x : Grid) (hl : x.layers.length ≤ 100) (ht : x.tilt.length ≤ 100) (hi : IceI x) : Summ Tryz.prog GS 14 [gridF x] (sv (iceS x)) := by
  have H0 := iwords_s [x.rows] (by simp) hi.rows
  have H1 := iwords_s x.tilt (by omega) hi.tilt
  refine summW Tryz.func14 rfl rfl 35 rfl (by simp) (fun M0 => ?_)
  repeat (first
    | (apply s_bslicew TY (len := 2); exact rfl; exact rfl; exact rfl; exact rfl; exact rfl; exact rfl; exact rfl; exact rfl; exact rfl)
    | (apply s_a TY; exact rfl)
    | apply w_seq
    | apply w_region
    | (apply w_draw (id := 1) 6 rfl (by kernel_rfl))
    | apply s_nil
    | apply t_norm
    | apply w_block
    | (apply s_k (H0); exact rfl)
    | (apply s_k (H1); exact rfl))
  apply w_loop (fun k : Nat => ⟨(Ab.upd (Ab.upd (Ab.upd (Ab.upd (fun _ => .bot) 3 (.ow 0)) 15 (.f (.sl x.layers.length (ilaysF x.layers)))) 16 (.f (iv x.layers.length))) 17 (.f (iv ((k : Nat) : Int)))), (Ab.upd (fun _ => none) 0 (some (.row 9 1 ((icePt x).take (2 + k)).length (strsF ((icePt x).take (2 + k)))))), 1⟩) (fun k => k ≤ x.layers.length) (fun k => x.layers.length - k) 0 (Nat.zero_le _) (gh_le ⟨le_upd rfl trivial (le_upd rfl trivial (le_upd rfl trivial (le_upd rfl rfl (le_nil _)))), le_hupd (by rw [icePt_0]; rfl) trivial (le_h0 _ _)⟩)
  intro k hk
  have hrl : ((icePt x).take (2 + k)).length = 2 + k := by rw [List.length_take, icePt_len]; omega
  by_cases hc : k < x.layers.length
  · have HL := iwords_s [x.layers[k].delay, x.layers[k].loss, x.layers[k].scatter] (by simp) (hi.lay _ (List.getElem_mem hc))
    have hs := icePt_tk hc
    repeat (first
    | (apply s_append TY; exact rfl; exact rfl; exact rfl; exact rfl; exact rfl; exact rfl; exact rfl; exact rfl; exact rfl; (unfold maxLen; omega); omega)
    | (apply s_a TY; exact rfl)
    | (apply s_t; exact rfl; (first | assumption | omega))
    | apply w_seq
    | apply w_region
    | apply s_nil
    | apply t_norm
    | apply k_norm
    | apply w_block
    | apply w_skip
    | (apply w_condT; exact rfl; exact rfl)
    | (apply s_k (HL); exact rfl)
    | (apply s_c TY; exact rfl; (first | omega | exact ⟨by omega, by (first | with_reducible assumption | ((with_reducible apply ilaysF_ne); omega) | assumption)⟩))
    | (apply s_m TY; exact rfl; (first | with_reducible assumption | ((with_reducible apply ilaysF_sub); omega) | exact rfl); exact rfl)
    | (apply s_alloc TY; exact rfl; exact rfl; exact rfl)
    | (apply s_store TY; exact rfl; exact rfl; exact rfl; exact rfl; exact rfl; exact rfl))
    exact ⟨k + 1, by omega, by omega, gh_le ⟨le_upd rfl trivial (le_upd rfl trivial (le_upd rfl trivial (le_upd rfl rfl (le_nil _)))), le_hupd (by rw [hs, strsF_snoc, List.length_append]; rfl) trivial (le_h0 _ _)⟩⟩
  · have hke : k = x.layers.length := by omega
    subst hke
    have hjl := iceT_len hi ht hl (2 + x.layers.length)
    have HJ := Join_s ((icePt x).take (2 + x.layers.length)) [59] (by omega) (by omega)
    rw [icePt_all] at HJ
    apply w_gh (gh_row 0 rfl)
    rw [icePt_all] at *
    repeat (first
    | (apply s_a TY; exact rfl)
    | (apply s_f; exact rfl; (first | assumption | omega))
    | apply w_seq
    | apply w_region
    | apply s_nil
    | apply t_norm
    | apply t_exit
    | apply k_hit
    | apply w_exit
    | apply w_ret
    | (apply w_condF; exact rfl; exact rfl)
    | (apply s_k (HJ); exact rfl))
    exact lv_ret (ret1 rfl (res_tmp rfl))
set_option maxRecDepth 100000 in
set_option maxHeartbeats 3200000 in
theorem rFormatIce_s (x : Grid) (hl : x.layers.length ≤ 100) (ht : x.tilt.length ≤ 100) (hi : IceI x) : Summ Tryz.prog GG 18 [gridF x] (sv (iceS x)) := by
  have H0 := Decimal_s x.rows (hi.rows _ (by simp))
  have H1 := itext_s x.tilt (by omega) hi.tilt
  have l0 := itoa_len (hi.rows x.rows (by simp))
  have l1 := wordsS_len hi.tilt
  have e0 : (join ((icePt x).take (2 + 0)) [59]) = itoa x.rows ++ [59] ++ wordsS x.tilt := by
    rw [icePt_0, show wordsS [x.rows] = itoa x.rows from Lib.join_one _ _, Lib.join_cons]
    unfold Lib.joinTail
    simp
  refine summW Tryz.func18 rfl rfl 44 rfl (by simp) (fun M0 => ?_)
  repeat (first
    | (apply s_bind; exact rfl; exact rfl; exact rfl; exact rfl; exact rfl; exact rfl; exact cat_run (by (first | omega | (simp only [List.length_cons, List.length_nil, List.length_append]; omega))))
    | (apply s_a TY; exact rfl)
    | apply w_seq
    | apply w_region
    | (apply w_draw (id := 1) 7 rfl (by kernel_rfl))
    | apply s_nil
    | apply t_norm
    | apply w_block
    | (apply s_k (H0); exact rfl)
    | (apply s_k (H1); exact rfl))
  apply w_loop (fun k : Nat => ⟨(Ab.upd (Ab.upd (Ab.upd (fun _ => .bot) 1 (.f (.pt (gridL x) 0))) 3 (.f (sv (join ((icePt x).take (2 + k)) [59])))) 4 (.f (iv ((k : Nat) : Int)))), (fun _ => none), 0⟩) (fun k => k ≤ x.layers.length) (fun k => x.layers.length - k) 0 (Nat.zero_le _) (gh_le ⟨le_upd rfl trivial (le_upd (congrArg (fun z => AV.f (sv z)) e0) trivial (le_upd rfl trivial (le_nil _))), le_h0 _ _⟩)
  intro k hk
  have hjk := iceT_len hi ht hl (2 + k)
  by_cases hc : k < x.layers.length
  · have HL := itext_s [x.layers[k].delay, x.layers[k].loss, x.layers[k].scatter] (by simp) (hi.lay _ (List.getElem_mem hc))
    have ll := wordsS_len (hi.lay _ (List.getElem_mem hc))
    simp only [List.length_cons, List.length_nil] at ll
    have hs : (join ((icePt x).take (2 + (k + 1))) [59]) = (join ((icePt x).take (2 + k)) [59]) ++ [59] ++ wordsS [x.layers[k].delay, x.layers[k].loss, x.layers[k].scatter] := by
      rw [icePt_tk hc, join_snoc _ _ _ (by intro e; have := congrArg List.length e; rw [List.length_take, icePt_len] at this; simp at this <;> omega)]; rfl
    repeat (first
    | (apply s_bind; exact rfl; exact rfl; exact rfl; exact rfl; exact rfl; exact rfl; exact cat_run (by (first | omega | (simp only [List.length_cons, List.length_nil, List.length_append]; omega))))
    | (apply s_a TY; exact rfl)
    | (apply s_t; exact rfl; (first | assumption | omega))
    | apply w_seq
    | apply w_region
    | (apply w_draw (id := 5) 22 rfl (by kernel_rfl))
    | apply s_nil
    | apply t_norm
    | apply k_norm
    | apply w_block
    | apply w_skip
    | (apply w_condT; exact rfl; exact rfl)
    | (apply s_k (HL); exact rfl)
    | (apply s_c TY; exact rfl; (first | omega | exact ⟨by omega, by (first | with_reducible assumption | ((with_reducible apply ilaysF_ne); omega) | assumption)⟩))
    | (apply s_l TY; exact rfl; (first | exact rfl | with_reducible assumption | ((with_reducible apply ilaysF_f0); omega) | ((with_reducible apply ilaysF_f1); omega) | ((with_reducible apply ilaysF_f2); omega) | assumption)))
    exact ⟨k + 1, by omega, by omega, gh_le ⟨le_upd rfl trivial (le_upd (congrArg (fun z => AV.f (sv z)) hs) trivial (le_upd rfl trivial (le_nil _))), le_h0 _ _⟩⟩
  · have hke : k = x.layers.length := by omega
    subst hke
    unfold iceS
    rw [icePt_all]
    repeat (first
    | (apply s_a TY; exact rfl)
    | (apply s_f; exact rfl; (first | assumption | omega))
    | apply w_seq
    | apply w_region
    | apply s_nil
    | apply t_norm
    | apply t_exit
    | apply k_hit
    | apply w_exit
    | apply w_ret
    | (apply w_condF; exact rfl; exact rfl))
    exact lv_ret (ret1 rfl (res_tmp rfl))
end Go.Proofs.YtnmaabejdmaahaaGreatDoor
namespace Go.Ab
open Go Go.RowKit Go.Shelf Go.Proofs
section
variable {C : Ctx} {N : Nat} {st : St}
theorem v_arrayAt {o : Oper} {T E m n : Nat} {x : Operand} {cs : List FV} (ho : o.op = .sliceToArrayPointer T x) (hd : dstB N o.dst = true) (hu : C.P.underlying T = some (.array m E)) (hx : st.ev C x = .f (.sl n cs)) (hm : m ≤ n) (hc : cs ≠ []) : ValOp C N o st (.f (.pt cs 0)) :=
  valop_run hd fun w0 a w J st' hA S => by
    have e1 := evF S ((hA.ev x (by simp [ho, Op.operands])).trans hx)
    generalize hv : a.eval x = v at e1
    cases e1 with
    | sl ad _ c _ us p0 p1 p2 p3 p4 =>
      have hne : us ≠ [] := fun e => hc (List.eq_nil_of_length_eq_zero (by rw [← p1, e]; rfl))
      obtain ⟨b, off, rfl, L⟩ := p3 hne
      refine ⟨.pointer (some ⟨b, off, none⟩), w, ?_, Ext.refl _, ?_⟩
      · simp [execOp, ho, hv, Instr.arrayAt, run_underlying hu, Nat.not_lt.2 hm]
      · exact RepF.pt b off 0 cs us p1 p2 L p4
variable {ops : Array Oper} {pr : Bool} {K : St → Prop} {rest : List Oper} {d : Option Tmp} {T0 : TypeId} {pos : String} {af : Array Edge} {g : Option (Nat × Bool)}
theorem s_arrayAt {T E m n : Nat} {x : Operand} {cs : List FV} (hu : C.P.underlying T = some (.array m E)) (hw : wantB st ops ⟨d, .sliceToArrayPointer T x, T0, pos, af, g⟩ = some true) (hd : dstB N d = true) (hx : st.ev C x = .f (.sl n cs)) (hm : m ≤ n) (hc : cs ≠ [])
    (h : R C N ops pr K rest (st.put d (.f (.pt cs 0)))) : R C N ops pr K (⟨d, .sliceToArrayPointer T x, T0, pos, af, g⟩ :: rest) st := ⟨r_val hw (v_arrayAt rfl hd hu hx hm hc) h.out⟩
end
end Go.Ab
namespace Go.Proofs.YtnmaabejdmaahaaGreatDoor
open Go.Lib (itoa decDigits decFrom digitVal join atoiAll)
open Go Go.RowKit Go.Proofs Go.Shelf Go.Ab
def layP (s : Nm) : Option Layer := match numsB false 7 (cutS 32 s) with
  | some [a, b, c] => some ⟨a, b, c⟩
  | _ => none
def laysP (ws : List Nm) : Option (List Layer) := ws.foldl (fun o w => o.bind fun l => (layP w).map fun v => l ++ [v]) (some [])
theorem laysP_snoc (ws : List Nm) (w : Nm) : laysP (ws ++ [w]) = (laysP ws).bind fun l => (layP w).map fun v => l ++ [v] := by
  unfold laysP
  rw [List.foldl_append]; rfl
theorem fold_noneL : ∀ ws : List Nm, ws.foldl (fun (o : Option (List Layer)) w => o.bind fun l => (layP w).map fun v => l ++ [v]) none = none
  | [] => rfl
  | _ :: ws => fold_noneL ws
theorem laysP_bad {ws : List Nm} {k : Nat} (hk : k < ws.length) (h : layP ws[k] = none) : laysP ws = none := by
  have e : ws = (ws.take k ++ [ws[k]]) ++ ws.drop (k + 1) := by
    rw [← List.take_succ_eq_append_getElem hk, List.take_append_drop]
  unfold laysP
  rw [e, List.foldl_append, List.foldl_append]
  generalize (ws.take k).foldl _ _ = o
  have e2 : List.foldl (fun (o : Option (List Layer)) w => o.bind fun l => (layP w).map fun v => l ++ [v]) o [ws[k]] = none := by
    show (o.bind fun l => (layP ws[k]).map fun v => l ++ [v]) = none
    rw [h]
    cases o <;> rfl
  rw [e2]
  exact fold_noneL _
theorem laysP_next {ws : List Nm} {k : Nat} {l : List Layer} {v : Layer} (hk : k < ws.length) (hl : laysP (ws.take k) = some l) (h : layP ws[k] = some v) : laysP (ws.take (k + 1)) = some (l ++ [v]) := by
  rw [List.take_succ_eq_append_getElem hk, laysP_snoc, hl, h]; rfl
theorem fold_lenL : ∀ (ws : List Nm) (l0 l : List Layer), ws.foldl (fun (o : Option (List Layer)) w => o.bind fun l => (layP w).map fun v => l ++ [v]) (some l0) = some l → l.length = l0.length + ws.length
  | [], l0, l, h => by rw [← Option.some.inj h]; simp
  | w :: ws, l0, l, h => by
    rw [List.foldl_cons] at h
    cases hw : layP w with
    | none =>
      have e : ((some l0).bind fun l => (layP w).map fun v => l ++ [v]) = none := by rw [hw]; rfl
      rw [e, fold_noneL] at h; cases h
    | some v =>
      have e : ((some l0).bind fun l => (layP w).map fun v => l ++ [v]) = some (l0 ++ [v]) := by rw [hw]; rfl
      rw [e] at h
      have := fold_lenL ws (l0 ++ [v]) l h
      rw [this, List.length_append, List.length_singleton, List.length_cons]; omega
theorem laysP_len {ws : List Nm} {l : List Layer} (h : laysP ws = some l) : l.length = ws.length := by
  have := fold_lenL ws [] l h
  rw [this]; simp
theorem layP_no {s : Nm} (h : numsB false 7 (cutS 32 s) = none) : layP s = none := by unfold layP; rw [h]
theorem layP_ok {s : Nm} {a b c : Int} (h : numsB false 7 (cutS 32 s) = some [a, b, c]) : layP s = some ⟨a, b, c⟩ := by unfold layP; rw [h]
theorem layP_len {s : Nm} {l : List Int} (h : numsB false 7 (cutS 32 s) = some l) (hl : l.length ≠ 3) : layP s = none := by
  unfold layP; rw [h]
  match l, hl with
  | [], _ => rfl
  | [_], _ => rfl
  | [_, _], _ => rfl
  | [_, _, _], hl => exact absurd rfl hl
  | _ :: _ :: _ :: _ :: _, _ => rfl
def headP (a b : Nm) : Option (Int × List Int) := match numsB false 7 (cutS 32 a), numsB true 7 (cutS 32 b) with
  | some [r], some t => some (r, t)
  | _, _ => none
def iceQ (ps : List Nm) : Grid × Int :=
  if ps.length ≤ 2 then (⟨[], 0, []⟩, 7) else
  match headP (ps.getD 0 []) (ps.getD 1 []), laysP (ps.drop 2) with
  | some (r, t), some l => if (chkI ⟨l, r, t⟩).2 = 0 then (⟨l, r, t⟩, 0) else (⟨[], 0, []⟩, (chkI ⟨l, r, t⟩).2)
  | _, _ => (⟨[], 0, []⟩, 7)
def iceZ (e : Int) : FV := .tup [.agg [.sl 0 [], iv 0, .sl 0 []], iv e]
def iceF (ps : List Nm) : FV := .tup [gridF (iceQ ps).1, iv (iceQ ps).2]
theorem iceF_2 {ps : List Nm} (h : ps.length ≤ 2) : iceF ps = iceZ 7 := by unfold iceF iceQ; rw [if_pos h]; rfl
section
variable {a b : Nm} {rest : List Nm}
theorem iceF_h (h : headP a b = none) : iceF (a :: b :: rest) = iceZ 7 := by
  by_cases h0 : (a :: b :: rest).length ≤ 2
  · exact iceF_2 h0
  unfold iceF iceQ
  rw [if_neg h0, show headP ((a :: b :: rest).getD 0 []) ((a :: b :: rest).getD 1 []) = none from h]; rfl
theorem iceF_l (h : laysP rest = none) : iceF (a :: b :: rest) = iceZ 7 := by
  by_cases h0 : (a :: b :: rest).length ≤ 2
  · exact iceF_2 h0
  unfold iceF iceQ
  rw [if_neg h0, show (a :: b :: rest).drop 2 = rest from rfl, h]
  cases headP ((a :: b :: rest).getD 0 []) ((a :: b :: rest).getD 1 []) <;> rfl
theorem iceF_c {r : Int} {t : List Int} {l : List Layer} (h0 : rest ≠ []) (h : headP a b = some (r, t)) (h2 : laysP rest = some l) (h3 : ¬ (chkI ⟨l, r, t⟩).2 = 0) : iceF (a :: b :: rest) = iceZ (chkI ⟨l, r, t⟩).2 := by
  unfold iceF iceQ
  rw [if_neg (by cases rest with | nil => exact absurd rfl h0 | cons => simp), show (a :: b :: rest).drop 2 = rest from rfl, h2, show headP ((a :: b :: rest).getD 0 []) ((a :: b :: rest).getD 1 []) = some (r, t) from h]
  simp only [if_neg h3]; rfl
theorem iceF_0 {r : Int} {t : List Int} {l : List Layer} (h0 : rest ≠ []) (h : headP a b = some (r, t)) (h2 : laysP rest = some l) (h3 : (chkI ⟨l, r, t⟩).2 = 0) : iceF (a :: b :: rest) = .tup [.agg [.sl l.length (ilaysF l), iv r, .sl t.length (intsF t)], iv 0] := by
  unfold iceF iceQ
  rw [if_neg (by cases rest with | nil => exact absurd rfl h0 | cons => simp), show (a :: b :: rest).drop 2 = rest from rfl, h2, show headP ((a :: b :: rest).getD 0 []) ((a :: b :: rest).getD 1 []) = some (r, t) from h]
  simp only [if_pos h3]; rfl
end
theorem headP_0 {a b : Nm} (h : numsB false 7 (cutS 32 a) = none) : headP a b = none := by unfold headP; rw [h]
theorem headP_1 {a b : Nm} (h : numsB true 7 (cutS 32 b) = none) : headP a b = none := by
  unfold headP; rw [h]
  split <;> first | rfl | (rename_i e; cases e)
theorem headP_n {a b : Nm} {l : List Int} (h : numsB false 7 (cutS 32 a) = some l) (hl : l.length ≠ 1) : headP a b = none := by
  unfold headP; rw [h]
  match l, hl with
  | [], _ => rfl
  | [_], hl => exact absurd rfl hl
  | _ :: _ :: _, _ => rfl
theorem headP_ok {a b : Nm} {r : Int} {t : List Int} (h : numsB false 7 (cutS 32 a) = some [r]) (h2 : numsB true 7 (cutS 32 b) = some t) : headP a b = some (r, t) := by unfold headP; rw [h, h2]
theorem rep_nilG {w : World} {M : Nat → Prop} {v : Value} (h : RepF w M v (.agg [.v (.slice none 0 0), iv 0, .v (.slice none 0 0)])) : RepF w M v (.agg [.sl 0 [], iv 0, .sl 0 []]) := by
  cases h with
  | agg _ us hl ho hr =>
    refine RepF.agg _ us (by simpa using hl) ho (fun k u x a b => ?_)
    match k with
    | 0 => simp at b; subst b; exact rep_nilsl (hr 0 u _ a rfl)
    | 1 => simp at b; subst b; exact hr 1 u _ a rfl
    | 2 => simp at b; subst b; exact rep_nilsl (hr 2 u _ a rfl)
    | k + 3 => simp at b
theorem res_nilG {C : Ctx} {n : Nat} {st : St} {rv : ResultVar} (h : ResOk C n st rv (.agg [.v (.slice none 0 0), iv 0, .v (.slice none 0 0)])) : ResOk C n st rv (.agg [.sl 0 [], iv 0, .sl 0 []]) := fun w0 a w S =>
  let ⟨v, h1, h2⟩ := h w0 a w S
  ⟨v, h1, rep_nilG h2⟩
theorem num_head {w : Nm} {v : Int} (h : numO w 7 = some v) : ∃ c r, w = c :: r ∧ (c = 45 ↔ v < 0) := by
  have e := ((@num_lib w 7 (by decide)).1 h).2.1
  by_cases hv : v < 0
  · have : itoa v = 45 :: decDigits v.natAbs := by unfold itoa; rw [if_pos hv]
    rw [this] at e
    exact ⟨45, _, e.symm, ⟨fun _ => hv, fun _ => rfl⟩⟩
  · have h1 := atS_pos (v := v) (by omega)
    rw [e] at h1
    cases w with
    | nil => rw [numO_nil rfl] at h; cases h
    | cons c r =>
      refine ⟨c, r, rfl, ⟨fun hc => ?_, fun hv' => absurd hv' hv⟩⟩
      subst hc
      exact absurd h1 (by unfold atS; simp)
set_option maxRecDepth 100000 in
theorem rparse_n (s : Nm) (n : Nat) (b : Bool) (hn : n ≤ 1000) (hs : s.length ≤ 1000000) (h : ¬ (cutS 32 s).length = n) : Summ Tryz.prog GG 54 [sv s, iv ((n : Nat) : Int), bv b] (.tup [.sl 0 [], bv false]) := by
  have HC := Cut_s s 32 hs
  have hcl := cutS_len 32 s
  refine summW Tryz.func54 rfl rfl 56 rfl (by simp) (fun M0 => ?_)
  repeat (first
    | (apply s_a TY; exact rfl)
    | (apply s_t; exact rfl; (first | assumption | omega))
    | (apply s_f; exact rfl; (first | assumption | omega))
    | apply w_seq
    | apply w_region
    | apply s_nil
    | apply t_norm
    | apply t_ret
    | apply w_ret
    | (apply w_condT; exact rfl; exact rfl)
    | (apply s_k (HC); exact rfl))
  exact lv_ret (ret2 rfl (res_nil rfl) (res_tmp rfl))
set_option maxRecDepth 100000 in
set_option maxHeartbeats 3200000 in
theorem rparse_s (s : Nm) (z : Int) (b : Bool) (hs : s.length ≤ 1000000) (hz : z = -1 ∨ z = ((cutS 32 s).length : Int)) : Summ Tryz.prog GG 54 [sv s, iv z, bv b] (numsRB b 7 (cutS 32 s)) := by
  have HC := Cut_s s 32 hs
  have hcl := cutS_len 32 s
  refine summW Tryz.func54 rfl rfl 56 rfl (by simp) (fun M0 => ?_)
  rcases hz with hz | hz
  · subst hz
    repeat (first
    | (apply s_a TY; exact rfl)
    | (apply s_f; exact rfl; (first | assumption | omega))
    | apply w_seq
    | apply w_region
    | apply s_nil
    | apply t_norm
    | apply w_block
    | apply w_skip
    | (apply w_condF; exact rfl; exact rfl)
    | (apply s_k (HC); exact rfl)
    | (apply s_s; exact rfl))
    apply w_gh (gh_own 9 3 1 rfl rfl)
    apply w_loop (fun q : Nat × List Int => ⟨(Ab.upd (Ab.upd (Ab.upd (Ab.upd (fun _ => .bot) 2 (.f (bv b))) 8 (.f (.sl (cutS 32 s).length (strsF (cutS 32 s))))) 9 (.ow 0)) 10 (.f (iv ((q.1 : Nat) : Int)))), (Ab.upd (fun _ => none) 0 (some (.row 3 1 q.2.length (intsF q.2)))), 1⟩) (fun q => numsB b 7 ((cutS 32 s).take q.1) = some q.2 ∧ q.1 ≤ (cutS 32 s).length) (fun q => (cutS 32 s).length - q.1) (0, []) (⟨rfl, Nat.zero_le _⟩) (gh_le ⟨le_upd rfl trivial (le_upd rfl rfl (le_upd rfl trivial (le_upd rfl trivial (le_nil _)))), le_hupd rfl trivial (le_h0 _ _)⟩)
    rintro ⟨k, l⟩ ⟨hn, hk⟩
    change numsB b 7 ((cutS 32 s).take k) = some l at hn
    change k ≤ (cutS 32 s).length at hk
    change W _ _ _ _ (⟨(Ab.upd (Ab.upd (Ab.upd (Ab.upd (fun _ => .bot) 2 (.f (bv b))) 8 (.f (.sl (cutS 32 s).length (strsF (cutS 32 s))))) 9 (.ow 0)) 10 (.f (iv ((k : Nat) : Int)))), (Ab.upd (fun _ => none) 0 (some (.row 3 1 l.length (intsF l)))), 1⟩)
    have hll := numsB_len hn
    rw [List.length_take] at hll
    by_cases hc : k < (cutS 32 s).length
    · have hat : (strsF (cutS 32 s))[k * 1]? = some (sv (cutS 32 s)[k]) := strsF_at hc
      have hne : strsF (cutS 32 s) ≠ [] := strsF_ne (k := k) hc
      have HN := Number_s (cutS 32 s)[k] 7 (by decide) (by have := cutS_mem_len 32 s _ (List.getElem_mem hc); omega)
      cases e : numO (cutS 32 s)[k] 7 with
      | none =>
        rw [numR_no e] at HN
        rw [numsRB_no (numsB_bad hc (numB_none e))]
        repeat (first
    | (apply s_a TY; exact rfl)
    | (apply s_t; exact rfl; (first | assumption | omega))
    | apply w_seq
    | apply w_region
    | apply s_nil
    | apply t_norm
    | apply t_ret
    | apply k_ret
    | apply w_block
    | apply w_ret
    | apply w_skip
    | (apply w_condT; exact rfl; exact rfl)
    | (apply s_k (HN); exact rfl)
    | (apply s_s; exact rfl)
    | (apply s_c TY; exact rfl; (first | omega | exact ⟨by omega, by (first | with_reducible assumption | ((with_reducible apply strsF_ne); omega) | assumption)⟩))
    | (apply s_l TY; exact rfl; (first | exact rfl | with_reducible assumption | ((with_reducible apply strsF_at); omega) | assumption)))
        exact lv_ret (ret2 rfl (res_nil rfl) (res_tmp rfl))
      | some v =>
        rw [show numR (cutS 32 s)[k] 7 = .tup [iv v, .v (.bool true)] by unfold numR; rw [e]] at HN
        obtain ⟨c, r, hw, hcv⟩ := num_head e
        have hsz := strSz (cutS 32 s)[k]
        have hwl : 0 < (cutS 32 s)[k].length := by rw [hw]; simp
        have hb0 : (cutS 32 s)[k][(0 : Int).toNat]? = some c := by rw [hw]; rfl
        by_cases hneg : v < 0
        · have h45 : (c.toNat : Int) = 45 := by rw [hcv.2 hneg]; rfl
          cases b with
          | false =>
            rw [numsRB_no (numsB_bad hc (by rw [numB_some e, if_neg (fun q => q.elim (fun e => by cases e) (fun h => absurd hneg (by omega)))]))]
            repeat (first
    | (apply s_idxS TY; exact rfl; exact rfl; exact rfl; exact rfl; exact rfl; omega; exact hb0)
    | (apply s_a TY; exact rfl)
    | (apply s_t; exact rfl; (first | assumption | omega))
    | apply w_seq
    | apply w_region
    | apply s_nil
    | apply t_norm
    | apply t_ret
    | apply k_ret
    | apply w_block
    | apply w_ret
    | apply w_skip
    | (apply w_condT; exact rfl; exact rfl)
    | (apply s_k (HN); exact rfl)
    | (apply s_c TY; exact rfl; (first | omega | exact ⟨by omega, by (first | with_reducible assumption | ((with_reducible apply strsF_ne); omega) | assumption)⟩))
    | (apply s_l TY; exact rfl; (first | exact rfl | with_reducible assumption | ((with_reducible apply strsF_at); omega) | assumption)))
            exact lv_ret (ret2 rfl (res_nil rfl) (res_tmp rfl))
          | true =>
            have hso : numB true 7 (cutS 32 s)[k] = some v := by rw [numB_some e, if_pos (.inl rfl)]
            have hrow : some (Blk.row 3 1 (l.length + 1) (intsF l ++ [iv v])) = some (Blk.row 3 1 (l ++ [v]).length (intsF (l ++ [v]))) := by rw [intsF_snoc, List.length_append]; rfl
            repeat (first
    | (apply s_append TY; exact rfl; exact rfl; exact rfl; exact rfl; exact rfl; exact rfl; exact rfl; exact rfl; exact rfl; (unfold maxLen; omega); omega)
    | (apply s_idxS TY; exact rfl; exact rfl; exact rfl; exact rfl; exact rfl; omega; exact hb0)
    | (apply s_a TY; exact rfl)
    | (apply s_t; exact rfl; (first | assumption | omega))
    | apply w_seq
    | apply w_region
    | apply s_nil
    | apply t_norm
    | apply k_norm
    | apply w_block
    | apply w_skip
    | (apply w_condT; exact rfl; exact rfl)
    | (apply w_condF; exact rfl; exact rfl)
    | (apply s_k (HN); exact rfl)
    | (apply s_c TY; exact rfl; (first | omega | exact ⟨by omega, by (first | with_reducible assumption | ((with_reducible apply strsF_ne); omega) | assumption)⟩))
    | (apply s_l TY; exact rfl; (first | exact rfl | with_reducible assumption | ((with_reducible apply strsF_at); omega) | assumption)))
            exact ⟨(k + 1, l ++ [v]), ⟨numsB_next hc hn hso, by show k + 1 ≤ _; omega⟩, by show _ - (k + 1) < _ - k; omega, gh_le ⟨le_upd rfl trivial (le_upd rfl rfl (le_upd rfl trivial (le_upd rfl trivial (le_nil _)))), le_hupd hrow trivial (le_h0 _ _)⟩⟩
        · have h45 : ¬ (c.toNat : Int) = 45 := fun q => hneg (hcv.1 (UInt8.toNat_inj.1 (by show c.toNat = 45; omega)))
          have hso : numB b 7 (cutS 32 s)[k] = some v := by rw [numB_some e, if_pos (.inr (by omega))]
          have hrow : some (Blk.row 3 1 (l.length + 1) (intsF l ++ [iv v])) = some (Blk.row 3 1 (l ++ [v]).length (intsF (l ++ [v]))) := by rw [intsF_snoc, List.length_append]; rfl
          repeat (first
    | (apply s_append TY; exact rfl; exact rfl; exact rfl; exact rfl; exact rfl; exact rfl; exact rfl; exact rfl; exact rfl; (unfold maxLen; omega); omega)
    | (apply s_idxS TY; exact rfl; exact rfl; exact rfl; exact rfl; exact rfl; omega; exact hb0)
    | (apply s_a TY; exact rfl)
    | (apply s_t; exact rfl; (first | assumption | omega))
    | (apply s_f; exact rfl; (first | assumption | omega))
    | apply w_seq
    | apply w_region
    | apply s_nil
    | apply t_norm
    | apply k_norm
    | apply w_block
    | apply w_skip
    | (apply w_condT; exact rfl; exact rfl)
    | (apply w_condF; exact rfl; exact rfl)
    | (apply s_k (HN); exact rfl)
    | (apply s_s; exact rfl)
    | (apply s_c TY; exact rfl; (first | omega | exact ⟨by omega, by (first | with_reducible assumption | ((with_reducible apply strsF_ne); omega) | assumption)⟩))
    | (apply s_l TY; exact rfl; (first | exact rfl | with_reducible assumption | ((with_reducible apply strsF_at); omega) | assumption)))
          exact ⟨(k + 1, l ++ [v]), ⟨numsB_next hc hn hso, by show k + 1 ≤ _; omega⟩, by show _ - (k + 1) < _ - k; omega, gh_le ⟨le_upd rfl trivial (le_upd rfl rfl (le_upd rfl trivial (le_upd rfl trivial (le_nil _)))), le_hupd hrow trivial (le_h0 _ _)⟩⟩
    · have hke : k = (cutS 32 s).length := by omega
      subst hke
      rw [List.take_length] at hn
      rw [numsRB_ok hn]
      repeat (first
    | (apply s_a TY; exact rfl)
    | (apply s_f; exact rfl; (first | assumption | omega))
    | apply w_seq
    | apply w_region
    | apply s_nil
    | apply t_norm
    | apply t_exit
    | apply k_hit
    | apply w_exit
    | apply w_ret
    | (apply w_condF; exact rfl; exact rfl))
      exact lv_ret (ret2 rfl (res_sees rfl (sees_row rfl)) (res_tmp rfl))
  · repeat (first
    | (apply s_a TY; exact rfl)
    | (apply s_t; exact rfl; (first | assumption | omega))
    | apply w_seq
    | apply w_region
    | apply s_nil
    | apply t_norm
    | apply w_block
    | apply w_skip
    | (apply w_condF; exact rfl; exact rfl)
    | (apply s_k (HC); exact rfl))
    apply w_gh (gh_own 9 3 1 rfl rfl)
    apply w_loop (fun q : Nat × List Int => ⟨(Ab.upd (Ab.upd (Ab.upd (Ab.upd (fun _ => .bot) 2 (.f (bv b))) 8 (.f (.sl (cutS 32 s).length (strsF (cutS 32 s))))) 9 (.ow 0)) 10 (.f (iv ((q.1 : Nat) : Int)))), (Ab.upd (fun _ => none) 0 (some (.row 3 1 q.2.length (intsF q.2)))), 1⟩) (fun q => numsB b 7 ((cutS 32 s).take q.1) = some q.2 ∧ q.1 ≤ (cutS 32 s).length) (fun q => (cutS 32 s).length - q.1) (0, []) (⟨rfl, Nat.zero_le _⟩) (gh_le ⟨le_upd rfl trivial (le_upd rfl rfl (le_upd rfl trivial (le_upd rfl trivial (le_nil _)))), le_hupd rfl trivial (le_h0 _ _)⟩)
    rintro ⟨k, l⟩ ⟨hn, hk⟩
    change numsB b 7 ((cutS 32 s).take k) = some l at hn
    change k ≤ (cutS 32 s).length at hk
    change W _ _ _ _ (⟨(Ab.upd (Ab.upd (Ab.upd (Ab.upd (fun _ => .bot) 2 (.f (bv b))) 8 (.f (.sl (cutS 32 s).length (strsF (cutS 32 s))))) 9 (.ow 0)) 10 (.f (iv ((k : Nat) : Int)))), (Ab.upd (fun _ => none) 0 (some (.row 3 1 l.length (intsF l)))), 1⟩)
    have hll := numsB_len hn
    rw [List.length_take] at hll
    by_cases hc : k < (cutS 32 s).length
    · have hat : (strsF (cutS 32 s))[k * 1]? = some (sv (cutS 32 s)[k]) := strsF_at hc
      have hne : strsF (cutS 32 s) ≠ [] := strsF_ne (k := k) hc
      have HN := Number_s (cutS 32 s)[k] 7 (by decide) (by have := cutS_mem_len 32 s _ (List.getElem_mem hc); omega)
      cases e : numO (cutS 32 s)[k] 7 with
      | none =>
        rw [numR_no e] at HN
        rw [numsRB_no (numsB_bad hc (numB_none e))]
        repeat (first
    | (apply s_a TY; exact rfl)
    | (apply s_t; exact rfl; (first | assumption | omega))
    | apply w_seq
    | apply w_region
    | apply s_nil
    | apply t_norm
    | apply t_ret
    | apply k_ret
    | apply w_block
    | apply w_ret
    | apply w_skip
    | (apply w_condT; exact rfl; exact rfl)
    | (apply s_k (HN); exact rfl)
    | (apply s_s; exact rfl)
    | (apply s_c TY; exact rfl; (first | omega | exact ⟨by omega, by (first | with_reducible assumption | ((with_reducible apply strsF_ne); omega) | assumption)⟩))
    | (apply s_l TY; exact rfl; (first | exact rfl | with_reducible assumption | ((with_reducible apply strsF_at); omega) | assumption)))
        exact lv_ret (ret2 rfl (res_nil rfl) (res_tmp rfl))
      | some v =>
        rw [show numR (cutS 32 s)[k] 7 = .tup [iv v, .v (.bool true)] by unfold numR; rw [e]] at HN
        obtain ⟨c, r, hw, hcv⟩ := num_head e
        have hsz := strSz (cutS 32 s)[k]
        have hwl : 0 < (cutS 32 s)[k].length := by rw [hw]; simp
        have hb0 : (cutS 32 s)[k][(0 : Int).toNat]? = some c := by rw [hw]; rfl
        by_cases hneg : v < 0
        · have h45 : (c.toNat : Int) = 45 := by rw [hcv.2 hneg]; rfl
          cases b with
          | false =>
            rw [numsRB_no (numsB_bad hc (by rw [numB_some e, if_neg (fun q => q.elim (fun e => by cases e) (fun h => absurd hneg (by omega)))]))]
            repeat (first
    | (apply s_idxS TY; exact rfl; exact rfl; exact rfl; exact rfl; exact rfl; omega; exact hb0)
    | (apply s_a TY; exact rfl)
    | (apply s_t; exact rfl; (first | assumption | omega))
    | apply w_seq
    | apply w_region
    | apply s_nil
    | apply t_norm
    | apply t_ret
    | apply k_ret
    | apply w_block
    | apply w_ret
    | apply w_skip
    | (apply w_condT; exact rfl; exact rfl)
    | (apply s_k (HN); exact rfl)
    | (apply s_c TY; exact rfl; (first | omega | exact ⟨by omega, by (first | with_reducible assumption | ((with_reducible apply strsF_ne); omega) | assumption)⟩))
    | (apply s_l TY; exact rfl; (first | exact rfl | with_reducible assumption | ((with_reducible apply strsF_at); omega) | assumption)))
            exact lv_ret (ret2 rfl (res_nil rfl) (res_tmp rfl))
          | true =>
            have hso : numB true 7 (cutS 32 s)[k] = some v := by rw [numB_some e, if_pos (.inl rfl)]
            have hrow : some (Blk.row 3 1 (l.length + 1) (intsF l ++ [iv v])) = some (Blk.row 3 1 (l ++ [v]).length (intsF (l ++ [v]))) := by rw [intsF_snoc, List.length_append]; rfl
            repeat (first
    | (apply s_append TY; exact rfl; exact rfl; exact rfl; exact rfl; exact rfl; exact rfl; exact rfl; exact rfl; exact rfl; (unfold maxLen; omega); omega)
    | (apply s_idxS TY; exact rfl; exact rfl; exact rfl; exact rfl; exact rfl; omega; exact hb0)
    | (apply s_a TY; exact rfl)
    | (apply s_t; exact rfl; (first | assumption | omega))
    | apply w_seq
    | apply w_region
    | apply s_nil
    | apply t_norm
    | apply k_norm
    | apply w_block
    | apply w_skip
    | (apply w_condT; exact rfl; exact rfl)
    | (apply w_condF; exact rfl; exact rfl)
    | (apply s_k (HN); exact rfl)
    | (apply s_c TY; exact rfl; (first | omega | exact ⟨by omega, by (first | with_reducible assumption | ((with_reducible apply strsF_ne); omega) | assumption)⟩))
    | (apply s_l TY; exact rfl; (first | exact rfl | with_reducible assumption | ((with_reducible apply strsF_at); omega) | assumption)))
            exact ⟨(k + 1, l ++ [v]), ⟨numsB_next hc hn hso, by show k + 1 ≤ _; omega⟩, by show _ - (k + 1) < _ - k; omega, gh_le ⟨le_upd rfl trivial (le_upd rfl rfl (le_upd rfl trivial (le_upd rfl trivial (le_nil _)))), le_hupd hrow trivial (le_h0 _ _)⟩⟩
        · have h45 : ¬ (c.toNat : Int) = 45 := fun q => hneg (hcv.1 (UInt8.toNat_inj.1 (by show c.toNat = 45; omega)))
          have hso : numB b 7 (cutS 32 s)[k] = some v := by rw [numB_some e, if_pos (.inr (by omega))]
          have hrow : some (Blk.row 3 1 (l.length + 1) (intsF l ++ [iv v])) = some (Blk.row 3 1 (l ++ [v]).length (intsF (l ++ [v]))) := by rw [intsF_snoc, List.length_append]; rfl
          repeat (first
    | (apply s_append TY; exact rfl; exact rfl; exact rfl; exact rfl; exact rfl; exact rfl; exact rfl; exact rfl; exact rfl; (unfold maxLen; omega); omega)
    | (apply s_idxS TY; exact rfl; exact rfl; exact rfl; exact rfl; exact rfl; omega; exact hb0)
    | (apply s_a TY; exact rfl)
    | (apply s_t; exact rfl; (first | assumption | omega))
    | (apply s_f; exact rfl; (first | assumption | omega))
    | apply w_seq
    | apply w_region
    | apply s_nil
    | apply t_norm
    | apply k_norm
    | apply w_block
    | apply w_skip
    | (apply w_condT; exact rfl; exact rfl)
    | (apply w_condF; exact rfl; exact rfl)
    | (apply s_k (HN); exact rfl)
    | (apply s_s; exact rfl)
    | (apply s_c TY; exact rfl; (first | omega | exact ⟨by omega, by (first | with_reducible assumption | ((with_reducible apply strsF_ne); omega) | assumption)⟩))
    | (apply s_l TY; exact rfl; (first | exact rfl | with_reducible assumption | ((with_reducible apply strsF_at); omega) | assumption)))
          exact ⟨(k + 1, l ++ [v]), ⟨numsB_next hc hn hso, by show k + 1 ≤ _; omega⟩, by show _ - (k + 1) < _ - k; omega, gh_le ⟨le_upd rfl trivial (le_upd rfl rfl (le_upd rfl trivial (le_upd rfl trivial (le_nil _)))), le_hupd hrow trivial (le_h0 _ _)⟩⟩
    · have hke : k = (cutS 32 s).length := by omega
      subst hke
      rw [List.take_length] at hn
      rw [numsRB_ok hn]
      repeat (first
    | (apply s_a TY; exact rfl)
    | (apply s_f; exact rfl; (first | assumption | omega))
    | apply w_seq
    | apply w_region
    | apply s_nil
    | apply t_norm
    | apply t_exit
    | apply k_hit
    | apply w_exit
    | apply w_ret
    | (apply w_condF; exact rfl; exact rfl))
      exact lv_ret (ret2 rfl (res_sees rfl (sees_row rfl)) (res_tmp rfl))
end Go.Proofs.YtnmaabejdmaahaaGreatDoor
namespace Go.Proofs.YtnmaabejdmaahaaGreatDoor
open Go.Lib (itoa decDigits decFrom digitVal join atoiAll)
open Go Go.RowKit Go.Proofs Go.Shelf Go.Ab
set_option maxRecDepth 100000 in
set_option maxHeartbeats 6400000 in
theorem ParseIce_s (s : Nm) (hs : s.length ≤ 60000) : Summ Tryz.prog GS 16 [sv s] (iceF (cutS 59 s)) := by
  have hsz := strSz s
  have HC := Split_s s 59 (by omega)
  have hcl := cutS_len 59 s
  have hml := fun w hw => cutS_mem_len 59 s w hw
  generalize cutS 59 s = ps at *
  by_cases h2 : ps.length ≤ 2
  · rw [iceF_2 h2]
    refine summW Tryz.func16 rfl rfl 100 rfl (by simp) (fun M0 => ?_)
    repeat (first
    | (apply s_a TY; exact rfl)
    | (apply s_t; exact rfl; (first | assumption | omega))
    | (apply s_f; exact rfl; (first | assumption | omega))
    | apply w_seq
    | apply w_region
    | apply s_nil
    | apply t_norm
    | apply t_ret
    | apply w_ret
    | apply w_skip
    | (apply w_condT; exact rfl; exact rfl)
    | (apply w_condF; exact rfl; exact rfl)
    | (apply s_k (HC); exact rfl)
    | (apply s_alloc TY; exact rfl; exact rfl; exact rfl)
    | (apply s_store TY; exact rfl; exact rfl; exact rfl; exact rfl; exact rfl; exact rfl))
    exact lv_ret (ret2 rfl (res_nilG (res_bxs (sub := [.v (.slice none 0 0), iv 0, .v (.slice none 0 0)]) TY rfl rfl rfl rfl rfl)) (res_tmp rfl))
  obtain ⟨a, b, rest, rfl⟩ : ∃ a b rest, ps = a :: b :: rest := by
    match ps, h2 with
    | [], h => simp at h
    | [_], h => simp at h
    | a :: b :: rest, _ => exact ⟨a, b, rest, rfl⟩
  have hlen : (a :: b :: rest).length = rest.length + 2 := rfl
  have hne : rest ≠ [] := fun e => by rw [e] at h2; exact h2 (Nat.le_refl _)
  have hla := hml a (by simp)
  have hlb := hml b (by simp)
  have hdw : (strsF (a :: b :: rest)).drop (2 * 1) = strsF rest := rfl
  have hsn : strsF (a :: b :: rest) ≠ [] := strsF_ne (k := 0) (by omega)
  have HN0 := inumbers_s a false (by omega)
  have HN1 := inumbers_s b true (by omega)
  cases h0 : numsB false 7 (cutS 32 a) with
  | none =>
    rw [iceF_h (headP_0 h0)]
    rw [numsRB_no h0] at HN0
    cases h1 : numsB true 7 (cutS 32 b) with
    | none =>
      rw [numsRB_no h1] at HN1
      refine summW Tryz.func16 rfl rfl 100 rfl (by simp) (fun M0 => ?_)
      repeat (first
    | (apply s_a TY; exact rfl)
    | (apply s_f; exact rfl; (first | assumption | omega))
    | apply w_seq
    | apply w_region
    | apply s_nil
    | apply t_norm
    | apply t_ret
    | apply w_ret
    | apply w_skip
    | (apply w_condT; exact rfl; exact rfl)
    | (apply w_condF; exact rfl; exact rfl)
    | (apply s_k (HC); exact rfl)
    | (apply s_k (HN0); exact rfl)
    | (apply s_k (HN1); exact rfl)
    | (apply s_s; exact rfl)
    | (apply s_z TY; exact rfl; (first | omega | exact ⟨by omega, by (first | with_reducible assumption | ((with_reducible apply intsF_ne); omega) | ((with_reducible apply strsF_ne); omega) | assumption)⟩))
    | (apply s_alloc TY; exact rfl; exact rfl; exact rfl)
    | (apply s_store TY; exact rfl; exact rfl; exact rfl; exact rfl; exact rfl; exact rfl))
      exact lv_ret (ret2 rfl (res_nilG (res_bxs (sub := [.v (.slice none 0 0), iv 0, .v (.slice none 0 0)]) TY rfl rfl rfl rfl rfl)) (res_tmp rfl))
    | some t =>
      rw [numsRB_ok h1] at HN1
      refine summW Tryz.func16 rfl rfl 100 rfl (by simp) (fun M0 => ?_)
      repeat (first
    | (apply s_a TY; exact rfl)
    | (apply s_f; exact rfl; (first | assumption | omega))
    | apply w_seq
    | apply w_region
    | apply s_nil
    | apply t_norm
    | apply t_ret
    | apply w_ret
    | apply w_skip
    | (apply w_condT; exact rfl; exact rfl)
    | (apply w_condF; exact rfl; exact rfl)
    | (apply s_k (HC); exact rfl)
    | (apply s_k (HN0); exact rfl)
    | (apply s_k (HN1); exact rfl)
    | (apply s_s; exact rfl)
    | (apply s_z TY; exact rfl; (first | omega | exact ⟨by omega, by (first | with_reducible assumption | ((with_reducible apply intsF_ne); omega) | ((with_reducible apply strsF_ne); omega) | assumption)⟩))
    | (apply s_alloc TY; exact rfl; exact rfl; exact rfl)
    | (apply s_store TY; exact rfl; exact rfl; exact rfl; exact rfl; exact rfl; exact rfl))
      exact lv_ret (ret2 rfl (res_nilG (res_bxs (sub := [.v (.slice none 0 0), iv 0, .v (.slice none 0 0)]) TY rfl rfl rfl rfl rfl)) (res_tmp rfl))
  | some l0 =>
    rw [numsRB_ok h0] at HN0
    cases h1 : numsB true 7 (cutS 32 b) with
    | none =>
      rw [iceF_h (headP_1 h1)]
      rw [numsRB_no h1] at HN1
      refine summW Tryz.func16 rfl rfl 100 rfl (by simp) (fun M0 => ?_)
      repeat (first
    | (apply s_a TY; exact rfl)
    | (apply s_f; exact rfl; (first | assumption | omega))
    | apply w_seq
    | apply w_region
    | apply s_nil
    | apply t_norm
    | apply t_ret
    | apply w_ret
    | apply w_skip
    | (apply w_condT; exact rfl; exact rfl)
    | (apply w_condF; exact rfl; exact rfl)
    | (apply s_k (HC); exact rfl)
    | (apply s_k (HN0); exact rfl)
    | (apply s_k (HN1); exact rfl)
    | (apply s_s; exact rfl)
    | (apply s_z TY; exact rfl; (first | omega | exact ⟨by omega, by (first | with_reducible assumption | ((with_reducible apply intsF_ne); omega) | ((with_reducible apply strsF_ne); omega) | assumption)⟩))
    | (apply s_alloc TY; exact rfl; exact rfl; exact rfl)
    | (apply s_store TY; exact rfl; exact rfl; exact rfl; exact rfl; exact rfl; exact rfl))
      exact lv_ret (ret2 rfl (res_nilG (res_bxs (sub := [.v (.slice none 0 0), iv 0, .v (.slice none 0 0)]) TY rfl rfl rfl rfl rfl)) (res_tmp rfl))
    | some t =>
      rw [numsRB_ok h1] at HN1
      have ht := numsB_len h1
      have htl := cutS_len 32 b
      by_cases hl1 : l0.length = 1
      case neg =>
        rw [iceF_h (headP_n h0 hl1)]
        refine summW Tryz.func16 rfl rfl 100 rfl (by simp) (fun M0 => ?_)
        repeat (first
    | (apply s_a TY; exact rfl)
    | (apply s_f; exact rfl; (first | assumption | omega))
    | apply w_seq
    | apply w_region
    | apply s_nil
    | apply t_norm
    | apply t_ret
    | apply w_ret
    | apply w_skip
    | (apply w_condT; exact rfl; exact rfl)
    | (apply w_condF; exact rfl; exact rfl)
    | (apply s_k (HC); exact rfl)
    | (apply s_k (HN0); exact rfl)
    | (apply s_k (HN1); exact rfl)
    | (apply s_z TY; exact rfl; (first | omega | exact ⟨by omega, by (first | with_reducible assumption | ((with_reducible apply intsF_ne); omega) | ((with_reducible apply strsF_ne); omega) | assumption)⟩))
    | (apply s_alloc TY; exact rfl; exact rfl; exact rfl)
    | (apply s_store TY; exact rfl; exact rfl; exact rfl; exact rfl; exact rfl; exact rfl))
        exact lv_ret (ret2 rfl (res_nilG (res_bxs (sub := [.v (.slice none 0 0), iv 0, .v (.slice none 0 0)]) TY rfl rfl rfl rfl rfl)) (res_tmp rfl))
      obtain ⟨r, rfl⟩ := List.length_eq_one_iff.1 hl1
      have hhd := headP_ok h0 h1
      have hrl : [r].length = 1 := rfl
      have hrn0 : intsF [r] ≠ [] := List.cons_ne_nil _ _
      refine summW Tryz.func16 rfl rfl 100 rfl (by simp) (fun M0 => ?_)
      repeat (first
    | (apply s_sliceFrom TY (m := 2); exact rfl; exact rfl; exact rfl; exact rfl; exact rfl; omega; exact strsF_len _; exact hdw)
    | (apply s_a TY; exact rfl)
    | (apply s_t; exact rfl; (first | assumption | omega))
    | (apply s_f; exact rfl; (first | assumption | omega))
    | apply w_seq
    | apply w_region
    | apply s_nil
    | apply t_norm
    | apply w_block
    | apply w_skip
    | (apply w_condF; exact rfl; exact rfl)
    | (apply s_k (HC); exact rfl)
    | (apply s_k (HN0); exact rfl)
    | (apply s_k (HN1); exact rfl)
    | (apply s_z TY; exact rfl; (first | omega | exact ⟨by omega, by (first | with_reducible assumption | ((with_reducible apply intsF_ne); omega) | ((with_reducible apply strsF_ne); omega) | assumption)⟩))
    | (apply s_alloc TY; exact rfl; exact rfl; exact rfl)
    | (apply s_store TY; exact rfl; exact rfl; exact rfl; exact rfl; exact rfl; exact rfl))
      apply w_gh (gh_ownB 1 0 103 3 rfl rfl rfl)
      apply w_loop (fun q : Nat × List Layer => ⟨(Ab.upd (Ab.upd (Ab.upd (Ab.upd (Ab.upd (fun _ => .bot) 2 (.bx 0 0)) 9 (.bx 1 0)) 58 (.f (.sl rest.length (strsF rest)))) 59 (.f (iv rest.length))) 60 (.f (iv ((q.1 : Nat) : Int)))), (Ab.upd (Ab.upd (Ab.upd (fun _ => none) 0 (some (.box [.f (.v (.slice none 0 0)), .f (iv 0), .f (.v (.slice none 0 0))]))) 1 (some (.box [.ow 2, .f (iv r), .f (.sl t.length (intsF t))]))) 2 (some (.row 103 3 q.2.length (ilaysF q.2)))), 3⟩) (fun q => laysP (rest.take q.1) = some q.2 ∧ q.1 ≤ rest.length) (fun q => rest.length - q.1) (0, []) (⟨rfl, Nat.zero_le _⟩) (gh_le ⟨le_upd rfl trivial (le_upd rfl trivial (le_upd rfl trivial (le_upd rfl rfl (le_upd rfl rfl (le_nil _))))), le_hupd rfl trivial (le_hupd rfl (fun y hy => by simp at hy; rcases hy with rfl | rfl | rfl <;> first | trivial | rfl) (le_hupd rfl (fun y hy => by simp at hy; rcases hy with rfl | rfl | rfl <;> trivial) (le_h0 _ _)))⟩)
      rintro ⟨k, l⟩ ⟨hn, hk⟩
      change laysP (rest.take k) = some l at hn
      change k ≤ rest.length at hk
      change W _ _ _ _ (⟨(Ab.upd (Ab.upd (Ab.upd (Ab.upd (Ab.upd (fun _ => .bot) 2 (.bx 0 0)) 9 (.bx 1 0)) 58 (.f (.sl rest.length (strsF rest)))) 59 (.f (iv rest.length))) 60 (.f (iv ((k : Nat) : Int)))), (Ab.upd (Ab.upd (Ab.upd (fun _ => none) 0 (some (.box [.f (.v (.slice none 0 0)), .f (iv 0), .f (.v (.slice none 0 0))]))) 1 (some (.box [.ow 2, .f (iv r), .f (.sl t.length (intsF t))]))) 2 (some (.row 103 3 l.length (ilaysF l)))), 3⟩)
      have hll := laysP_len hn
      rw [List.length_take] at hll
      by_cases hc : k < rest.length
      · have hat : (strsF rest)[k * 1]? = some (sv rest[k]) := strsF_at hc
        have hrn : strsF rest ≠ [] := strsF_ne (k := k) hc
        have hwk := hml rest[k] (by simp)
        have HL := inumbers_s rest[k] false (by omega)
        cases hq : numsB false 7 (cutS 32 rest[k]) with
        | none =>
          rw [numsRB_no hq] at HL
          rw [iceF_l (laysP_bad hc (layP_no hq))]
          repeat (first
    | (apply s_a TY; exact rfl)
    | (apply s_t; exact rfl; (first | assumption | omega))
    | apply w_seq
    | apply w_region
    | apply s_nil
    | apply t_norm
    | apply t_ret
    | apply k_ret
    | apply w_block
    | apply w_ret
    | apply w_skip
    | (apply w_condT; exact rfl; exact rfl)
    | (apply s_k (HL); exact rfl)
    | (apply s_s; exact rfl)
    | (apply s_c TY; exact rfl; (first | omega | exact ⟨by omega, by (first | with_reducible assumption | ((with_reducible apply intsF_ne); omega) | ((with_reducible apply strsF_ne); omega) | assumption)⟩))
    | (apply s_l TY; exact rfl; (first | exact rfl | with_reducible assumption | ((with_reducible apply intsF_at); omega) | ((with_reducible apply strsF_at); omega) | assumption))
    | (apply s_store TY; exact rfl; exact rfl; exact rfl; exact rfl; exact rfl; exact rfl))
          exact lv_ret (ret2 rfl (res_nilG (res_bxs (sub := [.v (.slice none 0 0), iv 0, .v (.slice none 0 0)]) TY rfl rfl rfl rfl rfl)) (res_tmp rfl))
        | some q =>
          rw [numsRB_ok hq] at HL
          by_cases h3 : q.length = 3
          case neg =>
            rw [iceF_l (laysP_bad hc (layP_len hq h3))]
            repeat (first
    | (apply s_a TY; exact rfl)
    | (apply s_t; exact rfl; (first | assumption | omega))
    | (apply s_f; exact rfl; (first | assumption | omega))
    | apply w_seq
    | apply w_region
    | apply s_nil
    | apply t_norm
    | apply t_ret
    | apply k_ret
    | apply w_block
    | apply w_ret
    | apply w_skip
    | (apply w_condT; exact rfl; exact rfl)
    | (apply s_k (HL); exact rfl)
    | (apply s_c TY; exact rfl; (first | omega | exact ⟨by omega, by (first | with_reducible assumption | ((with_reducible apply intsF_ne); omega) | ((with_reducible apply strsF_ne); omega) | assumption)⟩))
    | (apply s_l TY; exact rfl; (first | exact rfl | with_reducible assumption | ((with_reducible apply intsF_at); omega) | ((with_reducible apply strsF_at); omega) | assumption))
    | (apply s_store TY; exact rfl; exact rfl; exact rfl; exact rfl; exact rfl; exact rfl))
            exact lv_ret (ret2 rfl (res_nilG (res_bxs (sub := [.v (.slice none 0 0), iv 0, .v (.slice none 0 0)]) TY rfl rfl rfl rfl rfl)) (res_tmp rfl))
          obtain ⟨d0, d1, d2, rfl⟩ : ∃ d0 d1 d2, q = [d0, d1, d2] := by
            match q, h3 with
            | [d0, d1, d2], _ => exact ⟨d0, d1, d2, rfl⟩
          have hso := layP_ok hq
          have hdl : [d0, d1, d2].length = 3 := rfl
          have hdn : intsF [d0, d1, d2] ≠ [] := List.cons_ne_nil _ _
          have hrow : some (Blk.row 103 3 (l.length + 1) (ilaysF l ++ [iv d0, iv d1, iv d2])) = some (Blk.row 103 3 (l ++ [(⟨d0, d1, d2⟩ : Layer)]).length (ilaysF (l ++ [(⟨d0, d1, d2⟩ : Layer)]))) := by rw [ilaysF_snoc, List.length_append]; rfl
          repeat (first
    | (apply s_arrayAt Tryz.underlying109; exact rfl; exact rfl; exact rfl; (first | exact Nat.le_refl _ | omega); (first | assumption | exact List.cons_ne_nil _ _))
    | (apply s_a TY; exact rfl)
    | (apply s_t; exact rfl; (first | assumption | omega))
    | apply w_seq
    | apply w_region
    | apply s_nil
    | apply t_norm
    | apply w_block
    | apply w_skip
    | (apply w_condT; exact rfl; exact rfl)
    | (apply w_condF; exact rfl; exact rfl)
    | (apply s_k (HL); exact rfl)
    | (apply s_c TY; exact rfl; (first | omega | exact ⟨by omega, by (first | with_reducible assumption | ((with_reducible apply intsF_ne); omega) | ((with_reducible apply strsF_ne); omega) | assumption)⟩))
    | (apply s_l TY; exact rfl; (first | exact rfl | with_reducible assumption | ((with_reducible apply intsF_at); omega) | ((with_reducible apply strsF_at); omega) | assumption))
    | (apply s_alloc TY; exact rfl; exact rfl; exact rfl)
    | (apply s_store TY; exact rfl; exact rfl; exact rfl; exact rfl; exact rfl; exact rfl))
          refine s_ghost (o := ⟨some 82, _, _, _, _, none⟩) rfl (gh_box 3 (cs := [iv d0, iv d1, iv d2]) rfl rfl) ?_
          repeat (first
    | (apply s_idxA Tryz.underlying109 (by exact rfl) (s := 1); exact rfl; exact rfl; exact rfl; exact rfl; omega; omega)
    | (apply s_append TY; exact rfl; exact rfl; exact rfl; exact rfl; exact rfl; exact rfl; exact rfl; exact rfl; exact rfl; (unfold maxLen; omega); omega)
    | (apply s_a TY; exact rfl)
    | apply w_region
    | apply s_nil
    | apply t_norm
    | apply k_norm
    | (apply s_c TY; exact rfl; (first | omega | exact ⟨by omega, by (first | with_reducible assumption | ((with_reducible apply intsF_ne); omega) | ((with_reducible apply strsF_ne); omega) | assumption)⟩))
    | (apply s_store TY; exact rfl; exact rfl; exact rfl; exact rfl; exact rfl; exact rfl))
          exact ⟨(k + 1, l ++ [⟨d0, d1, d2⟩]), ⟨laysP_next hc hn hso, by show k + 1 ≤ _; omega⟩, by show _ - (k + 1) < _ - k; omega, gh_le ⟨le_upd rfl trivial (le_upd rfl trivial (le_upd rfl trivial (le_upd rfl rfl (le_upd rfl rfl (le_nil _))))), le_hupd (by rw [ilaysF_snoc, List.length_append]; rfl) trivial (le_hupd rfl (fun y hy => by simp at hy; rcases hy with rfl | rfl | rfl <;> first | trivial | rfl) (le_hupd rfl (fun y hy => by simp at hy; rcases hy with rfl | rfl | rfl <;> trivial) (le_h0 _ _)))⟩⟩
      · have hke : k = rest.length := by omega
        subst hke
        rw [List.take_length] at hn
        have HE := up (iceErr_s ⟨l, r, t⟩ (by show l.length ≤ _; omega) (by show t.length ≤ _; omega))
        apply w_gh (gh_row 2 rfl)
        by_cases hz : (chkI ⟨l, r, t⟩).2 = 0
        · rw [iceF_0 hne hhd hn hz]
          rw [hz] at HE
          repeat (first
    | (apply s_a TY; exact rfl)
    | (apply s_t; exact rfl; (first | assumption | omega))
    | (apply s_f; exact rfl; (first | assumption | omega))
    | apply w_seq
    | apply w_region
    | apply s_nil
    | apply t_norm
    | apply t_exit
    | apply k_hit
    | apply w_exit
    | apply w_ret
    | apply w_skip
    | (apply w_condF; exact rfl; exact rfl)
    | (apply s_k (HE); exact rfl)
    | (apply s_store TY; exact rfl; exact rfl; exact rfl; exact rfl; exact rfl; exact rfl))
          exact lv_ret (ret2 rfl (res_bxs (sub := [.sl l.length (ilaysF l), iv r, .sl t.length (intsF t)]) TY rfl rfl rfl rfl rfl) (res_tmp rfl))
        · rw [iceF_c hne hhd hn hz]
          repeat (first
    | (apply s_a TY; exact rfl)
    | (apply s_f; exact rfl; (first | assumption | omega))
    | apply w_seq
    | apply w_region
    | apply s_nil
    | apply t_norm
    | apply t_exit
    | apply t_ret
    | apply k_hit
    | apply w_exit
    | apply w_ret
    | (apply w_condT; exact rfl; exact rfl)
    | (apply w_condF; exact rfl; exact rfl)
    | (apply s_k (HE); exact rfl)
    | (apply s_store TY; exact rfl; exact rfl; exact rfl; exact rfl; exact rfl; exact rfl))
          exact lv_ret (ret2 rfl (res_nilG (res_bxs (sub := [.v (.slice none 0 0), iv 0, .v (.slice none 0 0)]) TY rfl rfl rfl rfl rfl)) (res_tmp rfl))
end Go.Proofs.YtnmaabejdmaahaaGreatDoor
namespace Go.Proofs.YtnmaabejdmaahaaGreatDoor
open Go.Lib (itoa decDigits decFrom digitVal join atoiAll)
open Go Go.RowKit Go.Proofs Go.Shelf Go.Ab
set_option maxRecDepth 100000 in
set_option maxHeartbeats 6400000 in
theorem rCheckIce_s (x : Grid) (hl : x.layers.length ≤ 1000000) (ht : x.tilt.length ≤ 1000000) : Summ Tryz.prog GG 58 [gridF x] (.tup [iv (chkI x).1, iv (chkI x).2]) := by
  refine summW Tryz.func58 rfl rfl 71 rfl (by simp) (fun M0 => ?_)
  by_cases h1 : x.layers.length = 0
  · have hq : chkI x = (0, 10) := by unfold chkI; rw [if_pos h1]
    rw [hq]
    repeat (first
    | (apply s_a TY; exact rfl)
    | (apply s_t; exact rfl; (first | assumption | omega))
    | apply w_seq
    | apply w_region
    | apply s_nil
    | apply t_norm
    | apply t_ret
    | apply w_ret
    | (apply w_condT; exact rfl; exact rfl))
    exact lv_ret (ret2 rfl (res_tmp rfl) (res_tmp rfl))
  by_cases h2 : 6 < x.layers.length
  · have hq : chkI x = (0, 8) := by unfold chkI; rw [if_neg h1, if_pos h2]
    rw [hq]
    repeat (first
    | (apply s_a TY; exact rfl)
    | (apply s_t; exact rfl; (first | assumption | omega))
    | (apply s_f; exact rfl; (first | assumption | omega))
    | apply w_seq
    | apply w_region
    | apply s_nil
    | apply t_norm
    | apply t_ret
    | apply w_ret
    | apply w_skip
    | (apply w_condT; exact rfl; exact rfl)
    | (apply w_condF; exact rfl; exact rfl))
    exact lv_ret (ret2 rfl (res_tmp rfl) (res_tmp rfl))
  repeat (first
    | (apply s_a TY; exact rfl)
    | (apply s_f; exact rfl; (first | assumption | omega))
    | apply w_seq
    | apply w_region
    | apply s_nil
    | apply t_norm
    | apply w_block
    | apply w_skip
    | (apply w_condF; exact rfl; exact rfl))
  apply w_loop (fun k : Nat => ⟨(Ab.upd (Ab.upd (fun _ => .bot) 1 (.f (.pt (gridL x) 0))) 4 (.f (iv ((k : Nat) : Int)))), (fun _ => none), 0⟩) (fun k => k ≤ x.layers.length ∧ ∀ i, i < k → layOk (x.layers.getD i default) = true) (fun k => x.layers.length - k) 0 (⟨Nat.zero_le _, fun j h => absurd h (Nat.not_lt_zero j)⟩) (gh_le ⟨le_upd rfl trivial (le_upd rfl trivial (le_nil _)), le_h0 _ _⟩)
  intro k ⟨hk, hz⟩
  by_cases hc : k < x.layers.length
  · cases hb : layOk x.layers[k] with
    | true =>
      obtain ⟨hb1, hb2, hb3⟩ : (1 ≤ x.layers[k].delay ∧ x.layers[k].delay ≤ 1000) ∧ (0 ≤ x.layers[k].loss ∧ x.layers[k].loss ≤ 1000) ∧ 0 ≤ x.layers[k].scatter ∧ x.layers[k].scatter ≤ 1000 := of_decide_eq_true hb
      repeat (first
    | (apply s_a TY; exact rfl)
    | (apply s_t; exact rfl; (first | assumption | omega))
    | apply w_seq
    | apply w_region
    | apply s_nil
    | apply t_norm
    | apply k_norm
    | apply w_block
    | apply w_skip
    | (apply w_condT; exact rfl; exact rfl)
    | (apply w_condF; exact rfl; exact rfl)
    | (apply s_k1 (bwithin_T _ _ _); exact rfl; (first | assumption | omega | decide))
    | (apply s_c TY; exact rfl; (first | omega | exact ⟨by omega, by (first | with_reducible assumption | ((with_reducible apply ilaysF_ne); omega) | ((with_reducible apply intsF_ne); omega) | assumption)⟩))
    | (apply s_m TY; exact rfl; (first | with_reducible assumption | ((with_reducible apply ilaysF_sub); omega) | exact rfl); exact rfl)
    | (apply s_alloc TY; exact rfl; exact rfl; exact rfl)
    | (apply s_store TY; exact rfl; exact rfl; exact rfl; exact rfl; exact rfl; exact rfl))
      exact ⟨k + 1, ⟨by omega, fun i hi => by
        by_cases e : i = k
        · subst e; rw [getD_at hc]; exact hb
        · exact hz i (by omega)⟩, by omega, gh_le ⟨le_upd rfl trivial (le_upd rfl trivial (le_nil _)), le_h0 _ _⟩⟩
    | false =>
      have hbt : ¬ ((1 ≤ x.layers[k].delay ∧ x.layers[k].delay ≤ 1000) ∧ (0 ≤ x.layers[k].loss ∧ x.layers[k].loss ≤ 1000) ∧ 0 ≤ x.layers[k].scatter ∧ x.layers[k].scatter ≤ 1000) := of_decide_eq_false hb
      have h7 : badL x = k := idxP_at hc (fun i hi => by rw [hz i hi]; rfl) (by rw [getD_at hc, hb]; rfl)
      by_cases hb1 : 1 ≤ x.layers[k].delay ∧ x.layers[k].delay ≤ 1000
      · by_cases hb2 : 0 ≤ x.layers[k].loss ∧ x.layers[k].loss ≤ 1000
        · have hb3 : ¬ (0 ≤ x.layers[k].scatter ∧ x.layers[k].scatter ≤ 1000) := fun q => hbt ⟨hb1, hb2, q⟩
          have hq : chkI x = ((k : Int), 2) := by unfold chkI; rw [if_neg h1, if_neg h2, if_pos (by rw [h7]; omega), h7]
          rw [hq]
          repeat (first
    | (apply s_a TY; exact rfl)
    | (apply s_t; exact rfl; (first | assumption | omega))
    | apply w_seq
    | apply w_region
    | apply s_nil
    | apply t_norm
    | apply t_ret
    | apply k_ret
    | apply w_block
    | apply w_ret
    | apply w_skip
    | (apply w_condT; exact rfl; exact rfl)
    | (apply s_k1 (bwithin_T _ _ _); exact rfl; (first | assumption | omega | decide))
    | (apply s_k1 (bwithin_F _ _ _); exact rfl; (first | assumption | omega | decide))
    | (apply s_c TY; exact rfl; (first | omega | exact ⟨by omega, by (first | with_reducible assumption | ((with_reducible apply ilaysF_ne); omega) | ((with_reducible apply intsF_ne); omega) | assumption)⟩))
    | (apply s_m TY; exact rfl; (first | with_reducible assumption | ((with_reducible apply ilaysF_sub); omega) | exact rfl); exact rfl)
    | (apply s_alloc TY; exact rfl; exact rfl; exact rfl)
    | (apply s_store TY; exact rfl; exact rfl; exact rfl; exact rfl; exact rfl; exact rfl))
          exact lv_ret (ret2 rfl (res_tmp rfl) (res_tmp rfl))
        · have hq : chkI x = ((k : Int), 2) := by unfold chkI; rw [if_neg h1, if_neg h2, if_pos (by rw [h7]; omega), h7]
          rw [hq]
          repeat (first
    | (apply s_a TY; exact rfl)
    | (apply s_t; exact rfl; (first | assumption | omega))
    | apply w_seq
    | apply w_region
    | apply s_nil
    | apply t_norm
    | apply t_ret
    | apply k_ret
    | apply w_block
    | apply w_ret
    | apply w_skip
    | (apply w_condT; exact rfl; exact rfl)
    | (apply s_k1 (bwithin_T _ _ _); exact rfl; (first | assumption | omega | decide))
    | (apply s_k1 (bwithin_F _ _ _); exact rfl; (first | assumption | omega | decide))
    | (apply s_s; exact rfl)
    | (apply s_c TY; exact rfl; (first | omega | exact ⟨by omega, by (first | with_reducible assumption | ((with_reducible apply ilaysF_ne); omega) | ((with_reducible apply intsF_ne); omega) | assumption)⟩))
    | (apply s_m TY; exact rfl; (first | with_reducible assumption | ((with_reducible apply ilaysF_sub); omega) | exact rfl); exact rfl)
    | (apply s_alloc TY; exact rfl; exact rfl; exact rfl)
    | (apply s_store TY; exact rfl; exact rfl; exact rfl; exact rfl; exact rfl; exact rfl))
          exact lv_ret (ret2 rfl (res_tmp rfl) (res_tmp rfl))
      · have hq : chkI x = ((k : Int), 2) := by unfold chkI; rw [if_neg h1, if_neg h2, if_pos (by rw [h7]; omega), h7]
        rw [hq]
        repeat (first
    | (apply s_a TY; exact rfl)
    | (apply s_t; exact rfl; (first | assumption | omega))
    | apply w_seq
    | apply w_region
    | apply s_nil
    | apply t_norm
    | apply t_ret
    | apply k_ret
    | apply w_block
    | apply w_ret
    | apply w_skip
    | (apply w_condT; exact rfl; exact rfl)
    | (apply s_k1 (bwithin_F _ _ _); exact rfl; (first | assumption | omega | decide))
    | (apply s_s; exact rfl)
    | (apply s_c TY; exact rfl; (first | omega | exact ⟨by omega, by (first | with_reducible assumption | ((with_reducible apply ilaysF_ne); omega) | ((with_reducible apply intsF_ne); omega) | assumption)⟩))
    | (apply s_m TY; exact rfl; (first | with_reducible assumption | ((with_reducible apply ilaysF_sub); omega) | exact rfl); exact rfl)
    | (apply s_alloc TY; exact rfl; exact rfl; exact rfl)
    | (apply s_store TY; exact rfl; exact rfl; exact rfl; exact rfl; exact rfl; exact rfl))
        exact lv_ret (ret2 rfl (res_tmp rfl) (res_tmp rfl))
  · have hke : k = x.layers.length := by omega
    subst hke
    have h3b : badL x = -1 := idxP_no fun i hi => by rw [hz i hi]; rfl
    have h3 : ¬ 0 ≤ badL x := by rw [h3b]; decide
    by_cases h4 : 1 ≤ x.rows ∧ x.rows ≤ 12
    case neg =>
      have hq : chkI x = (0, 2) := by unfold chkI; rw [if_neg h1, if_neg h2, if_neg h3, if_pos h4]
      rw [hq]
      repeat (first
    | (apply s_a TY; exact rfl)
    | (apply s_f; exact rfl; (first | assumption | omega))
    | apply w_seq
    | apply w_region
    | apply s_nil
    | apply t_norm
    | apply t_exit
    | apply t_ret
    | apply k_hit
    | apply w_exit
    | apply w_ret
    | (apply w_condT; exact rfl; exact rfl)
    | (apply w_condF; exact rfl; exact rfl)
    | (apply s_k1 (bwithin_F _ _ _); exact rfl; (first | assumption | omega | decide)))
      exact lv_ret (ret2 rfl (res_tmp rfl) (res_tmp rfl))
    by_cases h5 : x.tilt.length = 0
    · have hq : chkI x = (0, 10) := by unfold chkI; rw [if_neg h1, if_neg h2, if_neg h3, if_neg (Classical.not_not.2 h4), if_pos h5]
      rw [hq]
      repeat (first
    | (apply s_a TY; exact rfl)
    | (apply s_t; exact rfl; (first | assumption | omega))
    | (apply s_f; exact rfl; (first | assumption | omega))
    | apply w_seq
    | apply w_region
    | apply s_nil
    | apply t_norm
    | apply t_exit
    | apply t_ret
    | apply k_hit
    | apply w_exit
    | apply w_ret
    | apply w_skip
    | (apply w_condT; exact rfl; exact rfl)
    | (apply w_condF; exact rfl; exact rfl)
    | (apply s_k1 (bwithin_T _ _ _); exact rfl; (first | assumption | omega | decide)))
      exact lv_ret (ret2 rfl (res_tmp rfl) (res_tmp rfl))
    by_cases h6 : 8 < x.tilt.length
    · have hq : chkI x = (0, 8) := by unfold chkI; rw [if_neg h1, if_neg h2, if_neg h3, if_neg (Classical.not_not.2 h4), if_neg h5, if_pos h6]
      rw [hq]
      repeat (first
    | (apply s_a TY; exact rfl)
    | (apply s_t; exact rfl; (first | assumption | omega))
    | (apply s_f; exact rfl; (first | assumption | omega))
    | apply w_seq
    | apply w_region
    | apply s_nil
    | apply t_norm
    | apply t_exit
    | apply t_ret
    | apply k_hit
    | apply w_exit
    | apply w_ret
    | apply w_skip
    | (apply w_condT; exact rfl; exact rfl)
    | (apply w_condF; exact rfl; exact rfl)
    | (apply s_k1 (bwithin_T _ _ _); exact rfl; (first | assumption | omega | decide)))
      exact lv_ret (ret2 rfl (res_tmp rfl) (res_tmp rfl))
    repeat (first
    | (apply s_a TY; exact rfl)
    | (apply s_f; exact rfl; (first | assumption | omega))
    | apply w_seq
    | apply w_region
    | apply s_nil
    | apply t_norm
    | apply t_exit
    | apply k_hit
    | apply w_block
    | apply w_exit
    | apply w_skip
    | (apply w_condF; exact rfl; exact rfl)
    | (apply s_k1 (bwithin_T _ _ _); exact rfl; (first | assumption | omega | decide)))
    apply w_loop (fun k : Nat => ⟨(Ab.upd (Ab.upd (fun _ => .bot) 1 (.f (.pt (gridL x) 0))) 6 (.f (iv ((k : Nat) : Int)))), (fun _ => none), 0⟩) (fun k => k ≤ x.tilt.length ∧ ∀ i, i < k → tilOk (x.tilt.getD i default) = true) (fun k => x.tilt.length - k) 0 (⟨Nat.zero_le _, fun j h => absurd h (Nat.not_lt_zero j)⟩) (gh_le ⟨le_upd rfl trivial (le_upd rfl trivial (le_nil _)), le_h0 _ _⟩)
    intro k ⟨hk, hz⟩
    by_cases hc : k < x.tilt.length
    · cases hb : tilOk x.tilt[k] with
      | true =>
        have hbt : -12 ≤ x.tilt[k] ∧ x.tilt[k] ≤ 12 := of_decide_eq_true hb
        repeat (first
    | (apply s_a TY; exact rfl)
    | (apply s_t; exact rfl; (first | assumption | omega))
    | apply w_seq
    | apply w_region
    | apply s_nil
    | apply t_norm
    | apply k_norm
    | apply w_block
    | apply w_skip
    | (apply w_condT; exact rfl; exact rfl)
    | (apply w_condF; exact rfl; exact rfl)
    | (apply s_k1 (bwithin_T _ _ _); exact rfl; (first | assumption | omega | decide))
    | (apply s_c TY; exact rfl; (first | omega | exact ⟨by omega, by (first | with_reducible assumption | ((with_reducible apply ilaysF_ne); omega) | ((with_reducible apply intsF_ne); omega) | assumption)⟩))
    | (apply s_l TY; exact rfl; (first | exact rfl | with_reducible assumption | ((with_reducible apply ilaysF_f0); omega) | ((with_reducible apply ilaysF_f1); omega) | ((with_reducible apply ilaysF_f2); omega) | ((with_reducible apply intsF_at); omega) | assumption)))
        exact ⟨k + 1, ⟨by omega, fun i hi => by
          by_cases e : i = k
          · subst e; rw [getD_at hc]; exact hb
          · exact hz i (by omega)⟩, by omega, gh_le ⟨le_upd rfl trivial (le_upd rfl trivial (le_nil _)), le_h0 _ _⟩⟩
      | false =>
        have hbt : ¬ (-12 ≤ x.tilt[k] ∧ x.tilt[k] ≤ 12) := of_decide_eq_false hb
        have h7 : badT x = k := idxP_at hc (fun i hi => by rw [hz i hi]; rfl) (by rw [getD_at hc, hb]; rfl)
        have hq : chkI x = ((k : Int), 2) := by unfold chkI; rw [if_neg h1, if_neg h2, if_neg h3, if_neg (Classical.not_not.2 h4), if_neg h5, if_neg h6, if_pos (by rw [h7]; omega), h7]
        rw [hq]
        repeat (first
    | (apply s_a TY; exact rfl)
    | (apply s_t; exact rfl; (first | assumption | omega))
    | apply w_seq
    | apply w_region
    | apply s_nil
    | apply t_norm
    | apply t_ret
    | apply k_ret
    | apply w_block
    | apply w_ret
    | apply w_skip
    | (apply w_condT; exact rfl; exact rfl)
    | (apply s_k1 (bwithin_F _ _ _); exact rfl; (first | assumption | omega | decide))
    | (apply s_c TY; exact rfl; (first | omega | exact ⟨by omega, by (first | with_reducible assumption | ((with_reducible apply ilaysF_ne); omega) | ((with_reducible apply intsF_ne); omega) | assumption)⟩))
    | (apply s_l TY; exact rfl; (first | exact rfl | with_reducible assumption | ((with_reducible apply ilaysF_f0); omega) | ((with_reducible apply ilaysF_f1); omega) | ((with_reducible apply ilaysF_f2); omega) | ((with_reducible apply intsF_at); omega) | assumption)))
        exact lv_ret (ret2 rfl (res_tmp rfl) (res_tmp rfl))
    · have hke : k = x.tilt.length := by omega
      subst hke
      have h7 : badT x = -1 := idxP_no fun i hi => by rw [hz i hi]; rfl
      have hq : chkI x = (0, 0) := by unfold chkI; rw [if_neg h1, if_neg h2, if_neg h3, if_neg (Classical.not_not.2 h4), if_neg h5, if_neg h6, if_neg (by rw [h7]; decide)]
      rw [hq]
      repeat (first
    | (apply s_a TY; exact rfl)
    | (apply s_f; exact rfl; (first | assumption | omega))
    | apply w_seq
    | apply w_region
    | apply s_nil
    | apply t_norm
    | apply t_exit
    | apply k_hit
    | apply w_exit
    | apply w_ret
    | (apply w_condF; exact rfl; exact rfl))
      exact lv_ret (ret2 rfl (res_tmp rfl) (res_tmp rfl))
theorem rIceErr_s (x : Grid) (hl : x.layers.length ≤ 1000000) (ht : x.tilt.length ≤ 1000000) : Summ Tryz.prog GG 20 [gridF x] (iv (chkI x).2) := by
  refine summW Tryz.func20 rfl rfl 11 rfl (by simp) (fun M0 => ?_)
  repeat (first
    | (apply s_a TY; exact rfl)
    | apply w_seq
    | apply w_region
    | apply s_nil
    | apply t_norm
    | apply w_ret
    | (apply s_k2 (rCheckIce_s _); exact rfl; (first | assumption | omega | decide); (first | assumption | omega | decide)))
  exact lv_ret (ret1 rfl (res_tmp rfl))
theorem CopyInts_s (l : List Int) (hl : l.length ≤ 1000000) : Summ Tryz.prog GG 49 [.sl l.length (intsF l)] (.sl l.length (intsF l)) := by
  have hlen := intsF_len l
  refine summW Tryz.func49 rfl rfl 6 rfl (by simp) (fun M0 => ?_)
  repeat (first
    | (apply s_bslice_clip TY; exact rfl; exact rfl; exact rfl; exact rfl; exact rfl; exact rfl)
    | (apply s_append_copy TY; exact rfl; exact rfl; exact rfl; exact rfl; exact rfl; exact rfl; exact rfl; assumption; (unfold maxLen; omega); omega)
    | (apply s_a TY; exact rfl)
    | apply w_seq
    | apply w_region
    | apply s_nil
    | apply t_norm
    | apply w_ret)
  exact lv_ret (ret1 rfl (res_tmp rfl))
theorem CopyIce_s (x : Grid) (hl : x.layers.length ≤ 1000000) (ht : x.tilt.length ≤ 1000000) : Summ Tryz.prog GG 15 [gridF x] (gridF x) := by
  have hlen := ilaysF_len x.layers
  have hlt := intsF_len x.tilt
  refine summW Tryz.func15 rfl rfl 13 rfl (by simp) (fun M0 => ?_)
  repeat (first
    | (apply s_bslice_clip TY; exact rfl; exact rfl; exact rfl; exact rfl; exact rfl; exact rfl)
    | (apply s_append_copy TY; exact rfl; exact rfl; exact rfl; exact rfl; exact rfl; exact rfl; exact rfl; assumption; (unfold maxLen; omega); omega)
    | (apply s_boxw; exact rfl; exact rfl; exact rfl; exact rfl)
    | (apply s_a TY; exact rfl)
    | apply w_seq
    | apply w_region
    | (apply w_draw (id := 1) 8 rfl (by kernel_rfl))
    | apply s_nil
    | apply t_norm
    | apply w_ret
    | (apply s_k1 (CopyInts_s _); exact rfl; (first | assumption | omega | decide))
    | (apply s_alloc TY; exact rfl; exact rfl; exact rfl)
    | (apply s_store TY; exact rfl; exact rfl; exact rfl; exact rfl; exact rfl; exact rfl))
  exact lv_ret (ret1 rfl (res_bxs (sub := gridL x) TY rfl rfl rfl rfl rfl))
set_option maxRecDepth 100000 in
theorem Ints_same (a : List Int) (ha : a.length ≤ 1000000) : Summ Tryz.prog GG 57 [.sl a.length (intsF a), .sl a.length (intsF a)] (bv true) := by
  refine summW Tryz.func57 rfl rfl 26 rfl (by simp) (fun M0 => ?_)
  repeat (first
    | (apply s_a TY; exact rfl)
    | (apply s_t; exact rfl; (first | assumption | omega))
    | apply w_seq
    | apply w_region
    | apply s_nil
    | apply t_norm
    | apply w_block
    | apply w_skip
    | (apply w_condF; exact rfl; exact rfl))
  apply w_loop (fun k : Nat => ⟨(Ab.upd (Ab.upd (Ab.upd (fun _ => .bot) 0 (.f (.sl a.length (intsF a)))) 1 (.f (.sl a.length (intsF a)))) 5 (.f (iv ((k : Nat) : Int)))), (fun _ => none), 0⟩) (fun k => k ≤ a.length) (fun k => a.length - k) 0 (Nat.zero_le _) (gh_le ⟨le_upd rfl trivial (le_upd rfl trivial (le_upd rfl trivial (le_nil _))), le_h0 _ _⟩)
  intro k hk
  by_cases hc : k < a.length
  · repeat (first
    | (apply s_a TY; exact rfl)
    | (apply s_t; exact rfl; (first | assumption | omega))
    | apply w_seq
    | apply w_region
    | (apply w_draw (id := 6) 8 rfl (by kernel_rfl))
    | apply s_nil
    | apply t_norm
    | apply k_norm
    | apply w_block
    | apply w_skip
    | (apply w_condT; exact rfl; exact rfl)
    | (apply w_condF; exact rfl; exact rfl)
    | (apply s_c TY; exact rfl; (first | omega | exact ⟨by omega, by (first | with_reducible assumption | ((with_reducible apply intsF_ne); omega) | assumption)⟩))
    | (apply s_l TY; exact rfl; (first | exact rfl | with_reducible assumption | ((with_reducible apply intsF_at); omega) | assumption)))
    exact ⟨k + 1, by omega, by omega, gh_le ⟨le_upd rfl trivial (le_upd rfl trivial (le_upd rfl trivial (le_nil _))), le_h0 _ _⟩⟩
  · repeat (first
    | (apply s_a TY; exact rfl)
    | (apply s_f; exact rfl; (first | assumption | omega))
    | apply w_seq
    | apply w_region
    | apply s_nil
    | apply t_norm
    | apply t_exit
    | apply k_hit
    | apply w_exit
    | apply w_ret
    | (apply w_condF; exact rfl; exact rfl))
    exact lv_ret (ret1 rfl (res_tmp rfl))
theorem stood_lyr : Tryz.prog.stoodInHeld 103 = false := by kernel_rfl
theorem fields_lyr : Tryz.prog.fieldsOf 103 = #[{ name := "Delay", type := 3, offset := 0, embedded := false, tag := "", pkgPath := "", byteOffset := 0 }, { name := "Loss", type := 3, offset := 1, embedded := false, tag := "", pkgPath := "", byteOffset := 8 }, { name := "Scatter", type := 3, offset := 2, embedded := false, tag := "", pkgPath := "", byteOffset := 16 }] := by kernel_rfl
theorem equalIn_lyr (d : Nat) (a b : Layer) (W : World) : (Op.equalIn (d + 2) 103 (.agg #[.int .i64 a.delay, .int .i64 a.loss, .int .i64 a.scatter]) (.agg #[.int .i64 b.delay, .int .i64 b.loss, .int .i64 b.scatter])).run Tryz.prog W = .ok (decide (a = b)) W := by
  rw [run_equalIn_agg W (d + 1) 103 _ _ (by rw [fields_lyr]; exact Tryz.underlying103) stood_lyr, fields_lyr]
  have e : decide (a = b) = (a.delay == b.delay && a.loss == b.loss && a.scatter == b.scatter) := by
    cases a; cases b; simp [Layer.mk.injEq]
    try simp [Bool.and_assoc]
    try rfl
  rw [e]
  cases h0 : a.delay == b.delay <;> cases h1 : a.loss == b.loss <;> cases h2 : a.scatter == b.scatter <;> simp [Op.eqFields, part, run_equalIn_int W d 3 _ _ _ _ Tryz.underlying3, h0, h1, h2]
theorem guard_lyr : Tryz.prog.eqGuardType Tryz.prog.depth 103 = false := by kernel_rfl
theorem ne_lyr {x y : Operand} {a b : Layer} {c : Bool} (h : decide (a = b) = !c) : ∀ w, (do eqGuard .neq 103 x y (.agg #[.int .i64 a.delay, .int .i64 a.loss, .int .i64 a.scatter]) (.agg #[.int .i64 b.delay, .int .i64 b.loss, .int .i64 b.scatter]); binOp .neq 103 (.agg #[.int .i64 a.delay, .int .i64 a.loss, .int .i64 a.scatter]) (.agg #[.int .i64 b.delay, .int .i64 b.loss, .int .i64 b.scatter]) : Sem Value).run Tryz.prog w = .ok (.bool c) w := fun w => by
  have h1 := equalIn_lyr 9998 a b w
  rw [h] at h1
  first
  | (simp [eqGuard, run_neq_struct, h1]; done)
  | simp [eqGuard, guard_lyr, run_neq_struct, h1]
set_option maxRecDepth 100000 in
theorem SameIce_same (x : Grid) (hl : x.layers.length ≤ 1000000) (ht : x.tilt.length ≤ 1000000) : Summ Tryz.prog GG 19 [gridF x, gridF x] (bv true) := by
  refine summW Tryz.func19 rfl rfl 46 rfl (by simp) (fun M0 => ?_)
  repeat (first
    | (apply s_a TY; exact rfl)
    | (apply s_t; exact rfl; (first | assumption | omega))
    | apply w_seq
    | apply w_region
    | apply s_nil
    | apply t_norm
    | apply w_block
    | apply w_skip
    | (apply w_condF; exact rfl; exact rfl)
    | (apply s_k1 (Ints_same _); exact rfl; (first | assumption | omega | decide)))
  apply w_loop (fun k : Nat => ⟨(Ab.upd (Ab.upd (Ab.upd (fun _ => .bot) 2 (.f (.pt (gridL x) 0))) 3 (.f (.pt (gridL x) 0))) 5 (.f (iv ((k : Nat) : Int)))), (fun _ => none), 0⟩) (fun k => k ≤ x.layers.length) (fun k => x.layers.length - k) 0 (Nat.zero_le _) (gh_le ⟨le_upd rfl trivial (le_upd rfl trivial (le_upd rfl trivial (le_nil _))), le_h0 _ _⟩)
  intro k hk
  by_cases hc : k < x.layers.length
  · repeat (first
    | (apply s_bind; exact rfl; exact rfl; exact rfl; exact rfl; exact rfl; exact rfl; exact ne_lyr (a := x.layers[k]) (b := x.layers[k]) (c := false) (by rw [decide_eq_true rfl]; rfl))
    | (apply s_a TY; exact rfl)
    | (apply s_t; exact rfl; (first | assumption | omega))
    | apply w_seq
    | apply w_region
    | (apply w_draw (id := 6) 10 rfl (by kernel_rfl))
    | apply s_nil
    | apply t_norm
    | apply k_norm
    | apply w_block
    | apply w_skip
    | (apply w_condT; exact rfl; exact rfl)
    | (apply w_condF; exact rfl; exact rfl)
    | (apply s_c TY; exact rfl; (first | omega | exact ⟨by omega, by (first | with_reducible assumption | ((with_reducible apply ilaysF_ne); omega) | assumption)⟩))
    | (apply s_m TY; exact rfl; (first | with_reducible assumption | ((with_reducible apply ilaysF_sub); omega) | exact rfl); exact rfl))
    exact ⟨k + 1, by omega, by omega, gh_le ⟨le_upd rfl trivial (le_upd rfl trivial (le_upd rfl trivial (le_nil _))), le_h0 _ _⟩⟩
  · repeat (first
    | (apply s_a TY; exact rfl)
    | (apply s_f; exact rfl; (first | assumption | omega))
    | apply w_seq
    | apply w_region
    | apply s_nil
    | apply t_norm
    | apply t_exit
    | apply k_hit
    | apply w_exit
    | apply w_ret
    | (apply w_condF; exact rfl; exact rfl))
    exact lv_ret (ret1 rfl (res_tmp rfl))
theorem Few_s (x : Grid) : Summ Tryz.prog GG 13 [gridF x] (bv (decide (x.layers.length ≤ 8 ∧ x.tilt.length ≤ 10))) := by
  by_cases h1 : x.layers.length ≤ 8
  · by_cases h2 : x.tilt.length ≤ 10
    · rw [decide_eq_true (show x.layers.length ≤ 8 ∧ x.tilt.length ≤ 10 from ⟨h1, h2⟩)]
      refine summW Tryz.func13 rfl rfl 13 rfl (by simp) (fun M0 => ?_)
      repeat (first
    | (apply s_a TY; exact rfl)
    | (apply s_t; exact rfl; (first | assumption | omega))
    | apply w_seq
    | apply w_region
    | apply s_nil
    | apply t_norm
    | apply w_ret)
      exact lv_ret (ret1 rfl (res_tmp rfl))
    · rw [decide_eq_false (show ¬ (x.layers.length ≤ 8 ∧ x.tilt.length ≤ 10) from fun q => h2 q.2)]
      refine summW Tryz.func13 rfl rfl 13 rfl (by simp) (fun M0 => ?_)
      repeat (first
    | (apply s_a TY; exact rfl)
    | (apply s_t; exact rfl; (first | assumption | omega))
    | (apply s_f; exact rfl; (first | assumption | omega))
    | apply w_seq
    | apply w_region
    | apply s_nil
    | apply t_norm
    | apply w_ret)
      exact lv_ret (ret1 rfl (res_tmp rfl))
  · rw [decide_eq_false (show ¬ (x.layers.length ≤ 8 ∧ x.tilt.length ≤ 10) from fun q => h1 q.1)]
    refine summW Tryz.func13 rfl rfl 13 rfl (by simp) (fun M0 => ?_)
    repeat (first
    | (apply s_a TY; exact rfl)
    | (apply s_f; exact rfl; (first | assumption | omega))
    | apply w_seq
    | apply w_region
    | apply s_nil
    | apply t_norm
    | apply w_ret
    | (apply s_s; exact rfl))
    exact lv_ret (ret1 rfl (res_tmp rfl))
end Go.Proofs.YtnmaabejdmaahaaGreatDoor
namespace Go.Proofs.YtnmaabejdmaahaaGreatDoor
open Go.Lib (itoa decDigits decFrom digitVal join atoiAll)
open Go Go.RowKit Go.Proofs Go.Shelf Go.Ab
theorem rhead_cases (a : Nm) (hs : a.length ≤ 1000000) : (Summ Tryz.prog GG 54 [sv a, iv 1, bv false] (.tup [.sl 0 [], bv false]) ∧ ∀ b, headP a b = none) ∨ ∃ r, Summ Tryz.prog GG 54 [sv a, iv 1, bv false] (.tup [.sl 1 [iv r], bv true]) ∧ numsB false 7 (cutS 32 a) = some [r] := by
  by_cases hl : (cutS 32 a).length = 1
  case neg =>
    refine .inl ⟨rparse_n a 1 false (by decide) hs hl, fun b => ?_⟩
    cases h : numsB false 7 (cutS 32 a) with
    | none => exact headP_0 h
    | some l => exact headP_n h (by rw [numsB_len h]; exact hl)
  have H := rparse_s a 1 false hs (.inr (by rw [hl]; rfl))
  cases h : numsB false 7 (cutS 32 a) with
  | none =>
    rw [numsRB_no h] at H
    exact .inl ⟨H, fun b => headP_0 h⟩
  | some l =>
    rw [numsRB_ok h] at H
    have := numsB_len h
    rw [hl] at this
    obtain ⟨r, rfl⟩ := List.length_eq_one_iff.1 this
    exact .inr ⟨r, H, rfl⟩
theorem rlay_cases (a : Nm) (hs : a.length ≤ 1000000) : (Summ Tryz.prog GG 54 [sv a, iv 3, bv false] (.tup [.sl 0 [], bv false]) ∧ layP a = none) ∨ ∃ d0 d1 d2, Summ Tryz.prog GG 54 [sv a, iv 3, bv false] (.tup [.sl 3 [iv d0, iv d1, iv d2], bv true]) ∧ layP a = some ⟨d0, d1, d2⟩ := by
  by_cases hl : (cutS 32 a).length = 3
  case neg =>
    refine .inl ⟨rparse_n a 3 false (by decide) hs hl, ?_⟩
    cases h : numsB false 7 (cutS 32 a) with
    | none => exact layP_no h
    | some l => exact layP_len h (by rw [numsB_len h]; exact hl)
  have H := rparse_s a 3 false hs (.inr (by rw [hl]; rfl))
  cases h : numsB false 7 (cutS 32 a) with
  | none =>
    rw [numsRB_no h] at H
    exact .inl ⟨H, layP_no h⟩
  | some l =>
    rw [numsRB_ok h] at H
    have := numsB_len h
    rw [hl] at this
    match l, this, H, h with
    | [d0, d1, d2], _, H, h => exact .inr ⟨d0, d1, d2, H, layP_ok h⟩
set_option maxRecDepth 100000 in
set_option maxHeartbeats 6400000 in
theorem rParseIce_s (s : Nm) (hs : s.length ≤ 60000) : Summ Tryz.prog GG 17 [sv s] (iceF (cutS 59 s)) := by
  have hsz := strSz s
  have HC := Cut_s s 59 (by omega)
  have hcl := cutS_len 59 s
  have hml := fun w hw => cutS_mem_len 59 s w hw
  generalize cutS 59 s = ps at *
  by_cases h2 : ps.length ≤ 2
  · rw [iceF_2 h2]
    refine summW Tryz.func17 rfl rfl 89 rfl (by simp) (fun M0 => ?_)
    repeat (first
    | (apply s_a TY; exact rfl)
    | (apply s_t; exact rfl; (first | assumption | omega))
    | (apply s_f; exact rfl; (first | assumption | omega))
    | apply w_seq
    | apply w_region
    | apply s_nil
    | apply t_norm
    | apply t_ret
    | apply w_ret
    | apply w_skip
    | (apply w_condT; exact rfl; exact rfl)
    | (apply w_condF; exact rfl; exact rfl)
    | (apply s_k (HC); exact rfl)
    | (apply s_alloc TY; exact rfl; exact rfl; exact rfl)
    | (apply s_store TY; exact rfl; exact rfl; exact rfl; exact rfl; exact rfl; exact rfl))
    exact lv_ret (ret2 rfl (res_nilG (res_bxs (sub := [.v (.slice none 0 0), iv 0, .v (.slice none 0 0)]) TY rfl rfl rfl rfl rfl)) (res_tmp rfl))
  obtain ⟨a, b, rest, rfl⟩ : ∃ a b rest, ps = a :: b :: rest := by
    match ps, h2 with
    | [], h => simp at h
    | [_], h => simp at h
    | a :: b :: rest, _ => exact ⟨a, b, rest, rfl⟩
  have hlen : (a :: b :: rest).length = rest.length + 2 := rfl
  have hne : rest ≠ [] := fun e => by rw [e] at h2; exact h2 (Nat.le_refl _)
  have hla := hml a (by simp)
  have hlb := hml b (by simp)
  have hsn : strsF (a :: b :: rest) ≠ [] := strsF_ne (k := 0) (by omega)
  have HN1 := rparse_s b (-1) true (by omega) (.inl rfl)
  rcases rhead_cases a (by omega) with ⟨HN0, hh⟩ | ⟨r, HN0, h0⟩
  · rw [iceF_h (hh b)]
    cases h1 : numsB true 7 (cutS 32 b) with
    | none =>
      rw [numsRB_no h1] at HN1
      refine summW Tryz.func17 rfl rfl 89 rfl (by simp) (fun M0 => ?_)
      repeat (first
    | (apply s_a TY; exact rfl)
    | (apply s_f; exact rfl; (first | assumption | omega))
    | apply w_seq
    | apply w_region
    | apply s_nil
    | apply t_norm
    | apply t_ret
    | apply w_ret
    | apply w_skip
    | (apply w_condT; exact rfl; exact rfl)
    | (apply w_condF; exact rfl; exact rfl)
    | (apply s_k (HC); exact rfl)
    | (apply s_k (HN0); exact rfl)
    | (apply s_k (HN1); exact rfl)
    | (apply s_s; exact rfl)
    | (apply s_z TY; exact rfl; (first | omega | exact ⟨by omega, by (first | with_reducible assumption | ((with_reducible apply intsF_ne); omega) | ((with_reducible apply strsF_ne); omega) | assumption)⟩))
    | (apply s_alloc TY; exact rfl; exact rfl; exact rfl)
    | (apply s_store TY; exact rfl; exact rfl; exact rfl; exact rfl; exact rfl; exact rfl))
      exact lv_ret (ret2 rfl (res_nilG (res_bxs (sub := [.v (.slice none 0 0), iv 0, .v (.slice none 0 0)]) TY rfl rfl rfl rfl rfl)) (res_tmp rfl))
    | some t =>
      rw [numsRB_ok h1] at HN1
      refine summW Tryz.func17 rfl rfl 89 rfl (by simp) (fun M0 => ?_)
      repeat (first
    | (apply s_a TY; exact rfl)
    | (apply s_f; exact rfl; (first | assumption | omega))
    | apply w_seq
    | apply w_region
    | apply s_nil
    | apply t_norm
    | apply t_ret
    | apply w_ret
    | apply w_skip
    | (apply w_condT; exact rfl; exact rfl)
    | (apply w_condF; exact rfl; exact rfl)
    | (apply s_k (HC); exact rfl)
    | (apply s_k (HN0); exact rfl)
    | (apply s_k (HN1); exact rfl)
    | (apply s_s; exact rfl)
    | (apply s_z TY; exact rfl; (first | omega | exact ⟨by omega, by (first | with_reducible assumption | ((with_reducible apply intsF_ne); omega) | ((with_reducible apply strsF_ne); omega) | assumption)⟩))
    | (apply s_alloc TY; exact rfl; exact rfl; exact rfl)
    | (apply s_store TY; exact rfl; exact rfl; exact rfl; exact rfl; exact rfl; exact rfl))
      exact lv_ret (ret2 rfl (res_nilG (res_bxs (sub := [.v (.slice none 0 0), iv 0, .v (.slice none 0 0)]) TY rfl rfl rfl rfl rfl)) (res_tmp rfl))
  cases h1 : numsB true 7 (cutS 32 b) with
  | none =>
    rw [iceF_h (headP_1 h1)]
    rw [numsRB_no h1] at HN1
    refine summW Tryz.func17 rfl rfl 89 rfl (by simp) (fun M0 => ?_)
    repeat (first
    | (apply s_a TY; exact rfl)
    | (apply s_f; exact rfl; (first | assumption | omega))
    | apply w_seq
    | apply w_region
    | apply s_nil
    | apply t_norm
    | apply t_ret
    | apply w_ret
    | apply w_skip
    | (apply w_condT; exact rfl; exact rfl)
    | (apply w_condF; exact rfl; exact rfl)
    | (apply s_k (HC); exact rfl)
    | (apply s_k (HN0); exact rfl)
    | (apply s_k (HN1); exact rfl)
    | (apply s_z TY; exact rfl; (first | omega | exact ⟨by omega, by (first | with_reducible assumption | ((with_reducible apply intsF_ne); omega) | ((with_reducible apply strsF_ne); omega) | assumption)⟩))
    | (apply s_alloc TY; exact rfl; exact rfl; exact rfl)
    | (apply s_store TY; exact rfl; exact rfl; exact rfl; exact rfl; exact rfl; exact rfl))
    exact lv_ret (ret2 rfl (res_nilG (res_bxs (sub := [.v (.slice none 0 0), iv 0, .v (.slice none 0 0)]) TY rfl rfl rfl rfl rfl)) (res_tmp rfl))
  | some t =>
    rw [numsRB_ok h1] at HN1
    have ht := numsB_len h1
    have htl := cutS_len 32 b
    have hhd := headP_ok h0 h1
    have hrn0 : [iv r] ≠ [] := List.cons_ne_nil _ _
    refine summW Tryz.func17 rfl rfl 89 rfl (by simp) (fun M0 => ?_)
    repeat (first
    | (apply s_a TY; exact rfl)
    | (apply s_f; exact rfl; (first | assumption | omega))
    | apply w_seq
    | apply w_region
    | apply s_nil
    | apply t_norm
    | apply w_block
    | apply w_skip
    | (apply w_condF; exact rfl; exact rfl)
    | (apply s_k (HC); exact rfl)
    | (apply s_k (HN0); exact rfl)
    | (apply s_k (HN1); exact rfl)
    | (apply s_z TY; exact rfl; (first | omega | exact ⟨by omega, by (first | with_reducible assumption | ((with_reducible apply intsF_ne); omega) | ((with_reducible apply strsF_ne); omega) | assumption)⟩))
    | (apply s_alloc TY; exact rfl; exact rfl; exact rfl)
    | (apply s_store TY; exact rfl; exact rfl; exact rfl; exact rfl; exact rfl; exact rfl))
    apply w_gh (gh_ownB 1 0 103 3 rfl rfl rfl)
    apply w_loop (fun q : Nat × List Layer => ⟨(Ab.upd (Ab.upd (Ab.upd (Ab.upd (fun _ => .bot) 2 (.bx 0 0)) 4 (.f (.sl (a :: b :: rest).length (strsF (a :: b :: rest))))) 9 (.bx 1 0)) 10 (.f (iv ((q.1 + 2 : Nat) : Int)))), (Ab.upd (Ab.upd (Ab.upd (fun _ => none) 0 (some (.box [.f (.v (.slice none 0 0)), .f (iv 0), .f (.v (.slice none 0 0))]))) 1 (some (.box [.ow 2, .f (iv r), .f (.sl t.length (intsF t))]))) 2 (some (.row 103 3 q.2.length (ilaysF q.2)))), 3⟩) (fun q => laysP (rest.take q.1) = some q.2 ∧ q.1 ≤ rest.length) (fun q => rest.length - q.1) (0, []) (⟨rfl, Nat.zero_le _⟩) (gh_le ⟨le_upd rfl trivial (le_upd rfl rfl (le_upd rfl trivial (le_upd rfl rfl (le_nil _)))), le_hupd rfl trivial (le_hupd rfl (fun y hy => by simp at hy; rcases hy with rfl | rfl | rfl <;> first | trivial | rfl) (le_hupd rfl (fun y hy => by simp at hy; rcases hy with rfl | rfl | rfl <;> trivial) (le_h0 _ _)))⟩)
    rintro ⟨k, l⟩ ⟨hn, hk⟩
    change laysP (rest.take k) = some l at hn
    change k ≤ rest.length at hk
    change W _ _ _ _ (⟨(Ab.upd (Ab.upd (Ab.upd (Ab.upd (fun _ => .bot) 2 (.bx 0 0)) 4 (.f (.sl (a :: b :: rest).length (strsF (a :: b :: rest))))) 9 (.bx 1 0)) 10 (.f (iv ((k + 2 : Nat) : Int)))), (Ab.upd (Ab.upd (Ab.upd (fun _ => none) 0 (some (.box [.f (.v (.slice none 0 0)), .f (iv 0), .f (.v (.slice none 0 0))]))) 1 (some (.box [.ow 2, .f (iv r), .f (.sl t.length (intsF t))]))) 2 (some (.row 103 3 l.length (ilaysF l)))), 3⟩)
    have hll := laysP_len hn
    rw [List.length_take] at hll
    by_cases hc : k < rest.length
    · have hat : (strsF (a :: b :: rest))[(k + 2) * 1]? = some (sv rest[k]) := by
        have h : k + 2 < (a :: b :: rest).length := by omega
        exact (strsF_at (l := (a :: b :: rest)) h).trans rfl
      have hwk := hml rest[k] (by simp)
      rcases rlay_cases rest[k] (by omega) with ⟨HL, hq⟩ | ⟨d0, d1, d2, HL, hq⟩
      · rw [iceF_l (laysP_bad hc hq)]
        repeat (first
    | (apply s_a TY; exact rfl)
    | (apply s_t; exact rfl; (first | assumption | omega))
    | apply w_seq
    | apply w_region
    | apply s_nil
    | apply t_norm
    | apply t_ret
    | apply k_ret
    | apply w_block
    | apply w_ret
    | apply w_skip
    | (apply w_condT; exact rfl; exact rfl)
    | (apply s_k (HL); exact rfl)
    | (apply s_c TY; exact rfl; (first | omega | exact ⟨by omega, by (first | with_reducible assumption | ((with_reducible apply intsF_ne); omega) | ((with_reducible apply strsF_ne); omega) | assumption)⟩))
    | (apply s_l TY; exact rfl; (first | exact rfl | with_reducible assumption | ((with_reducible apply intsF_at); omega) | ((with_reducible apply strsF_at); omega) | assumption))
    | (apply s_store TY; exact rfl; exact rfl; exact rfl; exact rfl; exact rfl; exact rfl))
        exact lv_ret (ret2 rfl (res_nilG (res_bxs (sub := [.v (.slice none 0 0), iv 0, .v (.slice none 0 0)]) TY rfl rfl rfl rfl rfl)) (res_tmp rfl))
      · have hdn : [iv d0, iv d1, iv d2] ≠ [] := List.cons_ne_nil _ _
        repeat (first
    | (apply s_append TY; exact rfl; exact rfl; exact rfl; exact rfl; exact rfl; exact rfl; exact rfl; exact rfl; exact rfl; (unfold maxLen; omega); omega)
    | (apply s_a TY; exact rfl)
    | (apply s_t; exact rfl; (first | assumption | omega))
    | apply w_seq
    | apply w_region
    | (apply w_draw (id := 17) 13 rfl (by kernel_rfl))
    | apply s_nil
    | apply t_norm
    | apply k_norm
    | apply w_block
    | apply w_skip
    | (apply w_condT; exact rfl; exact rfl)
    | (apply w_condF; exact rfl; exact rfl)
    | (apply s_k (HL); exact rfl)
    | (apply s_c TY; exact rfl; (first | omega | exact ⟨by omega, by (first | with_reducible assumption | ((with_reducible apply intsF_ne); omega) | ((with_reducible apply strsF_ne); omega) | assumption)⟩))
    | (apply s_z TY; exact rfl; (first | omega | exact ⟨by omega, by (first | with_reducible assumption | ((with_reducible apply intsF_ne); omega) | ((with_reducible apply strsF_ne); omega) | assumption)⟩))
    | (apply s_l TY; exact rfl; (first | exact rfl | with_reducible assumption | ((with_reducible apply intsF_at); omega) | ((with_reducible apply strsF_at); omega) | assumption))
    | (apply s_store TY; exact rfl; exact rfl; exact rfl; exact rfl; exact rfl; exact rfl))
        exact ⟨(k + 1, l ++ [⟨d0, d1, d2⟩]), ⟨laysP_next hc hn hq, by show k + 1 ≤ _; omega⟩, by show _ - (k + 1) < _ - k; omega, gh_le ⟨le_upd rfl trivial (le_upd rfl rfl (le_upd rfl trivial (le_upd rfl rfl (le_nil _)))), le_hupd (by rw [ilaysF_snoc, List.length_append]; rfl) trivial (le_hupd rfl (fun y hy => by simp at hy; rcases hy with rfl | rfl | rfl <;> first | trivial | rfl) (le_hupd rfl (fun y hy => by simp at hy; rcases hy with rfl | rfl | rfl <;> trivial) (le_h0 _ _)))⟩⟩
    · have hke : k = rest.length := by omega
      subst hke
      rw [List.take_length] at hn
      have HE := rIceErr_s ⟨l, r, t⟩ (by show l.length ≤ _; omega) (by show t.length ≤ _; omega)
      apply w_gh (gh_row 2 rfl)
      by_cases hz : (chkI ⟨l, r, t⟩).2 = 0
      · rw [iceF_0 hne hhd hn hz]
        rw [hz] at HE
        repeat (first
    | (apply s_a TY; exact rfl)
    | (apply s_t; exact rfl; (first | assumption | omega))
    | (apply s_f; exact rfl; (first | assumption | omega))
    | apply w_seq
    | apply w_region
    | apply s_nil
    | apply t_norm
    | apply t_exit
    | apply k_hit
    | apply w_exit
    | apply w_ret
    | apply w_skip
    | (apply w_condF; exact rfl; exact rfl)
    | (apply s_k (HE); exact rfl)
    | (apply s_store TY; exact rfl; exact rfl; exact rfl; exact rfl; exact rfl; exact rfl))
        exact lv_ret (ret2 rfl (res_bxs (sub := [.sl l.length (ilaysF l), iv r, .sl t.length (intsF t)]) TY rfl rfl rfl rfl rfl) (res_tmp rfl))
      · rw [iceF_c hne hhd hn hz]
        repeat (first
    | (apply s_a TY; exact rfl)
    | (apply s_f; exact rfl; (first | assumption | omega))
    | apply w_seq
    | apply w_region
    | apply s_nil
    | apply t_norm
    | apply t_exit
    | apply t_ret
    | apply k_hit
    | apply w_exit
    | apply w_ret
    | (apply w_condT; exact rfl; exact rfl)
    | (apply w_condF; exact rfl; exact rfl)
    | (apply s_k (HE); exact rfl)
    | (apply s_store TY; exact rfl; exact rfl; exact rfl; exact rfl; exact rfl; exact rfl))
        exact lv_ret (ret2 rfl (res_nilG (res_bxs (sub := [.v (.slice none 0 0), iv 0, .v (.slice none 0 0)]) TY rfl rfl rfl rfl rfl)) (res_tmp rfl))
end Go.Proofs.YtnmaabejdmaahaaGreatDoor
namespace Go.Proofs.YtnmaabejdmaahaaGreatDoor
open Go.Lib (itoa decDigits decFrom digitVal join atoiAll)
open Go Go.RowKit Go.Proofs Go.Shelf Go.Ab
def GSI : Nat → Option FV := fun g => bif Nat.beq g 0 then some (.tab Ice.sidesV) else GS g
theorem upA {f : Nat} {a : List FV} {r : FV} (S : Summ Tryz.prog GG f a r) : Summ Tryz.prog GSI f a r := summ_up S fun g x e => by cases e
theorem upS {f : Nat} {a : List FV} {r : FV} (S : Summ Tryz.prog GS f a r) : Summ Tryz.prog GSI f a r := summ_up S fun g x e => by
  match g, e with
  | 0, e => cases e
  | g + 1, e => exact e
theorem upI {f : Nat} {a : List FV} {r : FV} (S : Summ Tryz.prog Ice.GG f a r) : Summ Tryz.prog GSI f a r := summ_up S fun g x e => by
  match g, e with
  | 0, e => exact e
  | g + 1, e => cases e
theorem mem_join {c s : UInt8} : ∀ {l : List Nm}, c ∈ join l [s] → c = s ∨ ∃ w ∈ l, c ∈ w
  | [], h => by rw [Lib.join_nil] at h; cases h
  | [x], h => by rw [Lib.join_one] at h; exact .inr ⟨x, by simp, h⟩
  | x :: y :: r, h => by
    have e : join (x :: y :: r) [s] = x ++ s :: join (y :: r) [s] := by
      rw [Lib.join_cons, Lib.join_cons]
      unfold Lib.joinTail
      simp
    rw [e, List.mem_append, List.mem_cons] at h
    rcases h with h | h | h
    · exact .inr ⟨x, by simp, h⟩
    · exact .inl h
    · rcases mem_join h with h | ⟨w, hw, h⟩
      · exact .inl h
      · exact .inr ⟨w, List.mem_cons_of_mem _ hw, h⟩
theorem itoa_byte {v : Int} {c : UInt8} (h : c ∈ itoa v) : c = 45 ∨ 48 ≤ c.toNat := by
  unfold itoa at h
  split at h
  · rcases List.mem_cons.1 h with h | h
    · exact .inl h
    · exact .inr (decDigits_byte h).1
  · exact .inr (decDigits_byte h).1
theorem itoa_no {v : Int} {c : UInt8} (h1 : c ≠ 45) (h2 : c.toNat < 48) : c ∉ itoa v := fun h => by
  rcases itoa_byte h with e | e
  · exact h1 e
  · omega
theorem words_no59 (l : List Int) : (59 : UInt8) ∉ wordsS l := fun h => by
  rcases mem_join h with h | ⟨w, hw, h⟩
  · revert h; decide
  · obtain ⟨z, _, rfl⟩ := List.mem_map.1 hw
    rcases itoa_byte h with e | e
    · revert e; decide
    · exact absurd h (by
        unfold itoa
        intro h
        split at h
        · rcases List.mem_cons.1 h with h | h
          · revert h; decide
          · have := (decDigits_byte h).2; revert this; decide
        · have := (decDigits_byte h).2; revert this; decide)
theorem dd_len : ∀ (k n : Nat), n < 10 ^ (k + 1) → (decDigits n).length ≤ k + 1
  | 0, n, h => by rw [decDigits, dif_pos (show n < 10 by omega)]; simp
  | k + 1, n, h => by
    rw [decDigits]
    split
    · simp
    · rw [List.length_append]
      have := dd_len k (n / 10) (by rw [Nat.pow_succ] at h; omega)
      simp; omega
theorem itoa_drop (v : Int) : (itoa v).drop (atS (itoa v)) = decDigits v.natAbs := by
  by_cases hv : v < 0
  · have e : itoa v = 45 :: decDigits v.natAbs := by unfold itoa; rw [if_pos hv]
    rw [e]
    show (45 :: decDigits v.natAbs).drop 1 = _
    rfl
  · rw [atS_pos (by omega)]
    have e : itoa v = decDigits v.toNat := by unfold itoa; rw [if_neg hv]
    rw [e, List.drop_zero]
    congr 1
    omega
theorem numB_itoa {b : Bool} {v : Int} (h : -9999999 ≤ v ∧ v ≤ 9999999) (hb : b = true ∨ 0 ≤ v) : numB b 7 (itoa v) = some v := by
  have hl : ((itoa v).drop (atS (itoa v))).length ≤ 7 := by
    rw [itoa_drop]
    exact dd_len 6 _ (by omega)
  rw [numB_some (numO_itoa v hl), if_pos hb]
theorem numsB_itoa {b : Bool} : ∀ (l : List Int), (∀ z, z ∈ l → (-9999999 ≤ z ∧ z ≤ 9999999) ∧ (b = true ∨ 0 ≤ z)) → ∀ k, k ≤ l.length → numsB b 7 ((l.map itoa).take k) = some (l.take k)
  | _, _, 0, _ => rfl
  | l, h, k + 1, hk => by
    have ih := numsB_itoa l h k (by omega)
    have hm : k < (l.map itoa).length := by rw [List.length_map]; omega
    have hk2 : k < l.length := hk
    have hv : numB b 7 (l.map itoa)[k] = some l[k] := by rw [List.getElem_map]; exact numB_itoa (h _ (List.getElem_mem hk2)).1 (h _ (List.getElem_mem hk2)).2
    rw [numsB_next hm ih hv, List.take_succ_eq_append_getElem hk2]
theorem wordsB_again {b : Bool} {l : List Int} (hne : l ≠ []) (h : ∀ z, z ∈ l → (-9999999 ≤ z ∧ z ≤ 9999999) ∧ (b = true ∨ 0 ≤ z)) : numsB b 7 (cutS 32 (wordsS l)) = some l := by
  have e : cutS 32 (wordsS l) = l.map itoa := cut_join (by simpa using hne) fun w hw => by
    obtain ⟨z, hz, rfl⟩ := List.mem_map.1 hw
    exact itoa_no (by decide) (by decide)
  have h2 := numsB_itoa l h l.length (Nat.le_refl _)
  rw [List.take_of_length_le (Nat.le_of_eq (List.length_map _)), List.take_length] at h2
  rw [e, h2]
theorem layP_again {l : Layer} (h : (1 ≤ l.delay ∧ l.delay ≤ 1000) ∧ (0 ≤ l.loss ∧ l.loss ≤ 1000) ∧ 0 ≤ l.scatter ∧ l.scatter ≤ 1000) : layP (layS l) = some l := by
  refine (layP_ok (wordsB_again (b := false) (l := [l.delay, l.loss, l.scatter]) (by simp) fun z hz => ?_)).trans rfl
  simp only [List.mem_cons, List.not_mem_nil, or_false] at hz
  rcases hz with rfl | rfl | rfl <;> exact ⟨⟨by omega, by omega⟩, .inr (by omega)⟩
theorem laysP_again {ls : List Layer} (h : ∀ l ∈ ls, (1 ≤ l.delay ∧ l.delay ≤ 1000) ∧ (0 ≤ l.loss ∧ l.loss ≤ 1000) ∧ 0 ≤ l.scatter ∧ l.scatter ≤ 1000) : ∀ k, k ≤ ls.length → laysP ((ls.map layS).take k) = some (ls.take k)
  | 0, _ => rfl
  | k + 1, hk => by
    have ih := laysP_again h k (by omega)
    have hm : k < (ls.map layS).length := by rw [List.length_map]; omega
    have hk2 : k < ls.length := hk
    have hv : layP (ls.map layS)[k] = some ls[k] := by rw [List.getElem_map]; exact layP_again (h _ (List.getElem_mem hk2))
    rw [laysP_next hm ih hv, List.take_succ_eq_append_getElem hk2]
theorem ice_again {x : Grid} (v : Valid x) : iceF (cutS 59 (iceS x)) = .tup [gridF x, iv 0] := by
  have e : cutS 59 (iceS x) = icePt x := cut_join (by unfold icePt; simp) fun w hw => by
    unfold icePt at hw
    rcases List.mem_append.1 hw with h | h
    · rcases List.mem_cons.1 h with h | h
      · subst h; exact words_no59 _
      · rw [List.mem_singleton] at h; subst h; exact words_no59 _
    · obtain ⟨l, _, rfl⟩ := List.mem_map.1 h
      exact words_no59 _
  have h1 := v.l1
  have h2 := v.t1
  have hh : headP (wordsS [x.rows]) (wordsS x.tilt) = some (x.rows, x.tilt) := headP_ok (wordsB_again (by simp) fun z hz => by
      rw [List.mem_singleton] at hz; subst hz
      have := v.r1; have := v.r12
      exact ⟨⟨by omega, by omega⟩, .inr (by omega)⟩) (wordsB_again (fun e => by rw [e] at h2; simp at h2) fun z hz => by
      have := v.til z hz
      exact ⟨⟨by omega, by omega⟩, .inl rfl⟩)
  have hl := laysP_again v.lay x.layers.length (Nat.le_refl _)
  rw [List.take_of_length_le (Nat.le_of_eq (List.length_map _)), List.take_length] at hl
  rw [e]
  exact (iceF_0 (a := wordsS [x.rows]) (b := wordsS x.tilt) (rest := x.layers.map layS) (fun e => by
    have := congrArg List.length e
    rw [List.length_map] at this
    simp at this; rw [this] at h1; simp at h1) hh hl (chkI_zero.2 v)).trans rfl
theorem iceQ_small (ps : List Nm) : (iceQ ps).1.layers.length ≤ 6 ∧ (iceQ ps).1.tilt.length ≤ 8 := by
  unfold iceQ
  split
  · exact ⟨by simp, by simp⟩
  · split
    · split
      · rename_i h
        have v := chkI_zero.1 h
        exact ⟨v.l6, v.t8⟩
      · exact ⟨by simp, by simp⟩
    · exact ⟨by simp, by simp⟩
theorem iceS_len {x : Grid} (h : IceI x) (hl : x.layers.length ≤ 8) (ht : x.tilt.length ≤ 10) : (iceS x).length ≤ 60000 := by
  have h1 := join_lenC 59 (icePt x) 2200 (icePt_mem h (by omega))
  have h2 := icePt_len x
  have h3 : (2200 + 1) * (icePt x).length ≤ (2200 + 1) * 10 := Nat.mul_le_mul_left _ (by omega)
  show (join (icePt x) [59]).length ≤ _
  omega
set_option maxRecDepth 100000 in
set_option maxHeartbeats 6400000 in
theorem IceStrings_s (x : Grid) (t : Nm) (hi : IceI x) : Summ Tryz.prog GSI 4 [gridF x, sv t] (.v (.bool true)) := by
  have HA := upI Ice.awake_s
  have HW := upA (Few_s x)
  have hst := strSz t
  by_cases hf : x.layers.length ≤ 8 ∧ x.tilt.length ≤ 10
  case neg =>
    rw [decide_eq_false hf] at HW
    refine summW Tryz.func4 rfl rfl 65 rfl (by simp) (fun M0 => ?_)
    repeat (first
    | (apply s_a TY; exact rfl)
    | apply w_seq
    | apply w_region
    | apply s_nil
    | apply t_norm
    | apply t_ret
    | apply w_ret
    | apply w_skip
    | (apply w_condT; exact rfl; exact rfl)
    | (apply w_condF; exact rfl; exact rfl)
    | (apply s_k (HA); exact rfl)
    | (apply s_k (HW); exact rfl)
    | (apply s_s; exact rfl))
    exact lv_ret (ret1 rfl (res_tmp rfl))
  rw [decide_eq_true hf] at HW
  obtain ⟨f1, f2⟩ := hf
  by_cases h120 : 120 < t.length
  · refine summW Tryz.func4 rfl rfl 65 rfl (by simp) (fun M0 => ?_)
    repeat (first
    | (apply s_a TY; exact rfl)
    | (apply s_t; exact rfl; (first | assumption | omega))
    | apply w_seq
    | apply w_region
    | apply s_nil
    | apply t_norm
    | apply t_ret
    | apply w_ret
    | apply w_skip
    | (apply w_condT; exact rfl; exact rfl)
    | (apply w_condF; exact rfl; exact rfl)
    | (apply s_k (HA); exact rfl)
    | (apply s_k (HW); exact rfl))
    exact lv_ret (ret1 rfl (res_tmp rfl))
  have HC := upA (CopyIce_s x (by omega) (by omega))
  have HF := upS (FormatIce_s x (by omega) (by omega) hi)
  have HRF := upA (rFormatIce_s x (by omega) (by omega) hi)
  have HP := upS (ParseIce_s t (by omega))
  have HRP := upA (rParseIce_s t (by omega))
  have ⟨q1, q2⟩ := iceQ_small (cutS 59 t)
  have HS := upA (SameIce_same (iceQ (cutS 59 t)).1 (by omega) (by omega))
  have HE := upA (rIceErr_s x (by omega) (by omega))
  have HS2 := upA (SameIce_same x (by omega) (by omega))
  have HP2 := upS (ParseIce_s (iceS x) (iceS_len hi f1 f2))
  unfold iceF at HP HRP
  by_cases he : (chkI x).2 = 0
  case neg =>
    refine summW Tryz.func4 rfl rfl 65 rfl (by simp) (fun M0 => ?_)
    repeat (first
    | (apply s_bind; exact rfl; exact rfl; exact rfl; exact rfl; exact rfl; exact rfl; exact nes_f rfl)
    | (apply s_a TY; exact rfl)
    | (apply s_t; exact rfl; (first | assumption | omega))
    | (apply s_f; exact rfl; (first | assumption | omega))
    | apply w_seq
    | apply w_region
    | apply s_nil
    | apply t_norm
    | apply t_ret
    | apply w_ret
    | apply w_skip
    | (apply w_condT; exact rfl; exact rfl)
    | (apply w_condF; exact rfl; exact rfl)
    | (apply s_k (HA); exact rfl)
    | (apply s_k (HW); exact rfl)
    | (apply s_k (HC); exact rfl)
    | (apply s_k (HF); exact rfl)
    | (apply s_k (HRF); exact rfl)
    | (apply s_k (HP); exact rfl)
    | (apply s_k (HRP); exact rfl)
    | (apply s_k (HS); exact rfl)
    | (apply s_k (HE); exact rfl)
    | (apply s_alloc TY; exact rfl; exact rfl; exact rfl)
    | (apply s_store TY; exact rfl; exact rfl; exact rfl; exact rfl; exact rfl; exact rfl))
    exact lv_ret (ret1 rfl (res_tmp rfl))
  rw [he] at HE
  rw [ice_again (chkI_zero.1 he)] at HP2
  refine summW Tryz.func4 rfl rfl 65 rfl (by simp) (fun M0 => ?_)
  repeat (first
    | (apply s_bind; exact rfl; exact rfl; exact rfl; exact rfl; exact rfl; exact rfl; exact nes_f rfl)
    | (apply s_a TY; exact rfl)
    | (apply s_t; exact rfl; (first | assumption | omega))
    | (apply s_f; exact rfl; (first | assumption | omega))
    | apply w_seq
    | apply w_region
    | apply s_nil
    | apply t_norm
    | apply w_ret
    | apply w_skip
    | (apply w_condF; exact rfl; exact rfl)
    | (apply s_k (HA); exact rfl)
    | (apply s_k (HW); exact rfl)
    | (apply s_k (HC); exact rfl)
    | (apply s_k (HF); exact rfl)
    | (apply s_k (HRF); exact rfl)
    | (apply s_k (HP); exact rfl)
    | (apply s_k (HRP); exact rfl)
    | (apply s_k (HS); exact rfl)
    | (apply s_k (HE); exact rfl)
    | (apply s_k (HS2); exact rfl)
    | (apply s_k (HP2); exact rfl)
    | (apply s_alloc TY; exact rfl; exact rfl; exact rfl)
    | (apply s_store TY; exact rfl; exact rfl; exact rfl; exact rfl; exact rfl; exact rfl))
  exact lv_ret (ret1 rfl (res_tmp rfl))
end Go.Proofs.YtnmaabejdmaahaaGreatDoor
namespace Go.Ab
open Go Go.RowKit
section
variable {P : Program} {w : World}
def InW (z : Int) : Prop := -9223372036854775808 ≤ z ∧ z < 9223372036854775808
theorem wf_inW {z : Int} (h : (Lit.int .i64 z).wf = true) : InW z := by
  have h2 := (Lit.wf_int_iff .i64 z).1 h
  have a : IntKind.i64.min = -9223372036854775808 := rfl
  have b : IntKind.i64.max = 9223372036854775807 := rfl
  rw [a, b] at h2
  unfold InW; omega
theorem opens_intw {T : TypeId} (ht : P.underlying T = some (.int .i64)) : Opens P w T (fun z : { z : Int // InW z } => [.v (.int .i64 z.1)]) := fun H enc base sp hd fuel cs x h => by
  obtain ⟨n, rfl, _, hw⟩ := DataW.trod_int ht h
  exact ⟨⟨n, wf_inW hw⟩, repL_one (RepF.v _), by simp [Value.oneCell']⟩
end
end Go.Ab
namespace Go.Proofs.YtnmaabejdmaahaaGreatDoor
open Go Go.Ab Go.ChangeShapes Go.WideShapes Go.ChangeAt Go.RowKit
theorem ownKnobT : ownKnob Tryz.prog.godebug = none := by kernel_rfl
theorem laidOutT : laidOutB Tryz.prog = true := by kernel_rfl
theorem trodAll_stays {H : Type} {enc : TypeId × Value → H} {W W' : World} {sp : Nat → Bool} (hb : Below W.heap.size W W') : ∀ {ts : List TypeId} {vs : List Value} {ds : List (DataW H)} {ps : List MemPlace}, (∀ t ∈ ts, Tryz.prog.readableRec t = true ∧ t < Tryz.prog.types.size) → DataW.TrodAll enc Tryz.prog W 0 (fun _ => true) true ts vs ds ps → (∀ p ∈ ps, p.block < W.heap.size) → (∀ p ∈ ps, sp p.block = true) → DataW.TrodAll enc Tryz.prog W' 0 sp true ts vs ds ps
  | [], [], [], _, _, h, _, _ => h
  | t :: ts, v :: vs, d :: ds, ps, ht, ⟨p, q, h1, h2, e⟩, hlt, hsp => by
    have hp : ∀ x ∈ p, x ∈ ps := fun x hx => by rw [e]; exact List.mem_append_left _ hx
    have hq : ∀ x ∈ q, x ∈ ps := fun x hx => by rw [e]; exact List.mem_append_right _ hx
    exact ⟨p, q, WideElems.Trod_stays laidOutT (ht t (by simp)).1 (ht t (by simp)).2 h1 (fun x hx => hb.same (hlt x (hp x hx))) (fun x hx => hsp x (hp x hx)),
      trodAll_stays hb (fun u hu => ht u (by simp [hu])) h2 (fun x hx => hlt x (hq x hx)) (fun x hx => hsp x (hq x hx)), e⟩
theorem post_law {H : Type} {enc : TypeId × Value → H} {f : Func} {s : ChangeSpec} {W W' : World} {args : Array Value} {ds gs : List (DataW H)} {before : List MemPlace}
    (hW : DataW.Whole enc Tryz.prog f.params.toList s.vars false W args.toList ds gs before) (hv : s.vars = []) (hr : f.resultTypes = #[4])
    (ht : ∀ t ∈ f.params.toList, Tryz.prog.readableRec t = true ∧ t < Tryz.prog.types.size)
    (hres : (s.fn H (ds ++ gs)).results = [.lit (.bool true)]) (hargs : (s.fn H (ds ++ gs)).args = ds) (hvs : (s.fn H (ds ++ gs)).vars = [])
    (hb : Below W.heap.size W W') : s.post enc Tryz.prog f false true false false W args (.bool true) W' := by
  have hlt := hW.lt
  have hW0 := hW
  obtain ⟨p, q, h1, h2, e, hz, hn⟩ := hW
  have h2' := h2
  rw [hv] at h2'
  have hq : gs = [] ∧ q = [] := by
    cases gs with
    | nil => exact ⟨rfl, h2'⟩
    | cons g r => exact absurd h2' (by intro h; cases h)
  obtain ⟨rfl, rfl⟩ := hq
  rw [List.append_nil] at e
  subst e
  refine ⟨ds, [], before, [], before, [], hW0, ?_, ?_, ?_, Below.frame hb _, fun h => by cases h⟩
  · rw [hr, hres]; exact trodAll_mk1 (shut_bool Tryz.underlying4 true)
  · rw [hargs]
    exact trodAll_stays hb ht h1 hlt (fun x hx => by simpa using hlt x hx)
  · rw [hv, hvs]; rfl
theorem sq_map {α : Type} (f : α → FV) : ∀ l : List α, l.flatMap (fun x => [f x]) = l.map f
  | [] => rfl
  | x :: l => by rw [List.flatMap_cons, sq_map f l]; rfl
section
variable {W : World}
theorem opens_w : Opens Tryz.prog W 3 (fun z : { z : Int // InW z } => [iv z.1]) := opens_intw Tryz.underlying3
theorem opens_intsw : Opens Tryz.prog W 43 (fun l : { l : List Int // ∀ z, z ∈ l → InW z } => [.sl l.1.length (intsF l.1)]) := (opens_sl (s := 1) Tryz.underlying43 (by kernel_rfl) (by decide) opens_w).map (fun l => ⟨l.map (·.1), fun z hz => by obtain ⟨x, _, rfl⟩ := List.mem_map.1 hz; exact x.2⟩) fun l => by rw [sq_map]; simp [intsF]
theorem opens_layw : Opens Tryz.prog W 103 (fun y : { y : Layer // InW y.delay ∧ InW y.loss ∧ InW y.scatter } => ilayF y.1) := (opens_st Tryz.underlying103 (by kernel_rfl) (ofs_cons (s := 1) (by kernel_rfl) rfl opens_w (ofs_cons (s := 1) (by kernel_rfl) rfl opens_w (ofs_cons (s := 1) (by kernel_rfl) rfl opens_w ofs_nil)))).map (fun p => ⟨⟨p.1.1, p.2.1.1, p.2.2.1.1⟩, p.1.2, p.2.1.2, p.2.2.1.2⟩) fun _ => rfl
theorem opens_laysw : Opens Tryz.prog W 42 (fun l : { l : List Layer // ∀ y, y ∈ l → InW y.delay ∧ InW y.loss ∧ InW y.scatter } => [.sl l.1.length (ilaysF l.1)]) := (opens_sl (s := 3) Tryz.underlying42 (by kernel_rfl) (by decide) opens_layw).map (fun l => ⟨l.map (·.1), fun z hz => by obtain ⟨x, _, rfl⟩ := List.mem_map.1 hz; exact x.2⟩) fun l => by simp [ilaysF]
theorem opens_grdw : Opens Tryz.prog W 45 (fun p : { l : List Layer // ∀ y, y ∈ l → InW y.delay ∧ InW y.loss ∧ InW y.scatter } × { z : Int // InW z } × { l : List Int // ∀ z, z ∈ l → InW z } => [.sl p.1.1.length (ilaysF p.1.1), iv p.2.1.1, .sl p.2.2.1.length (intsF p.2.2.1)]) := (opens_st Tryz.underlying45 (by kernel_rfl) (ofs_cons (s := 1) (by kernel_rfl) rfl opens_laysw (ofs_cons (s := 1) (by kernel_rfl) rfl opens_w (ofs_cons (s := 1) (by kernel_rfl) rfl opens_intsw ofs_nil)))).map (fun p => ⟨p.1, p.2.1, p.2.2.1⟩) fun _ => rfl
end
set_option maxRecDepth 100000 in
theorem arg_st {H : Type} {enc : TypeId × Value → H} {W : World} {base : Nat} {T : TypeId} {fs : Array Field} {α : Type} {f : α → List FV} {v : Value} {d : DataW H} {ps : List MemPlace} (h : Opens Tryz.prog W T f) (ht : Tryz.prog.underlying T = some (.struct fs)) (hv : Value.okWide Tryz.prog W .any base T v) (hd : DataW.Trod enc Tryz.prog W 0 (fun _ => true) true T v d ps) : ∃ a, RepF W (fun _ => False) v (.agg (f a)) := by
  obtain ⟨cs, e, _⟩ := okWide_struct ht hv
  exact arg_agg h e hd
end Go.Proofs.YtnmaabejdmaahaaGreatDoor
