/- Laws on which the proofs of this seat stand. No condition. -/
import Derived.Test.YtenkgipcblfocaaGreatParts4
import Derived.ChangeKeysEq
import Derived.DataShut
import Derived.Test.YtenkgipcblfocaaGreatRows
import Derived.WalkKit
import Derived.ProofKit
import Derived.OpenShut
import Derived.Stop.Joined
namespace Go.Proofs.YtenkgipcblfocaaGreat
open Go Go.RowKit Go.Proofs Go.Shelf Go.Ab
set_option maxRecDepth 100000 in
set_option maxHeartbeats 1600000 in
theorem RecipientsOf_ok (rs : List Int) (o : SkyOk rs) (l : List Act) (hl : l.length ≤ 40) (hcl : ∀ i, i < l.length → (l.getD i default).cells.length ≤ 1000000) (hE : ∀ i, i < l.length → runE (skyC rs).length l i = 0) (k : Nat) (hk : k < l.length) (h0 : l[k].kind ≠ 0) (h1 : l[k].kind ≠ 1) : Summ Tryz.prog GG 34 [skF rs, .sl l.length (actsF l), iv ((k : Nat) : Int)] (.tup [listF ((runW l l.length)[k]'(by rw [runW_len]; exact hk)), iv 0]) := by
  have HR := replay_ok rs o l hl hcl hE
  have hw : (listsF (runW l l.length))[((k : Nat) : Int).toNat * 1]? = some (listF ((runW l l.length)[k]'(by rw [runW_len]; exact hk))) := by rw [Int.toNat_natCast]; exact listsF_at (by rw [runW_len]; exact hk)
  have hw2 : (listsF (runW l l.length))[k * 1]? = some (listF ((runW l l.length)[k]'(by rw [runW_len]; exact hk))) := listsF_at (by rw [runW_len]; exact hk)
  have hne : listsF (runW l l.length) ≠ [] := listsF_ne (k := k) (by rw [runW_len]; exact hk)
  generalize (runW l l.length)[k]'(by rw [runW_len]; exact hk) = w at hw hw2 ⊢
  refine summW Tryz.func34 rfl rfl 50 rfl (by simp) (fun M0 => ?_)
  repeat (first
    | (apply s_a TY; exact rfl)
    | (apply s_t; exact rfl; (first | assumption | omega))
    | (apply s_f; exact rfl; (first | assumption | omega))
    | apply w_seq
    | apply w_region
    | apply s_nil
    | apply t_norm
    | apply w_ret
    | apply w_skip
    | (apply w_condF; exact rfl; exact rfl)
    | (apply s_k (HR); exact rfl)
    | (apply s_k1 (first2_1 _ _); exact rfl; (first | assumption | omega | decide))
    | (apply s_k (unless_T _); exact rfl)
    | (apply s_k1 (within_T _ _ _); exact rfl; (first | assumption | omega | decide))
    | (apply s_c TY; exact rfl; (first | omega | exact ⟨by omega, by (first | with_reducible assumption | ((with_reducible apply actsF_ne); omega) | ((with_reducible apply listsF_ne); omega) | assumption)⟩))
    | (apply s_l TY; exact rfl; (first | exact rfl | with_reducible assumption | ((with_reducible apply actsF_f0); omega) | ((with_reducible apply actsF_f1); omega) | ((with_reducible apply actsF_f2); omega) | ((with_reducible apply listsF_at); omega) | assumption)))
  exact lv_ret (ret2 rfl (res_tmp rfl) (res_tmp rfl))
end Go.Proofs.YtenkgipcblfocaaGreat
namespace Go.Proofs.YtenkgipcblfocaaGreat
open Go Go.RowKit Go.Proofs Go.Shelf Go.Ab
theorem tmod_neg {a m : Int} (hm : 0 < m) (h : a.tmod m < 0) : a.tmod m + m = a % m := by
  have h1 := Int.tmod_eq_emod (a := a) (b := m)
  split at h1
  · have := Int.emod_nonneg a (show m ≠ 0 by omega); omega
  · omega
theorem tmod_pos {a m : Int} (hm : 0 < m) (h : ¬ a.tmod m < 0) : a.tmod m = a % m := by
  have h1 := Int.tmod_eq_emod (a := a) (b := m)
  split at h1
  · omega
  · have := Int.emod_lt_of_pos a hm; omega
theorem tmod_bd {a m : Int} (hm : 0 < m) : -m < a.tmod m ∧ a.tmod m < m := by
  have h1 := Int.tmod_eq_emod (a := a) (b := m)
  have h2 := Int.emod_nonneg a (show m ≠ 0 by omega)
  have h3 := Int.emod_lt_of_pos a hm
  split at h1 <;> omega
set_option maxRecDepth 100000 in
theorem Mod_s (a m : Int) (hm : 0 < m ∧ m < 1000000000000000) : Summ Tryz.prog GG 22 [iv a, iv m] (iv (a % m)) := by
  have hne : m ≠ 0 := by omega
  have hb := tmod_bd (a := a) hm.1
  by_cases h : a.tmod m < 0
  · rw [← tmod_neg hm.1 h]
    refine summW Tryz.func22 rfl rfl 14 rfl (by simp) (fun M0 => ?_)
    repeat (first
    | (apply s_remT; exact rfl; exact rfl; exact rfl; exact hne)
    | (apply s_a TY; exact rfl)
    | (apply s_t; exact rfl; (first | assumption | omega))
    | apply w_seq
    | apply w_region
    | apply s_nil
    | apply t_norm
    | apply w_ret
    | (apply w_condT; exact rfl; exact rfl)
    | (apply s_c TY; exact rfl; omega))
    exact lv_ret (ret1 rfl (res_tmp rfl))
  · rw [← tmod_pos hm.1 h]
    refine summW Tryz.func22 rfl rfl 14 rfl (by simp) (fun M0 => ?_)
    repeat (first
    | (apply s_remT; exact rfl; exact rfl; exact rfl; exact hne)
    | (apply s_a TY; exact rfl)
    | (apply s_f; exact rfl; (first | assumption | omega))
    | apply w_seq
    | apply w_region
    | apply s_nil
    | apply t_norm
    | apply w_ret
    | apply w_skip
    | (apply w_condF; exact rfl; exact rfl))
    exact lv_ret (ret1 rfl (res_tmp rfl))
structure PtOk (p : Pt) : Prop where
  h : -1000000 ≤ p.height ∧ p.height ≤ 1000000
  t : 0 ≤ p.turn ∧ p.turn ≤ 999999
set_option maxRecDepth 100000 in
set_option maxHeartbeats 1600000 in
theorem turned_fix_ok (pt : Pt) (n : Int) (o : PtOk pt) (h : 0 ≤ n ∧ n ≤ 1000000000000) : Summ Tryz.prog GG 100 [ptF pt, iv n, iv 1] (.tup [ptF ⟨pt.height, turnedZ pt.turn n 1⟩, iv 0]) := by
  have HP := pointErr_s pt
  rw [ptE_0 ⟨o.h, o.t⟩] at HP
  have ho := o.t
  have hz := turnZ_bd n
  have HT := turnAt_s n (by omega)
  refine summW Tryz.func100 rfl rfl 30 rfl (by simp) (fun M0 => ?_)
  repeat (first
    | (apply s_boxw (T := 23); exact rfl; exact rfl; exact rfl; exact rfl)
    | (apply s_a TY; exact rfl)
    | (apply s_t; exact rfl; (first | assumption | omega))
    | apply w_seq
    | apply w_region
    | (apply w_draw (id := 4) 6 rfl (by kernel_rfl))
    | apply s_nil
    | apply t_norm
    | apply w_ret
    | apply w_skip
    | (apply w_condF; exact rfl; exact rfl)
    | (apply s_k (HP); exact rfl)
    | (apply s_k (HT); exact rfl)
    | (apply s_k1 (tickErr_T _); exact rfl; (first | assumption | omega | decide))
    | (apply s_k1 (first2_1 _ _); exact rfl; (first | assumption | omega | decide))
    | (apply s_c TY; exact rfl; omega)
    | (apply s_alloc TY; exact rfl; exact rfl; exact rfl)
    | (apply s_store TY; exact rfl; exact rfl; exact rfl; exact rfl; exact rfl; exact rfl))
  exact lv_ret (ret2 rfl (res_bxs TY rfl rfl rfl rfl rfl) (res_tmp rfl))
set_option maxRecDepth 100000 in
theorem FixedOf_ok (pt : Pt) (n : Int) (o : PtOk pt) (h : 0 ≤ n ∧ n ≤ 1000000000000) : Summ Tryz.prog GG 17 [ptF pt, iv n] (.tup [ptF ⟨pt.height, turnedZ pt.turn n 1⟩, iv 0]) := by
  have HT := turned_fix_ok pt n o h
  refine summW Tryz.func17 rfl rfl 11 rfl (by simp) (fun M0 => ?_)
  repeat (first
    | (apply s_a TY; exact rfl)
    | apply w_seq
    | apply w_region
    | apply s_nil
    | apply t_norm
    | apply w_ret
    | (apply s_k (HT); exact rfl)
    | (apply s_alloc TY; exact rfl; exact rfl; exact rfl)
    | (apply s_store TY; exact rfl; exact rfl; exact rfl; exact rfl; exact rfl; exact rfl))
  exact lv_ret (ret2 rfl (res_bxs TY rfl rfl rfl rfl rfl) (res_tmp rfl))
end Go.Proofs.YtenkgipcblfocaaGreat
namespace Go.Proofs.YtenkgipcblfocaaGreat
open Go Go.RowKit Go.Proofs Go.Shelf Go.Ab
theorem rep_slw {w : World} {M : Nat → Prop} {n : Nat} {v : Value} {cs cs' : List FV} (h : RepF w M v (.sl n cs)) (hl : cs.length = cs'.length) (hc : ∀ (k : Nat) (x x' : FV), cs[k]? = some x → cs'[k]? = some x' → ∀ u, RepF w M u x → RepF w M u x') : RepF w M v (.sl n cs') := by
  cases h with
  | sl a n c cs us h1 h2 h3 h4 h5 =>
    refine RepF.sl a n c cs' us h1 (h2.trans hl) h3 h4 (fun k u x hu hx => ?_)
    have hk : k < cs.length := by rw [hl]; exact (List.getElem?_eq_some_iff.1 hx).1
    exact hc k _ x (List.getElem?_eq_getElem hk) hx u (h5 k u _ hu (List.getElem?_eq_getElem hk))
def nilWL : List FV → List FV → Prop
  | [], [] => True
  | x :: xs, y :: ys => (x = y ∨ (x = .v (.slice none 0 0) ∧ y = .sl 0 [])) ∧ nilWL xs ys
  | _, _ => False
theorem nilWL_len : ∀ {xs ys : List FV}, nilWL xs ys → xs.length = ys.length
  | [], [], _ => rfl
  | _ :: _, _ :: _, h => by simp [nilWL_len h.2]
  | [], _ :: _, h => h.elim
  | _ :: _, [], h => h.elim
theorem nilWL_at {w : World} {M : Nat → Prop} : ∀ {xs ys : List FV}, nilWL xs ys → ∀ (k : Nat) (x x' : FV), xs[k]? = some x → ys[k]? = some x' → ∀ u, RepF w M u x → RepF w M u x'
  | [], [], _, k, x, x', h1, _, _, _ => by simp at h1
  | a :: xs, b :: ys, h, 0, x, x', h1, h2, u, r => by
    simp at h1 h2; subst h1; subst h2
    rcases h.1 with e | ⟨e1, e2⟩
    · rwa [← e]
    · rw [e1] at r; rw [e2]; exact rep_nilsl r
  | a :: xs, b :: ys, h, k + 1, x, x', h1, h2, u, r => nilWL_at h.2 k x x' (by simpa using h1) (by simpa using h2) u r
  | [], _ :: _, h, _, _, _, _, _, _, _ => h.elim
  | _ :: _, [], h, _, _, _, _, _, _, _ => h.elim
theorem summ_slw {g n : Nat} {args cs cs' : List FV} (S : Summ Tryz.prog GG g args (.sl n cs)) (h : nilWL cs cs') : Summ Tryz.prog GG g args (.sl n cs') :=
  ⟨S.enters, fun w M us h1 h2 h3 => (S.call w M us h1 h2 h3).mono fun _ _ ⟨v, q1, q2, q3⟩ => ⟨v, q1, rep_slw q2 (nilWL_len h) (nilWL_at h), q3⟩⟩
def exRs : List Int := [1, 4, 4, 1]
def exM : List Int := [0, 5, 3, 0, 0, 2, 0, 0, 0, 0]
def nAnn : Nm := [97, 110, 110]
def nBob : Nm := [98, 111, 98]
def nX : Nm := [120]
def exActs : List Act := [⟨0, nAnn, []⟩, ⟨2, nX, [1, 2]⟩, ⟨0, nBob, []⟩, ⟨3, nX, [1]⟩, ⟨1, nAnn, []⟩, ⟨4, nX, []⟩]
def exJobs : List Job := [⟨0, 5, 9, 1⟩, ⟨1, 2, 4, 5⟩, ⟨2, 1, 9, 3⟩]
theorem Sky_s : Summ Tryz.prog GG 94 [] (skF exRs) := by
  refine summW Tryz.func94 rfl rfl 3 rfl (by simp) (fun M0 => ?_)
  repeat (first
    | (apply s_a TY; exact rfl)
    | apply w_seq
    | apply w_region
    | apply s_nil
    | apply t_norm
    | apply w_ret
    | (apply s_alloc TY; exact rfl; exact rfl; exact rfl)
    | (apply s_store TY; exact rfl; exact rfl; exact rfl; exact rfl; exact rfl; exact rfl))
  exact lv_ret (ret1 rfl (res_bxs (sub := [.sl exRs.length (intsF exRs)]) TY rfl rfl rfl rfl rfl))
theorem Map_s : Summ Tryz.prog GG 95 [] (skF exM) := by
  refine summW Tryz.func95 rfl rfl 3 rfl (by simp) (fun M0 => ?_)
  repeat (first
    | (apply s_a TY; exact rfl)
    | apply w_seq
    | apply w_region
    | apply s_nil
    | apply t_norm
    | apply w_ret
    | (apply s_alloc TY; exact rfl; exact rfl; exact rfl)
    | (apply s_store TY; exact rfl; exact rfl; exact rfl; exact rfl; exact rfl; exact rfl))
  exact lv_ret (ret1 rfl (res_bxs (sub := [.sl exM.length (intsF exM)]) TY rfl rfl rfl rfl rfl))
theorem Jobs_s : Summ Tryz.prog GG 97 [] (.sl exJobs.length (jobsF exJobs)) := by
  refine summW Tryz.func97 rfl rfl 5 rfl (by simp) (fun M0 => ?_)
  repeat (first
    | (apply s_a TY; exact rfl)
    | apply w_seq
    | apply w_region
    | apply s_nil
    | apply t_norm
    | apply w_ret)
  exact lv_ret (ret1 rfl (res_tmp rfl))
def exActsN : List FV := [iv 0, sv nAnn, .v (.slice none 0 0), iv 2, sv nX, .sl 2 (intsF [1, 2]), iv 0, sv nBob, .v (.slice none 0 0), iv 3, sv nX, .sl 1 (intsF [1]), iv 1, sv nAnn, .v (.slice none 0 0), iv 4, sv nX, .v (.slice none 0 0)]
theorem Acts_n : Summ Tryz.prog GG 96 [] (.sl 6 exActsN) := by
  refine summW Tryz.func96 rfl rfl 10 rfl (by simp) (fun M0 => ?_)
  repeat (first
    | (apply s_a TY; exact rfl)
    | apply w_seq
    | apply w_region
    | apply s_nil
    | apply t_norm
    | apply w_ret)
  exact lv_ret (ret1 rfl (res_tmp rfl))
theorem exActs_w : nilWL exActsN (actsF exActs) := ⟨.inl rfl, .inl rfl, .inr ⟨rfl, rfl⟩, .inl rfl, .inl rfl, .inl rfl, .inl rfl, .inl rfl, .inr ⟨rfl, rfl⟩, .inl rfl, .inl rfl, .inl rfl, .inl rfl, .inl rfl, .inr ⟨rfl, rfl⟩, .inl rfl, .inl rfl, .inr ⟨rfl, rfl⟩, trivial⟩
theorem Acts_s : Summ Tryz.prog GG 96 [] (.sl exActs.length (actsF exActs)) := summ_slw Acts_n exActs_w
theorem exSky : SkyOk exRs := skyOk_of (by decide +kernel)
theorem exMap : MapOk (befK exRs exRs.length) exM := mapOk_of (by decide +kernel)
theorem exReg : regV exM 90 = [1, 2, 5] := by
  have h : (sortedW exM).take (regC (wI exM) (sortedW exM) (wantV exM 90)) = [1, 2, 5] := by decide +kernel
  unfold regV
  rw [h]
  unfold ascL
  refine List.mergeSort_of_pairwise ?_
  decide +kernel
theorem exCell : cellZ exRs 500000 250000 = 2 := by decide +kernel
theorem exTurn : turnedZ 700000 43082 1 = 200000 := by decide +kernel
theorem exJobsOk : JobsOk exJobs := jobsOk_of (by decide +kernel)
theorem exOrder : orderO exJobs = some [1, 0, 2] := by decide +kernel
theorem exRun : ∀ i, i < exActs.length → runE (skyC exRs).length exActs i = 0 := by decide +kernel
theorem runW_at (l : List Act) : ∀ (n i : Nat), i < n → (runW l n)[i]? = some (stpW (runS l i) (l.getD i default))
  | 0, i, h => absurd h (Nat.not_lt_zero i)
  | n + 1, i, h => by
    rw [runW]
    by_cases e : i = n
    · subst e
      rw [List.getElem?_append_right (by rw [runW_len]; exact Nat.le_refl _), runW_len, Nat.sub_self]; rfl
    · rw [List.getElem?_append_left (by rw [runW_len]; omega)]
      exact runW_at l n i (by omega)
theorem exWho : (altA (runS exActs 5).2 nX).kys = [nAnn, nBob] := by decide +kernel
theorem exAsc : ascN [nAnn, nBob] = [nAnn, nBob] := by
  unfold ascN
  refine List.mergeSort_of_pairwise ?_
  decide +kernel
theorem exRec : (runW exActs exActs.length)[5]? = some [nAnn, nBob] := by
  rw [runW_at exActs exActs.length 5 (by decide)]
  show some (ascN (altA (runS exActs 5).2 nX).kys) = _
  rw [exWho, exAsc]
end Go.Proofs.YtenkgipcblfocaaGreat
namespace Go.Proofs.YtenkgipcblfocaaGreat
open Go Go.RowKit Go.Proofs Go.Shelf Go.Ab
theorem stood_pt : Tryz.prog.stoodInHeld 23 = false := by kernel_rfl
theorem fields_pt : Tryz.prog.fieldsOf 23 = #[{ name := "Height", type := 3, offset := 0, embedded := false, tag := "", pkgPath := "", byteOffset := 0 }, { name := "Turn", type := 3, offset := 1, embedded := false, tag := "", pkgPath := "", byteOffset := 8 }] := by kernel_rfl
theorem equalIn_pt (d : Nat) (a b : Pt) (W : World) : (Op.equalIn (d + 2) 23 (.agg #[.int .i64 a.height, .int .i64 a.turn]) (.agg #[.int .i64 b.height, .int .i64 b.turn])).run Tryz.prog W = .ok (decide (a = b)) W := by
  rw [run_equalIn_agg W (d + 1) 23 _ _ (by rw [fields_pt]; exact Tryz.underlying23) stood_pt, fields_pt]
  have e : decide (a = b) = (a.height == b.height && a.turn == b.turn) := by
    cases a; cases b; simp [Pt.mk.injEq]
    try simp [Bool.and_assoc]
    try rfl
  rw [e]
  cases h0 : a.height == b.height <;> cases h1 : a.turn == b.turn <;> simp [Op.eqFields, part, run_equalIn_int W d 3 _ _ _ _ Tryz.underlying3, h0, h1]
theorem guard_pt : Tryz.prog.eqGuardType Tryz.prog.depth 23 = false := by kernel_rfl
theorem eq_pt {x y : Operand} {a b : Pt} {c : Bool} (h : decide (a = b) = c) : ∀ w, (do eqGuard .eql 23 x y (.agg #[.int .i64 a.height, .int .i64 a.turn]) (.agg #[.int .i64 b.height, .int .i64 b.turn]); binOp .eql 23 (.agg #[.int .i64 a.height, .int .i64 a.turn]) (.agg #[.int .i64 b.height, .int .i64 b.turn]) : Sem Value).run Tryz.prog w = .ok (.bool c) w := fun w => by
  have h1 := equalIn_pt 9998 a b w
  rw [h] at h1
  first
  | (simp [eqGuard, run_eql_struct, h1]; done)
  | simp [eqGuard, guard_pt, run_eql_struct, h1]
theorem eqI {x y : Operand} {h1 t1 h2 t2 : Int} {c : Bool} (h : decide ((⟨h1, t1⟩ : Pt) = ⟨h2, t2⟩) = c) : ∀ w, (do eqGuard .eql 23 x y (.agg #[.int .i64 h1, .int .i64 t1]) (.agg #[.int .i64 h2, .int .i64 t2]); binOp .eql 23 (.agg #[.int .i64 h1, .int .i64 t1]) (.agg #[.int .i64 h2, .int .i64 t2]) : Sem Value).run Tryz.prog w = .ok (.bool c) w := eq_pt (a := ⟨h1, t1⟩) (b := ⟨h2, t2⟩) h
set_option maxRecDepth 100000 in
set_option maxHeartbeats 1600000 in
theorem awake_s : Summ Tryz.prog GG 15 [] (.v (.bool true)) := by
  have H1 := Sky_s
  have H2 := CellOf_ok exRs ⟨500000, 250000⟩ exSky (by decide)
  rw [show cellZ exRs (Pt.height ⟨500000, 250000⟩) (Pt.turn ⟨500000, 250000⟩) = 2 from exCell] at H2
  have H3 := Map_s
  have H4 := RegionOf_of exRs exM 90 exSky exMap (by decide) (stab_few (by decide))
  rw [exReg] at H4
  have H5 := FixedOf_ok ⟨7, 700000⟩ 43082 ⟨by decide, by decide⟩ (by decide)
  rw [show turnedZ (Pt.turn ⟨7, 700000⟩) 43082 1 = 200000 from exTurn] at H5
  have H6 := Acts_s
  have H7 := RecipientsOf_ok exRs exSky exActs (by decide) (by decide) exRun 5 (by decide) (by decide) (by decide)
  have hw : (runW exActs exActs.length)[5]'(by rw [runW_len]; decide) = [nAnn, nBob] := by
    have := exRec
    rw [List.getElem?_eq_getElem (by rw [runW_len]; decide)] at this
    exact Option.some.inj this
  rw [hw] at H7
  have H8 := Jobs_s
  have H9 := OrderFor_ok exJobs exJobsOk
  rw [exOrder, show (if (some [(1 : Int), 0, 2]).isSome = true then (0 : Int) else 12) = 0 from rfl] at H9
  have HA := Ints_s [1, 2, 5] [1, 2, 5] (by decide) (by decide)
  rw [decide_eq_true rfl] at HA
  have HB := Ints_s [1, 0, 2] [1, 0, 2] (by decide) (by decide)
  rw [decide_eq_true rfl] at HB
  have HC := Texts_s [nAnn, nBob] [nAnn, nBob] (by decide) (by decide)
  rw [decide_eq_true rfl] at HC
  refine summW Tryz.func15 rfl rfl 81 rfl (by simp) (fun M0 => ?_)
  repeat (first
    | (apply s_bind; exact rfl; exact rfl; exact rfl; exact rfl; exact rfl; exact rfl; exact eqI rfl)
    | (apply s_a TY; exact rfl)
    | (apply s_t; exact rfl; (first | assumption | omega))
    | apply w_seq
    | apply w_region
    | apply s_nil
    | apply t_norm
    | apply w_ret
    | (apply s_k (H1); exact rfl)
    | (apply s_k (H2); exact rfl)
    | (apply s_k (H3); exact rfl)
    | (apply s_k (H4); exact rfl)
    | (apply s_k (H5); exact rfl)
    | (apply s_k (H6); exact rfl)
    | (apply s_k (H7); exact rfl)
    | (apply s_k (H8); exact rfl)
    | (apply s_k (H9); exact rfl)
    | (apply s_k (HA); exact rfl)
    | (apply s_k (HB); exact rfl)
    | (apply s_k (HC); exact rfl)
    | (apply s_alloc TY; exact rfl; exact rfl; exact rfl)
    | (apply s_store TY; exact rfl; exact rfl; exact rfl; exact rfl; exact rfl; exact rfl))
  exact lv_ret (ret1 rfl (res_tmp rfl))
end Go.Proofs.YtenkgipcblfocaaGreat
namespace Go.Proofs.YtenkgipcblfocaaGreat
open Go Go.RowKit Go.Proofs Go.Shelf Go.Ab
end Go.Proofs.YtenkgipcblfocaaGreat
namespace Go.Proofs.YtenkgipcblfocaaGreat
open Go Go.RowKit Go.Proofs Go.Shelf Go.Ab
theorem gcd_step (a b : Int) : Nat.gcd b.natAbs (a.tmod b).natAbs = Nat.gcd a.natAbs b.natAbs := by
  rw [Int.natAbs_tmod, Nat.gcd_comm b.natAbs, ← Nat.gcd_rec, Nat.gcd_comm]
theorem tmod_lt {a b : Int} (h : b ≠ 0) : (a.tmod b).natAbs < b.natAbs := by
  rw [Int.natAbs_tmod]; exact Nat.mod_lt _ (by omega)
set_option maxRecDepth 100000 in
theorem Size_s (n : Int) (h : -9000000000000000000 ≤ n ∧ n ≤ 9000000000000000000) : Summ Tryz.prog GG 167 [iv n] (iv (max n (-n))) := by
  refine summW Tryz.func167 rfl rfl 7 rfl (by simp) (fun M0 => ?_)
  repeat (first
    | (apply s_a TY; exact rfl)
    | apply w_seq
    | apply w_region
    | apply s_nil
    | apply t_norm
    | apply w_ret
    | (apply s_c TY; exact rfl; omega))
  exact lv_ret (ret1 rfl (res_tmp rfl))
set_option maxRecDepth 100000 in
theorem divisor_s (a b : Int) (h : (-9000000000000000000 ≤ a ∧ a ≤ 9000000000000000000) ∧ -9000000000000000000 ≤ b ∧ b ≤ 9000000000000000000) : Summ Tryz.prog GG 168 [iv a, iv b] (iv (gcdZ a b)) := by
  rw [gcdZ_eq]
  refine summW Tryz.func168 rfl rfl 15 rfl (by simp) (fun M0 => ?_)
  repeat (first
    | (apply s_a TY; exact rfl)
    | apply w_seq
    | apply w_region
    | apply s_nil
    | apply t_norm
    | apply w_block)
  apply w_loop (fun q : Int × Int => ⟨(Ab.upd (Ab.upd (fun _ => .bot) 0 (.f (iv q.1))) 1 (.f (iv q.2))), (fun _ => none), 0⟩) (fun q => Nat.gcd q.1.natAbs q.2.natAbs = Nat.gcd a.natAbs b.natAbs ∧ q.1.natAbs ≤ 9000000000000000000 ∧ q.2.natAbs ≤ 9000000000000000000) (fun q => q.2.natAbs) (a, b) ⟨rfl, by show a.natAbs ≤ _; omega, by show b.natAbs ≤ _; omega⟩ (gh_le ⟨le_upd rfl trivial (le_upd rfl trivial (le_nil _)), le_h0 _ _⟩)
  rintro ⟨c, d⟩ ⟨hg, h1, h2⟩
  simp only at hg h1 h2
  change W _ _ _ _ (⟨(Ab.upd (Ab.upd (fun _ => .bot) 0 (.f (iv c))) 1 (.f (iv d))), (fun _ => none), 0⟩)
  by_cases hd : d = 0
  · subst hd
    rw [Int.natAbs_zero, Nat.gcd_zero_right] at hg
    have hc : max c (-c) = ((Nat.gcd a.natAbs b.natAbs : Nat) : Int) := by omega
    rw [← hc]
    repeat (first
    | (apply s_a TY; exact rfl)
    | (apply s_t; exact rfl; (first | assumption | omega))
    | apply w_seq
    | apply w_region
    | apply s_nil
    | apply t_norm
    | apply t_exit
    | apply k_hit
    | apply w_exit
    | apply w_ret
    | (apply w_condF; exact rfl; exact rfl)
    | (apply s_c TY; exact rfl; omega))
    exact lv_ret (ret1 rfl (res_tmp rfl))
  · have hne := hd
    have hlt := tmod_lt (a := c) hd
    repeat (first
    | (apply s_remT; exact rfl; exact rfl; exact rfl; exact hne)
    | (apply s_a TY; exact rfl)
    | (apply s_f; exact rfl; (first | assumption | omega))
    | apply w_seq
    | apply w_region
    | (apply w_draw (id := 2) 5 rfl (by kernel_rfl))
    | apply s_nil
    | apply t_norm
    | apply k_norm
    | apply w_block
    | apply w_skip
    | (apply w_condT; exact rfl; exact rfl))
    exact ⟨(d, c.tmod d), ⟨(gcd_step c d).trans hg, h2, by show (c.tmod d).natAbs ≤ _; omega⟩, hlt, gh_le ⟨le_upd rfl trivial (le_upd rfl trivial (le_nil _)), le_h0 _ _⟩⟩
set_option maxRecDepth 100000 in
theorem Gcd_s (a b : Int) (h : (-9000000000000000000 ≤ a ∧ a ≤ 9000000000000000000) ∧ -9000000000000000000 ≤ b ∧ b ≤ 9000000000000000000) : Summ Tryz.prog GG 169 [iv a, iv b] (iv (gcdZ a b)) := by
  rw [gcdZ_eq]
  refine summW Tryz.func169 rfl rfl 13 rfl (by simp) (fun M0 => ?_)
  repeat (first
    | (apply s_a TY; exact rfl)
    | apply w_seq
    | apply w_region
    | apply s_nil
    | apply t_norm
    | apply w_block)
  apply w_loop (fun q : Int × Int => ⟨(Ab.upd (Ab.upd (fun _ => .bot) 0 (.f (iv q.1))) 1 (.f (iv q.2))), (fun _ => none), 0⟩) (fun q => Nat.gcd q.1.natAbs q.2.natAbs = Nat.gcd a.natAbs b.natAbs ∧ q.1.natAbs ≤ 9000000000000000000 ∧ q.2.natAbs ≤ 9000000000000000000) (fun q => q.2.natAbs) (a, b) ⟨rfl, by show a.natAbs ≤ _; omega, by show b.natAbs ≤ _; omega⟩ (gh_le ⟨le_upd rfl trivial (le_upd rfl trivial (le_nil _)), le_h0 _ _⟩)
  rintro ⟨c, d⟩ ⟨hg, h1, h2⟩
  simp only at hg h1 h2
  change W _ _ _ _ (⟨(Ab.upd (Ab.upd (fun _ => .bot) 0 (.f (iv c))) 1 (.f (iv d))), (fun _ => none), 0⟩)
  by_cases hd : d = 0
  · subst hd
    rw [Int.natAbs_zero, Nat.gcd_zero_right] at hg
    have hc : max c (-c) = ((Nat.gcd a.natAbs b.natAbs : Nat) : Int) := by omega
    rw [← hc]
    repeat (first
    | (apply s_a TY; exact rfl)
    | (apply s_t; exact rfl; (first | assumption | omega))
    | apply w_seq
    | apply w_region
    | apply s_nil
    | apply t_norm
    | apply t_exit
    | apply k_hit
    | apply w_exit
    | apply w_ret
    | (apply w_condF; exact rfl; exact rfl)
    | (apply s_k1 (Size_s _); exact rfl; (first | assumption | omega | decide)))
    exact lv_ret (ret1 rfl (res_tmp rfl))
  · have hne := hd
    have hlt := tmod_lt (a := c) hd
    repeat (first
    | (apply s_remT; exact rfl; exact rfl; exact rfl; exact hne)
    | (apply s_a TY; exact rfl)
    | (apply s_f; exact rfl; (first | assumption | omega))
    | apply w_seq
    | apply w_region
    | (apply w_draw (id := 2) 5 rfl (by kernel_rfl))
    | apply s_nil
    | apply t_norm
    | apply k_norm
    | apply w_block
    | apply w_skip
    | (apply w_condT; exact rfl; exact rfl))
    exact ⟨(d, c.tmod d), ⟨(gcd_step c d).trans hg, h2, by show (c.tmod d).natAbs ≤ _; omega⟩, hlt, gh_le ⟨le_upd rfl trivial (le_upd rfl trivial (le_nil _)), le_h0 _ _⟩⟩
theorem quo_x {x y : Operand} {T : TypeId} {a g q : Int} (hg : 0 < g) (ha : a = g * q) (hr : -9223372036854775808 ≤ a ∧ a ≤ 9223372036854775807) : ∀ w, (do eqGuard .quo T x y (.int .i64 a) (.int .i64 g); binOp .quo T (.int .i64 a) (.int .i64 g) : Sem Value).run Tryz.prog w = .ok (.int .i64 q) w := fun w => by
  have h1 : IntKind.i64.wrap (a.tdiv g) = q := by
    rw [IntWalk.i64_quo' _ _ ⟨hr.1, hr.2, by omega⟩, ha, Int.mul_tdiv_cancel_left _ (by omega)]
  have hne : g ≠ 0 := by omega
  simp [eqGuard, binOp, Op.intDiv, hne, h1]
def fracF (q : Int × Int) : FV := .agg [iv q.1, iv q.2]
theorem fracZ_g {n d : Int} (h : 0 < d) : 0 < gcdZ n d ∧ n = gcdZ n d * (fracZ n d).1 ∧ d = gcdZ n d * (fracZ n d).2 := by
  have hg := gcdZ_pos (a := n) h
  obtain ⟨⟨x, hx⟩, y, hy⟩ := gcdZ_dvd n d
  have e1 : n / gcdZ n d = x := Int.ediv_eq_of_eq_mul_right (by omega) hx
  have e2 : d / gcdZ n d = y := Int.ediv_eq_of_eq_mul_right (by omega) hy
  exact ⟨hg, by rw [fracZ, e1]; exact hx, by rw [fracZ, e2]; exact hy⟩
set_option maxRecDepth 100000 in
theorem Lowest_s (n d : Int) (h : (-1000000000000 ≤ n ∧ n ≤ 1000000000000) ∧ 1 ≤ d ∧ d ≤ 1000000000000) : Summ Tryz.prog GG 137 [iv n, iv d] (fracF (fracZ n d)) := by
  obtain ⟨hg, hn, hdd⟩ := fracZ_g (n := n) (d := d) (by omega)
  have HG1 := divisor_s n d (by omega)
  have HG2 := Gcd_s n d (by omega)
  generalize fracZ n d = q at *
  have hgb : gcdZ n d ≤ 1000000000000 := by
    have h1 : (gcdZ n d) ∣ d := ⟨q.2, hdd⟩
    have := Int.le_of_dvd (by omega) h1
    omega
  generalize gcdZ n d = g at *
  refine summW Tryz.func137 rfl rfl 20 rfl (by simp) (fun M0 => ?_)
  repeat (first
    | (apply s_bind; exact rfl; exact rfl; exact rfl; exact rfl; exact rfl; exact rfl; first | exact quo_x hg hn ⟨by omega, by omega⟩ | exact quo_x hg hdd ⟨by omega, by omega⟩)
    | (apply s_a TY; exact rfl)
    | (apply s_f; exact rfl; (first | assumption | omega))
    | apply w_seq
    | apply w_region
    | (apply w_draw (id := 4) 6 rfl (by kernel_rfl))
    | apply s_nil
    | apply t_norm
    | apply w_ret
    | apply w_skip
    | (apply w_condF; exact rfl; exact rfl)
    | (apply s_k (HG2); exact rfl)
    | (apply s_alloc TY; exact rfl; exact rfl; exact rfl)
    | (apply s_store TY; exact rfl; exact rfl; exact rfl; exact rfl; exact rfl; exact rfl))
  exact lv_ret (ret1 rfl (res_bxs (sub := [iv q.1, iv q.2]) TY rfl rfl rfl rfl rfl))
def cmpF (a b : Int × Int) : Int := if a.1 * b.2 < b.1 * a.2 then -1 else if b.1 * a.2 < a.1 * b.2 then 1 else 0
theorem cmpF_lt {a b : Int × Int} : cmpF a b < 0 ↔ a.1 * b.2 < b.1 * a.2 := by
  unfold cmpF
  split
  · rename_i h; simp [h]
  · rename_i h
    split <;> simp [h]
set_option maxRecDepth 100000 in
theorem Cmp_s (a b : Int × Int) (h1 : -9000000000000000000 ≤ a.1 * b.2 ∧ a.1 * b.2 ≤ 9000000000000000000) (h2 : -9000000000000000000 ≤ b.1 * a.2 ∧ b.1 * a.2 ≤ 9000000000000000000) : Summ Tryz.prog GG 88 [fracF a, fracF b] (iv (cmpF a b)) := by
  by_cases c1 : a.1 * b.2 < b.1 * a.2
  · rw [show cmpF a b = -1 from if_pos c1]
    refine summW Tryz.func88 rfl rfl 23 rfl (by simp) (fun M0 => ?_)
    repeat (first
    | (apply s_a TY; exact rfl)
    | (apply s_t; exact rfl; (first | assumption | omega))
    | apply w_seq
    | apply w_region
    | (apply w_draw (id := 1) 11 rfl (by kernel_rfl))
    | apply s_nil
    | apply t_norm
    | apply t_ret
    | apply w_ret
    | (apply w_condT; exact rfl; exact rfl)
    | (apply s_c TY; exact rfl; omega))
    exact lv_ret (ret1 rfl (res_tmp rfl))
  by_cases c2 : b.1 * a.2 < a.1 * b.2
  · rw [show cmpF a b = 1 by unfold cmpF; rw [if_neg c1, if_pos c2]]
    refine summW Tryz.func88 rfl rfl 23 rfl (by simp) (fun M0 => ?_)
    repeat (first
    | (apply s_a TY; exact rfl)
    | (apply s_t; exact rfl; (first | assumption | omega))
    | (apply s_f; exact rfl; (first | assumption | omega))
    | apply w_seq
    | apply w_region
    | (apply w_draw (id := 1) 11 rfl (by kernel_rfl))
    | apply s_nil
    | apply t_norm
    | apply t_ret
    | apply w_ret
    | apply w_skip
    | (apply w_condT; exact rfl; exact rfl)
    | (apply w_condF; exact rfl; exact rfl)
    | (apply s_c TY; exact rfl; omega))
    exact lv_ret (ret1 rfl (res_tmp rfl))
  · rw [show cmpF a b = 0 by unfold cmpF; rw [if_neg c1, if_neg c2]]
    refine summW Tryz.func88 rfl rfl 23 rfl (by simp) (fun M0 => ?_)
    repeat (first
    | (apply s_a TY; exact rfl)
    | (apply s_f; exact rfl; (first | assumption | omega))
    | apply w_seq
    | apply w_region
    | (apply w_draw (id := 1) 11 rfl (by kernel_rfl))
    | apply s_nil
    | apply t_norm
    | apply w_ret
    | apply w_skip
    | (apply w_condF; exact rfl; exact rfl)
    | (apply s_c TY; exact rfl; omega))
    exact lv_ret (ret1 rfl (res_tmp rfl))
end Go.Proofs.YtenkgipcblfocaaGreat
namespace Go.Proofs.YtenkgipcblfocaaGreat
open Go Go.RowKit Go.Proofs Go.Shelf Go.Ab
structure CelsOk (cs : List Cel) : Prop where
  len : cs.length ≤ 96
  each : ∀ i (hi : i < cs.length), (1 ≤ cs[i].count ∧ cs[i].count ≤ 12) ∧ (0 ≤ cs[i].index ∧ cs[i].index < cs[i].count) ∧ 0 ≤ cs[i].ring ∧ cs[i].ring ≤ 8
  same : ∀ i j (hi : i < cs.length) (hj : j < cs.length), cs[i].ring = cs[j].ring → cs[i].count = cs[j].count
theorem mul_bdC {x y : Int} (hx : 0 ≤ x ∧ x ≤ 12) (hy : 0 ≤ y ∧ y ≤ 12) : 0 ≤ x * y ∧ x * y ≤ 144 :=
  ⟨Int.mul_nonneg hx.1 hy.1, Int.le_trans (Int.mul_le_mul hx.2 hy.2 hy.1 (by omega)) (by decide)⟩
theorem skyC_cels {rs : List Int} (o : SkyOk rs) : CelsOk (skyC rs) := by
  have hb := skyC_bd o
  refine ⟨hb.2, fun i hi => ?_, fun i j hi hj he => ?_⟩
  case refine_2 =>
    obtain ⟨h1, h2, -, -⟩ := ring_at o hi
    obtain ⟨k1, k2, -, -⟩ := ring_at o hj
    rw [h2, k2] at he ⊢
    have e : ringZ rs i = ringZ rs j := by have : ((ringZ rs i : Nat) : Int) = (ringZ rs j : Nat) := he; omega
    show rs.getD (ringZ rs i) default = rs.getD (ringZ rs j) default
    rw [e]
  obtain ⟨h1, h2, h3, h4⟩ := ring_at o hi
  have hr := o.ring _ h1
  have hl := o.len
  rw [h2]
  refine ⟨hr, ⟨h3, h4⟩, ?_, ?_⟩
  · show (0 : Int) ≤ (ringZ rs i : Nat); omega
  · show ((ringZ rs i : Nat) : Int) ≤ 8; omega
set_option maxRecDepth 100000 in
set_option maxHeartbeats 3200000 in
theorem near_s (cs : List Cel) (o : CelsOk cs) (a b : Nat) (ha : a < cs.length) (hb : b < cs.length) : Summ Tryz.prog GG 126 [xF cs, iv ((a : Nat) : Int), iv ((b : Nat) : Int)] (bv (nearC a b cs[a] cs[b])) := by
  have hl := o.len
  obtain ⟨a1, a2, a3⟩ := o.each a ha
  obtain ⟨b1, b2, b3⟩ := o.each b hb
  have hca : cs[a].count ≠ 0 := by omega
  have m1 := mul_bdC (x := cs[a].index) (y := cs[b].count) (by omega) (by omega)
  have m2 := mul_bdC (x := cs[b].index + 1) (y := cs[a].count) (by omega) (by omega)
  have m3 := mul_bdC (x := cs[b].index) (y := cs[a].count) (by omega) (by omega)
  have hcc := o.same a b ha hb
  have m4 := mul_bdC (x := cs[a].index + 1) (y := cs[b].count) (by omega) (by omega)
  by_cases hab : (a : Int) = b
  · have hv : nearC a b cs[a] cs[b] = false := by
      unfold nearC
      rw [if_pos hab]
    rw [hv]
    refine summW Tryz.func126 rfl rfl 82 rfl (by simp) (fun M0 => ?_)
    repeat (first
    | (apply s_a TY; exact rfl)
    | (apply s_t; exact rfl; (first | assumption | omega))
    | apply w_seq
    | apply w_region
    | (apply w_draw1 (id := 1) 10 rfl (by kernel_rfl); exact rfl; kernel_rfl)
    | (apply s_allocB TY (d := some 7); exact rfl; exact rfl; exact rfl)
    | (apply s_sto TY; exact rfl; exact rfl; exact rfl; exact rfl; exact rfl; exact rfl; exact rfl)
    | apply s_nil
    | apply t_norm
    | apply t_ret
    | apply k_ret
    | apply w_block
    | apply w_ret
    | (apply w_condT; exact rfl; exact rfl)
    | (apply s_c TY; exact rfl; (first | omega | exact ⟨by omega, by (first | with_reducible assumption | ((with_reducible apply celsF_ne); omega) | assumption)⟩))
    | (apply s_m TY; exact rfl; (first | with_reducible assumption | ((with_reducible apply celsF_sub); omega) | exact rfl); exact rfl)
    | (apply s_alloc TY; exact rfl; exact rfl; exact rfl)
    | (apply s_store TY; exact rfl; exact rfl; exact rfl; exact rfl; exact rfl; exact rfl))
    exact lv_ret (ret1 rfl (res_tmp rfl))
  · by_cases hr : cs[a].ring = cs[b].ring
    · by_cases h1 : (cs[a].index - cs[b].index + cs[a].count) % cs[a].count = 1
      · have hv : nearC a b cs[a] cs[b] = true := by
          unfold nearC
          rw [if_neg hab, if_pos hr]
          rw [decide_eq_true h1]; rfl
        rw [hv]
        have hcc := hcc hr
        refine summW Tryz.func126 rfl rfl 82 rfl (by simp) (fun M0 => ?_)
        repeat (first
    | (apply s_a TY; exact rfl)
    | (apply s_t; exact rfl; (first | assumption | omega))
    | (apply s_f; exact rfl; (first | assumption | omega))
    | apply w_seq
    | apply w_region
    | (apply w_draw1 (id := 1) 10 rfl (by kernel_rfl); exact rfl; kernel_rfl)
    | (apply s_allocB TY (d := some 7); exact rfl; exact rfl; exact rfl)
    | (apply s_sto TY; exact rfl; exact rfl; exact rfl; exact rfl; exact rfl; exact rfl; exact rfl)
    | apply s_nil
    | apply t_norm
    | apply t_ret
    | apply k_ret
    | apply w_block
    | apply w_ret
    | (apply w_condT; exact rfl; exact rfl)
    | (apply w_condF; exact rfl; exact rfl)
    | (apply s_s; exact rfl)
    | (apply s_c TY; exact rfl; (first | omega | exact ⟨by omega, by (first | with_reducible assumption | ((with_reducible apply celsF_ne); omega) | assumption)⟩))
    | (apply s_m TY; exact rfl; (first | with_reducible assumption | ((with_reducible apply celsF_sub); omega) | exact rfl); exact rfl)
    | (apply s_alloc TY; exact rfl; exact rfl; exact rfl)
    | (apply s_store TY; exact rfl; exact rfl; exact rfl; exact rfl; exact rfl; exact rfl))
        exact lv_ret (ret1 rfl (res_tmp rfl))
      · by_cases h2 : (cs[a].index - cs[b].index + cs[a].count) % cs[a].count = cs[a].count - 1
        · have hv : nearC a b cs[a] cs[b] = true := by
            unfold nearC
            rw [if_neg hab, if_pos hr]
            rw [decide_eq_true h2, Bool.or_true]
          rw [hv]
          have hcc := hcc hr
          refine summW Tryz.func126 rfl rfl 82 rfl (by simp) (fun M0 => ?_)
          repeat (first
    | (apply s_a TY; exact rfl)
    | (apply s_t; exact rfl; (first | assumption | omega))
    | (apply s_f; exact rfl; (first | assumption | omega))
    | apply w_seq
    | apply w_region
    | (apply w_draw1 (id := 1) 10 rfl (by kernel_rfl); exact rfl; kernel_rfl)
    | (apply s_allocB TY (d := some 7); exact rfl; exact rfl; exact rfl)
    | (apply s_sto TY; exact rfl; exact rfl; exact rfl; exact rfl; exact rfl; exact rfl; exact rfl)
    | apply s_nil
    | apply t_norm
    | apply t_ret
    | apply k_ret
    | apply w_block
    | apply w_ret
    | (apply w_condT; exact rfl; exact rfl)
    | (apply w_condF; exact rfl; exact rfl)
    | (apply s_c TY; exact rfl; (first | omega | exact ⟨by omega, by (first | with_reducible assumption | ((with_reducible apply celsF_ne); omega) | assumption)⟩))
    | (apply s_m TY; exact rfl; (first | with_reducible assumption | ((with_reducible apply celsF_sub); omega) | exact rfl); exact rfl)
    | (apply s_alloc TY; exact rfl; exact rfl; exact rfl)
    | (apply s_store TY; exact rfl; exact rfl; exact rfl; exact rfl; exact rfl; exact rfl))
          exact lv_ret (ret1 rfl (res_tmp rfl))
        · have hv : nearC a b cs[a] cs[b] = false := by
            unfold nearC
            rw [if_neg hab, if_pos hr]
            rw [decide_eq_false h1, decide_eq_false h2]; rfl
          rw [hv]
          have hcc := hcc hr
          refine summW Tryz.func126 rfl rfl 82 rfl (by simp) (fun M0 => ?_)
          repeat (first
    | (apply s_a TY; exact rfl)
    | (apply s_t; exact rfl; (first | assumption | omega))
    | (apply s_f; exact rfl; (first | assumption | omega))
    | apply w_seq
    | apply w_region
    | (apply w_draw1 (id := 1) 10 rfl (by kernel_rfl); exact rfl; kernel_rfl)
    | (apply s_allocB TY (d := some 7); exact rfl; exact rfl; exact rfl)
    | (apply s_sto TY; exact rfl; exact rfl; exact rfl; exact rfl; exact rfl; exact rfl; exact rfl)
    | apply s_nil
    | apply t_norm
    | apply t_ret
    | apply k_ret
    | apply w_block
    | apply w_ret
    | (apply w_condT; exact rfl; exact rfl)
    | (apply w_condF; exact rfl; exact rfl)
    | (apply s_c TY; exact rfl; (first | omega | exact ⟨by omega, by (first | with_reducible assumption | ((with_reducible apply celsF_ne); omega) | assumption)⟩))
    | (apply s_m TY; exact rfl; (first | with_reducible assumption | ((with_reducible apply celsF_sub); omega) | exact rfl); exact rfl)
    | (apply s_alloc TY; exact rfl; exact rfl; exact rfl)
    | (apply s_store TY; exact rfl; exact rfl; exact rfl; exact rfl; exact rfl; exact rfl))
          exact lv_ret (ret1 rfl (res_tmp rfl))
    · by_cases hw : -1 ≤ cs[a].ring - cs[b].ring ∧ cs[a].ring - cs[b].ring ≤ 1
      · by_cases hp : cs[a].index * cs[b].count < (cs[b].index + 1) * cs[a].count
        · by_cases hq : cs[b].index * cs[a].count < (cs[a].index + 1) * cs[b].count
          · have hv : nearC a b cs[a] cs[b] = true := by
              unfold nearC
              rw [if_neg hab, if_neg hr]
              rw [decide_eq_true hw.1, decide_eq_true hw.2, decide_eq_true hp, decide_eq_true hq]; rfl
            rw [hv]
            refine summW Tryz.func126 rfl rfl 82 rfl (by simp) (fun M0 => ?_)
            repeat (first
    | (apply s_a TY; exact rfl)
    | (apply s_t; exact rfl; (first | assumption | omega))
    | (apply s_f; exact rfl; (first | assumption | omega))
    | apply w_seq
    | apply w_region
    | (apply w_draw1 (id := 1) 10 rfl (by kernel_rfl); exact rfl; kernel_rfl)
    | (apply s_allocB TY (d := some 7); exact rfl; exact rfl; exact rfl)
    | (apply s_sto TY; exact rfl; exact rfl; exact rfl; exact rfl; exact rfl; exact rfl; exact rfl)
    | apply s_nil
    | apply t_norm
    | apply k_norm
    | apply w_block
    | apply w_ret
    | apply w_skip
    | (apply w_condF; exact rfl; exact rfl)
    | (apply s_k1 (within_T _ _ _); exact rfl; (first | assumption | omega | decide))
    | (apply s_c TY; exact rfl; (first | omega | exact ⟨by omega, by (first | with_reducible assumption | ((with_reducible apply celsF_ne); omega) | assumption)⟩))
    | (apply s_m TY; exact rfl; (first | with_reducible assumption | ((with_reducible apply celsF_sub); omega) | exact rfl); exact rfl)
    | (apply s_alloc TY; exact rfl; exact rfl; exact rfl)
    | (apply s_store TY; exact rfl; exact rfl; exact rfl; exact rfl; exact rfl; exact rfl))
            exact lv_ret (ret1 rfl (res_tmp rfl))
          · have hv : nearC a b cs[a] cs[b] = false := by
              unfold nearC
              rw [if_neg hab, if_neg hr]
              rw [decide_eq_false hq, Bool.and_false]
            rw [hv]
            refine summW Tryz.func126 rfl rfl 82 rfl (by simp) (fun M0 => ?_)
            repeat (first
    | (apply s_a TY; exact rfl)
    | (apply s_t; exact rfl; (first | assumption | omega))
    | (apply s_f; exact rfl; (first | assumption | omega))
    | apply w_seq
    | apply w_region
    | (apply w_draw1 (id := 1) 10 rfl (by kernel_rfl); exact rfl; kernel_rfl)
    | (apply s_allocB TY (d := some 7); exact rfl; exact rfl; exact rfl)
    | (apply s_sto TY; exact rfl; exact rfl; exact rfl; exact rfl; exact rfl; exact rfl; exact rfl)
    | apply s_nil
    | apply t_norm
    | apply k_norm
    | apply w_block
    | apply w_ret
    | apply w_skip
    | (apply w_condF; exact rfl; exact rfl)
    | (apply s_k1 (within_T _ _ _); exact rfl; (first | assumption | omega | decide))
    | (apply s_c TY; exact rfl; (first | omega | exact ⟨by omega, by (first | with_reducible assumption | ((with_reducible apply celsF_ne); omega) | assumption)⟩))
    | (apply s_m TY; exact rfl; (first | with_reducible assumption | ((with_reducible apply celsF_sub); omega) | exact rfl); exact rfl)
    | (apply s_alloc TY; exact rfl; exact rfl; exact rfl)
    | (apply s_store TY; exact rfl; exact rfl; exact rfl; exact rfl; exact rfl; exact rfl))
            exact lv_ret (ret1 rfl (res_tmp rfl))
        · have hv : nearC a b cs[a] cs[b] = false := by
            unfold nearC
            rw [if_neg hab, if_neg hr]
            rw [decide_eq_false hp, Bool.and_false, Bool.false_and]
          rw [hv]
          refine summW Tryz.func126 rfl rfl 82 rfl (by simp) (fun M0 => ?_)
          repeat (first
    | (apply s_a TY; exact rfl)
    | (apply s_f; exact rfl; (first | assumption | omega))
    | apply w_seq
    | apply w_region
    | (apply w_draw1 (id := 1) 10 rfl (by kernel_rfl); exact rfl; kernel_rfl)
    | (apply s_allocB TY (d := some 7); exact rfl; exact rfl; exact rfl)
    | (apply s_sto TY; exact rfl; exact rfl; exact rfl; exact rfl; exact rfl; exact rfl; exact rfl)
    | apply s_nil
    | apply t_norm
    | apply k_norm
    | apply w_block
    | apply w_ret
    | apply w_skip
    | (apply w_condF; exact rfl; exact rfl)
    | (apply s_k1 (within_T _ _ _); exact rfl; (first | assumption | omega | decide))
    | (apply s_s; exact rfl)
    | (apply s_c TY; exact rfl; (first | omega | exact ⟨by omega, by (first | with_reducible assumption | ((with_reducible apply celsF_ne); omega) | assumption)⟩))
    | (apply s_m TY; exact rfl; (first | with_reducible assumption | ((with_reducible apply celsF_sub); omega) | exact rfl); exact rfl)
    | (apply s_alloc TY; exact rfl; exact rfl; exact rfl)
    | (apply s_store TY; exact rfl; exact rfl; exact rfl; exact rfl; exact rfl; exact rfl))
          exact lv_ret (ret1 rfl (res_tmp rfl))
      · have hv : nearC a b cs[a] cs[b] = false := by
          unfold nearC
          rw [if_neg hab, if_neg hr]
          rw [show (decide (-1 ≤ cs[a].ring - cs[b].ring) && decide (cs[a].ring - cs[b].ring ≤ 1)) = false by simp only [Bool.and_eq_false_iff, decide_eq_false_iff_not]; omega]; rfl
        rw [hv]
        refine summW Tryz.func126 rfl rfl 82 rfl (by simp) (fun M0 => ?_)
        repeat (first
    | (apply s_a TY; exact rfl)
    | (apply s_f; exact rfl; (first | assumption | omega))
    | apply w_seq
    | apply w_region
    | (apply w_draw1 (id := 1) 10 rfl (by kernel_rfl); exact rfl; kernel_rfl)
    | (apply s_allocB TY (d := some 7); exact rfl; exact rfl; exact rfl)
    | (apply s_sto TY; exact rfl; exact rfl; exact rfl; exact rfl; exact rfl; exact rfl; exact rfl)
    | apply s_nil
    | apply t_norm
    | apply k_norm
    | apply w_block
    | apply w_ret
    | apply w_skip
    | (apply w_condF; exact rfl; exact rfl)
    | (apply s_k1 (within_F _ _ _); exact rfl; (first | assumption | omega | decide))
    | (apply s_s; exact rfl)
    | (apply s_c TY; exact rfl; (first | omega | exact ⟨by omega, by (first | with_reducible assumption | ((with_reducible apply celsF_ne); omega) | assumption)⟩))
    | (apply s_m TY; exact rfl; (first | with_reducible assumption | ((with_reducible apply celsF_sub); omega) | exact rfl); exact rfl)
    | (apply s_alloc TY; exact rfl; exact rfl; exact rfl)
    | (apply s_store TY; exact rfl; exact rfl; exact rfl; exact rfl; exact rfl; exact rfl))
        exact lv_ret (ret1 rfl (res_tmp rfl))
end Go.Proofs.YtenkgipcblfocaaGreat
namespace Go.Ab
open Go Go.RowKit Go.Shelf Go.Proofs
section
variable {C : Ctx} {N : Nat} {st : St}
theorem agg_parts {P : Program} {T n : Nat} (h : aggN P T = some n) (w : World) : (isAgg T).run P w = .ok true w ∧ (sizeOf T).run P w = .ok n w := by
  unfold aggN at h
  cases hu : P.underlying T with
  | none => simp [hu] at h
  | some d =>
    cases hi : P.info? T with
    | none => cases d <;> simp [hu, hi] at h
    | some i =>
      have hs : i.size = n := by cases d <;> simp_all
      constructor
      · cases d <;> simp_all [isAgg, Sem.run_pure, run_underlying hu]
      · simp [sizeOf, typeInfo, hi, hs]
theorem v_fieldS {o : Oper} {T f n : Nat} {fs : Array Field} {fd : Field} {x : Operand} {cs sub : List FV} (ty : Ty C.P) (ho : o.op = .field T x f) (hd : dstB N o.dst = true) (hu : C.P.underlying T = some (.struct fs)) (hf : fs[f]? = some fd) (hE : (ty.ty fd.type).agg = some n) (hx : st.ev C x = .f (.agg cs)) (hc : (cs.drop fd.offset).take n = sub) : ValOp C N o st (.f (.agg sub)) :=
  valop_run hd fun w0 a w J st' hA S => by
    subst hc
    have e1 := evF S ((hA.ev x (by simp [ho, Op.operands])).trans hx)
    obtain ⟨p1, p2⟩ := agg_parts ((ty.ok fd.type).agg n hE) w
    generalize hxv : a.eval x = xv at e1
    cases e1 with
    | agg _ us h1 h2 h3 =>
      have R : RepL w (Mb C st'.h J) us cs := ⟨h1, h3⟩
      have R2 := RepL.take (RepL.drop R fd.offset) n
      refine ⟨.agg ((us.drop fd.offset).take n).toArray, w, ?_, Ext.refl _, RepF.agg _ _ R2.1 (fun u hu => h2 u (List.mem_of_mem_drop (List.mem_of_mem_take hu))) R2.2⟩
      have e : us.toArray.extract fd.offset (fd.offset + n) = ((us.drop fd.offset).take n).toArray := by
        rw [List.extract_toArray]; simp
      simp [execOp, ho, hxv, Instr.field, run_underlying hu, hf, asAgg, part, p1, p2]
variable {ops : Array Oper} {pr : Bool} {K : St → Prop} {rest : List Oper} {d : Option Tmp} {T0 : TypeId} {pos : String} {af : Array Edge} {g : Option (Nat × Bool)}
theorem s_fieldS (ty : Ty C.P) {T f n : Nat} {fs : Array Field} {fd : Field} {x : Operand} {cs sub : List FV} (hu : C.P.underlying T = some (.struct fs)) (hw : wantB st ops ⟨d, .field T x f, T0, pos, af, g⟩ = some true) (hd : dstB N d = true) (hf : fs[f]? = some fd) (hE : (ty.ty fd.type).agg = some n) (hx : st.ev C x = .f (.agg cs)) (hc : (cs.drop fd.offset).take n = sub)
    (h : R C N ops pr K rest (st.put d (.f (.agg sub)))) : R C N ops pr K (⟨d, .field T x f, T0, pos, af, g⟩ :: rest) st := ⟨r_val hw (v_fieldS ty rfl hd hu hf hE hx hc) h.out⟩
end
end Go.Ab
namespace Go.Proofs.YtenkgipcblfocaaGreat
open Go Go.RowKit Go.Proofs Go.Shelf Go.Ab
theorem ringZ_bd {rs : List Int} (o : SkyOk rs) {n : Nat} (hn : (n : Int) < befK rs rs.length) : ringZ rs n < rs.length ∧ befK rs (ringZ rs n) ≤ n ∧ (n : Int) < befK rs (ringZ rs n + 1) ∧ befK rs (ringZ rs n + 1) = befK rs (ringZ rs n) + rs.getD (ringZ rs n) default := by
  have hl := skyC_len o
  obtain ⟨h1, -, h3, h4⟩ := ring_at o (n := n) (by omega)
  have e : befK rs (ringZ rs n + 1) = befK rs (ringZ rs n) + rs.getD (ringZ rs n) default := rfl
  exact ⟨h1, by omega, by omega, e⟩
set_option maxRecDepth 100000 in
theorem Ring_s (rs : List Int) (o : SkyOk rs) (n : Nat) (hn : (n : Int) < befK rs rs.length) : Summ Tryz.prog GG 136 [skF rs, iv ((n : Nat) : Int)] (.tup [iv ((ringZ rs n : Nat) : Int), iv ((n : Int) - befK rs (ringZ rs n))]) := by
  obtain ⟨h1, h2, h3, h4⟩ := ringZ_bd o hn
  have hlen := o.len
  have hr := o.ring _ h1
  generalize ringZ rs n = R at *
  refine summW Tryz.func136 rfl rfl 21 rfl (by simp) (fun M0 => ?_)
  repeat (first
    | (apply s_a TY; exact rfl)
    | apply w_seq
    | apply w_region
    | apply s_nil
    | apply t_norm
    | apply w_block)
  apply w_loop (fun k : Nat => ⟨(Ab.upd (Ab.upd (Ab.upd (fun _ => .bot) 1 (.f (iv ((n : Nat) : Int)))) 2 (.f (.pt [.sl rs.length (intsF rs)] 0))) 6 (.f (iv (k : Nat)))), (fun _ => none), 0⟩) (fun k => k ≤ R) (fun k => R - k) 0 (Nat.zero_le _) (gh_le ⟨le_upd rfl trivial (le_upd rfl trivial (le_upd rfl trivial (le_nil _))), le_h0 _ _⟩)
  intro k hk
  have HB := Before_s rs (k + 1) o (by omega)
  have e : ((k + 1 : Nat) : Int) = (k : Int) + 1 := rfl
  rw [e] at HB
  by_cases hc : k < R
  · have hle := befK_le o (j := k + 1) (k := R) (by omega) (by omega)
    repeat (first
    | (apply s_a TY; exact rfl)
    | (apply s_t; exact rfl; (first | assumption | omega))
    | apply w_seq
    | apply w_region
    | apply s_nil
    | apply t_norm
    | apply k_norm
    | apply w_block
    | apply w_skip
    | (apply w_condT; exact rfl; exact rfl)
    | (apply s_k (HB); exact rfl)
    | (apply s_c TY; exact rfl; omega))
    exact ⟨k + 1, by omega, by omega, gh_le ⟨le_upd rfl trivial (le_upd rfl trivial (le_upd rfl trivial (le_nil _))), le_h0 _ _⟩⟩
  · have hkR : k = R := by omega
    subst hkR
    have HB2 := Before_s rs k o (by omega)
    have hbb := befK_bd o (k := k) (by omega)
    repeat (first
    | (apply s_a TY; exact rfl)
    | (apply s_f; exact rfl; (first | assumption | omega))
    | apply w_seq
    | apply w_region
    | apply s_nil
    | apply t_norm
    | apply t_exit
    | apply k_hit
    | apply w_exit
    | apply w_ret
    | (apply w_condF; exact rfl; exact rfl)
    | (apply s_k (HB); exact rfl)
    | (apply s_k (HB2); exact rfl)
    | (apply s_c TY; exact rfl; omega))
    exact lv_ret (ret2 rfl (res_tmp rfl) (res_tmp rfl))
def cHlo (rs : List Int) (n : Nat) : Int × Int := fracZ (1000000 * (befK rs rs.length - 2 * (befK rs (ringZ rs n) + rs.getD (ringZ rs n) default))) (befK rs rs.length)
def cHhi (rs : List Int) (n : Nat) : Int × Int := fracZ (1000000 * (befK rs rs.length - 2 * befK rs (ringZ rs n))) (befK rs rs.length)
def cTlo (rs : List Int) (n : Nat) : Int × Int := fracZ (1000000 * ((n : Int) - befK rs (ringZ rs n))) (rs.getD (ringZ rs n) default)
def cThi (rs : List Int) (n : Nat) : Int × Int := fracZ (1000000 * ((n : Int) - befK rs (ringZ rs n) + 1)) (rs.getD (ringZ rs n) default)
def cornL (rs : List Int) (n : Nat) : List FV := [iv (cHlo rs n).1, iv (cHlo rs n).2, iv (cHhi rs n).1, iv (cHhi rs n).2, iv (cTlo rs n).1, iv (cTlo rs n).2, iv (cThi rs n).1, iv (cThi rs n).2]
set_option maxRecDepth 100000 in
set_option maxHeartbeats 1600000 in
theorem Corners_s (rs : List Int) (o : SkyOk rs) (n : Nat) (hn : (n : Int) < befK rs rs.length) : Summ Tryz.prog GG 78 [skF rs, iv ((n : Nat) : Int)] (.agg (cornL rs n)) := by
  obtain ⟨h1, h2, h3, h4⟩ := ringZ_bd o hn
  have hlen := o.len
  have HR := Ring_s rs o n hn
  have HC := Count_s rs o
  have HB := Before_s rs (ringZ rs n) o (by omega)
  have hbb := befK_bd o (k := ringZ rs n) (by omega)
  have hbl := befK_bd o (Nat.le_refl rs.length)
  have hle := befK_le o (j := ringZ rs n + 1) (k := rs.length) (by omega) (Nat.le_refl _)
  have hr := o.ring _ h1
  have hg := getD_at h1
  have hpos := o.pos
  have HL1 := Lowest_s (1000000 * (befK rs rs.length - 2 * (befK rs (ringZ rs n) + rs.getD (ringZ rs n) default))) (befK rs rs.length) (by omega)
  have HL2 := Lowest_s (1000000 * (befK rs rs.length - 2 * befK rs (ringZ rs n))) (befK rs rs.length) (by omega)
  have HL3 := Lowest_s (1000000 * ((n : Int) - befK rs (ringZ rs n))) (rs.getD (ringZ rs n) default) (by omega)
  have HL4 := Lowest_s (1000000 * ((n : Int) - befK rs (ringZ rs n) + 1)) (rs.getD (ringZ rs n) default) (by omega)
  unfold cornL cHlo cHhi cTlo cThi
  generalize fracZ (1000000 * (befK rs rs.length - 2 * (befK rs (ringZ rs n) + rs.getD (ringZ rs n) default))) (befK rs rs.length) = f1 at *
  generalize fracZ (1000000 * (befK rs rs.length - 2 * befK rs (ringZ rs n))) (befK rs rs.length) = f2 at *
  generalize fracZ (1000000 * ((n : Int) - befK rs (ringZ rs n))) (rs.getD (ringZ rs n) default) = f3 at *
  generalize fracZ (1000000 * ((n : Int) - befK rs (ringZ rs n) + 1)) (rs.getD (ringZ rs n) default) = f4 at *
  rw [hg] at HL1 HL3 HL4 hr h4
  refine summW Tryz.func78 rfl rfl 54 rfl (by simp) (fun M0 => ?_)
  repeat (first
    | (apply s_a TY; exact rfl)
    | apply w_seq
    | apply w_region
    | (apply w_draw (id := 2) 8 rfl (by kernel_rfl))
    | apply s_nil
    | apply t_norm
    | apply w_ret
    | (apply s_k (HR); exact rfl)
    | (apply s_k (HC); exact rfl)
    | (apply s_k (HB); exact rfl)
    | (apply s_k (HL1); exact rfl)
    | (apply s_k (HL2); exact rfl)
    | (apply s_k (HL3); exact rfl)
    | (apply s_k (HL4); exact rfl)
    | (apply s_c TY; exact rfl; (first | omega | exact ⟨by omega, by (first | with_reducible assumption | ((with_reducible apply intsF_ne); omega) | assumption)⟩))
    | (apply s_l TY; exact rfl; (first | exact rfl | with_reducible assumption | ((with_reducible apply intsF_at); omega) | assumption))
    | (apply s_alloc TY; exact rfl; exact rfl; exact rfl)
    | (apply s_store TY; exact rfl; exact rfl; exact rfl; exact rfl; exact rfl; exact rfl))
  exact lv_ret (ret1 rfl (res_bxs (sub := [iv f1.1, iv f1.2, iv f2.1, iv f2.2, iv f3.1, iv f3.2, iv f4.1, iv f4.2]) TY rfl rfl rfl rfl rfl))
end Go.Proofs.YtenkgipcblfocaaGreat
namespace Go.Proofs.YtenkgipcblfocaaGreat
open Go Go.RowKit Go.Proofs Go.Shelf Go.Ab
theorem fracZ_bd {n d : Int} (hn : 0 ≤ n) (hd : 0 < d) : (0 ≤ (fracZ n d).1 ∧ (fracZ n d).1 ≤ n) ∧ 0 < (fracZ n d).2 ∧ (fracZ n d).2 ≤ d := by
  obtain ⟨g, g0, g1, g2, g3⟩ := fracZ_spec (n := n) hd
  generalize (fracZ n d).1 = N at *
  generalize (fracZ n d).2 = D at *
  have h0 : 0 ≤ N := by
    refine Classical.byContradiction fun h => ?_
    have : g * N < 0 := Int.mul_neg_of_pos_of_neg g0 (by omega)
    omega
  have h1 : 1 * N ≤ g * N := Int.mul_le_mul_of_nonneg_right (by omega) h0
  have h2 : 1 * D ≤ g * D := Int.mul_le_mul_of_nonneg_right (by omega) (by omega)
  omega
theorem prod_bd {x y : Int} (hx : 0 ≤ x ∧ x ≤ 13000000) (hy : 0 ≤ y ∧ y ≤ 12) : -9000000000000000000 ≤ x * y ∧ x * y ≤ 9000000000000000000 := by
  have h1 := Int.mul_nonneg hx.1 hy.1
  have h2 : x * y ≤ 13000000 * 12 := Int.mul_le_mul hx.2 hy.2 hy.1 (by omega)
  omega
set_option maxRecDepth 100000 in
set_option maxHeartbeats 3200000 in
theorem Near_s (rs : List Int) (o : SkyOk rs) (a b : Nat) (ha : (a : Int) < befK rs rs.length) (hb : (b : Int) < befK rs rs.length) : Summ Tryz.prog GG 138 [skF rs, iv ((a : Nat) : Int), iv ((b : Nat) : Int)] (bv (nearR rs a b)) := by
  obtain ⟨h1a, h2a, h3a, h4a⟩ := ringZ_bd o ha
  obtain ⟨h1b, h2b, h3b, h4b⟩ := ringZ_bd o hb
  have hlen := o.len
  have hra := o.ring _ h1a
  have hrb := o.ring _ h1b
  have hba := befK_bd o (k := ringZ rs a) (by omega)
  have hbb := befK_bd o (k := ringZ rs b) (by omega)
  have HRa := Ring_s rs o a ha
  have HRb := Ring_s rs o b hb
  have HCa := Corners_s rs o a ha
  have HCb := Corners_s rs o b hb
  have ea : rs.getD (ringZ rs a) default = rs[ringZ rs a] := getD_at h1a
  have HM1 := Mod_s ((a : Int) - befK rs (ringZ rs a) - ((b : Int) - befK rs (ringZ rs b))) rs[ringZ rs a] (by omega)
  have HM2 := Mod_s ((b : Int) - befK rs (ringZ rs b) - ((a : Int) - befK rs (ringZ rs a))) rs[ringZ rs a] (by omega)
  have HS := Size_s (((ringZ rs a : Nat) : Int) - (ringZ rs b : Nat)) (by omega)
  have fa := fracZ_bd (n := 1000000 * ((a : Int) - befK rs (ringZ rs a))) (d := rs.getD (ringZ rs a) default) (by omega) (by omega)
  have ga := fracZ_bd (n := 1000000 * ((a : Int) - befK rs (ringZ rs a) + 1)) (d := rs.getD (ringZ rs a) default) (by omega) (by omega)
  have fb := fracZ_bd (n := 1000000 * ((b : Int) - befK rs (ringZ rs b))) (d := rs.getD (ringZ rs b) default) (by omega) (by omega)
  have gb := fracZ_bd (n := 1000000 * ((b : Int) - befK rs (ringZ rs b) + 1)) (d := rs.getD (ringZ rs b) default) (by omega) (by omega)
  have HF1 := Cmp_s (cTlo rs a) (cThi rs b) (prod_bd (by unfold cTlo; omega) (by unfold cThi; omega)) (prod_bd (by unfold cThi; omega) (by unfold cTlo; omega))
  have HF2 := Cmp_s (cTlo rs b) (cThi rs a) (prod_bd (by unfold cTlo; omega) (by unfold cThi; omega)) (prod_bd (by unfold cThi; omega) (by unfold cTlo; omega))
  by_cases hab : (a : Int) = b
  · have hv : nearR rs a b = false := by
      unfold nearR
      simp only
      rw [if_pos hab]
    rw [hv]
    refine summW Tryz.func138 rfl rfl 82 rfl (by simp) (fun M0 => ?_)
    repeat (first
    | (apply s_a TY; exact rfl)
    | (apply s_t; exact rfl; (first | assumption | omega))
    | apply w_seq
    | apply w_region
    | apply s_nil
    | apply t_norm
    | apply t_ret
    | apply w_ret
    | (apply w_condT; exact rfl; exact rfl))
    exact lv_ret (ret1 rfl (res_tmp rfl))
  · by_cases hr : ringZ rs a = ringZ rs b
    · by_cases h1 : ((a : Int) - befK rs (ringZ rs a) - ((b : Int) - befK rs (ringZ rs b))) % rs[ringZ rs a] = 1
      · have hv : nearR rs a b = true := by
          unfold nearR
          simp only
          rw [if_neg hab, if_pos hr, modB_eq (by omega), modB_eq (by omega), getD_at h1a]
          rw [decide_eq_true h1]; rfl
        rw [hv]
        refine summW Tryz.func138 rfl rfl 82 rfl (by simp) (fun M0 => ?_)
        repeat (first
    | (apply s_a TY; exact rfl)
    | (apply s_t; exact rfl; (first | assumption | omega))
    | (apply s_f; exact rfl; (first | assumption | omega))
    | apply w_seq
    | apply w_region
    | apply s_nil
    | apply t_norm
    | apply t_ret
    | apply w_ret
    | apply w_skip
    | (apply w_condT; exact rfl; exact rfl)
    | (apply w_condF; exact rfl; exact rfl)
    | (apply s_k (HRa); exact rfl)
    | (apply s_k (HRb); exact rfl)
    | (apply s_k (HM1); exact rfl)
    | (apply s_s; exact rfl)
    | (apply s_c TY; exact rfl; (first | omega | exact ⟨by omega, by (first | with_reducible assumption | ((with_reducible apply intsF_ne); omega) | assumption)⟩))
    | (apply s_l TY; exact rfl; (first | exact rfl | with_reducible assumption | ((with_reducible apply intsF_at); omega) | assumption)))
        exact lv_ret (ret1 rfl (res_tmp rfl))
      · by_cases h2 : ((b : Int) - befK rs (ringZ rs b) - ((a : Int) - befK rs (ringZ rs a))) % rs[ringZ rs a] = 1
        · have hv : nearR rs a b = true := by
            unfold nearR
            simp only
            rw [if_neg hab, if_pos hr, modB_eq (by omega), modB_eq (by omega), getD_at h1a]
            rw [decide_eq_true h2, Bool.or_true]
          rw [hv]
          refine summW Tryz.func138 rfl rfl 82 rfl (by simp) (fun M0 => ?_)
          repeat (first
    | (apply s_a TY; exact rfl)
    | (apply s_t; exact rfl; (first | assumption | omega))
    | (apply s_f; exact rfl; (first | assumption | omega))
    | apply w_seq
    | apply w_region
    | apply s_nil
    | apply t_norm
    | apply t_ret
    | apply w_ret
    | apply w_skip
    | (apply w_condT; exact rfl; exact rfl)
    | (apply w_condF; exact rfl; exact rfl)
    | (apply s_k (HRa); exact rfl)
    | (apply s_k (HRb); exact rfl)
    | (apply s_k (HM1); exact rfl)
    | (apply s_k (HM2); exact rfl)
    | (apply s_c TY; exact rfl; (first | omega | exact ⟨by omega, by (first | with_reducible assumption | ((with_reducible apply intsF_ne); omega) | assumption)⟩))
    | (apply s_l TY; exact rfl; (first | exact rfl | with_reducible assumption | ((with_reducible apply intsF_at); omega) | assumption)))
          exact lv_ret (ret1 rfl (res_tmp rfl))
        · have hv : nearR rs a b = false := by
            unfold nearR
            simp only
            rw [if_neg hab, if_pos hr, modB_eq (by omega), modB_eq (by omega), getD_at h1a]
            rw [decide_eq_false h1, decide_eq_false h2]; rfl
          rw [hv]
          refine summW Tryz.func138 rfl rfl 82 rfl (by simp) (fun M0 => ?_)
          repeat (first
    | (apply s_a TY; exact rfl)
    | (apply s_t; exact rfl; (first | assumption | omega))
    | (apply s_f; exact rfl; (first | assumption | omega))
    | apply w_seq
    | apply w_region
    | apply s_nil
    | apply t_norm
    | apply t_ret
    | apply w_ret
    | apply w_skip
    | (apply w_condT; exact rfl; exact rfl)
    | (apply w_condF; exact rfl; exact rfl)
    | (apply s_k (HRa); exact rfl)
    | (apply s_k (HRb); exact rfl)
    | (apply s_k (HM1); exact rfl)
    | (apply s_k (HM2); exact rfl)
    | (apply s_c TY; exact rfl; (first | omega | exact ⟨by omega, by (first | with_reducible assumption | ((with_reducible apply intsF_ne); omega) | assumption)⟩))
    | (apply s_l TY; exact rfl; (first | exact rfl | with_reducible assumption | ((with_reducible apply intsF_at); omega) | assumption)))
          exact lv_ret (ret1 rfl (res_tmp rfl))
    · by_cases hw : max (((ringZ rs a : Nat) : Int) - (ringZ rs b : Nat)) (-(((ringZ rs a : Nat) : Int) - (ringZ rs b : Nat))) = 1
      · by_cases hp : cmpF (cTlo rs a) (cThi rs b) < 0
        · by_cases hq : cmpF (cTlo rs b) (cThi rs a) < 0
          · have hv : nearR rs a b = true := by
              unfold nearR
              simp only
              rw [if_neg hab, if_neg hr]
              show (decide (max (((ringZ rs a : Nat) : Int) - (ringZ rs b : Nat)) (-(((ringZ rs a : Nat) : Int) - (ringZ rs b : Nat))) = 1) && decide ((cTlo rs a).1 * (cThi rs b).2 < (cThi rs b).1 * (cTlo rs a).2) && decide ((cTlo rs b).1 * (cThi rs a).2 < (cThi rs a).1 * (cTlo rs b).2)) = true
              rw [decide_eq_true hw, decide_eq_true (cmpF_lt.1 hp), decide_eq_true (cmpF_lt.1 hq)]; rfl
            rw [hv]
            refine summW Tryz.func138 rfl rfl 82 rfl (by simp) (fun M0 => ?_)
            repeat (first
    | (apply s_fieldS TY Tryz.underlying128; exact rfl; exact rfl; exact rfl; exact rfl; exact rfl; exact rfl)
    | (apply s_a TY; exact rfl)
    | (apply s_t; exact rfl; (first | assumption | omega))
    | (apply s_f; exact rfl; (first | assumption | omega))
    | apply w_seq
    | apply w_region
    | (apply w_draw1 (id := 7) 10 rfl (by kernel_rfl); exact rfl; kernel_rfl)
    | (apply s_allocB TY (d := some 11); exact rfl; exact rfl; exact rfl)
    | (apply s_sto TY; exact rfl; exact rfl; exact rfl; exact rfl; exact rfl; exact rfl; exact rfl)
    | apply s_nil
    | apply t_norm
    | apply w_ret
    | apply w_skip
    | (apply w_condF; exact rfl; exact rfl)
    | (apply s_k (HRa); exact rfl)
    | (apply s_k (HRb); exact rfl)
    | (apply s_k (HCa); exact rfl)
    | (apply s_k (HCb); exact rfl)
    | (apply s_k (HS); exact rfl)
    | (apply s_k (HF1); exact rfl)
    | (apply s_k (HF2); exact rfl)
    | (apply s_c TY; exact rfl; (first | omega | exact ⟨by omega, by (first | with_reducible assumption | ((with_reducible apply intsF_ne); omega) | assumption)⟩))
    | (apply s_alloc TY; exact rfl; exact rfl; exact rfl)
    | (apply s_store TY; exact rfl; exact rfl; exact rfl; exact rfl; exact rfl; exact rfl))
            exact lv_ret (ret1 rfl (res_tmp rfl))
          · have hv : nearR rs a b = false := by
              unfold nearR
              simp only
              rw [if_neg hab, if_neg hr]
              show (decide (max (((ringZ rs a : Nat) : Int) - (ringZ rs b : Nat)) (-(((ringZ rs a : Nat) : Int) - (ringZ rs b : Nat))) = 1) && decide ((cTlo rs a).1 * (cThi rs b).2 < (cThi rs b).1 * (cTlo rs a).2) && decide ((cTlo rs b).1 * (cThi rs a).2 < (cThi rs a).1 * (cTlo rs b).2)) = false
              rw [decide_eq_false (fun h => hq (cmpF_lt.2 h)), Bool.and_false]
            rw [hv]
            refine summW Tryz.func138 rfl rfl 82 rfl (by simp) (fun M0 => ?_)
            repeat (first
    | (apply s_fieldS TY Tryz.underlying128; exact rfl; exact rfl; exact rfl; exact rfl; exact rfl; exact rfl)
    | (apply s_a TY; exact rfl)
    | (apply s_t; exact rfl; (first | assumption | omega))
    | (apply s_f; exact rfl; (first | assumption | omega))
    | apply w_seq
    | apply w_region
    | (apply w_draw1 (id := 7) 10 rfl (by kernel_rfl); exact rfl; kernel_rfl)
    | (apply s_allocB TY (d := some 11); exact rfl; exact rfl; exact rfl)
    | (apply s_sto TY; exact rfl; exact rfl; exact rfl; exact rfl; exact rfl; exact rfl; exact rfl)
    | apply s_nil
    | apply t_norm
    | apply w_ret
    | apply w_skip
    | (apply w_condF; exact rfl; exact rfl)
    | (apply s_k (HRa); exact rfl)
    | (apply s_k (HRb); exact rfl)
    | (apply s_k (HCa); exact rfl)
    | (apply s_k (HCb); exact rfl)
    | (apply s_k (HS); exact rfl)
    | (apply s_k (HF1); exact rfl)
    | (apply s_k (HF2); exact rfl)
    | (apply s_c TY; exact rfl; (first | omega | exact ⟨by omega, by (first | with_reducible assumption | ((with_reducible apply intsF_ne); omega) | assumption)⟩))
    | (apply s_alloc TY; exact rfl; exact rfl; exact rfl)
    | (apply s_store TY; exact rfl; exact rfl; exact rfl; exact rfl; exact rfl; exact rfl))
            exact lv_ret (ret1 rfl (res_tmp rfl))
        · have hv : nearR rs a b = false := by
            unfold nearR
            simp only
            rw [if_neg hab, if_neg hr]
            show (decide (max (((ringZ rs a : Nat) : Int) - (ringZ rs b : Nat)) (-(((ringZ rs a : Nat) : Int) - (ringZ rs b : Nat))) = 1) && decide ((cTlo rs a).1 * (cThi rs b).2 < (cThi rs b).1 * (cTlo rs a).2) && decide ((cTlo rs b).1 * (cThi rs a).2 < (cThi rs a).1 * (cTlo rs b).2)) = false
            rw [decide_eq_false (fun h => hp (cmpF_lt.2 h)), Bool.and_false, Bool.false_and]
          rw [hv]
          refine summW Tryz.func138 rfl rfl 82 rfl (by simp) (fun M0 => ?_)
          repeat (first
    | (apply s_fieldS TY Tryz.underlying128; exact rfl; exact rfl; exact rfl; exact rfl; exact rfl; exact rfl)
    | (apply s_a TY; exact rfl)
    | (apply s_t; exact rfl; (first | assumption | omega))
    | (apply s_f; exact rfl; (first | assumption | omega))
    | apply w_seq
    | apply w_region
    | (apply w_draw1 (id := 7) 10 rfl (by kernel_rfl); exact rfl; kernel_rfl)
    | (apply s_allocB TY (d := some 11); exact rfl; exact rfl; exact rfl)
    | (apply s_sto TY; exact rfl; exact rfl; exact rfl; exact rfl; exact rfl; exact rfl; exact rfl)
    | apply s_nil
    | apply t_norm
    | apply w_ret
    | apply w_skip
    | (apply w_condF; exact rfl; exact rfl)
    | (apply s_k (HRa); exact rfl)
    | (apply s_k (HRb); exact rfl)
    | (apply s_k (HCa); exact rfl)
    | (apply s_k (HCb); exact rfl)
    | (apply s_k (HS); exact rfl)
    | (apply s_k (HF1); exact rfl)
    | (apply s_s; exact rfl)
    | (apply s_c TY; exact rfl; (first | omega | exact ⟨by omega, by (first | with_reducible assumption | ((with_reducible apply intsF_ne); omega) | assumption)⟩))
    | (apply s_alloc TY; exact rfl; exact rfl; exact rfl)
    | (apply s_store TY; exact rfl; exact rfl; exact rfl; exact rfl; exact rfl; exact rfl))
          exact lv_ret (ret1 rfl (res_tmp rfl))
      · have hv : nearR rs a b = false := by
          unfold nearR
          simp only
          rw [if_neg hab, if_neg hr]
          show (decide (max (((ringZ rs a : Nat) : Int) - (ringZ rs b : Nat)) (-(((ringZ rs a : Nat) : Int) - (ringZ rs b : Nat))) = 1) && decide ((cTlo rs a).1 * (cThi rs b).2 < (cThi rs b).1 * (cTlo rs a).2) && decide ((cTlo rs b).1 * (cThi rs a).2 < (cThi rs a).1 * (cTlo rs b).2)) = false
          rw [decide_eq_false hw]; rfl
        rw [hv]
        refine summW Tryz.func138 rfl rfl 82 rfl (by simp) (fun M0 => ?_)
        repeat (first
    | (apply s_fieldS TY Tryz.underlying128; exact rfl; exact rfl; exact rfl; exact rfl; exact rfl; exact rfl)
    | (apply s_a TY; exact rfl)
    | (apply s_f; exact rfl; (first | assumption | omega))
    | apply w_seq
    | apply w_region
    | (apply w_draw1 (id := 7) 10 rfl (by kernel_rfl); exact rfl; kernel_rfl)
    | (apply s_allocB TY (d := some 11); exact rfl; exact rfl; exact rfl)
    | (apply s_sto TY; exact rfl; exact rfl; exact rfl; exact rfl; exact rfl; exact rfl; exact rfl)
    | apply s_nil
    | apply t_norm
    | apply w_ret
    | apply w_skip
    | (apply w_condF; exact rfl; exact rfl)
    | (apply s_k (HRa); exact rfl)
    | (apply s_k (HRb); exact rfl)
    | (apply s_k (HCa); exact rfl)
    | (apply s_k (HCb); exact rfl)
    | (apply s_k (HS); exact rfl)
    | (apply s_s; exact rfl)
    | (apply s_c TY; exact rfl; (first | omega | exact ⟨by omega, by (first | with_reducible assumption | ((with_reducible apply intsF_ne); omega) | assumption)⟩))
    | (apply s_alloc TY; exact rfl; exact rfl; exact rfl)
    | (apply s_store TY; exact rfl; exact rfl; exact rfl; exact rfl; exact rfl; exact rfl))
        exact lv_ret (ret1 rfl (res_tmp rfl))
end Go.Proofs.YtenkgipcblfocaaGreat
namespace Go.Proofs.YtenkgipcblfocaaGreat
open Go Go.RowKit Go.Proofs Go.Shelf Go.Ab
section
variable {near : Int → Int → Bool}
structure MkOk (near : Int → Int → Bool) (X mk : List Int) : Prop where
  len : mk.length = X.length
  each : ∀ i, i < X.length → mk.getD i default ∈ X ∧ Conn near X (X.getD i default) (mk.getD i default) ∧ mk.getD i default ≤ X.getD i default
def stillM (near : Int → Int → Bool) (X mk : List Int) (i k : Nat) : Prop := ¬ (mk.getD i default < mk.getD k default ∧ near (X.getD i default) (X.getD k default) = true)
theorem getD_memM {X : List Int} {i : Nat} (h : i < X.length) : X.getD i default ∈ X := by
  rw [List.getD_eq_getElem?_getD, List.getElem?_eq_getElem h]; exact List.getElem_mem h
theorem mk_start {X : List Int} : MkOk near X X := ⟨rfl, fun _ hi => ⟨getD_memM hi, .refl _, Int.le_refl _⟩⟩
theorem mk_step (hs : ∀ a b, near a b = near b a) {X mk : List Int} (o : MkOk near X mk) {i k : Nat} (hi : i < X.length) (hk : k < X.length) (h : mk.getD i default < mk.getD k default) (hn : near (X.getD i default) (X.getD k default) = true) : MkOk near X (mk.set k (mk.getD i default)) := by
  refine ⟨by rw [List.length_set]; exact o.len, fun j hj => ?_⟩
  rw [getD_set (by rw [o.len]; exact hk)]
  by_cases e : k = j
  · subst e
    rw [if_pos rfl]
    obtain ⟨h1, h2, h3⟩ := o.each i hi
    obtain ⟨-, -, k3⟩ := o.each k hj
    exact ⟨h1, (Conn.step (.refl _) (getD_memM hj) (getD_memM hi) (by rw [hs]; exact hn)).trans h2, by omega⟩
  · rw [if_neg e]; exact o.each j hj
def sumM (mk : List Int) : Nat := (mk.map Int.toNat).sum
theorem sumM_set : ∀ {mk : List Int} {k : Nat} {z : Int}, k < mk.length → 0 ≤ z → z < mk.getD k default → sumM (mk.set k z) < sumM mk
  | [], _, _, h, _, _ => absurd h (Nat.not_lt_zero _)
  | x :: l, 0, z, _, h0, h => by
    have h' : z < x := h
    show (z.toNat :: l.map Int.toNat).sum < (x.toNat :: l.map Int.toNat).sum
    rw [List.sum_cons, List.sum_cons]; omega
  | x :: l, k + 1, z, hk, h0, h => by
    have ih := sumM_set (mk := l) (k := k) (z := z) (by simpa using hk) h0 h
    show (x.toNat :: (l.set k z).map Int.toNat).sum < (x.toNat :: l.map Int.toNat).sum
    rw [List.sum_cons, List.sum_cons]
    have ih' : ((l.set k z).map Int.toNat).sum < (l.map Int.toNat).sum := ih
    omega
structure Sweep (near : Int → Int → Bool) (X m0 : List Int) (i k : Nat) (mk : List Int) (c : Bool) : Prop where
  ok : MkOk near X mk
  low : c = true → sumM mk < sumM m0
  same : c = false → mk = m0
  still : c = false → ∀ a b, a < X.length → b < X.length → (a < i ∨ (a = i ∧ b < k)) → stillM near X m0 a b
theorem sweep_start {X m0 : List Int} (o : MkOk near X m0) : Sweep near X m0 0 0 m0 false := ⟨o, fun h => (nomatch h), fun _ => rfl, fun _ a b _ _ h => absurd h (by omega)⟩
theorem sweep_row {X m0 : List Int} {i : Nat} {mk : List Int} {c : Bool} (s : Sweep near X m0 i X.length mk c) : Sweep near X m0 (i + 1) 0 mk c :=
  ⟨s.ok, s.low, s.same, fun hc a b ha hb h => s.still hc a b ha hb (by omega)⟩
theorem sweep_stay {X m0 : List Int} {i k : Nat} {mk : List Int} {c : Bool} (s : Sweep near X m0 i k mk c) (h : stillM near X mk i k) : Sweep near X m0 i (k + 1) mk c :=
  ⟨s.ok, s.low, s.same, fun hc a b ha hb hh => by
    by_cases e : a = i ∧ b = k
    · obtain ⟨rfl, rfl⟩ := e
      rw [← s.same hc]; exact h
    · exact s.still hc a b ha hb (by omega)⟩
theorem sweep_set (hs : ∀ a b, near a b = near b a) {X m0 : List Int} {i k : Nat} {mk : List Int} {c : Bool} (h0 : ∀ z, z ∈ X → 0 ≤ z) (s : Sweep near X m0 i k mk c) (hi : i < X.length) (hk : k < X.length) (h : mk.getD i default < mk.getD k default) (hn : near (X.getD i default) (X.getD k default) = true) : Sweep near X m0 i (k + 1) (mk.set k (mk.getD i default)) true :=
  ⟨mk_step hs s.ok hi hk h hn, fun _ => by
    have h1 := sumM_set (mk := mk) (k := k) (z := mk.getD i default) (by rw [s.ok.len]; exact hk) (h0 _ (s.ok.each i hi).1) h
    cases c with
    | true => have := s.low rfl; omega
    | false => rw [← s.same rfl]; exact h1, fun h => (nomatch h), fun h => (nomatch h)⟩
def ownK (X mk : List Int) (n : Nat) : Nat := ((List.range n).filter fun i => decide (mk.getD i default = X.getD i default)).length
theorem ownK_succ (X mk : List Int) (n : Nat) : ownK X mk (n + 1) = ownK X mk n + (if mk.getD n default = X.getD n default then 1 else 0) := by
  unfold ownK
  rw [List.range_succ, List.filter_append, List.length_append]
  congr 1
  by_cases h : mk.getD n default = X.getD n default
  · rw [if_pos h, List.filter_cons_of_pos (by rw [decide_eq_true_eq]; exact h)]; rfl
  · rw [if_neg h, List.filter_cons_of_neg (by rw [decide_eq_true_eq]; exact h)]; rfl
theorem ownK_le (X mk : List Int) : ∀ n, ownK X mk n ≤ n
  | 0 => Nat.le_refl _
  | n + 1 => by
    have := ownK_le X mk n
    rw [ownK_succ]; split <;> omega
theorem marks_search (hs : ∀ a b, near a b = near b a) {X mk : List Int} (hX : X.Pairwise (· < ·)) (o : MkOk near X mk) (hst : ∀ i k, i < X.length → k < X.length → stillM near X mk i k) : ownK X mk X.length = partsP near X.length X :=
  parts_uniq (marks_count hs (hX.imp fun h e => by omega) o.len o.each fun i k hi hk hn hl => hst i k hi hk ⟨hl, hn⟩) (partsP_parts hs hX (Nat.le_refl _))
end
end Go.Proofs.YtenkgipcblfocaaGreat
namespace Go.Ab
open Go Go.RowKit Go.Shelf Go.Proofs
section
variable {C : Ctx} {N : Nat}
theorem v_slice_svlo {o : Oper} {st : St} {T E s bs : Nat} {x y : Operand} {n i off : Nat} {l : Int} {k : IntKind} (ty : Ty C.P) (ho : o.op = .slice T x (some y) none none) (hd : dstB N o.dst = true) (hT : (ty.ty T).sl = some (E, s, bs)) (hx : st.ev C x = .sv i off n)
    (hy : st.ev C y = .f (.v (.int k l))) (h0 : 0 ≤ l) (hlh : l ≤ n) : ValOp C N o st (.sv i (off + l.toNat * s) (n - l.toNat)) :=
  valop_run hd fun w0 a w J st' hA S => by
    have e1 := S.eval x
    rw [hA.ev x (by simp [ho, Op.operands]), hx] at e1
    obtain ⟨hlv, ad, c, hv, hc, hb⟩ := e1
    have e2 := evV S ((hA.ev y (by simp [ho, Op.operands])).trans hy)
    obtain ⟨hu, it, hi1, rfl, _⟩ := slE_spec ((ty.ok T).sl _ hT)
    refine ⟨.slice (if c = l.toNat then ad else ad.map (·.add (l.toNat * it.size))) (n - l.toNat) (c - l.toNat), w, ?_, Ext.refl _, hlv, _, _, rfl, by omega, fun h => ?_⟩
    · simp [execOp, ho, hv, e2, Instr.sliceAt, Instr.slice, run_underlying hu, Instr.sliceBounds, Instr.sliceBound, asIntOf, sizeOf, typeInfo, hi1, h0, hlh]
    · obtain ⟨b, hb1, rfl⟩ := hb (by omega)
      refine ⟨b, hb1, ?_⟩
      rw [if_neg (by omega)]
      show some ((⟨b, off, none⟩ : Addr).add _) = _
      rw [addr_add]
theorem v_slice_svhi {o : Oper} {st : St} {T E s bs : Nat} {x y : Operand} {n i off : Nat} {l : Int} {k : IntKind} (ty : Ty C.P) (ho : o.op = .slice T x none (some y) none) (hd : dstB N o.dst = true) (hT : (ty.ty T).sl = some (E, s, bs)) (hx : st.ev C x = .sv i off n)
    (hy : st.ev C y = .f (.v (.int k l))) (h0 : 0 ≤ l) (hlh : l ≤ n) : ValOp C N o st (.sv i off l.toNat) :=
  valop_run hd fun w0 a w J st' hA S => by
    have e1 := S.eval x
    rw [hA.ev x (by simp [ho, Op.operands]), hx] at e1
    obtain ⟨hlv, ad, c, hv, hc, hb⟩ := e1
    have e2 := evV S ((hA.ev y (by simp [ho, Op.operands])).trans hy)
    obtain ⟨hu, it, hi1, rfl, _⟩ := slE_spec ((ty.ok T).sl _ hT)
    have hlc : l ≤ (c : Int) := by omega
    refine ⟨.slice (if c = 0 then ad else ad.map (·.add (0 * it.size))) l.toNat c, w, ?_, Ext.refl _, hlv, _, _, rfl, by omega, fun h => ?_⟩
    · simp [execOp, ho, hv, e2, Instr.sliceAt, Instr.slice, run_underlying hu, Instr.sliceBounds, Instr.sliceBound, asIntOf, sizeOf, typeInfo, hi1, h0, hlc]
    · obtain ⟨b, hb1, rfl⟩ := hb (by omega)
      refine ⟨b, hb1, ?_⟩
      rw [if_neg (by omega)]
      show some ((⟨b, off, none⟩ : Addr).add _) = _
      rw [addr_add, Nat.zero_mul, Nat.add_zero]
variable {ops : Array Oper} {pr : Bool} {K : St → Prop} {rest : List Oper} {d : Option Tmp} {T0 : TypeId} {pos : String} {af : Array Edge} {gd : Option (Nat × Bool)} {st : St}
theorem s_slice_svlo (ty : Ty C.P) {T E s bs : Nat} {x y : Operand} {n i off : Nat} {l : Int} {k : IntKind} (hw : wantB st ops ⟨d, .slice T x (some y) none none, T0, pos, af, gd⟩ = some true) (hd : dstB N d = true) (hT : (ty.ty T).sl = some (E, s, bs)) (hx : st.ev C x = .sv i off n) (hy : st.ev C y = .f (.v (.int k l))) (h0 : 0 ≤ l) (hlh : l ≤ n)
    (h : R C N ops pr K rest (st.put d (.sv i (off + l.toNat * s) (n - l.toNat)))) : R C N ops pr K (⟨d, .slice T x (some y) none none, T0, pos, af, gd⟩ :: rest) st := ⟨r_val hw (v_slice_svlo ty rfl hd hT hx hy h0 hlh) h.out⟩
theorem s_slice_svhi (ty : Ty C.P) {T E s bs : Nat} {x y : Operand} {n i off : Nat} {l : Int} {k : IntKind} (hw : wantB st ops ⟨d, .slice T x none (some y) none, T0, pos, af, gd⟩ = some true) (hd : dstB N d = true) (hT : (ty.ty T).sl = some (E, s, bs)) (hx : st.ev C x = .sv i off n) (hy : st.ev C y = .f (.v (.int k l))) (h0 : 0 ≤ l) (hlh : l ≤ n)
    (h : R C N ops pr K rest (st.put d (.sv i off l.toNat))) : R C N ops pr K (⟨d, .slice T x none (some y) none, T0, pos, af, gd⟩ :: rest) st := ⟨r_val hw (v_slice_svhi ty rfl hd hT hx hy h0 hlh) h.out⟩
theorem s_len_svw (ty : Ty C.P) {T : TypeId} {x : Operand} {i off n E s bs : Nat} (hw : wantB st ops ⟨d, .call { callee := .builtin .len, args := #[x], argTypes := #[T] }, T0, pos, af, gd⟩ = some true) (hd : dstB N d = true) (hT : (ty.ty T).sl = some (E, s, bs)) (hx : st.ev C x = .sv i off n)
    (h : R C N ops pr K rest (st.put d (.f (.v (.int .i64 n))))) : R C N ops pr K (⟨d, .call { callee := .builtin .len, args := #[x], argTypes := #[T] }, T0, pos, af, gd⟩ :: rest) st := ⟨r_val hw (v_len_sv ty rfl hd hT hx) h.out⟩
theorem s_idx_svw (ty : Ty C.P) {T : TypeId} {x y : Operand} {i off n E s bs : Nat} {k : IntKind} {z : Int} (hw : wantB st ops ⟨d, .indexAddr T x y, T0, pos, af, gd⟩ = some true) (hd : dstB N d = true) (hT : (ty.ty T).sl = some (E, s, bs)) (hx : st.ev C x = .sv i off n) (hy : st.ev C y = .f (.v (.int k z))) (h0 : 0 ≤ z) (hn : z < n)
    (h : R C N ops pr K rest (st.put d (.bx i (off + z.toNat * s)))) : R C N ops pr K (⟨d, .indexAddr T x y, T0, pos, af, gd⟩ :: rest) st := ⟨r_val hw (v_idx_sv ty rfl hd hT hx hy h0 hn) h.out⟩
theorem gh_sv (t i : Nat) {e sz n : Nat} {cs : List FV} (ht : st.s t = .ow i) (hi : st.h i = some (.row e sz n cs)) : Gh C N st { st with s := upd st.s t (.sv i 0 n) } := fun w0 a w ⟨J, S⟩ => by
  have hs : ∀ q, RepA C w st.h J (a.tmps.getD q undef) (upd st.s t (.sv i 0 n) q) := fun q => by
    by_cases e' : q = t
    · subst e'
      rw [upd_same]
      have r := S.slot q
      rw [ht] at r
      obtain ⟨hlv, hv⟩ := r
      obtain ⟨xs, q1, _⟩ := S.blk i _ hi
      rcases q1.2 with ⟨hj, rfl⟩ | ⟨g, cap, cur, hj, g1, g2, g3, _⟩
      · exact ⟨hlv, none, 0, hv.trans hj, Nat.le_refl _, fun h => absurd rfl h⟩
      · exact ⟨hlv, _, cap, hv.trans hj, g3, fun _ => ⟨g, by rw [hj]; rfl, rfl⟩⟩
    · rw [upd_other _ _ e']
      exact S.slot q
  exact ⟨J, S.ext, S.size, S.defs, hs, S.blk, S.apart, S.old, S.glob, S.fix⟩
end
end Go.Ab
namespace Go.Proofs.YtenkgipcblfocaaGreat
open Go Go.RowKit Go.Proofs Go.Shelf Go.Ab
end Go.Proofs.YtenkgipcblfocaaGreat
namespace Go.Proofs.YtenkgipcblfocaaGreat
open Go Go.RowKit Go.Proofs Go.Shelf Go.Ab
theorem setAt_mid {α : Type} : ∀ (r b a c : List α), b.length = r.length → setAt (a ++ b ++ c) a.length r = a ++ r ++ c
  | [], [], _, _, _ => rfl
  | x :: r, y :: b, a, c, h => by
    have e : (a ++ y :: b ++ c).set a.length x = (a ++ [x]) ++ b ++ c := by
      rw [List.append_assoc, List.set_append_right _ _ (Nat.le_refl _), Nat.sub_self]; simp
    have ih := setAt_mid r b (a ++ [x]) c (by simpa using h)
    rw [List.length_append] at ih
    rw [setAt, e]
    exact ih.trans (by simp)
theorem intsF_app (a b : List Int) : intsF (a ++ b) = intsF a ++ intsF b := by simp [intsF]
theorem intsF_cons (x : Int) (b : List Int) : intsF (x :: b) = iv x :: intsF b := rfl
def zeroR (n : Nat) : List FV := zerosF [.int .i64 0] n
theorem zeroR_len (n : Nat) : (zeroR n).length = n := by unfold zeroR; rw [zerosF_len]; simp
theorem zeroR_0 : zeroR 0 = [] := List.eq_nil_of_length_eq_zero (zeroR_len 0)
theorem intsF_len1 (l : List Int) : (intsF l).length = l.length := by rw [intsF_len, Nat.mul_one]
section
variable {C : Ctx} {N : Nat} {st : St}
theorem sees_svI {i m : Nat} {P Z : List FV} {L : List Int} (hi : st.h i = some (.row 3 1 m (P ++ intsF L ++ Z))) : Sees C N st (.sv i P.length L.length) (.sl L.length (intsF L)) := by
  have h := sees_sv (C := C) (N := N) (n := L.length) (off := P.length) hi (by rw [List.length_append, List.length_append, intsF_len1]; omega) (by decide)
  have e : ((P ++ intsF L ++ Z).drop P.length).take (L.length * 1) = intsF L := by
    rw [List.append_assoc, List.drop_left, Nat.mul_one]
    exact List.take_left' (intsF_len1 L)
  rwa [e] at h
end
theorem at_mid {P Z : List FV} {X : List Int} {j : Nat} (h : j < X.length) : (P ++ intsF X ++ Z)[P.length + ((j : Nat) : Int).toNat * 1]? = some (iv X[j]) := by
  have hx : j < (intsF X).length := by rw [intsF_len1]; exact h
  rw [Int.toNat_natCast, Nat.mul_one, List.append_assoc, List.getElem?_append_right (Nat.le_add_right _ _), Nat.add_sub_cancel_left, List.getElem?_append_left hx]
  have := intsF_at h
  rwa [Nat.mul_one] at this
theorem del_at {P Z : List FV} {K L : List Int} {j : Nat} (hn : K.length ≤ j) (h : j < L.length) : (P ++ intsF (K ++ L.drop K.length) ++ Z)[P.length + ((j : Nat) : Int).toNat * 1]? = some (iv L[j]) := by
  have hl : j < (K ++ L.drop K.length).length := by rw [List.length_append, List.length_drop]; omega
  rw [at_mid hl]
  congr 2
  rw [List.getElem_append_right hn, List.getElem_drop]
  congr 1; omega
theorem del_store {P Z : List FV} {K L : List Int} {x : Int} (hm : K.length < L.length) : setAt (P ++ intsF (K ++ L.drop K.length) ++ Z) (P.length + ((K.length : Nat) : Int).toNat * 1) [iv x] = P ++ intsF ((K ++ [x]) ++ L.drop (K ++ [x]).length) ++ Z := by
  rw [List.drop_eq_getElem_cons hm, intsF_app, intsF_cons, Int.toNat_natCast, Nat.mul_one]
  have h := setAt_mid [iv x] [iv L[K.length]] (P ++ intsF K) (intsF (L.drop (K.length + 1)) ++ Z) rfl
  rw [List.length_append, intsF_len1] at h
  have e1 : P ++ (intsF K ++ iv L[K.length] :: intsF (L.drop (K.length + 1))) ++ Z = P ++ intsF K ++ [iv L[K.length]] ++ (intsF (L.drop (K.length + 1)) ++ Z) := by simp
  rw [e1, h, intsF_app, intsF_app, intsF_cons, List.length_append, List.length_singleton]
  simp [intsF]
theorem del_clear {P Z : List FV} {K L : List Int} (_hm : K.length ≤ L.length) : setAt (P ++ intsF (K ++ L.drop K.length) ++ Z) (P.length + ((K.length : Nat) : Int).toNat * 1) (zerosF [.int .i64 0] (L.length - ((K.length : Nat) : Int).toNat)) = P ++ intsF K ++ (zeroR (L.length - K.length) ++ Z) := by
  rw [intsF_app, Int.toNat_natCast, Nat.mul_one]
  have h := setAt_mid (zeroR (L.length - K.length)) (intsF (L.drop K.length)) (P ++ intsF K) Z (by rw [intsF_len1, zeroR_len, List.length_drop])
  rw [List.length_append, intsF_len1] at h
  have e1 : P ++ (intsF K ++ intsF (L.drop K.length)) ++ Z = P ++ intsF K ++ intsF (L.drop K.length) ++ Z := by simp
  rw [e1]
  refine h.trans ?_
  simp
theorem rowZ {m : Nat} {a b : List FV} (h : a = b) : some (Blk.row 3 1 m a) = some (Blk.row 3 1 m b) := by rw [h]
set_option maxRecDepth 100000 in
set_option maxHeartbeats 3200000 in
theorem delI_g (P : List FV) (L : List Int) (Z : List FV) (m : Nat) (g : Nat) (caps : List FV) (q : Int → Bool) (h60 : L.length ≤ 1000000) (hg : ∀ i (hi : i < L.length), Summ Tryz.prog GG g ([iv L[i]] ++ caps) (bv (q L[i]))) : SummG Tryz.prog GG 150 [.row 3 1 m (P ++ intsF L ++ Z)] [.sv 0 P.length L.length, .f (.fn g caps)] (.sv 0 P.length (L.filter (fun x => !q x)).length) [.row 3 1 m (P ++ intsF (L.filter (fun x => !q x)) ++ (zeroR (L.length - (L.filter (fun x => !q x)).length) ++ Z))] := by
  have HI := idxI_s L g caps (fun i => q (L.getD i default)) h60 (fun i hi => by rw [getD_at hi]; exact hg i hi)
  rcases idxP_cases L.length (fun i => q (L.getD i default)) with ⟨hi, hz⟩ | ⟨k, hk, hz, hp, hi⟩
  · have hfe : (L.filter (fun x => !q x)) = L := List.filter_eq_self.2 fun x hx => by
      obtain ⟨i, hi, rfl⟩ := List.getElem_of_mem hx
      have := hz i hi
      rw [getD_at hi] at this
      rw [this]; rfl
    rw [hi] at HI
    have hrow : some (Blk.row 3 1 m (P ++ intsF L ++ Z)) = some (Blk.row 3 1 m (P ++ intsF (L.filter (fun x => !q x)) ++ (zeroR (L.length - (L.filter (fun x => !q x)).length) ++ Z))) := by rw [hfe, Nat.sub_self, zeroR_0]; rfl
    have hslt : AV.sv 0 P.length L.length = AV.sv 0 P.length (L.filter (fun x => !q x)).length := by rw [hfe]
    refine summG_of Tryz.func150 rfl rfl 42 rfl (by simp) (by simp) (fun i B B' h1 h2 => by
        match i, h1, h2 with
    | 0, h1, h2 => cases h1; cases h2; rfl
    | _ + 1, h1, _ => simp at h1) (fun M X J => ?_)
    repeat (first
    | (refine s_callS HI (fun _ => rfl) rfl rfl rfl ⟨sees_svI rfl, sees_f _, trivial⟩ ?_)
    | (apply s_a TY; exact rfl)
    | (apply s_t; exact rfl; (first | assumption | omega))
    | apply w_seq
    | apply w_region
    | apply s_nil
    | apply t_norm
    | apply t_ret
    | apply w_ret
    | (apply w_condT; exact rfl; exact rfl))
    refine lvG_ret (s := Ab.upd (fun _ => .bot) 4 (.sv 0 P.length (L.filter (fun x => !q x)).length)) (nx := 1) (L' := [.row 3 1 m (P ++ intsF (L.filter (fun x => !q x)) ++ (zeroR (L.length - (L.filter (fun x => !q x)).length) ++ Z))]) ?_ ?_
    · exact gh_le ⟨le_upd hslt.symm rfl (le_nil _), fun i => by
        match i with
        | 0 => exact .inr ⟨_, rfl, hrow, trivial⟩
        | _ + 1 => exact .inl rfl⟩
    · exact rg1 rfl (rv_tmp rfl)
  · rw [hi] at HI
    simp only [getD_at hk] at hp
    have hz2 : ∀ i, i < k → q (L.getD i default) = false := hz
    have hfk : (L.take k).filter (fun x => !q x) = L.take k := List.filter_eq_self.2 fun x hx => by
      obtain ⟨i, hi, rfl⟩ := List.getElem_of_mem hx
      have hik : i < k := by rw [List.length_take] at hi; omega
      have := hz2 i hik
      rw [getD_at (show i < L.length by omega)] at this
      rw [List.getElem_take, this]; rfl
    have hk1 : (L.take (k + 1)).filter (fun x => !q x) = L.take k := by
      rw [List.take_succ_eq_append_getElem hk, List.filter_append, hfk, List.filter_cons_of_neg (by simp [hp])]; simp
    have hkl : ((L.take (k + 1)).filter (fun x => !q x)).length = k := by rw [hk1, List.length_take]; omega
    refine summG_of Tryz.func150 rfl rfl 42 rfl (by simp) (by simp) (fun i B B' h1 h2 => by
        match i, h1, h2 with
    | 0, h1, h2 => cases h1; cases h2; rfl
    | _ + 1, h1, _ => simp at h1) (fun M X J => ?_)
    repeat (first
    | (refine s_callS HI (fun _ => rfl) rfl rfl rfl ⟨sees_svI rfl, sees_f _, trivial⟩ ?_)
    | (apply s_a TY; exact rfl)
    | (apply s_f; exact rfl; (first | assumption | omega))
    | apply w_seq
    | apply w_region
    | apply s_nil
    | apply t_norm
    | apply w_block
    | apply w_skip
    | (apply w_condF; exact rfl; exact rfl)
    | (apply s_c TY; exact rfl; (first | omega | exact ⟨by omega, by (first | with_reducible assumption | ((with_reducible apply intsF_ne); omega) | assumption)⟩)))
    apply w_loop (fun j : Nat => ⟨(Ab.upd (Ab.upd (Ab.upd (Ab.upd (fun _ => .bot) 0 (.sv 0 P.length L.length)) 1 (.f (.fn g caps))) 5 (.f (iv ((((L.take j).filter (fun x => !q x)).length : Nat) : Int)))) 6 (.f (iv ((j : Nat) : Int)))), (Ab.upd (fun _ => none) 0 (some (.row 3 1 m (P ++ intsF (((L.take j).filter (fun x => !q x)) ++ L.drop ((L.take j).filter (fun x => !q x)).length) ++ Z)))), 1⟩) (fun j => k + 1 ≤ j ∧ j ≤ L.length ∧ ((L.take j).filter (fun x => !q x)).length + 1 ≤ j) (fun j => L.length - j) (k + 1) (⟨Nat.le_refl _, by omega, by omega⟩) (gh_le ⟨le_upd rfl trivial (le_upd (by rw [hkl]; rfl) trivial (le_upd rfl trivial (le_upd rfl rfl (le_nil _)))), le_hupd (rowZ (by rw [hkl, hk1, List.take_append_drop])) trivial (le_h0 _ _)⟩)
    intro j ⟨hj1, hj, hm⟩
    by_cases hjc : j < L.length
    · have f1 := del_at (P := P) (Z := Z) (K := ((L.take j).filter (fun x => !q x))) (L := L) (j := j) (by omega) hjc
      have Hc := hg j hjc
      have hsuc : (L.take (j + 1)).filter (fun x => !q x) = ((L.take j).filter (fun x => !q x)) ++ (if q L[j] = true then [] else [L[j]]) := by
        rw [List.take_succ_eq_append_getElem hjc, List.filter_append]
        congr 1
        by_cases h : q L[j] = true
        · rw [if_pos h, List.filter_cons_of_neg (by simp [h])]; rfl
        · rw [if_neg h, List.filter_cons_of_pos (by simpa using h)]; rfl
      cases hq : q L[j] with
      | true =>
        rw [hq] at Hc
        rw [hq, if_pos rfl, List.append_nil] at hsuc
        repeat (first
    | (apply s_len_svw TY; exact rfl; exact rfl; exact rfl; exact rfl)
    | (apply s_idx_svw TY; exact rfl; exact rfl; exact rfl; exact rfl; exact rfl; omega; omega)
    | (apply s_a TY; exact rfl)
    | (apply s_t; exact rfl; (first | assumption | omega))
    | apply w_seq
    | apply w_region
    | apply s_nil
    | apply t_norm
    | apply k_norm
    | apply w_block
    | apply w_skip
    | (apply w_condT; exact rfl; exact rfl)
    | (apply w_condF; exact rfl; exact rfl)
    | (apply s_k (Hc); exact rfl)
    | (apply s_c TY; exact rfl; (first | omega | exact ⟨by omega, by (first | with_reducible assumption | ((with_reducible apply intsF_ne); omega) | assumption)⟩))
    | (apply s_r TY; exact rfl; (first | exact rfl | with_reducible assumption | ((with_reducible apply intsF_at); omega) | assumption)))
        exact ⟨j + 1, ⟨by omega, by omega, by rw [hsuc]; omega⟩, by omega, gh_le ⟨le_upd rfl trivial (le_upd (by rw [hsuc]; rfl) trivial (le_upd rfl trivial (le_upd rfl rfl (le_nil _)))), le_hupd (rowZ (by rw [hsuc])) trivial (le_h0 _ _)⟩⟩
      | false =>
        rw [hq] at Hc
        rw [hq, if_neg (by decide)] at hsuc
        have hst : P.length + ((((L.take j).filter (fun x => !q x)).length : Nat) : Int).toNat * 1 + [iv L[j]].length ≤ (P ++ intsF (((L.take j).filter (fun x => !q x)) ++ L.drop ((L.take j).filter (fun x => !q x)).length) ++ Z).length := by
          rw [List.length_append, List.length_append, intsF_len1, List.length_append, List.length_drop]; show _ + 1 ≤ _; omega
        have hset := del_store (P := P) (Z := Z) (K := ((L.take j).filter (fun x => !q x))) (L := L) (x := L[j]) (by omega)
        rw [← hsuc] at hset
        have hsl2 : ((L.take (j + 1)).filter (fun x => !q x)).length = ((L.take j).filter (fun x => !q x)).length + 1 := by rw [hsuc, List.length_append]; rfl
        repeat (first
    | (apply s_len_svw TY; exact rfl; exact rfl; exact rfl; exact rfl)
    | (apply s_idx_svw TY; exact rfl; exact rfl; exact rfl; exact rfl; exact rfl; omega; omega)
    | (apply s_storeR TY; exact rfl; exact rfl; exact rfl; exact rfl; exact rfl; exact hst)
    | (apply s_a TY; exact rfl)
    | (apply s_t; exact rfl; (first | assumption | omega))
    | apply w_seq
    | apply w_region
    | apply s_nil
    | apply t_norm
    | apply k_norm
    | apply w_block
    | apply w_skip
    | (apply w_condT; exact rfl; exact rfl)
    | (apply s_k (Hc); exact rfl)
    | (apply s_c TY; exact rfl; (first | omega | exact ⟨by omega, by (first | with_reducible assumption | ((with_reducible apply intsF_ne); omega) | assumption)⟩))
    | (apply s_r TY; exact rfl; (first | exact rfl | with_reducible assumption | ((with_reducible apply intsF_at); omega) | assumption)))
        exact ⟨j + 1, ⟨by omega, by omega, by omega⟩, by omega, gh_le ⟨le_upd rfl trivial (le_upd (by rw [hsl2]; rfl) trivial (le_upd rfl trivial (le_upd rfl rfl (le_nil _)))), le_hupd (rowZ hset) trivial (le_h0 _ _)⟩⟩
    · have hje : j = L.length := by omega
      subst hje
      rw [List.take_length] at hm ⊢
      have hclr : P.length + (((L.filter (fun x => !q x)).length : Nat) : Int).toNat * 1 + (L.length - (((L.filter (fun x => !q x)).length : Nat) : Int).toNat) * [Value.int .i64 0].length ≤ (P ++ intsF ((L.filter (fun x => !q x)) ++ L.drop (L.filter (fun x => !q x)).length) ++ Z).length := by
        rw [List.length_append, List.length_append, intsF_len1, List.length_append, List.length_drop]; show _ + _ * 1 ≤ _; omega
      have hdc := del_clear (P := P) (Z := Z) (K := (L.filter (fun x => !q x))) (L := L) (by omega)
      repeat (first
    | (apply s_slice_svlo TY; exact rfl; exact rfl; exact rfl; exact rfl; exact rfl; omega; omega)
    | (apply s_slice_svhi TY; exact rfl; exact rfl; exact rfl; exact rfl; exact rfl; omega; omega)
    | (apply s_len_svw TY; exact rfl; exact rfl; exact rfl; exact rfl)
    | (apply s_clear_sv TY; exact rfl; exact rfl; exact rfl; exact rfl; exact rfl; exact hclr)
    | (apply s_a TY; exact rfl)
    | (apply s_f; exact rfl; (first | assumption | omega))
    | apply w_seq
    | apply w_region
    | apply s_nil
    | apply t_norm
    | apply t_exit
    | apply k_hit
    | apply w_exit
    | apply w_ret
    | (apply w_condF; exact rfl; exact rfl))
      refine lvG_ret (s := Ab.upd (fun _ => .bot) 4 (.sv 0 P.length (L.filter (fun x => !q x)).length)) (nx := 1) (L' := [.row 3 1 m (P ++ intsF (L.filter (fun x => !q x)) ++ (zeroR (L.length - (L.filter (fun x => !q x)).length) ++ Z))]) ?_ ?_
      · exact gh_le ⟨le_upd (congrArg (AV.sv 0 P.length) (Int.toNat_natCast _).symm) rfl (le_nil _), fun i => by
          match i with
          | 0 => exact .inr ⟨_, rfl, (rowZ hdc), trivial⟩
          | _ + 1 => exact .inl rfl⟩
      · exact rg1 rfl (rv_tmp rfl)
theorem Clone_g (l : List Int) (hl : l.length ≤ 1000000) : SummG Tryz.prog GG 149 [] [.f (.sl l.length (intsF l))] (.ow 0) [.row 3 1 l.length (intsF l)] := by
  have e : (l.flatMap encJ).map FV.v = intsF l := by
    induction l with
    | nil => rfl
    | cons x r ih => rw [List.flatMap_cons, List.map_append, ih (by simp at hl; omega)]; rfl
  have h : SummG Tryz.prog GG 149 [] [.f (.sl l.length (intsF l))] (.ow 0) ([] ++ [.row 3 1 l.length ((l.flatMap encJ).map FV.v)]) := summG_newRow (L := []) (enters_of Tryz.func149 (by kernel_rfl) rfl) (encJ_one l) fun w M X us J hA hL => by
    obtain ⟨u, rfl⟩ : ∃ u, us = [u] := by
      match us, hA.1 with
      | [u], _ => exact ⟨u, rfl⟩
    have r := hA.2 0 u _ rfl rfl
    obtain ⟨a, c, rfl, _, rr⟩ := rep_row r (detC_ints l)
    exact (cloneInt a l c w rr hl).mono fun e w' ⟨a', c', h1, h2, h3⟩ => ⟨_, h1, h2, h3⟩
  rwa [e] at h
end Go.Proofs.YtenkgipcblfocaaGreat
namespace Go.Proofs.YtenkgipcblfocaaGreat
open Go Go.RowKit Go.Proofs Go.Shelf Go.Ab
end Go.Proofs.YtenkgipcblfocaaGreat
namespace Go.Proofs.YtenkgipcblfocaaGreat
open Go Go.RowKit Go.Proofs Go.Shelf Go.Ab
theorem celsE_of {c : Int} {l : List Int} (h : celsE c l = 0) : (∀ z, z ∈ l → 0 ≤ z ∧ z ≤ c - 1) ∧ l.Pairwise (· < ·) := by
  have hz := celsE_iff.1 h
  have h1 : ∀ i (hi : i < l.length), 0 ≤ l[i] ∧ l[i] ≤ c - 1 := fun i hi => by
    have := hz i hi
    unfold celsX at this
    rw [getD_at hi] at this
    refine Classical.byContradiction fun hn => ?_
    rw [if_pos hn] at this; cases this
  have h2 : ∀ i (hi : i + 1 < l.length), l[i] < l[i + 1] := fun i hi => by
    have := hz (i + 1) hi
    have hi' : i < l.length := by omega
    have hb := h1 (i + 1) hi
    unfold celsX at this
    rw [getD_at hi, if_neg (fun hn => hn hb), Nat.add_sub_cancel, getD_at hi'] at this
    refine Classical.byContradiction fun hn => ?_
    rw [if_pos ⟨by omega, by omega⟩] at this; cases this
  have h3 : ∀ d i (hi : i + d + 1 < l.length), l[i] < l[i + d + 1] := fun d => by
    induction d with
    | zero => exact fun i hi => h2 i hi
    | succ d ih => exact fun i hi => Int.lt_trans (ih i (by omega)) (h2 (i + d + 1) (by omega))
  refine ⟨fun z hz => ?_, List.pairwise_iff_getElem.2 fun i j hi hj hij => ?_⟩
  · obtain ⟨i, hi, rfl⟩ := List.getElem_of_mem hz
    exact h1 i hi
  · obtain ⟨d, rfl⟩ : ∃ d, j = i + d + 1 := ⟨j - i - 1, by omega⟩
    exact h3 d i hj
set_option maxRecDepth 100000 in
theorem nearFrom_s (rs : List Int) (o : SkyOk rs) (a k : Int) (ha : 0 ≤ a ∧ a ≤ (befK rs rs.length) - 1) (hk : 0 ≤ k ∧ k ≤ (befK rs rs.length) - 1) : Summ Tryz.prog GG 151 [iv k, .pt [xF (skyC rs)] 0, .pt [iv a] 0] (bv (nearR rs a k)) := by
  have hlc := skyC_len o
  have HN := near_s (skyC rs) (skyC_cels o) a.toNat k.toNat (by omega) (by omega)
  rw [near_eq o (by omega) (by omega), show ((a.toNat : Nat) : Int) = a by omega, show ((k.toNat : Nat) : Int) = k by omega] at HN
  refine summW Tryz.func151 rfl rfl 9 rfl (by simp) (fun M0 => ?_)
  repeat (first
    | (apply s_a TY; exact rfl)
    | apply w_seq
    | apply w_region
    | apply s_nil
    | apply t_norm
    | apply w_ret
    | (apply s_k (HN); exact rfl))
  exact lv_ret (ret1 rfl (res_tmp rfl))
set_option maxRecDepth 100000 in
theorem openCells_sky (rs l : List Int) (hl : rs.length ≤ 1000000) (hll : l.length ≤ 1000000) (h : (skyChk rs).2 ≠ 0) : Summ Tryz.prog GG 148 [skF rs, .sl l.length (intsF l)] (.tup [xF [], iv (skyChk rs).2]) := by
  have HO := open_err rs hl h
  have HC := cellsErr_s [] l hll (by simp)
  have HF := first2_0 (skyChk rs).2 (celsE (([] : List Cel).length : Nat) l) h
  refine summW Tryz.func148 rfl rfl 20 rfl (by simp) (fun M0 => ?_)
  repeat (first
    | (apply s_a TY; exact rfl)
    | apply w_seq
    | apply w_region
    | apply s_nil
    | apply t_norm
    | apply w_ret
    | (apply s_k (HO); exact rfl)
    | (apply s_k (HC); exact rfl)
    | (apply s_k (HF); exact rfl))
  exact lv_ret (ret2 rfl (res_tmp rfl) (res_tmp rfl))
set_option maxRecDepth 100000 in
theorem openCells_ok (rs l : List Int) (o : SkyOk rs) (hll : l.length ≤ 1000000) : Summ Tryz.prog GG 148 [skF rs, .sl l.length (intsF l)] (.tup [xF (skyC rs), iv (celsE (befK rs rs.length) l)]) := by
  have HO := open_ok rs o
  have hb := skyC_bd o
  have HC := cellsErr_s (skyC rs) l hll (by omega)
  rw [skyC_len o] at HC
  have HF := first2_1 0 (celsE (befK rs rs.length) l) rfl
  refine summW Tryz.func148 rfl rfl 20 rfl (by simp) (fun M0 => ?_)
  repeat (first
    | (apply s_a TY; exact rfl)
    | apply w_seq
    | apply w_region
    | apply s_nil
    | apply t_norm
    | apply w_ret
    | (apply s_k (HO); exact rfl)
    | (apply s_k (HC); exact rfl)
    | (apply s_k (HF); exact rfl))
  exact lv_ret (ret2 rfl (res_tmp rfl) (res_tmp rfl))
theorem rowI2 {a b : List Int} (h : a = b) : some (Blk.row 3 1 a.length (intsF a)) = some (Blk.row 3 1 b.length (intsF b)) := by rw [h]
set_option maxRecDepth 100000 in
theorem PartsOf_err (rs X : List Int) (cs : List Cel) (e : Int) (he : e ≠ 0) (H : Summ Tryz.prog GG 148 [skF rs, .sl X.length (intsF X)] (.tup [xF cs, iv e])) : Summ Tryz.prog GG 89 [skF rs, .sl X.length (intsF X)] (.tup [iv 0, iv e]) := by
  refine summW Tryz.func89 rfl rfl 66 rfl (by simp) (fun M0 => ?_)
  repeat (first
    | (apply s_a TY; exact rfl)
    | (apply s_f; exact rfl; (first | assumption | omega))
    | apply w_seq
    | apply w_region
    | apply s_nil
    | apply t_norm
    | apply t_ret
    | apply w_ret
    | (apply w_condT; exact rfl; exact rfl)
    | (apply s_k (H); exact rfl)
    | (apply s_alloc TY; exact rfl; exact rfl; exact rfl)
    | (apply s_store TY; exact rfl; exact rfl; exact rfl; exact rfl; exact rfl; exact rfl))
  exact lv_ret (ret2 rfl (res_tmp rfl) (res_tmp rfl))
set_option maxRecDepth 100000 in
set_option maxHeartbeats 6400000 in
theorem PartsOf_ok (rs X : List Int) (o : SkyOk rs) (hXl : X.length ≤ 1000000) (hc : celsE (befK rs rs.length) X = 0) : Summ Tryz.prog GG 89 [skF rs, .sl X.length (intsF X)] (.tup [iv ((partsP (nearR rs) X.length X : Nat) : Int), iv 0]) := by
  have HO := openCells_ok rs X o hXl
  rw [hc] at HO
  obtain ⟨hr, hasc⟩ := celsE_of hc
  have hlc := skyC_len o
  refine summW Tryz.func89 rfl rfl 66 rfl (by simp) (fun M0 => ?_)
  repeat (first
    | (refine s_ghost rfl (gh_box 0 (cs := [xF (skyC rs)]) rfl rfl) ?_)
    | (apply s_callG [] (Clone_g X hXl); exact rfl; exact rfl; exact rfl; exact trivial; exact rfl; (first | exact ⟨rfl, rfl⟩ | exact ⟨⟨rfl, rfl⟩, ⟨rfl, rfl⟩⟩))
    | (apply s_a TY; exact rfl)
    | (apply s_t; exact rfl; (first | assumption | omega))
    | apply w_seq
    | apply w_region
    | apply s_nil
    | apply t_norm
    | apply w_block
    | apply w_skip
    | (apply w_condF; exact rfl; exact rfl)
    | (apply s_k (HO); exact rfl)
    | (apply s_alloc TY; exact rfl; exact rfl; exact rfl)
    | (apply s_store TY; exact rfl; exact rfl; exact rfl; exact rfl; exact rfl; exact rfl))
  apply w_gh (gh_sv 8 1 rfl rfl)
  apply w_loop (fun q : List FV × List Int × List FV × Nat => ⟨(Ab.upd (Ab.upd (Ab.upd (fun _ => .bot) 6 (.f (.pt [xF (skyC rs)] 0))) 8 (.sv 1 q.1.length q.2.1.length)) 9 (.f (iv ((q.2.2.2 : Nat) : Int)))), (Ab.upd (fun _ => none) 1 (some (.row 3 1 X.length (q.1 ++ intsF q.2.1 ++ q.2.2.1)))), 2⟩) (fun q => ∃ f, q.2.1.length ≤ f ∧ partsP (nearR rs) f q.2.1 + q.2.2.2 = partsP (nearR rs) X.length X ∧ (∀ z, z ∈ q.2.1 → 0 ≤ z ∧ z ≤ (befK rs rs.length) - 1) ∧ q.2.2.2 + q.2.1.length ≤ X.length) (fun q => q.2.1.length) ([], X, [], 0) (⟨X.length, Nat.le_refl _, rfl, hr, by simp⟩) (gh_le ⟨le_upd rfl trivial (le_upd rfl rfl (le_upd rfl trivial (le_nil _))), le_hupd (rowZ (by simp)) trivial (le_h0 _ _)⟩)
  rintro ⟨P0, L, Z0, n⟩ ⟨f, hf, hp, hrL, hn⟩
  change L.length ≤ f at hf
  change partsP (nearR rs) f L + n = partsP (nearR rs) X.length X at hp
  change ∀ z, z ∈ L → 0 ≤ z ∧ z ≤ (befK rs rs.length) - 1 at hrL
  change n + L.length ≤ X.length at hn
  change W _ _ _ _ (⟨(Ab.upd (Ab.upd (Ab.upd (fun _ => .bot) 6 (.f (.pt [xF (skyC rs)] 0))) 8 (.sv 1 P0.length L.length)) 9 (.f (iv ((n : Nat) : Int)))), (Ab.upd (fun _ => none) 1 (some (.row 3 1 X.length (P0 ++ intsF L ++ Z0)))), 2⟩)
  cases L with
  | nil =>
    have hz : partsP (nearR rs) f [] = 0 := by cases f <;> rfl
    have hn0 : ([] : List Int).length = 0 := rfl
    rw [hz, Nat.zero_add] at hp
    rw [← hp]
    repeat (first
    | (apply s_len_svw TY; exact rfl; exact rfl; exact rfl; exact rfl)
    | (apply s_a TY; exact rfl)
    | (apply s_f; exact rfl; (first | assumption | omega))
    | apply w_seq
    | apply w_region
    | apply s_nil
    | apply t_norm
    | apply t_exit
    | apply k_hit
    | apply w_exit
    | apply w_ret
    | (apply w_condF; exact rfl; exact rfl))
    exact lv_ret (ret2 rfl (res_tmp rfl) (res_tmp rfl))
  | cons x t =>
    obtain ⟨f, rfl⟩ : ∃ g, f = g + 1 := ⟨f - 1, by simp at hf; omega⟩
    have htl : (x :: t).length = t.length + 1 := rfl
    have hat := at_mid (P := P0) (Z := Z0) (X := x :: t) (j := 0) (by omega)
    have hat0 : (P0 ++ intsF (x :: t) ++ Z0)[P0.length + (0 : Int).toNat * 1]? = some (iv x) := hat
    have hx := hrL x (List.mem_cons_self ..)
    have hsv : AV.sv 1 (P0.length + (1 : Int).toNat * 1) ((x :: t).length - (1 : Int).toNat) = AV.sv 1 (P0 ++ [iv x]).length t.length := by simp
    have hrw0 : some (Blk.row 3 1 X.length (P0 ++ intsF (x :: t) ++ Z0)) = some (Blk.row 3 1 X.length (P0 ++ [iv x] ++ intsF t ++ Z0)) := rowZ (by simp [intsF])
    repeat (first
    | (apply s_slice_svlo TY; exact rfl; exact rfl; exact rfl; exact rfl; exact rfl; omega; omega)
    | (apply s_len_svw TY; exact rfl; exact rfl; exact rfl; exact rfl)
    | (apply s_idx_svw TY; exact rfl; exact rfl; exact rfl; exact rfl; exact rfl; omega; omega)
    | (apply s_bslicew TY (len := 1); exact rfl; exact rfl; exact rfl; exact rfl; exact rfl; exact rfl; exact rfl; exact rfl; exact rfl)
    | (apply s_a TY; exact rfl)
    | (apply s_t; exact rfl; (first | assumption | omega))
    | apply w_seq
    | apply w_region
    | apply s_nil
    | apply t_norm
    | apply w_block
    | apply w_skip
    | (apply w_condT; exact rfl; exact rfl)
    | (apply s_c TY; exact rfl; (first | omega | exact ⟨by omega, by (first | with_reducible assumption | ((with_reducible apply intsF_ne); omega) | assumption)⟩))
    | (apply s_r TY; exact rfl; (first | exact rfl | with_reducible assumption | ((with_reducible apply intsF_at); omega) | assumption)))
    generalize hP : P0 ++ [iv x] = P at *
    apply w_loop (fun q : List Int × List Int × List FV × Nat => ⟨(Ab.upd (Ab.upd (Ab.upd (Ab.upd (Ab.upd (fun _ => .bot) 6 (.f (.pt [xF (skyC rs)] 0))) 8 (.sv 1 P.length q.2.1.length)) 9 (.f (iv (((n + 1 : Nat) : Nat) : Int)))) 10 (.ow 2)) 11 (.f (iv ((q.2.2.2 : Nat) : Int)))), (Ab.upd (Ab.upd (fun _ => none) 1 (some (.row 3 1 X.length (P ++ intsF q.2.1 ++ q.2.2.1)))) 2 (some (.row 3 1 q.1.length (intsF q.1)))), 3⟩) (fun q => ∃ f, bfsK (nearR rs) f q.1 q.2.1 q.2.2.2 = bfsK (nearR rs) (t.length + 1) [x] t 0 ∧ q.1.length + q.2.1.length ≤ q.2.2.2 + f ∧ q.1.length + q.2.1.length = t.length + 1 ∧ q.2.2.2 ≤ q.1.length ∧ (∀ z, z ∈ q.1 → 0 ≤ z ∧ z ≤ (befK rs rs.length) - 1) ∧ (∀ z, z ∈ q.2.1 → 0 ≤ z ∧ z ≤ (befK rs rs.length) - 1) ∧ 1 ≤ q.1.length) (fun q => t.length + 1 - q.2.2.2) ([x], t, Z0, 0) (⟨t.length + 1, rfl, by simp; omega, by simp; omega, by simp, fun z hz => by rw [List.mem_singleton.1 hz]; exact hx, fun z hz => hrL z (List.mem_cons_of_mem _ hz), by simp⟩) (gh_le ⟨le_upd rfl trivial (le_upd rfl rfl (le_upd rfl trivial (le_upd hsv.symm rfl (le_upd rfl trivial (le_nil _))))), le_hupd rfl trivial (le_hupd hrw0 trivial (le_h0 _ _))⟩)
    rintro ⟨re, le, Z, i⟩ ⟨f2, hb, hf2, hsum, hi, hrr, hrl, hr1⟩
    change bfsK (nearR rs) f2 re le i = bfsK (nearR rs) (t.length + 1) [x] t 0 at hb
    change re.length + le.length ≤ i + f2 at hf2
    change re.length + le.length = t.length + 1 at hsum
    change i ≤ re.length at hi
    change ∀ z, z ∈ re → 0 ≤ z ∧ z ≤ (befK rs rs.length) - 1 at hrr
    change ∀ z, z ∈ le → 0 ≤ z ∧ z ≤ (befK rs rs.length) - 1 at hrl
    change 1 ≤ re.length at hr1
    change W _ _ _ _ (⟨(Ab.upd (Ab.upd (Ab.upd (Ab.upd (Ab.upd (fun _ => .bot) 6 (.f (.pt [xF (skyC rs)] 0))) 8 (.sv 1 P.length le.length)) 9 (.f (iv (((n + 1 : Nat) : Nat) : Int)))) 10 (.ow 2)) 11 (.f (iv ((i : Nat) : Int)))), (Ab.upd (Ab.upd (fun _ => none) 1 (some (.row 3 1 X.length (P ++ intsF le ++ Z)))) 2 (some (.row 3 1 re.length (intsF re)))), 3⟩)
    by_cases hir : i < re.length
    · obtain ⟨f2, rfl⟩ : ∃ g, f2 = g + 1 := ⟨f2 - 1, by omega⟩
      have hgr : re.getD i default = re[i] := getD_at hir
      have hfr := hrr re[i] (List.getElem_mem hir)
      have hstep : bfsK (nearR rs) (f2 + 1) re le i = bfsK (nearR rs) f2 (re ++ le.filter fun k => nearR rs re[i] k) (le.filter fun k => !nearR rs re[i] k) (i + 1) := by rw [bfsK, if_pos hir, hgr]
      have hfp := filter_part (p := fun k => nearR rs re[i] k) le
      repeat (first
    | (apply s_len_svw TY; exact rfl; exact rfl; exact rfl; exact rfl)
    | (refine s_ghost rfl (gh_box 3 (cs := [iv re[i]]) rfl rfl) ?_)
    | (apply s_a TY; exact rfl)
    | (apply s_t; exact rfl; (first | assumption | omega))
    | apply w_seq
    | apply w_region
    | apply s_nil
    | apply t_norm
    | apply w_block
    | apply w_skip
    | (apply w_condT; exact rfl; exact rfl)
    | (apply s_c TY; exact rfl; (first | omega | exact ⟨by omega, by (first | with_reducible assumption | ((with_reducible apply intsF_ne); omega) | assumption)⟩))
    | (apply s_r TY; exact rfl; (first | exact rfl | with_reducible assumption | ((with_reducible apply intsF_at); omega) | assumption))
    | (apply s_alloc TY; exact rfl; exact rfl; exact rfl)
    | (apply s_store TY; exact rfl; exact rfl; exact rfl; exact rfl; exact rfl; exact rfl))
      apply w_loop (fun j : Nat => ⟨(Ab.upd (Ab.upd (Ab.upd (Ab.upd (Ab.upd (Ab.upd (Ab.upd (Ab.upd (Ab.upd (fun _ => .bot) 6 (.f (.pt [xF (skyC rs)] 0))) 8 (.sv 1 P.length le.length)) 9 (.f (iv (((n + 1 : Nat) : Nat) : Int)))) 10 (.ow 2)) 11 (.f (iv ((i : Nat) : Int)))) 12 (.f (.pt [iv re[i]] 0))) 47 (.sv 1 P.length le.length)) 48 (.f (iv le.length))) 49 (.f (iv ((j : Nat) : Int)))), (Ab.upd (Ab.upd (fun _ => none) 1 (some (.row 3 1 X.length (P ++ intsF le ++ Z)))) 2 (some (.row 3 1 (re ++ (le.take j).filter (fun k => nearR rs re[i] k)).length (intsF (re ++ (le.take j).filter (fun k => nearR rs re[i] k)))))), 3⟩) (fun j => j ≤ le.length) (fun j => le.length - j) 0 (Nat.zero_le _) (gh_le ⟨le_upd rfl trivial (le_upd rfl trivial (le_upd rfl rfl (le_upd rfl trivial (le_upd rfl trivial (le_upd rfl rfl (le_upd rfl trivial (le_upd rfl rfl (le_upd rfl trivial (le_nil _))))))))), le_hupd (rowI2 (by simp)) trivial (le_hupd rfl trivial (le_h0 _ _))⟩)
      intro j hj
      by_cases hjl : j < le.length
      · have hatj := at_mid (P := P) (Z := Z) (X := le) (j := j) hjl
        have hlj := hrl le[j] (List.getElem_mem hjl)
        have HN := near_s (skyC rs) (skyC_cels o) re[i].toNat le[j].toNat (by omega) (by omega)
        rw [near_eq o (by omega) (by omega), show ((re[i].toNat : Nat) : Int) = re[i] by omega, show ((le[j].toNat : Nat) : Int) = le[j] by omega] at HN
        have hfl := List.length_filter_le (fun k => nearR rs re[i] k) (le.take j)
        have hrx : (re ++ (le.take j).filter (fun k => nearR rs re[i] k)).length = re.length + ((le.take j).filter (fun k => nearR rs re[i] k)).length := List.length_append
        have htk : (le.take j).length = j := by rw [List.length_take]; omega
        cases hv : nearR rs re[i] le[j] with
        | true =>
          rw [hv] at HN
          have hs : (re ++ (le.take (j + 1)).filter (fun k => nearR rs re[i] k)) = (re ++ (le.take j).filter (fun k => nearR rs re[i] k)) ++ [le[j]] := by rw [List.take_succ_eq_append_getElem hjl, List.filter_append, List.filter_cons_of_pos (by exact hv), List.append_assoc]; rfl
          have hrow : some (Blk.row 3 1 ((re ++ (le.take j).filter (fun k => nearR rs re[i] k)).length + 1) (intsF (re ++ (le.take j).filter (fun k => nearR rs re[i] k)) ++ [iv le[j]])) = some (Blk.row 3 1 (re ++ (le.take (j + 1)).filter (fun k => nearR rs re[i] k)).length (intsF (re ++ (le.take (j + 1)).filter (fun k => nearR rs re[i] k)))) := by rw [hs]; exact rowI_snoc rfl
          repeat (first
    | (apply s_idx_svw TY; exact rfl; exact rfl; exact rfl; exact rfl; exact rfl; omega; omega)
    | (apply s_append TY; exact rfl; exact rfl; exact rfl; exact rfl; exact rfl; exact rfl; exact rfl; exact rfl; exact rfl; (unfold maxLen; omega); omega)
    | (apply s_a TY; exact rfl)
    | (apply s_t; exact rfl; (first | assumption | omega))
    | apply w_seq
    | apply w_region
    | apply s_nil
    | apply t_norm
    | apply k_norm
    | apply w_block
    | apply w_skip
    | (apply w_condT; exact rfl; exact rfl)
    | (apply s_k (HN); exact rfl)
    | (apply s_c TY; exact rfl; (first | omega | exact ⟨by omega, by (first | with_reducible assumption | ((with_reducible apply intsF_ne); omega) | assumption)⟩))
    | (apply s_r TY; exact rfl; (first | exact rfl | with_reducible assumption | ((with_reducible apply intsF_at); omega) | assumption)))
          exact ⟨j + 1, by omega, by omega, gh_le ⟨le_upd rfl trivial (le_upd rfl trivial (le_upd rfl rfl (le_upd rfl trivial (le_upd rfl trivial (le_upd rfl rfl (le_upd rfl trivial (le_upd rfl rfl (le_upd rfl trivial (le_nil _))))))))), le_hupd hrow trivial (le_hupd rfl trivial (le_h0 _ _))⟩⟩
        | false =>
          rw [hv] at HN
          have hs : (re ++ (le.take (j + 1)).filter (fun k => nearR rs re[i] k)) = (re ++ (le.take j).filter (fun k => nearR rs re[i] k)) := by rw [List.take_succ_eq_append_getElem hjl, List.filter_append, List.filter_cons_of_neg (by simp [hv])]; simp
          have hrow := rowI2 hs.symm
          repeat (first
    | (apply s_idx_svw TY; exact rfl; exact rfl; exact rfl; exact rfl; exact rfl; omega; omega)
    | (apply s_a TY; exact rfl)
    | (apply s_t; exact rfl; (first | assumption | omega))
    | apply w_seq
    | apply w_region
    | apply s_nil
    | apply t_norm
    | apply k_norm
    | apply w_block
    | apply w_skip
    | (apply w_condT; exact rfl; exact rfl)
    | (apply w_condF; exact rfl; exact rfl)
    | (apply s_k (HN); exact rfl)
    | (apply s_c TY; exact rfl; (first | omega | exact ⟨by omega, by (first | with_reducible assumption | ((with_reducible apply intsF_ne); omega) | assumption)⟩))
    | (apply s_r TY; exact rfl; (first | exact rfl | with_reducible assumption | ((with_reducible apply intsF_at); omega) | assumption)))
          exact ⟨j + 1, by omega, by omega, gh_le ⟨le_upd rfl trivial (le_upd rfl trivial (le_upd rfl rfl (le_upd rfl trivial (le_upd rfl trivial (le_upd rfl rfl (le_upd rfl trivial (le_upd rfl rfl (le_upd rfl trivial (le_nil _))))))))), le_hupd hrow trivial (le_hupd rfl trivial (le_h0 _ _))⟩⟩
      · have hje : j = le.length := by omega
        subst hje
        have htl2 : (re ++ (le.take le.length).filter (fun k => nearR rs re[i] k)) = re ++ le.filter (fun k => nearR rs re[i] k) := by rw [List.take_length]
        have hrow2 := rowI2 htl2
        repeat (first
    | (apply s_callG [1] (delI_g P le Z X.length 151 [.pt [xF (skyC rs)] 0, .pt [iv re[i]] 0] (fun k => nearR rs re[i] k) (by omega) (fun j hj => nearFrom_s rs o re[i] le[j] hfr (hrl le[j] (List.getElem_mem hj)))); exact rfl; exact rfl; exact rfl; exact ⟨rfl, trivial⟩; exact rfl; exact ⟨rfl, rfl⟩)
    | (apply s_makefn; exact rfl; exact rfl)
    | (apply s_a TY; exact rfl)
    | (apply s_f; exact rfl; (first | assumption | omega))
    | apply w_seq
    | apply w_region
    | apply s_nil
    | apply t_norm
    | apply t_exit
    | apply k_hit
    | apply k_norm
    | apply w_exit
    | (apply w_condF; exact rfl; exact rfl)
    | (apply s_c TY; exact rfl; (first | omega | exact ⟨by omega, by (first | with_reducible assumption | ((with_reducible apply intsF_ne); omega) | assumption)⟩)))
        refine ⟨(re ++ le.filter (fun k => nearR rs re[i] k), le.filter (fun k => !nearR rs re[i] k), zeroR (le.length - (le.filter (fun k => !nearR rs re[i] k)).length) ++ Z, i + 1), ⟨f2, ?_, ?_, ?_, ?_, ?_, ?_, ?_⟩, ?_, gh_le ⟨le_upd rfl trivial (le_upd rfl rfl (le_upd rfl trivial (le_upd rfl rfl (le_upd rfl trivial (le_nil _))))), le_hupd hrow2 trivial (le_hupd rfl trivial (le_h0 _ _))⟩⟩
        · exact hstep.symm.trans hb
        · show (re ++ le.filter fun k => nearR rs re[i] k).length + (le.filter fun k => !nearR rs re[i] k).length ≤ i + 1 + f2
          rw [List.length_append]; omega
        · show (re ++ le.filter fun k => nearR rs re[i] k).length + (le.filter fun k => !nearR rs re[i] k).length = t.length + 1
          rw [List.length_append]; omega
        · show i + 1 ≤ (re ++ le.filter fun k => nearR rs re[i] k).length
          rw [List.length_append]; omega
        · intro z hz
          rcases List.mem_append.1 hz with h | h
          · exact hrr z h
          · exact hrl z (List.mem_filter.1 h).1
        · intro z hz
          exact hrl z (List.mem_filter.1 hz).1
        · show 1 ≤ (re ++ le.filter fun k => nearR rs re[i] k).length
          rw [List.length_append]; omega
        · show t.length + 1 - (i + 1) < t.length + 1 - i
          omega
    · have hie : i = re.length := by omega
      have hend : bfsK (nearR rs) f2 re le i = (re, le) := by
        cases f2 with
        | zero => rfl
        | succ f2 => rw [bfsK, if_neg hir]
      have hle : (bfsK (nearR rs) (t.length + 1) [x] t 0).2 = le := by rw [← hb, hend]
      repeat (first
    | (apply s_a TY; exact rfl)
    | (apply s_f; exact rfl; (first | assumption | omega))
    | apply w_seq
    | apply w_region
    | apply s_nil
    | apply t_norm
    | apply t_exit
    | apply k_hit
    | apply k_norm
    | apply w_exit
    | (apply w_condF; exact rfl; exact rfl))
      refine ⟨(P, le, Z, n + 1), ⟨f, ?_, ?_, ?_, ?_⟩, ?_, gh_le ⟨le_upd rfl trivial (le_upd rfl rfl (le_upd rfl trivial (le_nil _))), le_hupd rfl trivial (le_h0 _ _)⟩⟩
      · show le.length ≤ f
        omega
      · show partsP (nearR rs) f le + (n + 1) = _
        rw [partsP, hle] at hp
        omega
      · exact hrl
      · show n + 1 + le.length ≤ X.length
        omega
      · show le.length < (x :: t).length
        omega
end Go.Proofs.YtenkgipcblfocaaGreat
namespace Go.Proofs.YtenkgipcblfocaaGreat
open Go Go.RowKit Go.Proofs Go.Shelf Go.Ab
end Go.Proofs.YtenkgipcblfocaaGreat
namespace Go.Proofs.YtenkgipcblfocaaGreat
open Go Go.RowKit Go.Proofs Go.Shelf Go.Ab
end Go.Proofs.YtenkgipcblfocaaGreat
namespace Go.Proofs.YtenkgipcblfocaaGreat
open Go Go.RowKit Go.Proofs Go.Shelf Go.Ab
end Go.Proofs.YtenkgipcblfocaaGreat
namespace Go.Proofs.YtenkgipcblfocaaGreat
open Go Go.RowKit Go.Proofs Go.Shelf Go.Ab
end Go.Proofs.YtenkgipcblfocaaGreat
namespace Go.Proofs.YtenkgipcblfocaaGreat
open Go Go.RowKit Go.Proofs Go.Shelf Go.Ab
end Go.Proofs.YtenkgipcblfocaaGreat
namespace Go.Proofs.YtenkgipcblfocaaGreat
open Go Go.RowKit Go.Proofs Go.Shelf Go.Ab
end Go.Proofs.YtenkgipcblfocaaGreat
namespace Go.Proofs.YtenkgipcblfocaaGreat
open Go Go.RowKit Go.Proofs Go.Shelf Go.Ab
theorem ints_set (L : List Int) (k : Nat) (z : Int) : setAt (intsF L) (k * 1) [iv z] = intsF (L.set k z) := by
  show (intsF L).set (k * 1) (iv z) = _
  rw [Nat.mul_one]
  unfold intsF
  rw [List.map_set]
theorem OrdOk.len {l : List Job} {o : List Int} (q : OrdOk l o) : o.length ≤ l.length := by
  have h := pig (n := l.length) (o := o.map Int.toNat) (List.pairwise_map.2 (q.nd.imp_of_mem fun {a b} ha hb hne e => hne (by
    have h1 := q.mem a ha; have h2 := q.mem b hb; omega))) (fun z hz => by
    obtain ⟨y, hy, rfl⟩ := List.mem_map.1 hz
    have := q.mem y hy; omega)
  simpa using h
end Go.Proofs.YtenkgipcblfocaaGreat
namespace Go.Proofs.YtenkgipcblfocaaGreat
open Go Go.RowKit Go.Proofs Go.Shelf Go.Ab
theorem row_0add (o : List Int) : some (Blk.row 3 1 (0 + o.length) ([] ++ intsF o)) = some (Blk.row 3 1 o.length (intsF o)) := by rw [Nat.zero_add]; rfl
set_option maxRecDepth 100000 in
theorem CopyInts_g (o : List Int) (hol : o.length ≤ 1000000) : SummG Tryz.prog GG 51 [] [.f (.sl o.length (intsF o))] (.ow 0) [.row 3 1 o.length (intsF o)] := by
  have hlen : (intsF o).length = o.length * 1 := intsF_len o
  refine summG_of Tryz.func51 rfl rfl 6 rfl (by simp) (by simp) (fun i B B' h1 h2 => by simp at h1) (fun M X J => ?_)
  repeat (first
    | (apply s_bslicew TY (len := 0); exact rfl; exact rfl; exact rfl; exact rfl; exact rfl; exact rfl; exact rfl; exact rfl; exact rfl)
    | (apply s_append TY; (first | exact rfl | exact hlen); (first | exact rfl | exact hlen); (first | exact rfl | exact hlen); (first | exact rfl | exact hlen); (first | exact rfl | exact hlen); (first | exact rfl | exact hlen); (first | exact rfl | exact hlen); (first | exact rfl | exact hlen); (first | exact rfl | exact hlen); (unfold maxLen; omega); omega)
    | (apply s_a TY; exact rfl)
    | apply w_seq
    | apply w_region
    | apply s_nil
    | apply t_norm
    | apply w_ret)
  exact lvG_ret (gh_one 0 2 rfl (row_0add o)) (rg1 rfl (rv_tmp rfl))
end Go.Proofs.YtenkgipcblfocaaGreat
namespace Go.Proofs.YtenkgipcblfocaaGreat
open Go Go.RowKit Go.Proofs Go.Shelf Go.Ab
set_option maxRecDepth 100000 in
set_option maxHeartbeats 6400000 in
theorem Parts_s (rs X : List Int) (o : SkyOk rs) (hXl : X.length ≤ 1000000) (hc : celsE (befK rs rs.length) X = 0) : Summ Tryz.prog GG 92 [skF rs, .sl X.length (intsF X)] (iv ((partsP (nearR rs) X.length X : Nat) : Int)) := by
  obtain ⟨hr, hasc⟩ := celsE_of hc
  have hs : ∀ a b, nearR rs a b = nearR rs b a := fun a b => near_symm a b
  refine summW Tryz.func92 rfl rfl 72 rfl (by simp) (fun M0 => ?_)
  repeat (first
    | (apply s_callG [] (CopyInts_g X hXl); exact rfl; exact rfl; exact rfl; exact trivial; exact rfl; (first | exact ⟨rfl, rfl⟩ | exact ⟨⟨rfl, rfl⟩, ⟨rfl, rfl⟩⟩))
    | (apply s_a TY; exact rfl)
    | apply w_seq
    | apply w_region
    | apply s_nil
    | apply t_norm
    | apply w_block)
  apply w_loop (fun q : List Int × Bool => ⟨(Ab.upd (Ab.upd (Ab.upd (Ab.upd (fun _ => .bot) 1 (.f (.sl X.length (intsF X)))) 2 (.f (.pt [.sl rs.length (intsF rs)] 0))) 5 (.ow 0)) 6 (.f (.v (.bool q.2)))), (Ab.upd (fun _ => none) 0 (some (.row 3 1 X.length (intsF q.1)))), 1⟩) (fun q => MkOk (nearR rs) X q.1 ∧ (q.2 = false → ∀ i k, i < X.length → k < X.length → stillM (nearR rs) X q.1 i k)) (fun q => sumM q.1 * 2 + q.2.toNat) (X, true) (⟨mk_start, fun h => (nomatch h)⟩) (gh_le ⟨le_upd rfl trivial (le_upd rfl rfl (le_upd rfl trivial (le_upd rfl trivial (le_nil _)))), le_hupd rfl trivial (le_h0 _ _)⟩)
  rintro ⟨m0, c⟩ ⟨ho, hst0⟩
  change MkOk (nearR rs) X m0 at ho
  have hml := ho.len
  cases c with
  | true =>
    change W _ _ _ _ (⟨(Ab.upd (Ab.upd (Ab.upd (Ab.upd (fun _ => .bot) 1 (.f (.sl X.length (intsF X)))) 2 (.f (.pt [.sl rs.length (intsF rs)] 0))) 5 (.ow 0)) 6 (.f (.v (.bool true)))), (Ab.upd (fun _ => none) 0 (some (.row 3 1 X.length (intsF m0)))), 1⟩)
    repeat (first
    | (apply s_a TY; exact rfl)
    | apply w_seq
    | apply w_region
    | apply s_nil
    | apply t_norm
    | apply w_block
    | apply w_skip
    | (apply w_condT; exact rfl; exact rfl))
    apply w_loop (fun q : Nat × List Int × Bool => ⟨(Ab.upd (Ab.upd (Ab.upd (Ab.upd (Ab.upd (fun _ => .bot) 1 (.f (.sl X.length (intsF X)))) 2 (.f (.pt [.sl rs.length (intsF rs)] 0))) 5 (.ow 0)) 6 (.f (.v (.bool q.2.2)))) 7 (.f (iv ((q.1 : Nat) : Int)))), (Ab.upd (fun _ => none) 0 (some (.row 3 1 X.length (intsF q.2.1)))), 1⟩) (fun q => Sweep (nearR rs) X m0 q.1 0 q.2.1 q.2.2 ∧ q.1 ≤ X.length) (fun q => X.length - q.1) (0, m0, false) (⟨sweep_start ho, Nat.zero_le _⟩) (gh_le ⟨le_upd rfl trivial (le_upd rfl trivial (le_upd rfl rfl (le_upd rfl trivial (le_upd rfl trivial (le_nil _))))), le_hupd rfl trivial (le_h0 _ _)⟩)
    rintro ⟨i, m1, c1⟩ ⟨hsw, hi⟩
    change Sweep (nearR rs) X m0 i 0 m1 c1 at hsw
    change i ≤ X.length at hi
    change W _ _ _ _ (⟨(Ab.upd (Ab.upd (Ab.upd (Ab.upd (Ab.upd (fun _ => .bot) 1 (.f (.sl X.length (intsF X)))) 2 (.f (.pt [.sl rs.length (intsF rs)] 0))) 5 (.ow 0)) 6 (.f (.v (.bool c1)))) 7 (.f (iv ((i : Nat) : Int)))), (Ab.upd (fun _ => none) 0 (some (.row 3 1 X.length (intsF m1)))), 1⟩)
    by_cases hiX : i < X.length
    · repeat (first
    | (apply s_a TY; exact rfl)
    | (apply s_t; exact rfl; (first | assumption | omega))
    | apply w_seq
    | apply w_region
    | apply s_nil
    | apply t_norm
    | apply w_block
    | apply w_skip
    | (apply w_condT; exact rfl; exact rfl))
      apply w_loop (fun q : Nat × List Int × Bool => ⟨(Ab.upd (Ab.upd (Ab.upd (Ab.upd (Ab.upd (Ab.upd (fun _ => .bot) 1 (.f (.sl X.length (intsF X)))) 2 (.f (.pt [.sl rs.length (intsF rs)] 0))) 5 (.ow 0)) 6 (.f (.v (.bool q.2.2)))) 7 (.f (iv ((i : Nat) : Int)))) 8 (.f (iv ((q.1 : Nat) : Int)))), (Ab.upd (fun _ => none) 0 (some (.row 3 1 X.length (intsF q.2.1)))), 1⟩) (fun q => Sweep (nearR rs) X m0 i q.1 q.2.1 q.2.2 ∧ q.1 ≤ X.length) (fun q => X.length - q.1) (0, m1, c1) (⟨hsw, Nat.zero_le _⟩) (gh_le ⟨le_upd rfl trivial (le_upd rfl trivial (le_upd rfl trivial (le_upd rfl rfl (le_upd rfl trivial (le_upd rfl trivial (le_nil _)))))), le_hupd rfl trivial (le_h0 _ _)⟩)
      rintro ⟨k, mk, c2⟩ ⟨hsk, hk⟩
      change Sweep (nearR rs) X m0 i k mk c2 at hsk
      change k ≤ X.length at hk
      change W _ _ _ _ (⟨(Ab.upd (Ab.upd (Ab.upd (Ab.upd (Ab.upd (Ab.upd (fun _ => .bot) 1 (.f (.sl X.length (intsF X)))) 2 (.f (.pt [.sl rs.length (intsF rs)] 0))) 5 (.ow 0)) 6 (.f (.v (.bool c2)))) 7 (.f (iv ((i : Nat) : Int)))) 8 (.f (iv ((k : Nat) : Int)))), (Ab.upd (fun _ => none) 0 (some (.row 3 1 X.length (intsF mk)))), 1⟩)
      by_cases hkX : k < X.length
      · have hmk := hsk.ok.len
        have him : i < mk.length := by omega
        have hkm : k < mk.length := by omega
        have gi := getD_at him
        have gk := getD_at hkm
        have xi := getD_at hiX
        have xk := getD_at hkX
        have hne : intsF mk ≠ [] := intsF_ne (k := 0) (by omega)
        have rXi := hr X[i] (List.getElem_mem hiX)
        have rXk := hr X[k] (List.getElem_mem hkX)
        have HN := Near_s rs o X[i].toNat X[k].toNat (by omega) (by omega)
        rw [show ((X[i].toNat : Nat) : Int) = X[i] by omega, show ((X[k].toNat : Nat) : Int) = X[k] by omega] at HN
        by_cases hlt : mk[i] < mk[k]
        · cases hv : nearR rs X[i] X[k] with
          | true =>
            rw [hv] at HN
            have hnext := sweep_set (near := nearR rs) hs (fun z hz => (hr z hz).1) hsk hiX hkX (by rw [gi, gk]; exact hlt) (by rw [xi, xk]; exact hv)
            rw [gi] at hnext
            have hst : k * 1 + 1 ≤ (intsF mk).length := by rw [intsF_len]; omega
            have hrow : some (Blk.row 3 1 X.length (setAt (intsF mk) (k * 1) [iv mk[i]])) = some (Blk.row 3 1 X.length (intsF (mk.set k mk[i]))) := by rw [ints_set]
            repeat (first
    | (apply s_storeR TY; exact rfl; exact rfl; exact rfl; exact rfl; exact rfl; exact hst)
    | (apply s_a TY; exact rfl)
    | (apply s_t; exact rfl; (first | assumption | omega))
    | apply w_seq
    | apply w_region
    | (apply w_draw (id := 11) 19 rfl (by kernel_rfl))
    | apply s_nil
    | apply t_norm
    | apply k_norm
    | apply w_block
    | apply w_skip
    | (apply w_condT; exact rfl; exact rfl)
    | (apply s_k (HN); exact rfl)
    | (apply s_c TY; exact rfl; (first | omega | exact ⟨by omega, by (first | with_reducible assumption | ((with_reducible apply intsF_ne); omega) | assumption)⟩))
    | (apply s_l TY; exact rfl; (first | exact rfl | with_reducible assumption | ((with_reducible apply intsF_at); omega) | assumption))
    | (apply s_r TY; exact rfl; (first | exact rfl | with_reducible assumption | ((with_reducible apply intsF_at); omega) | assumption)))
            exact ⟨(k + 1, mk.set k mk[i], true), ⟨hnext, by show k + 1 ≤ X.length; omega⟩, by show X.length - (k + 1) < X.length - k; omega, gh_le ⟨le_upd rfl trivial (le_upd rfl trivial (le_upd rfl trivial (le_upd rfl rfl (le_upd rfl trivial (le_upd rfl trivial (le_nil _)))))), le_hupd hrow trivial (le_h0 _ _)⟩⟩
          | false =>
            rw [hv] at HN
            have hnext := sweep_stay hsk (fun h => by rw [xi, xk, hv] at h; cases h.2)
            repeat (first
    | (apply s_a TY; exact rfl)
    | (apply s_t; exact rfl; (first | assumption | omega))
    | apply w_seq
    | apply w_region
    | (apply w_draw (id := 11) 19 rfl (by kernel_rfl))
    | apply s_nil
    | apply t_norm
    | apply k_norm
    | apply w_block
    | apply w_skip
    | (apply w_condT; exact rfl; exact rfl)
    | (apply w_condF; exact rfl; exact rfl)
    | (apply s_k (HN); exact rfl)
    | (apply s_c TY; exact rfl; (first | omega | exact ⟨by omega, by (first | with_reducible assumption | ((with_reducible apply intsF_ne); omega) | assumption)⟩))
    | (apply s_l TY; exact rfl; (first | exact rfl | with_reducible assumption | ((with_reducible apply intsF_at); omega) | assumption))
    | (apply s_r TY; exact rfl; (first | exact rfl | with_reducible assumption | ((with_reducible apply intsF_at); omega) | assumption)))
            exact ⟨(k + 1, mk, c2), ⟨hnext, by show k + 1 ≤ X.length; omega⟩, by show X.length - (k + 1) < X.length - k; omega, gh_le ⟨le_upd rfl trivial (le_upd rfl trivial (le_upd rfl trivial (le_upd rfl rfl (le_upd rfl trivial (le_upd rfl trivial (le_nil _)))))), le_hupd rfl trivial (le_h0 _ _)⟩⟩
        · have hnext := sweep_stay hsk (fun h => hlt (by rw [← gi, ← gk]; exact h.1))
          repeat (first
    | (apply s_a TY; exact rfl)
    | (apply s_t; exact rfl; (first | assumption | omega))
    | (apply s_f; exact rfl; (first | assumption | omega))
    | apply w_seq
    | apply w_region
    | (apply w_draw (id := 11) 19 rfl (by kernel_rfl))
    | apply s_nil
    | apply t_norm
    | apply k_norm
    | apply w_block
    | apply w_skip
    | (apply w_condT; exact rfl; exact rfl)
    | (apply w_condF; exact rfl; exact rfl)
    | (apply s_s; exact rfl)
    | (apply s_c TY; exact rfl; (first | omega | exact ⟨by omega, by (first | with_reducible assumption | ((with_reducible apply intsF_ne); omega) | assumption)⟩))
    | (apply s_r TY; exact rfl; (first | exact rfl | with_reducible assumption | ((with_reducible apply intsF_at); omega) | assumption)))
          exact ⟨(k + 1, mk, c2), ⟨hnext, by show k + 1 ≤ X.length; omega⟩, by show X.length - (k + 1) < X.length - k; omega, gh_le ⟨le_upd rfl trivial (le_upd rfl trivial (le_upd rfl trivial (le_upd rfl rfl (le_upd rfl trivial (le_upd rfl trivial (le_nil _)))))), le_hupd rfl trivial (le_h0 _ _)⟩⟩
      · have hke : k = X.length := by omega
        subst hke
        repeat (first
    | (apply s_a TY; exact rfl)
    | (apply s_f; exact rfl; (first | assumption | omega))
    | apply w_seq
    | apply w_region
    | apply s_nil
    | apply t_norm
    | apply t_exit
    | apply k_hit
    | apply k_norm
    | apply w_exit
    | (apply w_condF; exact rfl; exact rfl)
    | (apply s_c TY; exact rfl; (first | omega | exact ⟨by omega, by (first | with_reducible assumption | ((with_reducible apply intsF_ne); omega) | assumption)⟩)))
        exact ⟨(i + 1, mk, c2), ⟨sweep_row hsk, by show i + 1 ≤ X.length; omega⟩, by show X.length - (i + 1) < X.length - i; omega, gh_le ⟨le_upd rfl trivial (le_upd rfl trivial (le_upd rfl rfl (le_upd rfl trivial (le_upd rfl trivial (le_nil _))))), le_hupd rfl trivial (le_h0 _ _)⟩⟩
    · have hie : i = X.length := by omega
      repeat (first
    | (apply s_a TY; exact rfl)
    | (apply s_f; exact rfl; (first | assumption | omega))
    | apply w_seq
    | apply w_region
    | apply s_nil
    | apply t_norm
    | apply t_exit
    | apply k_hit
    | apply k_norm
    | apply w_exit
    | (apply w_condF; exact rfl; exact rfl))
      refine ⟨(m1, c1), ⟨hsw.ok, fun h a b ha hb => ?_⟩, ?_, gh_le ⟨le_upd rfl trivial (le_upd rfl rfl (le_upd rfl trivial (le_upd rfl trivial (le_nil _)))), le_hupd rfl trivial (le_h0 _ _)⟩⟩
      · change c1 = false at h
        show stillM (nearR rs) X m1 a b
        rw [hsw.same h]
        exact hsw.still h a b ha hb (by omega)
      · show sumM m1 * 2 + c1.toNat < sumM m0 * 2 + true.toNat
        cases c1 with
        | true => have := hsw.low rfl; show sumM m1 * 2 + 1 < sumM m0 * 2 + 1; omega
        | false => rw [hsw.same rfl]; show sumM m0 * 2 + 0 < sumM m0 * 2 + 1; omega
  | false =>
    change W _ _ _ _ (⟨(Ab.upd (Ab.upd (Ab.upd (Ab.upd (fun _ => .bot) 1 (.f (.sl X.length (intsF X)))) 2 (.f (.pt [.sl rs.length (intsF rs)] 0))) 5 (.ow 0)) 6 (.f (.v (.bool false)))), (Ab.upd (fun _ => none) 0 (some (.row 3 1 X.length (intsF m0)))), 1⟩)
    have hfin := marks_search hs hasc ho (hst0 rfl)
    repeat (first
    | (apply s_a TY; exact rfl)
    | apply w_seq
    | apply w_region
    | apply s_nil
    | apply t_norm
    | apply t_exit
    | apply k_hit
    | apply w_block
    | apply w_exit
    | (apply w_condF; exact rfl; exact rfl))
    generalize m0 = mk at *
    apply w_loop (fun k : Nat => ⟨(Ab.upd (Ab.upd (Ab.upd (Ab.upd (Ab.upd (fun _ => .bot) 1 (.f (.sl X.length (intsF X)))) 2 (.f (.pt [.sl rs.length (intsF rs)] 0))) 5 (.ow 0)) 9 (.f (iv ((ownK X mk k : Nat) : Int)))) 10 (.f (iv ((k : Nat) : Int)))), (Ab.upd (fun _ => none) 0 (some (.row 3 1 X.length (intsF mk)))), 1⟩) (fun k => k ≤ X.length) (fun k => X.length - k) 0 (Nat.zero_le _) (gh_le ⟨le_upd rfl trivial (le_upd rfl trivial (le_upd rfl rfl (le_upd rfl trivial (le_upd rfl trivial (le_nil _))))), le_hupd rfl trivial (le_h0 _ _)⟩)
    intro k hk
    by_cases hkX : k < X.length
    · have hkm : k < mk.length := by omega
      have hne : intsF mk ≠ [] := intsF_ne (k := 0) (by omega)
      have hle := ownK_le X mk k
      have hsu := ownK_succ X mk k
      rw [getD_at hkm, getD_at hkX] at hsu
      by_cases he : mk[k] = X[k]
      · rw [if_pos he] at hsu
        have hcast : ((ownK X mk k : Nat) : Int) + 1 = ((ownK X mk (k + 1) : Nat) : Int) := by omega
        repeat (first
    | (apply s_a TY; exact rfl)
    | (apply s_t; exact rfl; (first | assumption | omega))
    | apply w_seq
    | apply w_region
    | (apply w_draw (id := 17) 8 rfl (by kernel_rfl))
    | apply s_nil
    | apply t_norm
    | apply k_norm
    | apply w_block
    | apply w_skip
    | (apply w_condT; exact rfl; exact rfl)
    | (apply s_c TY; exact rfl; (first | omega | exact ⟨by omega, by (first | with_reducible assumption | ((with_reducible apply intsF_ne); omega) | assumption)⟩))
    | (apply s_l TY; exact rfl; (first | exact rfl | with_reducible assumption | ((with_reducible apply intsF_at); omega) | assumption))
    | (apply s_r TY; exact rfl; (first | exact rfl | with_reducible assumption | ((with_reducible apply intsF_at); omega) | assumption)))
        exact ⟨k + 1, by omega, by omega, gh_le ⟨le_upd rfl trivial (le_upd (congrArg (fun z => AV.f (iv z)) hcast.symm) trivial (le_upd rfl rfl (le_upd rfl trivial (le_upd rfl trivial (le_nil _))))), le_hupd rfl trivial (le_h0 _ _)⟩⟩
      · rw [if_neg he] at hsu
        have hcast : ((ownK X mk k : Nat) : Int) = ((ownK X mk (k + 1) : Nat) : Int) := by omega
        repeat (first
    | (apply s_a TY; exact rfl)
    | (apply s_t; exact rfl; (first | assumption | omega))
    | (apply s_f; exact rfl; (first | assumption | omega))
    | apply w_seq
    | apply w_region
    | (apply w_draw (id := 17) 8 rfl (by kernel_rfl))
    | apply s_nil
    | apply t_norm
    | apply k_norm
    | apply w_block
    | apply w_skip
    | (apply w_condT; exact rfl; exact rfl)
    | (apply w_condF; exact rfl; exact rfl)
    | (apply s_c TY; exact rfl; (first | omega | exact ⟨by omega, by (first | with_reducible assumption | ((with_reducible apply intsF_ne); omega) | assumption)⟩))
    | (apply s_l TY; exact rfl; (first | exact rfl | with_reducible assumption | ((with_reducible apply intsF_at); omega) | assumption))
    | (apply s_r TY; exact rfl; (first | exact rfl | with_reducible assumption | ((with_reducible apply intsF_at); omega) | assumption)))
        exact ⟨k + 1, by omega, by omega, gh_le ⟨le_upd rfl trivial (le_upd (congrArg (fun z => AV.f (iv z)) hcast.symm) trivial (le_upd rfl rfl (le_upd rfl trivial (le_upd rfl trivial (le_nil _))))), le_hupd rfl trivial (le_h0 _ _)⟩⟩
    · have hke : k = X.length := by omega
      subst hke
      rw [← hfin]
      repeat (first
    | (apply s_a TY; exact rfl)
    | (apply s_f; exact rfl; (first | assumption | omega))
    | apply w_seq
    | apply w_region
    | apply s_nil
    | apply t_norm
    | apply t_exit
    | apply k_hit
    | apply w_exit
    | apply w_ret
    | (apply w_condF; exact rfl; exact rfl))
      exact lv_ret (ret1 rfl (res_tmp rfl))
set_option maxRecDepth 100000 in
theorem WeightIn_err (rs m l : List Int) (cs : List Cel) (e e2 E : Int) (hE : firstE [e, e2] = E) (hne : E ≠ 0) (HM : Summ Tryz.prog GG 112 [skF rs, skF m] (.tup [xF cs, iv e])) (HC : Summ Tryz.prog GG 122 [xF cs, .sl l.length (intsF l)] (iv e2)) : Summ Tryz.prog GG 50 [skF rs, skF m, .sl l.length (intsF l)] (.tup [iv 0, iv E]) := by
  have HF := first2_s e e2
  rw [hE] at HF
  refine summW Tryz.func50 rfl rfl 28 rfl (by simp) (fun M0 => ?_)
  repeat (first
    | (apply s_a TY; exact rfl)
    | (apply s_f; exact rfl; (first | assumption | omega))
    | apply w_seq
    | apply w_region
    | apply s_nil
    | apply t_norm
    | apply t_ret
    | apply w_ret
    | (apply w_condT; exact rfl; exact rfl)
    | (apply s_k (HM); exact rfl)
    | (apply s_k (HC); exact rfl)
    | (apply s_k (HF); exact rfl))
  exact lv_ret (ret2 rfl (res_tmp rfl) (res_tmp rfl))
set_option maxRecDepth 100000 in
theorem WeightIn_ok (rs m l : List Int) (o : SkyOk rs) (om : MapOk (befK rs rs.length) m) (hl : l.length ≤ 1000) (hc : celsE (befK rs rs.length) l = 0) : Summ Tryz.prog GG 50 [skF rs, skF m, .sl l.length (intsF l)] (.tup [iv (sumI (wI m) l), iv 0]) := by
  have HM := openMap_sky rs m o (by have := om.len; have := skyC_bd o; have := skyC_len o; omega)
  rw [mapChk_ok om] at HM
  have hb := skyC_bd o
  have HC := cellsErr_s (skyC rs) l (by omega) (by omega)
  rw [skyC_len o, hc] at HC
  have HF := first2_s 0 0
  rw [show firstE [0, 0] = 0 by simp [firstE]] at HF
  have hin := (celsE_of hc).1
  have hml := om.len
  have hlc := skyC_len o
  have HW := weight_s m l om hl (fun z hz => by have := hin z hz; omega)
  refine summW Tryz.func50 rfl rfl 28 rfl (by simp) (fun M0 => ?_)
  repeat (first
    | (apply s_a TY; exact rfl)
    | (apply s_t; exact rfl; (first | assumption | omega))
    | apply w_seq
    | apply w_region
    | apply s_nil
    | apply t_norm
    | apply w_ret
    | apply w_skip
    | (apply w_condF; exact rfl; exact rfl)
    | (apply s_k (HM); exact rfl)
    | (apply s_k (HC); exact rfl)
    | (apply s_k (HF); exact rfl)
    | (apply s_k (HW); exact rfl))
  exact lv_ret (ret2 rfl (res_tmp rfl) (res_tmp rfl))
theorem fewC_T (l : List Int) (h : l.length ≤ 120) : Summ Tryz.prog GG 41 [.sl l.length (intsF l)] (.v (.bool true)) := by
  refine summW Tryz.func41 rfl rfl 6 rfl (by simp) (fun M0 => ?_)
  repeat (first
    | (apply s_a TY; exact rfl)
    | (apply s_t; exact rfl; (first | assumption | omega))
    | apply w_seq
    | apply w_region
    | apply s_nil
    | apply t_norm
    | apply w_ret)
  exact lv_ret (ret1 rfl (res_tmp rfl))
theorem fewC_F (l : List Int) (h : 120 < l.length) : Summ Tryz.prog GG 41 [.sl l.length (intsF l)] (.v (.bool false)) := by
  refine summW Tryz.func41 rfl rfl 6 rfl (by simp) (fun M0 => ?_)
  repeat (first
    | (apply s_a TY; exact rfl)
    | (apply s_f; exact rfl; (first | assumption | omega))
    | apply w_seq
    | apply w_region
    | apply s_nil
    | apply t_norm
    | apply w_ret)
  exact lv_ret (ret1 rfl (res_tmp rfl))
set_option maxRecDepth 100000 in
set_option maxHeartbeats 6400000 in
theorem AlertParts_s (rs m X : List Int) : Summ Tryz.prog GG 14 [skF rs, skF m, .sl X.length (intsF X)] (.v (.bool true)) := by
  have HA := awake_s
  by_cases h10 : rs.length ≤ 10
  case neg =>
    have HW := few_F rs (by omega)
    refine summW Tryz.func14 rfl rfl 151 rfl (by simp) (fun M0 => ?_)
    repeat (first
    | (apply s_a TY; exact rfl)
    | apply w_seq
    | apply w_region
    | apply s_nil
    | apply t_norm
    | apply t_ret
    | apply w_ret
    | apply w_skip
    | (apply w_condT; exact rfl; exact rfl)
    | (apply w_condF; exact rfl; exact rfl)
    | (apply s_k (HA); exact rfl)
    | (apply s_k (HW); exact rfl)
    | (apply s_s; exact rfl))
    exact lv_ret (ret1 rfl (res_tmp rfl))
  have HW := few_T rs h10
  by_cases hm : m.length ≤ 120
  case neg =>
    have HX := fewC_F m (by omega)
    refine summW Tryz.func14 rfl rfl 151 rfl (by simp) (fun M0 => ?_)
    repeat (first
    | (apply s_a TY; exact rfl)
    | apply w_seq
    | apply w_region
    | apply s_nil
    | apply t_norm
    | apply t_ret
    | apply w_ret
    | apply w_skip
    | (apply w_condT; exact rfl; exact rfl)
    | (apply w_condF; exact rfl; exact rfl)
    | (apply s_k (HA); exact rfl)
    | (apply s_k (HW); exact rfl)
    | (apply s_k (HX); exact rfl)
    | (apply s_s; exact rfl))
    exact lv_ret (ret1 rfl (res_tmp rfl))
  have HX := fewC_T m hm
  by_cases hX : X.length ≤ 120
  case neg =>
    have HY := fewC_F X (by omega)
    refine summW Tryz.func14 rfl rfl 151 rfl (by simp) (fun M0 => ?_)
    repeat (first
    | (apply s_a TY; exact rfl)
    | apply w_seq
    | apply w_region
    | apply s_nil
    | apply t_norm
    | apply t_ret
    | apply w_ret
    | apply w_skip
    | (apply w_condT; exact rfl; exact rfl)
    | (apply w_condF; exact rfl; exact rfl)
    | (apply s_k (HA); exact rfl)
    | (apply s_k (HW); exact rfl)
    | (apply s_k (HX); exact rfl)
    | (apply s_k (HY); exact rfl))
    exact lv_ret (ret1 rfl (res_tmp rfl))
  have HY := fewC_T X hX
  have HCp := CopySky_s rs (by omega)
  have HCm := CopyMap_s m (by omega)
  have HCx := CopyInts_s X (by omega)
  have HS := SkyErr_s rs (by omega)
  by_cases he : (skyChk rs).2 = 0
  case neg =>
    have H1 := PartsOf_err rs X [] (skyChk rs).2 he (openCells_sky rs X (by omega) (by omega) he)
    have H2 := WeightIn_err rs m X [] (skyChk rs).2 (celsE (([] : List Cel).length : Nat) X) (skyChk rs).2 (by simp [firstE, he]) he (openMap_err rs m (by omega) he) (cellsErr_s [] X (by omega) (by simp))
    have H3 := CheckMap_err rs m (by omega) he
    refine summW Tryz.func14 rfl rfl 151 rfl (by simp) (fun M0 => ?_)
    repeat (first
    | (apply s_a TY; exact rfl)
    | (apply s_t; exact rfl; (first | assumption | omega))
    | (apply s_f; exact rfl; (first | assumption | omega))
    | apply w_seq
    | apply w_region
    | (apply w_draw (id := 6) 11 rfl (by kernel_rfl))
    | (apply w_draw (id := 7) 9 rfl (by kernel_rfl))
    | apply s_nil
    | apply t_norm
    | apply t_ret
    | apply w_ret
    | apply w_skip
    | (apply w_condT; exact rfl; exact rfl)
    | (apply w_condF; exact rfl; exact rfl)
    | (apply s_k (HA); exact rfl)
    | (apply s_k (HW); exact rfl)
    | (apply s_k (HX); exact rfl)
    | (apply s_k (HY); exact rfl)
    | (apply s_k (HCp); exact rfl)
    | (apply s_k (HCm); exact rfl)
    | (apply s_k (HCx); exact rfl)
    | (apply s_k (HS); exact rfl)
    | (apply s_k (H1); exact rfl)
    | (apply s_k (H2); exact rfl)
    | (apply s_k (H3); exact rfl))
    exact lv_ret (ret1 rfl (res_tmp rfl))
  have o := skyOk_of he
  rw [he] at HS
  have hb := skyC_bd o
  have H3 := CheckMap_sky rs m o (by omega)
  have HR := rMapErr_s rs m o (by omega)
  have HE := rCellsErr_s rs X o (by omega)
  have HOM := openMap_sky rs m o (by omega)
  have HCE := cellsErr_s (skyC rs) X (by omega) (by omega)
  rw [skyC_len o] at HCE
  by_cases hc : celsE (befK rs rs.length) X = 0
  case neg =>
    have H1 := PartsOf_err rs X (skyC rs) (celsE (befK rs rs.length) X) hc (openCells_ok rs X o (by omega))
    by_cases hmo : (mapChk (befK rs rs.length) m).2 = 0
    · have H2 := WeightIn_err rs m X (skyC rs) (mapChk (befK rs rs.length) m).2 (celsE (befK rs rs.length) X) (celsE (befK rs rs.length) X) (by simp [firstE, hmo]; intro h; exact h.symm) hc HOM HCE
      refine summW Tryz.func14 rfl rfl 151 rfl (by simp) (fun M0 => ?_)
      repeat (first
    | (apply s_a TY; exact rfl)
    | (apply s_t; exact rfl; (first | assumption | omega))
    | (apply s_f; exact rfl; (first | assumption | omega))
    | apply w_seq
    | apply w_region
    | (apply w_draw (id := 6) 11 rfl (by kernel_rfl))
    | (apply w_draw (id := 7) 9 rfl (by kernel_rfl))
    | apply s_nil
    | apply t_norm
    | apply t_ret
    | apply w_ret
    | apply w_skip
    | (apply w_condT; exact rfl; exact rfl)
    | (apply w_condF; exact rfl; exact rfl)
    | (apply s_k (HA); exact rfl)
    | (apply s_k (HW); exact rfl)
    | (apply s_k (HX); exact rfl)
    | (apply s_k (HY); exact rfl)
    | (apply s_k (HCp); exact rfl)
    | (apply s_k (HCm); exact rfl)
    | (apply s_k (HCx); exact rfl)
    | (apply s_k (HS); exact rfl)
    | (apply s_k (H1); exact rfl)
    | (apply s_k (H2); exact rfl)
    | (apply s_k (H3); exact rfl)
    | (apply s_k (HR); exact rfl)
    | (apply s_k (HE); exact rfl)
    | (apply s_s; exact rfl))
      exact lv_ret (ret1 rfl (res_tmp rfl))
    · have H2 := WeightIn_err rs m X (skyC rs) (mapChk (befK rs rs.length) m).2 (celsE (befK rs rs.length) X) (mapChk (befK rs rs.length) m).2 (by simp [firstE, hmo]) hmo HOM HCE
      refine summW Tryz.func14 rfl rfl 151 rfl (by simp) (fun M0 => ?_)
      repeat (first
    | (apply s_a TY; exact rfl)
    | (apply s_t; exact rfl; (first | assumption | omega))
    | (apply s_f; exact rfl; (first | assumption | omega))
    | apply w_seq
    | apply w_region
    | (apply w_draw (id := 6) 11 rfl (by kernel_rfl))
    | (apply w_draw (id := 7) 9 rfl (by kernel_rfl))
    | apply s_nil
    | apply t_norm
    | apply t_ret
    | apply w_ret
    | apply w_skip
    | (apply w_condT; exact rfl; exact rfl)
    | (apply w_condF; exact rfl; exact rfl)
    | (apply s_k (HA); exact rfl)
    | (apply s_k (HW); exact rfl)
    | (apply s_k (HX); exact rfl)
    | (apply s_k (HY); exact rfl)
    | (apply s_k (HCp); exact rfl)
    | (apply s_k (HCm); exact rfl)
    | (apply s_k (HCx); exact rfl)
    | (apply s_k (HS); exact rfl)
    | (apply s_k (H1); exact rfl)
    | (apply s_k (H2); exact rfl)
    | (apply s_k (H3); exact rfl)
    | (apply s_k (HR); exact rfl)
    | (apply s_k (HE); exact rfl)
    | (apply s_s; exact rfl))
      exact lv_ret (ret1 rfl (res_tmp rfl))
  rw [hc] at HE
  have H1 := PartsOf_ok rs X o (by omega) hc
  have HP := Parts_s rs X o (by omega) hc
  by_cases hmo : (mapChk (befK rs rs.length) m).2 = 0
  · have om := mapOk_of hmo
    have H2 := WeightIn_ok rs m X o om (by omega) hc
    have hin := (celsE_of hc).1
    have hml := om.len
    have HWr := rWeight_s m X om (by omega) (fun z hz => by have := hin z hz; omega)
    refine summW Tryz.func14 rfl rfl 151 rfl (by simp) (fun M0 => ?_)
    repeat (first
    | (apply s_a TY; exact rfl)
    | (apply s_t; exact rfl; (first | assumption | omega))
    | apply w_seq
    | apply w_region
    | (apply w_draw (id := 6) 11 rfl (by kernel_rfl))
    | (apply w_draw (id := 7) 9 rfl (by kernel_rfl))
    | apply s_nil
    | apply t_norm
    | apply w_ret
    | apply w_skip
    | (apply w_condT; exact rfl; exact rfl)
    | (apply w_condF; exact rfl; exact rfl)
    | (apply s_k (HA); exact rfl)
    | (apply s_k (HW); exact rfl)
    | (apply s_k (HX); exact rfl)
    | (apply s_k (HY); exact rfl)
    | (apply s_k (HCp); exact rfl)
    | (apply s_k (HCm); exact rfl)
    | (apply s_k (HCx); exact rfl)
    | (apply s_k (HS); exact rfl)
    | (apply s_k (H1); exact rfl)
    | (apply s_k (H2); exact rfl)
    | (apply s_k (H3); exact rfl)
    | (apply s_k (HR); exact rfl)
    | (apply s_k (HE); exact rfl)
    | (apply s_k (HP); exact rfl)
    | (apply s_k (HWr); exact rfl)
    | (apply s_s; exact rfl))
    exact lv_ret (ret1 rfl (res_tmp rfl))
  · have H2 := WeightIn_err rs m X (skyC rs) (mapChk (befK rs rs.length) m).2 (celsE (befK rs rs.length) X) (mapChk (befK rs rs.length) m).2 (by simp [firstE, hmo]) hmo HOM HCE
    refine summW Tryz.func14 rfl rfl 151 rfl (by simp) (fun M0 => ?_)
    repeat (first
    | (apply s_a TY; exact rfl)
    | (apply s_t; exact rfl; (first | assumption | omega))
    | (apply s_f; exact rfl; (first | assumption | omega))
    | apply w_seq
    | apply w_region
    | (apply w_draw (id := 6) 11 rfl (by kernel_rfl))
    | (apply w_draw (id := 7) 9 rfl (by kernel_rfl))
    | apply s_nil
    | apply t_norm
    | apply t_ret
    | apply w_ret
    | apply w_skip
    | (apply w_condT; exact rfl; exact rfl)
    | (apply w_condF; exact rfl; exact rfl)
    | (apply s_k (HA); exact rfl)
    | (apply s_k (HW); exact rfl)
    | (apply s_k (HX); exact rfl)
    | (apply s_k (HY); exact rfl)
    | (apply s_k (HCp); exact rfl)
    | (apply s_k (HCm); exact rfl)
    | (apply s_k (HCx); exact rfl)
    | (apply s_k (HS); exact rfl)
    | (apply s_k (H1); exact rfl)
    | (apply s_k (H2); exact rfl)
    | (apply s_k (H3); exact rfl)
    | (apply s_k (HR); exact rfl)
    | (apply s_k (HE); exact rfl)
    | (apply s_k (HP); exact rfl)
    | (apply s_s; exact rfl))
    exact lv_ret (ret1 rfl (res_tmp rfl))
end Go.Proofs.YtenkgipcblfocaaGreat
namespace Go.Ab
open Go Go.RowKit
section
variable {P : Program} {w : World}
end
end Go.Ab
namespace Go.Proofs.YtenkgipcblfocaaGreat
open Go Go.Ab Go.ChangeShapes Go.WideShapes Go.ChangeAt Go.RowKit
theorem ownKnobT : ownKnob Tryz.prog.godebug = none := by kernel_rfl
theorem laidOutT : laidOutB Tryz.prog = true := by kernel_rfl
theorem trodAll_stays {H : Type} {enc : TypeId × Value → H} {W W' : World} {sp : Nat → Bool} (hb : Below W.heap.size W W') : ∀ {ts : List TypeId} {vs : List Value} {ds : List (DataW H)} {ps : List MemPlace}, (∀ t ∈ ts, Tryz.prog.readableRec t = true ∧ t < Tryz.prog.types.size) → DataW.TrodAll enc Tryz.prog W 0 (fun _ => true) true ts vs ds ps → (∀ p ∈ ps, p.block < W.heap.size) → (∀ p ∈ ps, sp p.block = true) → DataW.TrodAll enc Tryz.prog W' 0 sp true ts vs ds ps
  | [], [], [], _, _, h, _, _ => h
  | t :: ts, v :: vs, d :: ds, ps, ht, ⟨p, q, h1, h2, e⟩, hlt, hsp => by
    have hp : ∀ x ∈ p, x ∈ ps := fun x hx => by rw [e]; exact List.mem_append_left _ hx
    have hq : ∀ x ∈ q, x ∈ ps := fun x hx => by rw [e]; exact List.mem_append_right _ hx
    exact ⟨p, q, WideElems.Trod_stays laidOutT (ht t (by simp)).1 (ht t (by simp)).2 h1 (fun x hx => hb.same (hlt x (hp x hx))) (fun x hx => hsp x (hp x hx)),
      trodAll_stays hb (fun u hu => ht u (by simp [hu])) h2 (fun x hx => hlt x (hq x hx)) (fun x hx => hsp x (hq x hx)), e⟩
theorem post_law {H : Type} {enc : TypeId × Value → H} {f : Func} {s : ChangeSpec} {W W' : World} {args : Array Value} {ds gs : List (DataW H)} {before : List MemPlace}
    (hW : DataW.Whole enc Tryz.prog f.params.toList s.vars false W args.toList ds gs before) (hv : s.vars = []) (hr : f.resultTypes = #[4])
    (ht : ∀ t ∈ f.params.toList, Tryz.prog.readableRec t = true ∧ t < Tryz.prog.types.size)
    (hres : (s.fn H (ds ++ gs)).results = [.lit (.bool true)]) (hargs : (s.fn H (ds ++ gs)).args = ds) (hvs : (s.fn H (ds ++ gs)).vars = [])
    (hb : Below W.heap.size W W') : s.post enc Tryz.prog f false true false false W args (.bool true) W' := by
  have hlt := hW.lt
  have hW0 := hW
  obtain ⟨p, q, h1, h2, e, hz, hn⟩ := hW
  have h2' := h2
  rw [hv] at h2'
  have hq : gs = [] ∧ q = [] := by
    cases gs with
    | nil => exact ⟨rfl, h2'⟩
    | cons g r => exact absurd h2' (by intro h; cases h)
  obtain ⟨rfl, rfl⟩ := hq
  rw [List.append_nil] at e
  subst e
  refine ⟨ds, [], before, [], before, [], hW0, ?_, ?_, ?_, Below.frame hb _, fun h => by cases h⟩
  · rw [hr, hres]; exact trodAll_mk1 (shut_bool Tryz.underlying4 true)
  · rw [hargs]
    exact trodAll_stays hb ht h1 hlt (fun x hx => by simpa using hlt x hx)
  · rw [hv, hvs]; rfl
theorem sq_map {α : Type} (f : α → FV) : ∀ l : List α, l.flatMap (fun x => [f x]) = l.map f
  | [] => rfl
  | x :: l => by rw [List.flatMap_cons, sq_map f l]; rfl
section
variable {W : World}
theorem opens_i : Opens Tryz.prog W 3 (fun z : Int => [iv z]) := opens_int Tryz.underlying3
theorem opens_ints : Opens Tryz.prog W 34 (fun l : List Int => [.sl l.length (intsF l)]) := (opens_sl (s := 1) Tryz.underlying34 (by kernel_rfl) (by decide) opens_i).map id fun l => by rw [sq_map]; rfl
theorem opens_sky : Opens Tryz.prog W 36 (fun l : List Int => [.sl l.length (intsF l)]) := (opens_st Tryz.underlying36 (by kernel_rfl) (ofs_cons (s := 1) (by kernel_rfl) rfl opens_ints (ofs_nil))).map (fun p => p.1) fun _ => rfl
theorem opens_map : Opens Tryz.prog W 72 (fun l : List Int => [.sl l.length (intsF l)]) := (opens_st Tryz.underlying72 (by kernel_rfl) (ofs_cons (s := 1) (by kernel_rfl) rfl opens_ints (ofs_nil))).map (fun p => p.1) fun _ => rfl
end
set_option maxRecDepth 100000 in
theorem arg_st {H : Type} {enc : TypeId × Value → H} {W : World} {base : Nat} {T : TypeId} {fs : Array Field} {α : Type} {f : α → List FV} {v : Value} {d : DataW H} {ps : List MemPlace} (h : Opens Tryz.prog W T f) (ht : Tryz.prog.underlying T = some (.struct fs)) (hv : Value.okWide Tryz.prog W .any base T v) (hd : DataW.Trod enc Tryz.prog W 0 (fun _ => true) true T v d ps) : ∃ a, RepF W (fun _ => False) v (.agg (f a)) := by
  obtain ⟨cs, e, _⟩ := okWide_struct ht hv
  exact arg_agg h e hd
set_option maxRecDepth 100000 in
theorem arg_sl {H : Type} {enc : TypeId × Value → H} {W : World} {base : Nat} {T E : TypeId} {α : Type} {f : α → FV} {v : Value} {d : DataW H} {ps : List MemPlace} (h : Opens Tryz.prog W T (fun a => [f a])) (ht : Tryz.prog.underlying T = some (.slice E)) (hv : Value.okWide Tryz.prog W .any base T v) (hd : DataW.Trod enc Tryz.prog W 0 (fun _ => true) true T v d ps) : ∃ a, RepF W (fun _ => False) v (f a) := by
  obtain ⟨a, n, c, rfl⟩ := okWide_slice ht hv
  exact arg_one h rfl hd
theorem law_calls {f : Nat} {xs : List FV} (S : Summ Tryz.prog GG f xs (.v (.bool true))) {W : World} {args : Array Value} (R : RepL W (fun _ => False) args.toList xs) : Calls Tryz.prog f args W fun e W' => e = .returned (.bool true) ∧ Below W.heap.size W W' := by
  have := S.call W (fun _ => False) args.toList (fun _ h => h.elim) (fun g cs h => by cases h) R
  simp only [Array.toArray_toList] at this
  refine this.mono fun e w' ⟨v, h1, h2, h3⟩ => ⟨?_, h3⟩
  rw [h1, repV h2]
end Go.Proofs.YtenkgipcblfocaaGreat
