/- Laws on which the proofs of this seat stand. No condition. -/
import Derived.Test.YtenkgipcblfocaaGreatAo4
import Derived.DataShut
import Derived.Test.YtenkgipcblfocaaGreatRows
import Derived.WalkKit
import Derived.ProofKit
import Derived.OpenShut
import Derived.Stop.Joined
namespace Go.Proofs.YtenkgipcblfocaaGreat
open Go Go.RowKit Go.Proofs Go.Shelf Go.Ab
set_option maxRecDepth 100000 in
set_option maxHeartbeats 1600000 in
theorem RecipientsOf_ok (rs : List Int) (o : SkyOk rs) (l : List Act) (hl : l.length ≤ 40) (hcl : ∀ i, i < l.length → (l.getD i default).cells.length ≤ 1000000) (hE : ∀ i, i < l.length → runE (skyC rs).length l i = 0) (k : Nat) (hk : k < l.length) (h0 : l[k].kind ≠ 0) (h1 : l[k].kind ≠ 1) : Summ Tryz.prog GG 34 [skF rs, .sl l.length (actsF l), iv ((k : Nat) : Int)] (.tup [listF ((runW l l.length)[k]'(by rw [runW_len]; exact hk)), iv 0]) := by
  have HR := replay_ok rs o l hl hcl hE
  have hw : (listsF (runW l l.length))[((k : Nat) : Int).toNat * 1]? = some (listF ((runW l l.length)[k]'(by rw [runW_len]; exact hk))) := by rw [Int.toNat_natCast]; exact listsF_at (by rw [runW_len]; exact hk)
  have hw2 : (listsF (runW l l.length))[k * 1]? = some (listF ((runW l l.length)[k]'(by rw [runW_len]; exact hk))) := listsF_at (by rw [runW_len]; exact hk)
  have hne : listsF (runW l l.length) ≠ [] := listsF_ne (k := k) (by rw [runW_len]; exact hk)
  generalize (runW l l.length)[k]'(by rw [runW_len]; exact hk) = w at hw hw2 ⊢
  refine summW Tryz.func34 rfl rfl 50 rfl (by simp) (fun M0 => ?_)
  repeat (first
    | (apply s_a TY; exact rfl)
    | (apply s_t; exact rfl; (first | assumption | omega))
    | (apply s_f; exact rfl; (first | assumption | omega))
    | apply w_seq
    | apply w_region
    | apply s_nil
    | apply t_norm
    | apply w_ret
    | apply w_skip
    | (apply w_condF; exact rfl; exact rfl)
    | (apply s_k (HR); exact rfl)
    | (apply s_k1 (first2_1 _ _); exact rfl; (first | assumption | omega | decide))
    | (apply s_k (unless_T _); exact rfl)
    | (apply s_k1 (within_T _ _ _); exact rfl; (first | assumption | omega | decide))
    | (apply s_c TY; exact rfl; (first | omega | exact ⟨by omega, by (first | with_reducible assumption | ((with_reducible apply actsF_ne); omega) | ((with_reducible apply listsF_ne); omega) | assumption)⟩))
    | (apply s_l TY; exact rfl; (first | exact rfl | with_reducible assumption | ((with_reducible apply actsF_f0); omega) | ((with_reducible apply actsF_f1); omega) | ((with_reducible apply actsF_f2); omega) | ((with_reducible apply listsF_at); omega) | assumption)))
  exact lv_ret (ret2 rfl (res_tmp rfl) (res_tmp rfl))
end Go.Proofs.YtenkgipcblfocaaGreat
namespace Go.Proofs.YtenkgipcblfocaaGreat
open Go Go.RowKit Go.Proofs Go.Shelf Go.Ab
structure PtOk (p : Pt) : Prop where
  h : -1000000 ≤ p.height ∧ p.height ≤ 1000000
  t : 0 ≤ p.turn ∧ p.turn ≤ 999999
set_option maxRecDepth 100000 in
set_option maxHeartbeats 1600000 in
theorem turned_fix_ok (pt : Pt) (n : Int) (o : PtOk pt) (h : 0 ≤ n ∧ n ≤ 1000000000000) : Summ Tryz.prog GG 100 [ptF pt, iv n, iv 1] (.tup [ptF ⟨pt.height, turnedZ pt.turn n 1⟩, iv 0]) := by
  have HP := pointErr_s pt
  rw [ptE_0 ⟨o.h, o.t⟩] at HP
  have ho := o.t
  have hz := turnZ_bd n
  have HT := turnAt_s n (by omega)
  refine summW Tryz.func100 rfl rfl 30 rfl (by simp) (fun M0 => ?_)
  repeat (first
    | (apply s_boxw (T := 23); exact rfl; exact rfl; exact rfl; exact rfl)
    | (apply s_a TY; exact rfl)
    | (apply s_t; exact rfl; (first | assumption | omega))
    | apply w_seq
    | apply w_region
    | (apply w_draw (id := 4) 6 rfl (by kernel_rfl))
    | apply s_nil
    | apply t_norm
    | apply w_ret
    | apply w_skip
    | (apply w_condF; exact rfl; exact rfl)
    | (apply s_k (HP); exact rfl)
    | (apply s_k (HT); exact rfl)
    | (apply s_k1 (tickErr_T _); exact rfl; (first | assumption | omega | decide))
    | (apply s_k1 (first2_1 _ _); exact rfl; (first | assumption | omega | decide))
    | (apply s_c TY; exact rfl; omega)
    | (apply s_alloc TY; exact rfl; exact rfl; exact rfl)
    | (apply s_store TY; exact rfl; exact rfl; exact rfl; exact rfl; exact rfl; exact rfl))
  exact lv_ret (ret2 rfl (res_bxs TY rfl rfl rfl rfl rfl) (res_tmp rfl))
set_option maxRecDepth 100000 in
theorem FixedOf_ok (pt : Pt) (n : Int) (o : PtOk pt) (h : 0 ≤ n ∧ n ≤ 1000000000000) : Summ Tryz.prog GG 17 [ptF pt, iv n] (.tup [ptF ⟨pt.height, turnedZ pt.turn n 1⟩, iv 0]) := by
  have HT := turned_fix_ok pt n o h
  refine summW Tryz.func17 rfl rfl 11 rfl (by simp) (fun M0 => ?_)
  repeat (first
    | (apply s_a TY; exact rfl)
    | apply w_seq
    | apply w_region
    | apply s_nil
    | apply t_norm
    | apply w_ret
    | (apply s_k (HT); exact rfl)
    | (apply s_alloc TY; exact rfl; exact rfl; exact rfl)
    | (apply s_store TY; exact rfl; exact rfl; exact rfl; exact rfl; exact rfl; exact rfl))
  exact lv_ret (ret2 rfl (res_bxs TY rfl rfl rfl rfl rfl) (res_tmp rfl))
end Go.Proofs.YtenkgipcblfocaaGreat
namespace Go.Proofs.YtenkgipcblfocaaGreat
open Go Go.RowKit Go.Proofs Go.Shelf Go.Ab
theorem rep_slw {w : World} {M : Nat → Prop} {n : Nat} {v : Value} {cs cs' : List FV} (h : RepF w M v (.sl n cs)) (hl : cs.length = cs'.length) (hc : ∀ (k : Nat) (x x' : FV), cs[k]? = some x → cs'[k]? = some x' → ∀ u, RepF w M u x → RepF w M u x') : RepF w M v (.sl n cs') := by
  cases h with
  | sl a n c cs us h1 h2 h3 h4 h5 =>
    refine RepF.sl a n c cs' us h1 (h2.trans hl) h3 h4 (fun k u x hu hx => ?_)
    have hk : k < cs.length := by rw [hl]; exact (List.getElem?_eq_some_iff.1 hx).1
    exact hc k _ x (List.getElem?_eq_getElem hk) hx u (h5 k u _ hu (List.getElem?_eq_getElem hk))
def nilWL : List FV → List FV → Prop
  | [], [] => True
  | x :: xs, y :: ys => (x = y ∨ (x = .v (.slice none 0 0) ∧ y = .sl 0 [])) ∧ nilWL xs ys
  | _, _ => False
theorem nilWL_len : ∀ {xs ys : List FV}, nilWL xs ys → xs.length = ys.length
  | [], [], _ => rfl
  | _ :: _, _ :: _, h => by simp [nilWL_len h.2]
  | [], _ :: _, h => h.elim
  | _ :: _, [], h => h.elim
theorem nilWL_at {w : World} {M : Nat → Prop} : ∀ {xs ys : List FV}, nilWL xs ys → ∀ (k : Nat) (x x' : FV), xs[k]? = some x → ys[k]? = some x' → ∀ u, RepF w M u x → RepF w M u x'
  | [], [], _, k, x, x', h1, _, _, _ => by simp at h1
  | a :: xs, b :: ys, h, 0, x, x', h1, h2, u, r => by
    simp at h1 h2; subst h1; subst h2
    rcases h.1 with e | ⟨e1, e2⟩
    · rwa [← e]
    · rw [e1] at r; rw [e2]; exact rep_nilsl r
  | a :: xs, b :: ys, h, k + 1, x, x', h1, h2, u, r => nilWL_at h.2 k x x' (by simpa using h1) (by simpa using h2) u r
  | [], _ :: _, h, _, _, _, _, _, _, _ => h.elim
  | _ :: _, [], h, _, _, _, _, _, _, _ => h.elim
theorem summ_slw {g n : Nat} {args cs cs' : List FV} (S : Summ Tryz.prog GG g args (.sl n cs)) (h : nilWL cs cs') : Summ Tryz.prog GG g args (.sl n cs') :=
  ⟨S.enters, fun w M us h1 h2 h3 => (S.call w M us h1 h2 h3).mono fun _ _ ⟨v, q1, q2, q3⟩ => ⟨v, q1, rep_slw q2 (nilWL_len h) (nilWL_at h), q3⟩⟩
def exRs : List Int := [1, 4, 4, 1]
def exM : List Int := [0, 5, 3, 0, 0, 2, 0, 0, 0, 0]
def nAnn : Nm := [97, 110, 110]
def nBob : Nm := [98, 111, 98]
def nX : Nm := [120]
def exActs : List Act := [⟨0, nAnn, []⟩, ⟨2, nX, [1, 2]⟩, ⟨0, nBob, []⟩, ⟨3, nX, [1]⟩, ⟨1, nAnn, []⟩, ⟨4, nX, []⟩]
def exJobs : List Job := [⟨0, 5, 9, 1⟩, ⟨1, 2, 4, 5⟩, ⟨2, 1, 9, 3⟩]
theorem Sky_s : Summ Tryz.prog GG 94 [] (skF exRs) := by
  refine summW Tryz.func94 rfl rfl 3 rfl (by simp) (fun M0 => ?_)
  repeat (first
    | (apply s_a TY; exact rfl)
    | apply w_seq
    | apply w_region
    | apply s_nil
    | apply t_norm
    | apply w_ret
    | (apply s_alloc TY; exact rfl; exact rfl; exact rfl)
    | (apply s_store TY; exact rfl; exact rfl; exact rfl; exact rfl; exact rfl; exact rfl))
  exact lv_ret (ret1 rfl (res_bxs (sub := [.sl exRs.length (intsF exRs)]) TY rfl rfl rfl rfl rfl))
theorem Map_s : Summ Tryz.prog GG 95 [] (skF exM) := by
  refine summW Tryz.func95 rfl rfl 3 rfl (by simp) (fun M0 => ?_)
  repeat (first
    | (apply s_a TY; exact rfl)
    | apply w_seq
    | apply w_region
    | apply s_nil
    | apply t_norm
    | apply w_ret
    | (apply s_alloc TY; exact rfl; exact rfl; exact rfl)
    | (apply s_store TY; exact rfl; exact rfl; exact rfl; exact rfl; exact rfl; exact rfl))
  exact lv_ret (ret1 rfl (res_bxs (sub := [.sl exM.length (intsF exM)]) TY rfl rfl rfl rfl rfl))
theorem Jobs_s : Summ Tryz.prog GG 97 [] (.sl exJobs.length (jobsF exJobs)) := by
  refine summW Tryz.func97 rfl rfl 5 rfl (by simp) (fun M0 => ?_)
  repeat (first
    | (apply s_a TY; exact rfl)
    | apply w_seq
    | apply w_region
    | apply s_nil
    | apply t_norm
    | apply w_ret)
  exact lv_ret (ret1 rfl (res_tmp rfl))
def exActsN : List FV := [iv 0, sv nAnn, .v (.slice none 0 0), iv 2, sv nX, .sl 2 (intsF [1, 2]), iv 0, sv nBob, .v (.slice none 0 0), iv 3, sv nX, .sl 1 (intsF [1]), iv 1, sv nAnn, .v (.slice none 0 0), iv 4, sv nX, .v (.slice none 0 0)]
theorem Acts_n : Summ Tryz.prog GG 96 [] (.sl 6 exActsN) := by
  refine summW Tryz.func96 rfl rfl 10 rfl (by simp) (fun M0 => ?_)
  repeat (first
    | (apply s_a TY; exact rfl)
    | apply w_seq
    | apply w_region
    | apply s_nil
    | apply t_norm
    | apply w_ret)
  exact lv_ret (ret1 rfl (res_tmp rfl))
theorem exActs_w : nilWL exActsN (actsF exActs) := ⟨.inl rfl, .inl rfl, .inr ⟨rfl, rfl⟩, .inl rfl, .inl rfl, .inl rfl, .inl rfl, .inl rfl, .inr ⟨rfl, rfl⟩, .inl rfl, .inl rfl, .inl rfl, .inl rfl, .inl rfl, .inr ⟨rfl, rfl⟩, .inl rfl, .inl rfl, .inr ⟨rfl, rfl⟩, trivial⟩
theorem Acts_s : Summ Tryz.prog GG 96 [] (.sl exActs.length (actsF exActs)) := summ_slw Acts_n exActs_w
theorem exSky : SkyOk exRs := skyOk_of (by decide +kernel)
theorem exMap : MapOk (befK exRs exRs.length) exM := mapOk_of (by decide +kernel)
theorem exReg : regV exM 90 = [1, 2, 5] := by
  have h : (sortedW exM).take (regC (wI exM) (sortedW exM) (wantV exM 90)) = [1, 2, 5] := by decide +kernel
  unfold regV
  rw [h]
  unfold ascL
  refine List.mergeSort_of_pairwise ?_
  decide +kernel
theorem exCell : cellZ exRs 500000 250000 = 2 := by decide +kernel
theorem exTurn : turnedZ 700000 43082 1 = 200000 := by decide +kernel
theorem exJobsOk : JobsOk exJobs := jobsOk_of (by decide +kernel)
theorem exOrder : orderO exJobs = some [1, 0, 2] := by decide +kernel
theorem exRun : ∀ i, i < exActs.length → runE (skyC exRs).length exActs i = 0 := by decide +kernel
theorem runW_at (l : List Act) : ∀ (n i : Nat), i < n → (runW l n)[i]? = some (stpW (runS l i) (l.getD i default))
  | 0, i, h => absurd h (Nat.not_lt_zero i)
  | n + 1, i, h => by
    rw [runW]
    by_cases e : i = n
    · subst e
      rw [List.getElem?_append_right (by rw [runW_len]; exact Nat.le_refl _), runW_len, Nat.sub_self]; rfl
    · rw [List.getElem?_append_left (by rw [runW_len]; omega)]
      exact runW_at l n i (by omega)
theorem exWho : (altA (runS exActs 5).2 nX).kys = [nAnn, nBob] := by decide +kernel
theorem exAsc : ascN [nAnn, nBob] = [nAnn, nBob] := by
  unfold ascN
  refine List.mergeSort_of_pairwise ?_
  decide +kernel
theorem exRec : (runW exActs exActs.length)[5]? = some [nAnn, nBob] := by
  rw [runW_at exActs exActs.length 5 (by decide)]
  show some (ascN (altA (runS exActs 5).2 nX).kys) = _
  rw [exWho, exAsc]
end Go.Proofs.YtenkgipcblfocaaGreat
namespace Go.Proofs.YtenkgipcblfocaaGreat
open Go Go.RowKit Go.Proofs Go.Shelf Go.Ab
theorem stood_pt : Tryz.prog.stoodInHeld 23 = false := by kernel_rfl
theorem fields_pt : Tryz.prog.fieldsOf 23 = #[{ name := "Height", type := 3, offset := 0, embedded := false, tag := "", pkgPath := "", byteOffset := 0 }, { name := "Turn", type := 3, offset := 1, embedded := false, tag := "", pkgPath := "", byteOffset := 8 }] := by kernel_rfl
theorem equalIn_pt (d : Nat) (a b : Pt) (W : World) : (Op.equalIn (d + 2) 23 (.agg #[.int .i64 a.height, .int .i64 a.turn]) (.agg #[.int .i64 b.height, .int .i64 b.turn])).run Tryz.prog W = .ok (decide (a = b)) W := by
  rw [run_equalIn_agg W (d + 1) 23 _ _ (by rw [fields_pt]; exact Tryz.underlying23) stood_pt, fields_pt]
  have e : decide (a = b) = (a.height == b.height && a.turn == b.turn) := by
    cases a; cases b; simp [Pt.mk.injEq]
    try simp [Bool.and_assoc]
    try rfl
  rw [e]
  cases h0 : a.height == b.height <;> cases h1 : a.turn == b.turn <;> simp [Op.eqFields, part, run_equalIn_int W d 3 _ _ _ _ Tryz.underlying3, h0, h1]
theorem guard_pt : Tryz.prog.eqGuardType Tryz.prog.depth 23 = false := by kernel_rfl
theorem eq_pt {x y : Operand} {a b : Pt} {c : Bool} (h : decide (a = b) = c) : ∀ w, (do eqGuard .eql 23 x y (.agg #[.int .i64 a.height, .int .i64 a.turn]) (.agg #[.int .i64 b.height, .int .i64 b.turn]); binOp .eql 23 (.agg #[.int .i64 a.height, .int .i64 a.turn]) (.agg #[.int .i64 b.height, .int .i64 b.turn]) : Sem Value).run Tryz.prog w = .ok (.bool c) w := fun w => by
  have h1 := equalIn_pt 9998 a b w
  rw [h] at h1
  first
  | (simp [eqGuard, run_eql_struct, h1]; done)
  | simp [eqGuard, guard_pt, run_eql_struct, h1]
theorem eqI {x y : Operand} {h1 t1 h2 t2 : Int} {c : Bool} (h : decide ((⟨h1, t1⟩ : Pt) = ⟨h2, t2⟩) = c) : ∀ w, (do eqGuard .eql 23 x y (.agg #[.int .i64 h1, .int .i64 t1]) (.agg #[.int .i64 h2, .int .i64 t2]); binOp .eql 23 (.agg #[.int .i64 h1, .int .i64 t1]) (.agg #[.int .i64 h2, .int .i64 t2]) : Sem Value).run Tryz.prog w = .ok (.bool c) w := eq_pt (a := ⟨h1, t1⟩) (b := ⟨h2, t2⟩) h
set_option maxRecDepth 100000 in
set_option maxHeartbeats 1600000 in
theorem awake_s : Summ Tryz.prog GG 15 [] (.v (.bool true)) := by
  have H1 := Sky_s
  have H2 := CellOf_ok exRs ⟨500000, 250000⟩ exSky (by decide)
  rw [show cellZ exRs (Pt.height ⟨500000, 250000⟩) (Pt.turn ⟨500000, 250000⟩) = 2 from exCell] at H2
  have H3 := Map_s
  have H4 := RegionOf_of exRs exM 90 exSky exMap (by decide) (stab_few (by decide))
  rw [exReg] at H4
  have H5 := FixedOf_ok ⟨7, 700000⟩ 43082 ⟨by decide, by decide⟩ (by decide)
  rw [show turnedZ (Pt.turn ⟨7, 700000⟩) 43082 1 = 200000 from exTurn] at H5
  have H6 := Acts_s
  have H7 := RecipientsOf_ok exRs exSky exActs (by decide) (by decide) exRun 5 (by decide) (by decide) (by decide)
  have hw : (runW exActs exActs.length)[5]'(by rw [runW_len]; decide) = [nAnn, nBob] := by
    have := exRec
    rw [List.getElem?_eq_getElem (by rw [runW_len]; decide)] at this
    exact Option.some.inj this
  rw [hw] at H7
  have H8 := Jobs_s
  have H9 := OrderFor_ok exJobs exJobsOk
  rw [exOrder, show (if (some [(1 : Int), 0, 2]).isSome = true then (0 : Int) else 12) = 0 from rfl] at H9
  have HA := Ints_s [1, 2, 5] [1, 2, 5] (by decide) (by decide)
  rw [decide_eq_true rfl] at HA
  have HB := Ints_s [1, 0, 2] [1, 0, 2] (by decide) (by decide)
  rw [decide_eq_true rfl] at HB
  have HC := Texts_s [nAnn, nBob] [nAnn, nBob] (by decide) (by decide)
  rw [decide_eq_true rfl] at HC
  refine summW Tryz.func15 rfl rfl 81 rfl (by simp) (fun M0 => ?_)
  repeat (first
    | (apply s_bind; exact rfl; exact rfl; exact rfl; exact rfl; exact rfl; exact rfl; exact eqI rfl)
    | (apply s_a TY; exact rfl)
    | (apply s_t; exact rfl; (first | assumption | omega))
    | apply w_seq
    | apply w_region
    | apply s_nil
    | apply t_norm
    | apply w_ret
    | (apply s_k (H1); exact rfl)
    | (apply s_k (H2); exact rfl)
    | (apply s_k (H3); exact rfl)
    | (apply s_k (H4); exact rfl)
    | (apply s_k (H5); exact rfl)
    | (apply s_k (H6); exact rfl)
    | (apply s_k (H7); exact rfl)
    | (apply s_k (H8); exact rfl)
    | (apply s_k (H9); exact rfl)
    | (apply s_k (HA); exact rfl)
    | (apply s_k (HB); exact rfl)
    | (apply s_k (HC); exact rfl)
    | (apply s_alloc TY; exact rfl; exact rfl; exact rfl)
    | (apply s_store TY; exact rfl; exact rfl; exact rfl; exact rfl; exact rfl; exact rfl))
  exact lv_ret (ret1 rfl (res_tmp rfl))
end Go.Proofs.YtenkgipcblfocaaGreat
namespace Go.Proofs.YtenkgipcblfocaaGreat
open Go Go.RowKit Go.Proofs Go.Shelf Go.Ab
end Go.Proofs.YtenkgipcblfocaaGreat
namespace Go.Proofs.YtenkgipcblfocaaGreat
open Go Go.RowKit Go.Proofs Go.Shelf Go.Ab
theorem rCheckJobs_big (l : List Job) (h : 7 < l.length) : Summ Tryz.prog GG 60 [.sl l.length (jobsF l)] (.tup [iv 0, iv 8]) := by
  refine summW Tryz.func60 rfl rfl 42 rfl (by simp) (fun M0 => ?_)
  repeat (first
    | (apply s_a TY; exact rfl)
    | (apply s_t; exact rfl; (first | assumption | omega))
    | apply w_seq
    | apply w_region
    | apply s_nil
    | apply t_norm
    | apply t_ret
    | apply w_ret
    | (apply w_condT; exact rfl; exact rfl))
  exact lv_ret (ret2 rfl (res_tmp rfl) (res_tmp rfl))
theorem JobsErr_a (l : List Job) : Summ Tryz.prog GG 55 [.sl l.length (jobsF l)] (iv (jobsChk l).2) := by
  by_cases h : l.length ≤ 1000000
  · exact JobsErr_s l h
  have HB := rCheckJobs_big l (by omega)
  rw [show jobsChk l = (0, 8) by unfold jobsChk; rw [if_pos (by omega)]]
  refine summW Tryz.func55 rfl rfl 11 rfl (by simp) (fun M0 => ?_)
  repeat (first
    | (apply s_a TY; exact rfl)
    | apply w_seq
    | apply w_region
    | apply s_nil
    | apply t_norm
    | apply w_ret
    | (apply s_k (HB); exact rfl))
  exact lv_ret (ret1 rfl (res_tmp rfl))
set_option maxRecDepth 100000 in
set_option maxHeartbeats 6400000 in
theorem AlertOnTime_s (l : List Job) (o : List Int) : Summ Tryz.prog GG 10 [.sl l.length (jobsF l), .sl o.length (intsF o)] (.v (.bool true)) := by
  have HA := awake_s
  have HJ := JobsErr_a l
  by_cases he : (jobsChk l).2 = 0
  case neg =>
    refine summW Tryz.func10 rfl rfl 172 rfl (by simp) (fun M0 => ?_)
    repeat (first
    | (apply s_a TY; exact rfl)
    | (apply s_f; exact rfl; (first | assumption | omega))
    | apply w_seq
    | apply w_region
    | apply s_nil
    | apply t_norm
    | apply t_ret
    | apply w_ret
    | apply w_skip
    | (apply w_condT; exact rfl; exact rfl)
    | (apply w_condF; exact rfl; exact rfl)
    | (apply s_k (HA); exact rfl)
    | (apply s_k (HJ); exact rfl)
    | (apply s_s; exact rfl))
    exact lv_ret (ret1 rfl (res_tmp rfl))
  have ok := jobsOk_of he
  have hlen := ok.len
  rw [he] at HJ
  by_cases hol : (o.length : Int) = l.length
  case neg =>
    refine summW Tryz.func10 rfl rfl 172 rfl (by simp) (fun M0 => ?_)
    repeat (first
    | (apply s_a TY; exact rfl)
    | (apply s_t; exact rfl; (first | assumption | omega))
    | (apply s_f; exact rfl; (first | assumption | omega))
    | apply w_seq
    | apply w_region
    | apply s_nil
    | apply t_norm
    | apply t_ret
    | apply w_ret
    | apply w_skip
    | (apply w_condT; exact rfl; exact rfl)
    | (apply w_condF; exact rfl; exact rfl)
    | (apply s_k (HA); exact rfl)
    | (apply s_k (HJ); exact rfl))
    exact lv_ret (ret1 rfl (res_tmp rfl))
  have HCp := CopyJobs_s l (by omega)
  have HF := FinishesOf_ok l ok
  have HO := OrderFor_ok l ok
  have hfl : (finL l).length = l.length := finL_len l.length
  obtain ⟨hea, hapt⟩ := finL_each ok
  have HPo := permutes_s o l.length (by omega) (by omega)
  cases ho : orderO l with
  | none =>
    rw [ho, show (if (none : Option (List Int)).isSome = true then (0 : Int) else 12) = 12 from rfl] at HO
    refine summW Tryz.func10 rfl rfl 172 rfl (by simp) (fun M0 => ?_)
    repeat (first
    | (apply s_a TY; exact rfl)
    | (apply s_t; exact rfl; (first | assumption | omega))
    | (apply s_f; exact rfl; (first | assumption | omega))
    | apply w_seq
    | apply w_region
    | apply s_nil
    | apply t_norm
    | apply w_block
    | apply w_skip
    | (apply w_condF; exact rfl; exact rfl)
    | (apply s_k (HA); exact rfl)
    | (apply s_k (HJ); exact rfl)
    | (apply s_k (HCp); exact rfl)
    | (apply s_k (HF); exact rfl)
    | (apply s_k (HO); exact rfl)
    | (apply s_s; exact rfl))
    apply w_loop (fun j : Nat => ⟨(Ab.upd (Ab.upd (Ab.upd (Ab.upd (Ab.upd (Ab.upd (Ab.upd (fun _ => .bot) 0 (.f (.sl l.length (jobsF l)))) 1 (.f (.sl o.length (intsF o)))) 5 (.f (.sl l.length (intsF (finL l))))) 7 (.f (.v (.slice none 0 0)))) 8 (.f (iv 12))) 9 (.f (iv (maxK (fun i => (finL l).getD i default) j)))) 10 (.f (iv ((j : Nat) : Int)))), (fun _ => none), 0⟩) (fun j => j ≤ l.length) (fun j => l.length - j) 0 (Nat.zero_le _) (gh_le ⟨le_upd rfl trivial (le_upd rfl trivial (le_upd rfl trivial (le_upd rfl trivial (le_upd rfl trivial (le_upd rfl trivial (le_upd rfl trivial (le_nil _))))))), le_h0 _ _⟩)
    intro j hj
    by_cases hc : j < l.length
    · have hjf : j < (finL l).length := by omega
      have he := hea j hc
      have hjb := ok.job j hc
      rw [getD_at hc, getD_at hjf] at he
      rw [getD_at hc] at hjb
      have hmx : (maxK (fun i => (finL l).getD i default) (j + 1)) = max (maxK (fun i => (finL l).getD i default) j) (finL l)[j] := by rw [maxK, getD_at hjf]
      repeat (first
    | (apply s_a TY; exact rfl)
    | (apply s_t; exact rfl; (first | assumption | omega))
    | apply w_seq
    | apply w_region
    | (apply w_draw (id := 13) 15 rfl (by kernel_rfl))
    | apply s_nil
    | apply t_norm
    | apply w_block
    | apply w_skip
    | (apply w_condT; exact rfl; exact rfl)
    | (apply w_condF; exact rfl; exact rfl)
    | (apply s_k1 (bwithin_T _ _ _); exact rfl; (first | assumption | omega | decide))
    | (apply s_c TY; exact rfl; (first | omega | exact ⟨by omega, by (first | with_reducible assumption | ((with_reducible apply intsF_ne); omega) | ((with_reducible apply jobsF_ne); omega) | assumption)⟩))
    | (apply s_l TY; exact rfl; (first | exact rfl | with_reducible assumption | ((with_reducible apply intsF_at); omega) | ((with_reducible apply jobsF_f0); omega) | ((with_reducible apply jobsF_f1); omega) | ((with_reducible apply jobsF_f2); omega) | ((with_reducible apply jobsF_f3); omega) | assumption)))
      apply w_loop (fun i : Nat => ⟨(Ab.upd (Ab.upd (Ab.upd (Ab.upd (Ab.upd (Ab.upd (Ab.upd (Ab.upd (fun _ => .bot) 0 (.f (.sl l.length (jobsF l)))) 1 (.f (.sl o.length (intsF o)))) 5 (.f (.sl l.length (intsF (finL l))))) 7 (.f (.v (.slice none 0 0)))) 8 (.f (iv 12))) 9 (.f (iv (maxK (fun i => (finL l).getD i default) (j + 1))))) 10 (.f (iv ((j : Nat) : Int)))) 11 (.f (iv ((i : Nat) : Int)))), (fun _ => none), 0⟩) (fun i => i ≤ j) (fun i => j - i) 0 (Nat.zero_le _) (gh_le ⟨le_upd rfl trivial (le_upd rfl trivial (le_upd (congrArg (fun z => AV.f (iv z)) hmx) trivial (le_upd rfl trivial (le_upd rfl trivial (le_upd rfl trivial (le_upd rfl trivial (le_upd rfl trivial (le_nil _)))))))), le_h0 _ _⟩)
      intro i hi
      by_cases hic : i < j
      · have hil : i < l.length := by omega
        have hif : i < (finL l).length := by omega
        have hei := hea i hil
        have hib := ok.job i hil
        have hap := hapt j i hc hil (by omega)
        rw [getD_at hil, getD_at hif] at hei
        rw [getD_at hil] at hib
        rw [getD_at hc, getD_at hil, getD_at hif, getD_at hjf] at hap
        by_cases h1 : (finL l)[j] ≤ (finL l)[i] - l[i].length
        · repeat (first
    | (apply s_a TY; exact rfl)
    | (apply s_t; exact rfl; (first | assumption | omega))
    | (apply s_f; exact rfl; (first | assumption | omega))
    | apply w_seq
    | apply w_region
    | (apply w_draw (id := 19) 30 rfl (by kernel_rfl))
    | apply s_nil
    | apply t_norm
    | apply k_norm
    | apply w_block
    | apply w_skip
    | (apply w_condT; exact rfl; exact rfl)
    | (apply w_condF; exact rfl; exact rfl)
    | (apply s_s; exact rfl)
    | (apply s_c TY; exact rfl; (first | omega | exact ⟨by omega, by (first | with_reducible assumption | ((with_reducible apply intsF_ne); omega) | ((with_reducible apply jobsF_ne); omega) | assumption)⟩))
    | (apply s_l TY; exact rfl; (first | exact rfl | with_reducible assumption | ((with_reducible apply intsF_at); omega) | ((with_reducible apply jobsF_f0); omega) | ((with_reducible apply jobsF_f1); omega) | ((with_reducible apply jobsF_f2); omega) | ((with_reducible apply jobsF_f3); omega) | assumption)))
          exact ⟨i + 1, by omega, by omega, gh_le ⟨le_upd rfl trivial (le_upd rfl trivial (le_upd rfl trivial (le_upd rfl trivial (le_upd rfl trivial (le_upd rfl trivial (le_upd rfl trivial (le_upd rfl trivial (le_nil _)))))))), le_h0 _ _⟩⟩
        · have h2 := hap.resolve_left h1
          repeat (first
    | (apply s_a TY; exact rfl)
    | (apply s_t; exact rfl; (first | assumption | omega))
    | (apply s_f; exact rfl; (first | assumption | omega))
    | apply w_seq
    | apply w_region
    | (apply w_draw (id := 19) 30 rfl (by kernel_rfl))
    | apply s_nil
    | apply t_norm
    | apply k_norm
    | apply w_block
    | apply w_skip
    | (apply w_condT; exact rfl; exact rfl)
    | (apply w_condF; exact rfl; exact rfl)
    | (apply s_c TY; exact rfl; (first | omega | exact ⟨by omega, by (first | with_reducible assumption | ((with_reducible apply intsF_ne); omega) | ((with_reducible apply jobsF_ne); omega) | assumption)⟩))
    | (apply s_l TY; exact rfl; (first | exact rfl | with_reducible assumption | ((with_reducible apply intsF_at); omega) | ((with_reducible apply jobsF_f0); omega) | ((with_reducible apply jobsF_f1); omega) | ((with_reducible apply jobsF_f2); omega) | ((with_reducible apply jobsF_f3); omega) | assumption)))
          exact ⟨i + 1, by omega, by omega, gh_le ⟨le_upd rfl trivial (le_upd rfl trivial (le_upd rfl trivial (le_upd rfl trivial (le_upd rfl trivial (le_upd rfl trivial (le_upd rfl trivial (le_upd rfl trivial (le_nil _)))))))), le_h0 _ _⟩⟩
      · repeat (first
    | (apply s_a TY; exact rfl)
    | (apply s_f; exact rfl; (first | assumption | omega))
    | apply w_seq
    | apply w_region
    | apply s_nil
    | apply t_norm
    | apply t_exit
    | apply k_hit
    | apply k_norm
    | apply w_exit
    | (apply w_condF; exact rfl; exact rfl)
    | (apply s_c TY; exact rfl; (first | omega | exact ⟨by omega, by (first | with_reducible assumption | ((with_reducible apply intsF_ne); omega) | ((with_reducible apply jobsF_ne); omega) | assumption)⟩)))
        exact ⟨j + 1, by omega, by omega, gh_le ⟨le_upd rfl trivial (le_upd rfl trivial (le_upd rfl trivial (le_upd rfl trivial (le_upd rfl trivial (le_upd rfl trivial (le_upd rfl trivial (le_nil _))))))), le_h0 _ _⟩⟩
    · have hjl : j = l.length := by omega
      subst hjl
      by_cases hpo : permB o l.length = true
      case neg =>
        rw [show permB o l.length = false by simpa using hpo] at HPo
        repeat (first
    | (apply s_a TY; exact rfl)
    | (apply s_f; exact rfl; (first | assumption | omega))
    | apply w_seq
    | apply w_region
    | apply s_nil
    | apply t_norm
    | apply t_exit
    | apply t_ret
    | apply k_hit
    | apply w_exit
    | apply w_ret
    | apply w_skip
    | (apply w_condT; exact rfl; exact rfl)
    | (apply w_condF; exact rfl; exact rfl)
    | (apply s_k (HPo); exact rfl)
    | (apply s_s; exact rfl))
        exact lv_ret (ret1 rfl (res_tmp rfl))
      rw [hpo] at HPo
      unfold permB at hpo
      rw [Bool.and_eq_true, decide_eq_true_eq, decide_eq_true_eq] at hpo
      have qo := ordOk_of hpo.1 hpo.2
      have HEo := Ends_s l o ok qo
      have hlast := finL_last ok qo hpo.1
      have hel : (endsK l o o.length).length = l.length := endsK_len _
      have HLo := late_s l o ok qo
      rw [decide_eq_true (orderO_none ho qo hpo.1)] at HLo
      repeat (first
    | (apply s_a TY; exact rfl)
    | (apply s_f; exact rfl; (first | assumption | omega))
    | apply w_seq
    | apply w_region
    | apply s_nil
    | apply t_norm
    | apply t_exit
    | apply k_hit
    | apply w_block
    | apply w_exit
    | apply w_skip
    | (apply w_condF; exact rfl; exact rfl)
    | (apply s_k (HPo); exact rfl)
    | (apply s_k (HEo); exact rfl)
    | (apply s_s; exact rfl))
      apply w_loop (fun k : Nat => ⟨(Ab.upd (Ab.upd (Ab.upd (Ab.upd (Ab.upd (Ab.upd (Ab.upd (fun _ => .bot) 0 (.f (.sl l.length (jobsF l)))) 1 (.f (.sl o.length (intsF o)))) 8 (.f (iv 12))) 9 (.f (iv (maxK (fun i => (finL l).getD i default) l.length)))) 12 (.f (.sl l.length (intsF (endsK l o o.length))))) 13 (.f (iv (maxK (fun i => (endsK l o o.length).getD i default) k)))) 14 (.f (iv ((k : Nat) : Int)))), (fun _ => none), 0⟩) (fun k => k ≤ l.length) (fun k => l.length - k) 0 (Nat.zero_le _) (gh_le ⟨le_upd rfl trivial (le_upd rfl trivial (le_upd rfl trivial (le_upd rfl trivial (le_upd rfl trivial (le_upd rfl trivial (le_upd rfl trivial (le_nil _))))))), le_h0 _ _⟩)
      intro k hk
      by_cases hkc : k < l.length
      · have hke : k < (endsK l o o.length).length := by omega
        have hmx : (maxK (fun i => (endsK l o o.length).getD i default) (k + 1)) = max (maxK (fun i => (endsK l o o.length).getD i default) k) (endsK l o o.length)[k] := by rw [maxK, getD_at hke]
        repeat (first
    | (apply s_a TY; exact rfl)
    | (apply s_t; exact rfl; (first | assumption | omega))
    | apply w_seq
    | apply w_region
    | apply s_nil
    | apply t_norm
    | apply k_norm
    | apply w_block
    | apply w_skip
    | (apply w_condT; exact rfl; exact rfl)
    | (apply s_c TY; exact rfl; (first | omega | exact ⟨by omega, by (first | with_reducible assumption | ((with_reducible apply intsF_ne); omega) | ((with_reducible apply jobsF_ne); omega) | assumption)⟩))
    | (apply s_l TY; exact rfl; (first | exact rfl | with_reducible assumption | ((with_reducible apply intsF_at); omega) | ((with_reducible apply jobsF_f0); omega) | ((with_reducible apply jobsF_f1); omega) | ((with_reducible apply jobsF_f2); omega) | ((with_reducible apply jobsF_f3); omega) | assumption)))
        exact ⟨k + 1, by omega, by omega, gh_le ⟨le_upd rfl trivial (le_upd (congrArg (fun z => AV.f (iv z)) hmx) trivial (le_upd rfl trivial (le_upd rfl trivial (le_upd rfl trivial (le_upd rfl trivial (le_upd rfl trivial (le_nil _))))))), le_h0 _ _⟩⟩
      · have hkl : k = l.length := by omega
        subst hkl
        repeat (first
    | (apply s_a TY; exact rfl)
    | (apply s_t; exact rfl; (first | assumption | omega))
    | (apply s_f; exact rfl; (first | assumption | omega))
    | apply w_seq
    | apply w_region
    | apply s_nil
    | apply t_norm
    | apply t_exit
    | apply k_hit
    | apply w_exit
    | apply w_ret
    | (apply w_condF; exact rfl; exact rfl)
    | (apply s_k (HLo); exact rfl))
        exact lv_ret (ret1 rfl (res_tmp rfl))
  | some x =>
    rw [ho, show (if (some x).isSome = true then (0 : Int) else 12) = 0 from rfl] at HO
    obtain ⟨qx, hxl, hnl⟩ := orderO_some ho
    have HPx := permutes_s x l.length (by omega) (by omega)
    rw [show permB x l.length = true by unfold permB; rw [decide_eq_true hxl, decide_eq_true (fun i hi => qx.full hxl hi)]; rfl] at HPx
    have HLx := late_s l x ok qx
    rw [decide_eq_false hnl] at HLx
    refine summW Tryz.func10 rfl rfl 172 rfl (by simp) (fun M0 => ?_)
    repeat (first
    | (apply s_a TY; exact rfl)
    | (apply s_t; exact rfl; (first | assumption | omega))
    | apply w_seq
    | apply w_region
    | apply s_nil
    | apply t_norm
    | apply w_block
    | apply w_skip
    | (apply w_condF; exact rfl; exact rfl)
    | (apply s_k (HA); exact rfl)
    | (apply s_k (HJ); exact rfl)
    | (apply s_k (HCp); exact rfl)
    | (apply s_k (HF); exact rfl)
    | (apply s_k (HO); exact rfl)
    | (apply s_k (HPx); exact rfl)
    | (apply s_s; exact rfl))
    apply w_loop (fun j : Nat => ⟨(Ab.upd (Ab.upd (Ab.upd (Ab.upd (Ab.upd (Ab.upd (Ab.upd (fun _ => .bot) 0 (.f (.sl l.length (jobsF l)))) 1 (.f (.sl o.length (intsF o)))) 5 (.f (.sl l.length (intsF (finL l))))) 7 (.f (.sl x.length (intsF x)))) 8 (.f (iv 0))) 9 (.f (iv (maxK (fun i => (finL l).getD i default) j)))) 10 (.f (iv ((j : Nat) : Int)))), (fun _ => none), 0⟩) (fun j => j ≤ l.length) (fun j => l.length - j) 0 (Nat.zero_le _) (gh_le ⟨le_upd rfl trivial (le_upd rfl trivial (le_upd rfl trivial (le_upd rfl trivial (le_upd rfl trivial (le_upd rfl trivial (le_upd rfl trivial (le_nil _))))))), le_h0 _ _⟩)
    intro j hj
    by_cases hc : j < l.length
    · have hjf : j < (finL l).length := by omega
      have he := hea j hc
      have hjb := ok.job j hc
      rw [getD_at hc, getD_at hjf] at he
      rw [getD_at hc] at hjb
      have hmx : (maxK (fun i => (finL l).getD i default) (j + 1)) = max (maxK (fun i => (finL l).getD i default) j) (finL l)[j] := by rw [maxK, getD_at hjf]
      repeat (first
    | (apply s_a TY; exact rfl)
    | (apply s_t; exact rfl; (first | assumption | omega))
    | apply w_seq
    | apply w_region
    | (apply w_draw (id := 13) 15 rfl (by kernel_rfl))
    | apply s_nil
    | apply t_norm
    | apply w_block
    | apply w_skip
    | (apply w_condT; exact rfl; exact rfl)
    | (apply w_condF; exact rfl; exact rfl)
    | (apply s_k1 (bwithin_T _ _ _); exact rfl; (first | assumption | omega | decide))
    | (apply s_c TY; exact rfl; (first | omega | exact ⟨by omega, by (first | with_reducible assumption | ((with_reducible apply intsF_ne); omega) | ((with_reducible apply jobsF_ne); omega) | assumption)⟩))
    | (apply s_l TY; exact rfl; (first | exact rfl | with_reducible assumption | ((with_reducible apply intsF_at); omega) | ((with_reducible apply jobsF_f0); omega) | ((with_reducible apply jobsF_f1); omega) | ((with_reducible apply jobsF_f2); omega) | ((with_reducible apply jobsF_f3); omega) | assumption)))
      apply w_loop (fun i : Nat => ⟨(Ab.upd (Ab.upd (Ab.upd (Ab.upd (Ab.upd (Ab.upd (Ab.upd (Ab.upd (fun _ => .bot) 0 (.f (.sl l.length (jobsF l)))) 1 (.f (.sl o.length (intsF o)))) 5 (.f (.sl l.length (intsF (finL l))))) 7 (.f (.sl x.length (intsF x)))) 8 (.f (iv 0))) 9 (.f (iv (maxK (fun i => (finL l).getD i default) (j + 1))))) 10 (.f (iv ((j : Nat) : Int)))) 11 (.f (iv ((i : Nat) : Int)))), (fun _ => none), 0⟩) (fun i => i ≤ j) (fun i => j - i) 0 (Nat.zero_le _) (gh_le ⟨le_upd rfl trivial (le_upd rfl trivial (le_upd (congrArg (fun z => AV.f (iv z)) hmx) trivial (le_upd rfl trivial (le_upd rfl trivial (le_upd rfl trivial (le_upd rfl trivial (le_upd rfl trivial (le_nil _)))))))), le_h0 _ _⟩)
      intro i hi
      by_cases hic : i < j
      · have hil : i < l.length := by omega
        have hif : i < (finL l).length := by omega
        have hei := hea i hil
        have hib := ok.job i hil
        have hap := hapt j i hc hil (by omega)
        rw [getD_at hil, getD_at hif] at hei
        rw [getD_at hil] at hib
        rw [getD_at hc, getD_at hil, getD_at hif, getD_at hjf] at hap
        by_cases h1 : (finL l)[j] ≤ (finL l)[i] - l[i].length
        · repeat (first
    | (apply s_a TY; exact rfl)
    | (apply s_t; exact rfl; (first | assumption | omega))
    | (apply s_f; exact rfl; (first | assumption | omega))
    | apply w_seq
    | apply w_region
    | (apply w_draw (id := 19) 30 rfl (by kernel_rfl))
    | apply s_nil
    | apply t_norm
    | apply k_norm
    | apply w_block
    | apply w_skip
    | (apply w_condT; exact rfl; exact rfl)
    | (apply w_condF; exact rfl; exact rfl)
    | (apply s_s; exact rfl)
    | (apply s_c TY; exact rfl; (first | omega | exact ⟨by omega, by (first | with_reducible assumption | ((with_reducible apply intsF_ne); omega) | ((with_reducible apply jobsF_ne); omega) | assumption)⟩))
    | (apply s_l TY; exact rfl; (first | exact rfl | with_reducible assumption | ((with_reducible apply intsF_at); omega) | ((with_reducible apply jobsF_f0); omega) | ((with_reducible apply jobsF_f1); omega) | ((with_reducible apply jobsF_f2); omega) | ((with_reducible apply jobsF_f3); omega) | assumption)))
          exact ⟨i + 1, by omega, by omega, gh_le ⟨le_upd rfl trivial (le_upd rfl trivial (le_upd rfl trivial (le_upd rfl trivial (le_upd rfl trivial (le_upd rfl trivial (le_upd rfl trivial (le_upd rfl trivial (le_nil _)))))))), le_h0 _ _⟩⟩
        · have h2 := hap.resolve_left h1
          repeat (first
    | (apply s_a TY; exact rfl)
    | (apply s_t; exact rfl; (first | assumption | omega))
    | (apply s_f; exact rfl; (first | assumption | omega))
    | apply w_seq
    | apply w_region
    | (apply w_draw (id := 19) 30 rfl (by kernel_rfl))
    | apply s_nil
    | apply t_norm
    | apply k_norm
    | apply w_block
    | apply w_skip
    | (apply w_condT; exact rfl; exact rfl)
    | (apply w_condF; exact rfl; exact rfl)
    | (apply s_c TY; exact rfl; (first | omega | exact ⟨by omega, by (first | with_reducible assumption | ((with_reducible apply intsF_ne); omega) | ((with_reducible apply jobsF_ne); omega) | assumption)⟩))
    | (apply s_l TY; exact rfl; (first | exact rfl | with_reducible assumption | ((with_reducible apply intsF_at); omega) | ((with_reducible apply jobsF_f0); omega) | ((with_reducible apply jobsF_f1); omega) | ((with_reducible apply jobsF_f2); omega) | ((with_reducible apply jobsF_f3); omega) | assumption)))
          exact ⟨i + 1, by omega, by omega, gh_le ⟨le_upd rfl trivial (le_upd rfl trivial (le_upd rfl trivial (le_upd rfl trivial (le_upd rfl trivial (le_upd rfl trivial (le_upd rfl trivial (le_upd rfl trivial (le_nil _)))))))), le_h0 _ _⟩⟩
      · repeat (first
    | (apply s_a TY; exact rfl)
    | (apply s_f; exact rfl; (first | assumption | omega))
    | apply w_seq
    | apply w_region
    | apply s_nil
    | apply t_norm
    | apply t_exit
    | apply k_hit
    | apply k_norm
    | apply w_exit
    | (apply w_condF; exact rfl; exact rfl)
    | (apply s_c TY; exact rfl; (first | omega | exact ⟨by omega, by (first | with_reducible assumption | ((with_reducible apply intsF_ne); omega) | ((with_reducible apply jobsF_ne); omega) | assumption)⟩)))
        exact ⟨j + 1, by omega, by omega, gh_le ⟨le_upd rfl trivial (le_upd rfl trivial (le_upd rfl trivial (le_upd rfl trivial (le_upd rfl trivial (le_upd rfl trivial (le_upd rfl trivial (le_nil _))))))), le_h0 _ _⟩⟩
    · have hjl : j = l.length := by omega
      subst hjl
      by_cases hpo : permB o l.length = true
      case neg =>
        rw [show permB o l.length = false by simpa using hpo] at HPo
        repeat (first
    | (apply s_a TY; exact rfl)
    | (apply s_t; exact rfl; (first | assumption | omega))
    | (apply s_f; exact rfl; (first | assumption | omega))
    | apply w_seq
    | apply w_region
    | apply s_nil
    | apply t_norm
    | apply t_exit
    | apply t_ret
    | apply k_hit
    | apply w_exit
    | apply w_ret
    | apply w_skip
    | (apply w_condT; exact rfl; exact rfl)
    | (apply w_condF; exact rfl; exact rfl)
    | (apply s_k (HLx); exact rfl)
    | (apply s_k (HPo); exact rfl))
        exact lv_ret (ret1 rfl (res_tmp rfl))
      rw [hpo] at HPo
      unfold permB at hpo
      rw [Bool.and_eq_true, decide_eq_true_eq, decide_eq_true_eq] at hpo
      have qo := ordOk_of hpo.1 hpo.2
      have HEo := Ends_s l o ok qo
      have hlast := finL_last ok qo hpo.1
      have hel : (endsK l o o.length).length = l.length := endsK_len _
      repeat (first
    | (apply s_a TY; exact rfl)
    | (apply s_t; exact rfl; (first | assumption | omega))
    | (apply s_f; exact rfl; (first | assumption | omega))
    | apply w_seq
    | apply w_region
    | apply s_nil
    | apply t_norm
    | apply t_exit
    | apply k_hit
    | apply w_block
    | apply w_exit
    | apply w_skip
    | (apply w_condF; exact rfl; exact rfl)
    | (apply s_k (HLx); exact rfl)
    | (apply s_k (HPo); exact rfl)
    | (apply s_k (HEo); exact rfl))
      apply w_loop (fun k : Nat => ⟨(Ab.upd (Ab.upd (Ab.upd (Ab.upd (Ab.upd (Ab.upd (Ab.upd (fun _ => .bot) 0 (.f (.sl l.length (jobsF l)))) 1 (.f (.sl o.length (intsF o)))) 8 (.f (iv 0))) 9 (.f (iv (maxK (fun i => (finL l).getD i default) l.length)))) 12 (.f (.sl l.length (intsF (endsK l o o.length))))) 13 (.f (iv (maxK (fun i => (endsK l o o.length).getD i default) k)))) 14 (.f (iv ((k : Nat) : Int)))), (fun _ => none), 0⟩) (fun k => k ≤ l.length) (fun k => l.length - k) 0 (Nat.zero_le _) (gh_le ⟨le_upd rfl trivial (le_upd rfl trivial (le_upd rfl trivial (le_upd rfl trivial (le_upd rfl trivial (le_upd rfl trivial (le_upd rfl trivial (le_nil _))))))), le_h0 _ _⟩)
      intro k hk
      by_cases hkc : k < l.length
      · have hke : k < (endsK l o o.length).length := by omega
        have hmx : (maxK (fun i => (endsK l o o.length).getD i default) (k + 1)) = max (maxK (fun i => (endsK l o o.length).getD i default) k) (endsK l o o.length)[k] := by rw [maxK, getD_at hke]
        repeat (first
    | (apply s_a TY; exact rfl)
    | (apply s_t; exact rfl; (first | assumption | omega))
    | apply w_seq
    | apply w_region
    | apply s_nil
    | apply t_norm
    | apply k_norm
    | apply w_block
    | apply w_skip
    | (apply w_condT; exact rfl; exact rfl)
    | (apply s_c TY; exact rfl; (first | omega | exact ⟨by omega, by (first | with_reducible assumption | ((with_reducible apply intsF_ne); omega) | ((with_reducible apply jobsF_ne); omega) | assumption)⟩))
    | (apply s_l TY; exact rfl; (first | exact rfl | with_reducible assumption | ((with_reducible apply intsF_at); omega) | ((with_reducible apply jobsF_f0); omega) | ((with_reducible apply jobsF_f1); omega) | ((with_reducible apply jobsF_f2); omega) | ((with_reducible apply jobsF_f3); omega) | assumption)))
        exact ⟨k + 1, by omega, by omega, gh_le ⟨le_upd rfl trivial (le_upd (congrArg (fun z => AV.f (iv z)) hmx) trivial (le_upd rfl trivial (le_upd rfl trivial (le_upd rfl trivial (le_upd rfl trivial (le_upd rfl trivial (le_nil _))))))), le_h0 _ _⟩⟩
      · have hkl : k = l.length := by omega
        subst hkl
        repeat (first
    | (apply s_a TY; exact rfl)
    | (apply s_t; exact rfl; (first | assumption | omega))
    | (apply s_f; exact rfl; (first | assumption | omega))
    | apply w_seq
    | apply w_region
    | apply s_nil
    | apply t_norm
    | apply t_exit
    | apply k_hit
    | apply w_exit
    | apply w_ret
    | (apply w_condF; exact rfl; exact rfl)
    | (apply s_s; exact rfl))
        exact lv_ret (ret1 rfl (res_tmp rfl))
end Go.Proofs.YtenkgipcblfocaaGreat
namespace Go.Ab
open Go Go.RowKit
section
variable {P : Program} {w : World}
end
end Go.Ab
namespace Go.Proofs.YtenkgipcblfocaaGreat
open Go Go.Ab Go.ChangeShapes Go.WideShapes Go.ChangeAt Go.RowKit
theorem ownKnobT : ownKnob Tryz.prog.godebug = none := by kernel_rfl
theorem laidOutT : laidOutB Tryz.prog = true := by kernel_rfl
theorem trodAll_stays {H : Type} {enc : TypeId × Value → H} {W W' : World} {sp : Nat → Bool} (hb : Below W.heap.size W W') : ∀ {ts : List TypeId} {vs : List Value} {ds : List (DataW H)} {ps : List MemPlace}, (∀ t ∈ ts, Tryz.prog.readableRec t = true ∧ t < Tryz.prog.types.size) → DataW.TrodAll enc Tryz.prog W 0 (fun _ => true) true ts vs ds ps → (∀ p ∈ ps, p.block < W.heap.size) → (∀ p ∈ ps, sp p.block = true) → DataW.TrodAll enc Tryz.prog W' 0 sp true ts vs ds ps
  | [], [], [], _, _, h, _, _ => h
  | t :: ts, v :: vs, d :: ds, ps, ht, ⟨p, q, h1, h2, e⟩, hlt, hsp => by
    have hp : ∀ x ∈ p, x ∈ ps := fun x hx => by rw [e]; exact List.mem_append_left _ hx
    have hq : ∀ x ∈ q, x ∈ ps := fun x hx => by rw [e]; exact List.mem_append_right _ hx
    exact ⟨p, q, WideElems.Trod_stays laidOutT (ht t (by simp)).1 (ht t (by simp)).2 h1 (fun x hx => hb.same (hlt x (hp x hx))) (fun x hx => hsp x (hp x hx)),
      trodAll_stays hb (fun u hu => ht u (by simp [hu])) h2 (fun x hx => hlt x (hq x hx)) (fun x hx => hsp x (hq x hx)), e⟩
theorem post_law {H : Type} {enc : TypeId × Value → H} {f : Func} {s : ChangeSpec} {W W' : World} {args : Array Value} {ds gs : List (DataW H)} {before : List MemPlace}
    (hW : DataW.Whole enc Tryz.prog f.params.toList s.vars false W args.toList ds gs before) (hv : s.vars = []) (hr : f.resultTypes = #[4])
    (ht : ∀ t ∈ f.params.toList, Tryz.prog.readableRec t = true ∧ t < Tryz.prog.types.size)
    (hres : (s.fn H (ds ++ gs)).results = [.lit (.bool true)]) (hargs : (s.fn H (ds ++ gs)).args = ds) (hvs : (s.fn H (ds ++ gs)).vars = [])
    (hb : Below W.heap.size W W') : s.post enc Tryz.prog f false true false false W args (.bool true) W' := by
  have hlt := hW.lt
  have hW0 := hW
  obtain ⟨p, q, h1, h2, e, hz, hn⟩ := hW
  have h2' := h2
  rw [hv] at h2'
  have hq : gs = [] ∧ q = [] := by
    cases gs with
    | nil => exact ⟨rfl, h2'⟩
    | cons g r => exact absurd h2' (by intro h; cases h)
  obtain ⟨rfl, rfl⟩ := hq
  rw [List.append_nil] at e
  subst e
  refine ⟨ds, [], before, [], before, [], hW0, ?_, ?_, ?_, Below.frame hb _, fun h => by cases h⟩
  · rw [hr, hres]; exact trodAll_mk1 (shut_bool Tryz.underlying4 true)
  · rw [hargs]
    exact trodAll_stays hb ht h1 hlt (fun x hx => by simpa using hlt x hx)
  · rw [hv, hvs]; rfl
theorem sq_map {α : Type} (f : α → FV) : ∀ l : List α, l.flatMap (fun x => [f x]) = l.map f
  | [] => rfl
  | x :: l => by rw [List.flatMap_cons, sq_map f l]; rfl
section
variable {W : World}
theorem opens_i : Opens Tryz.prog W 3 (fun z : Int => [iv z]) := opens_int Tryz.underlying3
theorem opens_ints : Opens Tryz.prog W 34 (fun l : List Int => [.sl l.length (intsF l)]) := (opens_sl (s := 1) Tryz.underlying34 (by kernel_rfl) (by decide) opens_i).map id fun l => by rw [sq_map]; rfl
theorem opens_job : Opens Tryz.prog W 108 jobF := (opens_st Tryz.underlying108 (by kernel_rfl) (ofs_cons (s := 1) (by kernel_rfl) rfl opens_i (ofs_cons (s := 1) (by kernel_rfl) rfl opens_i (ofs_cons (s := 1) (by kernel_rfl) rfl opens_i (ofs_cons (s := 1) (by kernel_rfl) rfl opens_i (ofs_nil)))))).map (fun p => ⟨p.1, p.2.1, p.2.2.1, p.2.2.2.1⟩) fun _ => rfl
theorem opens_jobs : Opens Tryz.prog W 97 (fun l : List Job => [.sl l.length (jobsF l)]) := opens_sl (s := 4) Tryz.underlying97 (by kernel_rfl) (by decide) opens_job
end
set_option maxRecDepth 100000 in
theorem arg_sl {H : Type} {enc : TypeId × Value → H} {W : World} {base : Nat} {T E : TypeId} {α : Type} {f : α → FV} {v : Value} {d : DataW H} {ps : List MemPlace} (h : Opens Tryz.prog W T (fun a => [f a])) (ht : Tryz.prog.underlying T = some (.slice E)) (hv : Value.okWide Tryz.prog W .any base T v) (hd : DataW.Trod enc Tryz.prog W 0 (fun _ => true) true T v d ps) : ∃ a, RepF W (fun _ => False) v (f a) := by
  obtain ⟨a, n, c, rfl⟩ := okWide_slice ht hv
  exact arg_one h rfl hd
theorem law_calls {f : Nat} {xs : List FV} (S : Summ Tryz.prog GG f xs (.v (.bool true))) {W : World} {args : Array Value} (R : RepL W (fun _ => False) args.toList xs) : Calls Tryz.prog f args W fun e W' => e = .returned (.bool true) ∧ Below W.heap.size W W' := by
  have := S.call W (fun _ => False) args.toList (fun _ h => h.elim) (fun g cs h => by cases h) R
  simp only [Array.toArray_toList] at this
  refine this.mono fun e w' ⟨v, h1, h2, h3⟩ => ⟨?_, h3⟩
  rw [h1, repV h2]
end Go.Proofs.YtenkgipcblfocaaGreat
