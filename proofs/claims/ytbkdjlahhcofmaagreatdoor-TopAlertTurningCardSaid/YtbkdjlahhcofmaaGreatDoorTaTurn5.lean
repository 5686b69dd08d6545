/- Laws on which the proofs of this seat stand. No condition. -/
import Derived.Test.YtbkdjlahhcofmaaGreatDoorTaTurn4
import Derived.Lib.ItoaLen
import Derived.DataShut
import Derived.Test.YtbkdjlahhcofmaaGreatDoorRows
import Derived.WalkKit
import Derived.ProofKit
import Derived.OpenShut
import Derived.Stop.Joined
namespace Go.Proofs.YtbkdjlahhcofmaaGreatDoor
open Go Go.RowKit Go.Proofs Go.Shelf Go.Ab
set_option maxRecDepth 100000 in
theorem Floor_s (a m : Int) (ha : 0 ≤ a ∧ a ≤ 1000000000000000000) (hm : 0 < m) : Summ Tryz.prog GG 71 [iv a, iv m] (iv (a / m)) := by
  have hd : 0 ≤ a / m := Int.ediv_nonneg ha.1 (by omega)
  have hr : 0 ≤ a % m := Int.emod_nonneg a (by omega)
  refine summW Tryz.func71 rfl rfl 16 rfl (by simp) (fun M0 => ?_)
  repeat (first
    | (apply s_a TY; exact rfl)
    | (apply s_f; exact rfl; (first | assumption | omega))
    | apply w_seq
    | apply w_region
    | apply s_nil
    | apply t_norm
    | apply w_ret
    | apply w_skip
    | (apply w_condF; exact rfl; exact rfl)
    | (apply s_c TY; exact rfl; omega))
  exact lv_ret (ret1 rfl (res_tmp rfl))
structure PtOk (p : Pt) : Prop where
  h : -1000000 ≤ p.height ∧ p.height ≤ 1000000
  t : 0 ≤ p.turn ∧ p.turn ≤ 999999
set_option maxRecDepth 100000 in
set_option maxHeartbeats 1600000 in
theorem turned_fix_ok (pt : Pt) (n : Int) (o : PtOk pt) (h : 0 ≤ n ∧ n ≤ 1000000000000) : Summ Tryz.prog GG 181 [ptF pt, iv n, iv 1] (.tup [ptF ⟨pt.height, turnedZ pt.turn n 1⟩, iv 0]) := by
  have HP := pointErr_s pt
  rw [ptE_0 ⟨o.h, o.t⟩] at HP
  have ho := o.t
  have hz := turnZ_bd n
  have HT := turnAt_s n (by omega)
  refine summW Tryz.func181 rfl rfl 30 rfl (by simp) (fun M0 => ?_)
  repeat (first
    | (apply s_boxw (T := 131); exact rfl; exact rfl; exact rfl; exact rfl)
    | (apply s_a TY; exact rfl)
    | (apply s_t; exact rfl; (first | assumption | omega))
    | apply w_seq
    | apply w_region
    | (apply w_draw (id := 4) 6 rfl (by kernel_rfl))
    | apply s_nil
    | apply t_norm
    | apply w_ret
    | apply w_skip
    | (apply w_condF; exact rfl; exact rfl)
    | (apply s_k (HP); exact rfl)
    | (apply s_k (HT); exact rfl)
    | (apply s_k1 (first2_1 _ _); exact rfl; (first | assumption | omega | decide))
    | (apply s_k1 (tickErr_T _); exact rfl; (first | assumption | omega | decide))
    | (apply s_c TY; exact rfl; omega)
    | (apply s_alloc TY; exact rfl; exact rfl; exact rfl)
    | (apply s_store TY; exact rfl; exact rfl; exact rfl; exact rfl; exact rfl; exact rfl))
  exact lv_ret (ret2 rfl (res_bxs TY rfl rfl rfl rfl rfl) (res_tmp rfl))
set_option maxRecDepth 100000 in
set_option maxHeartbeats 1600000 in
theorem turned_loc_ok (pt : Pt) (n : Int) (o : PtOk pt) (h : 0 ≤ n ∧ n ≤ 1000000000000) : Summ Tryz.prog GG 181 [ptF pt, iv n, iv (-1)] (.tup [ptF ⟨pt.height, turnedZ pt.turn n (-1)⟩, iv 0]) := by
  have HP := pointErr_s pt
  rw [ptE_0 ⟨o.h, o.t⟩] at HP
  have ho := o.t
  have hz := turnZ_bd n
  have HT := turnAt_s n (by omega)
  refine summW Tryz.func181 rfl rfl 30 rfl (by simp) (fun M0 => ?_)
  repeat (first
    | (apply s_boxw (T := 131); exact rfl; exact rfl; exact rfl; exact rfl)
    | (apply s_a TY; exact rfl)
    | (apply s_t; exact rfl; (first | assumption | omega))
    | apply w_seq
    | apply w_region
    | (apply w_draw (id := 4) 6 rfl (by kernel_rfl))
    | apply s_nil
    | apply t_norm
    | apply w_ret
    | apply w_skip
    | (apply w_condF; exact rfl; exact rfl)
    | (apply s_k (HP); exact rfl)
    | (apply s_k (HT); exact rfl)
    | (apply s_k1 (first2_1 _ _); exact rfl; (first | assumption | omega | decide))
    | (apply s_k1 (tickErr_T _); exact rfl; (first | assumption | omega | decide))
    | (apply s_c TY; exact rfl; omega)
    | (apply s_alloc TY; exact rfl; exact rfl; exact rfl)
    | (apply s_store TY; exact rfl; exact rfl; exact rfl; exact rfl; exact rfl; exact rfl))
  exact lv_ret (ret2 rfl (res_bxs TY rfl rfl rfl rfl rfl) (res_tmp rfl))
set_option maxRecDepth 100000 in
theorem FixedOf_ok (pt : Pt) (n : Int) (o : PtOk pt) (h : 0 ≤ n ∧ n ≤ 1000000000000) : Summ Tryz.prog GG 63 [ptF pt, iv n] (.tup [ptF ⟨pt.height, turnedZ pt.turn n 1⟩, iv 0]) := by
  have HT := turned_fix_ok pt n o h
  refine summW Tryz.func63 rfl rfl 11 rfl (by simp) (fun M0 => ?_)
  repeat (first
    | (apply s_a TY; exact rfl)
    | apply w_seq
    | apply w_region
    | apply s_nil
    | apply t_norm
    | apply w_ret
    | (apply s_k (HT); exact rfl)
    | (apply s_alloc TY; exact rfl; exact rfl; exact rfl)
    | (apply s_store TY; exact rfl; exact rfl; exact rfl; exact rfl; exact rfl; exact rfl))
  exact lv_ret (ret2 rfl (res_bxs TY rfl rfl rfl rfl rfl) (res_tmp rfl))
set_option maxRecDepth 100000 in
theorem LocalOf_ok (pt : Pt) (n : Int) (o : PtOk pt) (h : 0 ≤ n ∧ n ≤ 1000000000000) : Summ Tryz.prog GG 62 [ptF pt, iv n] (.tup [ptF ⟨pt.height, turnedZ pt.turn n (-1)⟩, iv 0]) := by
  have HT := turned_loc_ok pt n o h
  refine summW Tryz.func62 rfl rfl 11 rfl (by simp) (fun M0 => ?_)
  repeat (first
    | (apply s_a TY; exact rfl)
    | apply w_seq
    | apply w_region
    | apply s_nil
    | apply t_norm
    | apply w_ret
    | (apply s_k (HT); exact rfl)
    | (apply s_alloc TY; exact rfl; exact rfl; exact rfl)
    | (apply s_store TY; exact rfl; exact rfl; exact rfl; exact rfl; exact rfl; exact rfl))
  exact lv_ret (ret2 rfl (res_bxs TY rfl rfl rfl rfl rfl) (res_tmp rfl))
end Go.Proofs.YtbkdjlahhcofmaaGreatDoor
namespace Go.Proofs.YtbkdjlahhcofmaaGreatDoor
open Go Go.RowKit Go.Proofs Go.Shelf Go.Ab
theorem rep_slw {w : World} {M : Nat → Prop} {n : Nat} {v : Value} {cs cs' : List FV} (h : RepF w M v (.sl n cs)) (hl : cs.length = cs'.length) (hc : ∀ (k : Nat) (x x' : FV), cs[k]? = some x → cs'[k]? = some x' → ∀ u, RepF w M u x → RepF w M u x') : RepF w M v (.sl n cs') := by
  cases h with
  | sl a n c cs us h1 h2 h3 h4 h5 =>
    refine RepF.sl a n c cs' us h1 (h2.trans hl) h3 h4 (fun k u x hu hx => ?_)
    have hk : k < cs.length := by rw [hl]; exact (List.getElem?_eq_some_iff.1 hx).1
    exact hc k _ x (List.getElem?_eq_getElem hk) hx u (h5 k u _ hu (List.getElem?_eq_getElem hk))
def nilWL : List FV → List FV → Prop
  | [], [] => True
  | x :: xs, y :: ys => (x = y ∨ (x = .v (.slice none 0 0) ∧ y = .sl 0 [])) ∧ nilWL xs ys
  | _, _ => False
theorem nilWL_len : ∀ {xs ys : List FV}, nilWL xs ys → xs.length = ys.length
  | [], [], _ => rfl
  | _ :: _, _ :: _, h => by simp [nilWL_len h.2]
  | [], _ :: _, h => h.elim
  | _ :: _, [], h => h.elim
theorem nilWL_at {w : World} {M : Nat → Prop} : ∀ {xs ys : List FV}, nilWL xs ys → ∀ (k : Nat) (x x' : FV), xs[k]? = some x → ys[k]? = some x' → ∀ u, RepF w M u x → RepF w M u x'
  | [], [], _, k, x, x', h1, _, _, _ => by simp at h1
  | a :: xs, b :: ys, h, 0, x, x', h1, h2, u, r => by
    simp at h1 h2; subst h1; subst h2
    rcases h.1 with e | ⟨e1, e2⟩
    · rwa [← e]
    · rw [e1] at r; rw [e2]; exact rep_nilsl r
  | a :: xs, b :: ys, h, k + 1, x, x', h1, h2, u, r => nilWL_at h.2 k x x' (by simpa using h1) (by simpa using h2) u r
  | [], _ :: _, h, _, _, _, _, _, _, _ => h.elim
  | _ :: _, [], h, _, _, _, _, _, _, _ => h.elim
theorem summ_slw {g n : Nat} {args cs cs' : List FV} (S : Summ Tryz.prog GG g args (.sl n cs)) (h : nilWL cs cs') : Summ Tryz.prog GG g args (.sl n cs') :=
  ⟨S.enters, fun w M us h1 h2 h3 => (S.call w M us h1 h2 h3).mono fun _ _ ⟨v, q1, q2, q3⟩ => ⟨v, q1, rep_slw q2 (nilWL_len h) (nilWL_at h), q3⟩⟩
def exRs : List Int := [1, 4, 4, 1]
def exM : List Int := [0, 5, 3, 0, 0, 2, 0, 0, 0, 0]
def nAnn : Nm := [97, 110, 110]
def nBob : Nm := [98, 111, 98]
def nX : Nm := [120]
def exActs : List Act := [⟨0, nAnn, []⟩, ⟨2, nX, [1, 2]⟩, ⟨0, nBob, []⟩, ⟨3, nX, [1]⟩, ⟨1, nAnn, []⟩, ⟨4, nX, []⟩]
theorem Sky_s : Summ Tryz.prog GG 133 [] (skF exRs) := by
  refine summW Tryz.func133 rfl rfl 3 rfl (by simp) (fun M0 => ?_)
  repeat (first
    | (apply s_a TY; exact rfl)
    | apply w_seq
    | apply w_region
    | apply s_nil
    | apply t_norm
    | apply w_ret
    | (apply s_alloc TY; exact rfl; exact rfl; exact rfl)
    | (apply s_store TY; exact rfl; exact rfl; exact rfl; exact rfl; exact rfl; exact rfl))
  exact lv_ret (ret1 rfl (res_bxs (sub := [.sl exRs.length (intsF exRs)]) TY rfl rfl rfl rfl rfl))
theorem Map_s : Summ Tryz.prog GG 134 [] (skF exM) := by
  refine summW Tryz.func134 rfl rfl 3 rfl (by simp) (fun M0 => ?_)
  repeat (first
    | (apply s_a TY; exact rfl)
    | apply w_seq
    | apply w_region
    | apply s_nil
    | apply t_norm
    | apply w_ret
    | (apply s_alloc TY; exact rfl; exact rfl; exact rfl)
    | (apply s_store TY; exact rfl; exact rfl; exact rfl; exact rfl; exact rfl; exact rfl))
  exact lv_ret (ret1 rfl (res_bxs (sub := [.sl exM.length (intsF exM)]) TY rfl rfl rfl rfl rfl))
def exActsN : List FV := [iv 0, sv nAnn, .v (.slice none 0 0), iv 2, sv nX, .sl 2 (intsF [1, 2]), iv 0, sv nBob, .v (.slice none 0 0), iv 3, sv nX, .sl 1 (intsF [1]), iv 1, sv nAnn, .v (.slice none 0 0), iv 4, sv nX, .v (.slice none 0 0)]
theorem Acts_n : Summ Tryz.prog GG 135 [] (.sl 6 exActsN) := by
  refine summW Tryz.func135 rfl rfl 10 rfl (by simp) (fun M0 => ?_)
  repeat (first
    | (apply s_a TY; exact rfl)
    | apply w_seq
    | apply w_region
    | apply s_nil
    | apply t_norm
    | apply w_ret)
  exact lv_ret (ret1 rfl (res_tmp rfl))
theorem exActs_w : nilWL exActsN (actsF exActs) := ⟨.inl rfl, .inl rfl, .inr ⟨rfl, rfl⟩, .inl rfl, .inl rfl, .inl rfl, .inl rfl, .inl rfl, .inr ⟨rfl, rfl⟩, .inl rfl, .inl rfl, .inl rfl, .inl rfl, .inl rfl, .inr ⟨rfl, rfl⟩, .inl rfl, .inl rfl, .inr ⟨rfl, rfl⟩, trivial⟩
theorem Acts_s : Summ Tryz.prog GG 135 [] (.sl exActs.length (actsF exActs)) := summ_slw Acts_n exActs_w
theorem exSky : SkyOk exRs := skyOk_of (by decide +kernel)
theorem exMap : MapOk (befK exRs exRs.length) exM := mapOk_of (by decide +kernel)
theorem exReg : regV exM 90 = [1, 2, 5] := by
  have h : (sortedW exM).take (regC (wI exM) (sortedW exM) (wantV exM 90)) = [1, 2, 5] := by decide +kernel
  unfold regV
  rw [h]
  unfold ascL
  refine List.mergeSort_of_pairwise ?_
  decide +kernel
theorem exRun : ∀ i, i < exActs.length → runE (skyC exRs).length exActs i = 0 := by decide +kernel
theorem runW_at (l : List Act) : ∀ (n i : Nat), i < n → (runW l n)[i]? = some (stpW (runS l i) (l.getD i default))
  | 0, i, h => absurd h (Nat.not_lt_zero i)
  | n + 1, i, h => by
    rw [runW]
    by_cases e : i = n
    · subst e
      rw [List.getElem?_append_right (by rw [runW_len]; exact Nat.le_refl _), runW_len, Nat.sub_self]; rfl
    · rw [List.getElem?_append_left (by rw [runW_len]; omega)]
      exact runW_at l n i (by omega)
theorem exWho : (altA (runS exActs 5).2 nX).kys = [nAnn, nBob] := by decide +kernel
theorem exAsc : ascN [nAnn, nBob] = [nAnn, nBob] := by
  unfold ascN
  refine List.mergeSort_of_pairwise ?_
  decide +kernel
theorem exRec : (runW exActs exActs.length)[5]? = some [nAnn, nBob] := by
  rw [runW_at exActs exActs.length 5 (by decide)]
  show some (ascN (altA (runS exActs 5).2 nX).kys) = _
  rw [exWho, exAsc]
end Go.Proofs.YtbkdjlahhcofmaaGreatDoor
namespace Go.Proofs.YtbkdjlahhcofmaaGreatDoor
open Go Go.RowKit Go.Proofs Go.Shelf Go.Ab
theorem stood_pt : Tryz.prog.stoodInHeld 131 = false := by kernel_rfl
theorem fields_pt : Tryz.prog.fieldsOf 131 = #[{ name := "Height", type := 3, offset := 0, embedded := false, tag := "", pkgPath := "", byteOffset := 0 }, { name := "Turn", type := 3, offset := 1, embedded := false, tag := "", pkgPath := "", byteOffset := 8 }] := by kernel_rfl
theorem equalIn_pt (d : Nat) (a b : Pt) (W : World) : (Op.equalIn (d + 2) 131 (.agg #[.int .i64 a.height, .int .i64 a.turn]) (.agg #[.int .i64 b.height, .int .i64 b.turn])).run Tryz.prog W = .ok (decide (a = b)) W := by
  rw [run_equalIn_agg W (d + 1) 131 _ _ (by rw [fields_pt]; exact Tryz.underlying131) stood_pt, fields_pt]
  have e : decide (a = b) = (a.height == b.height && a.turn == b.turn) := by
    cases a; cases b; simp [Pt.mk.injEq]
    try simp [Bool.and_assoc]
    try rfl
  rw [e]
  cases h0 : a.height == b.height <;> cases h1 : a.turn == b.turn <;> simp [Op.eqFields, part, run_equalIn_int W d 3 _ _ _ _ Tryz.underlying3, h0, h1]
theorem guard_pt : Tryz.prog.eqGuardType Tryz.prog.depth 131 = false := by kernel_rfl
theorem ne_pt {x y : Operand} {a b : Pt} {c : Bool} (h : decide (a = b) = !c) : ∀ w, (do eqGuard .neq 131 x y (.agg #[.int .i64 a.height, .int .i64 a.turn]) (.agg #[.int .i64 b.height, .int .i64 b.turn]); binOp .neq 131 (.agg #[.int .i64 a.height, .int .i64 a.turn]) (.agg #[.int .i64 b.height, .int .i64 b.turn]) : Sem Value).run Tryz.prog w = .ok (.bool c) w := fun w => by
  have h1 := equalIn_pt 9998 a b w
  rw [h] at h1
  first
  | (simp [eqGuard, run_neq_struct, h1]; done)
  | simp [eqGuard, guard_pt, run_neq_struct, h1]
theorem neI {x y : Operand} {h1 t1 h2 t2 : Int} {c : Bool} (h : decide ((⟨h1, t1⟩ : Pt) = ⟨h2, t2⟩) = !c) : ∀ w, (do eqGuard .neq 131 x y (.agg #[.int .i64 h1, .int .i64 t1]) (.agg #[.int .i64 h2, .int .i64 t2]); binOp .neq 131 (.agg #[.int .i64 h1, .int .i64 t1]) (.agg #[.int .i64 h2, .int .i64 t2]) : Sem Value).run Tryz.prog w = .ok (.bool c) w := ne_pt (a := ⟨h1, t1⟩) (b := ⟨h2, t2⟩) h
end Go.Proofs.YtbkdjlahhcofmaaGreatDoor
namespace Go.Proofs.YtbkdjlahhcofmaaGreatDoor
open Go Go.RowKit Go.Proofs Go.Shelf Go.Ab
end Go.Proofs.YtbkdjlahhcofmaaGreatDoor
namespace Go.Proofs.YtbkdjlahhcofmaaGreatDoor
open Go Go.RowKit Go.Proofs Go.Shelf Go.Ab
end Go.Proofs.YtbkdjlahhcofmaaGreatDoor
namespace Go.Proofs.YtbkdjlahhcofmaaGreatDoor
open Go.Lib (itoa decDigits decFrom digitVal)
open Go Go.RowKit Go.Proofs Go.Shelf Go.Ab
structure CutK (c : UInt8) (s : Nm) (k fr : Nat) (ws : List Nm) : Prop where
  le : fr ≤ k
  no : c ∉ (s.drop fr).take (k - fr)
  all : ws ++ cutS c (s.drop fr) = cutS c s
end Go.Proofs.YtbkdjlahhcofmaaGreatDoor
namespace Go.Proofs.YtbkdjlahhcofmaaGreatDoor
open Go.Lib (itoa decDigits decFrom digitVal)
open Go Go.RowKit Go.Proofs Go.Shelf Go.Ab
end Go.Proofs.YtbkdjlahhcofmaaGreatDoor
namespace Go.Proofs.YtbkdjlahhcofmaaGreatDoor
open Go.Lib (itoa decDigits decFrom digitVal join atoiAll)
open Go Go.RowKit Go.Proofs Go.Shelf Go.Ab
def I64 (l : List Int) : Prop := ∀ z ∈ l, -9223372036854775808 ≤ z ∧ z ≤ 9223372036854775807
def wordsS (l : List Int) : Nm := join (l.map itoa) [32]
theorem join_len : ∀ (l : List Nm) (B : Nat), (∀ s ∈ l, s.length ≤ B) → (join l [32]).length ≤ (B + 1) * l.length
  | [], B, _ => by rw [Lib.join_nil]; simp
  | [x], B, h => by rw [Lib.join_one]; have := h x (by simp); simp; omega
  | x :: y :: r, B, h => by
    have ih := join_len (y :: r) B (fun s hs => h s (by simp [List.mem_cons.1 hs]))
    have e : join (x :: y :: r) [32] = x ++ 32 :: join (y :: r) [32] := by
      rw [Lib.join_cons, Lib.join_cons]
      unfold Lib.joinTail
      simp
    have hx := h x (by simp)
    rw [e, List.length_append, List.length_cons, List.length_cons, Nat.mul_succ]
    omega
theorem itoa_len {z : Int} (h : -9223372036854775808 ≤ z ∧ z ≤ 9223372036854775807) : (itoa z).length ≤ 21 := Lib.itoa_length_le z h.1 h.2
theorem itoas_len {l : List Int} (h : I64 l) (k : Nat) : (join ((l.map itoa).take k) [32]).length ≤ 22 * l.length := by
  have h1 := join_len ((l.map itoa).take k) 21 (fun s hs => by
    obtain ⟨z, hz, rfl⟩ := List.mem_map.1 (List.mem_of_mem_take hs)
    exact itoa_len (h z hz))
  have h2 : ((l.map itoa).take k).length ≤ l.length := by rw [List.length_take, List.length_map]; omega
  have := Nat.mul_le_mul_left 22 h2
  omega
theorem wordsS_len {l : List Int} (h : I64 l) : (wordsS l).length ≤ 22 * l.length := by
  have := itoas_len h l.length
  rw [List.take_of_length_le (by simp)] at this
  exact this
set_option maxRecDepth 100000 in
set_option maxHeartbeats 1600000 in
theorem words_s (l : List Int) (hl : l.length ≤ 1000) (hr : I64 l) : Summ Tryz.prog GS 145 [.sl l.length (intsF l)] (sv (wordsS l)) := by
  refine summW Tryz.func145 rfl rfl 20 rfl (by simp) (fun M0 => ?_)
  repeat (first
    | (apply s_a TY; exact rfl)
    | apply w_seq
    | apply w_region
    | apply s_nil
    | apply t_norm
    | apply w_block)
  apply w_gh (gh_own 3 9 1 rfl rfl)
  apply w_loop (fun k : Nat => ⟨(Ab.upd (Ab.upd (Ab.upd (Ab.upd (fun _ => .bot) 3 (.ow 0)) 6 (.f (.sl l.length (intsF l)))) 7 (.f (iv l.length))) 8 (.f (iv ((k : Nat) : Int)))), (Ab.upd (fun _ => none) 0 (some (.row 9 1 ((l.take k).map itoa).length (strsF ((l.take k).map itoa))))), 1⟩) (fun k => k ≤ l.length) (fun k => l.length - k) 0 (Nat.zero_le _) (gh_le ⟨le_upd rfl trivial (le_upd rfl trivial (le_upd rfl trivial (le_upd rfl rfl (le_nil _)))), le_hupd rfl trivial (le_h0 _ _)⟩)
  intro k hk
  have hrl : ((l.take k).map itoa).length = k := by rw [List.length_map, List.length_take]; omega
  by_cases hc : k < l.length
  · have hat : (intsF l)[k * 1]? = some (iv l[k]) := intsF_at hc
    have hne : intsF l ≠ [] := intsF_ne (k := k) hc
    have HI := Itoa_s l[k] (hr _ (List.getElem_mem hc))
    have hrow : some (Blk.row 9 1 (((l.take k).map itoa).length + 1) (strsF ((l.take k).map itoa) ++ [sv (itoa l[k])])) = some (Blk.row 9 1 ((l.take (k + 1)).map itoa).length (strsF ((l.take (k + 1)).map itoa))) := by
      rw [List.take_succ_eq_append_getElem hc, List.map_append, List.map_cons, List.map_nil, strsF_snoc, List.length_append]; rfl
    repeat (first
    | (apply s_append TY; exact rfl; exact rfl; exact rfl; exact rfl; exact rfl; exact rfl; exact rfl; exact rfl; exact rfl; (unfold maxLen; omega); omega)
    | (apply s_a TY; exact rfl)
    | (apply s_t; exact rfl; (first | assumption | omega))
    | apply w_seq
    | apply w_region
    | apply s_nil
    | apply t_norm
    | apply k_norm
    | apply w_block
    | apply w_skip
    | (apply w_condT; exact rfl; exact rfl)
    | (apply s_k (HI); exact rfl)
    | (apply s_c TY; exact rfl; (first | omega | exact ⟨by omega, by (first | with_reducible assumption | ((with_reducible apply intsF_ne); omega) | assumption)⟩))
    | (apply s_l TY; exact rfl; (first | exact rfl | with_reducible assumption | ((with_reducible apply intsF_at); omega) | assumption)))
    exact ⟨k + 1, by omega, by omega, gh_le ⟨le_upd rfl trivial (le_upd rfl trivial (le_upd rfl trivial (le_upd rfl rfl (le_nil _)))), le_hupd hrow trivial (le_h0 _ _)⟩⟩
  · have hke : k = l.length := by omega
    subst hke
    have hjl := wordsS_len hr
    have HJ := Join_s (l.map itoa) [32] (by rw [List.length_map]; omega) (by show (wordsS l).length ≤ _; omega)
    rw [List.take_length] at hrl
    have hrn : some (Blk.row 9 1 ((l.take l.length).map itoa).length (strsF ((l.take l.length).map itoa))) = some (Blk.row 9 1 (l.map itoa).length (strsF (l.map itoa))) := by rw [List.take_length]
    apply w_gh (gh_row 0 hrn)
    repeat (first
    | (apply s_a TY; exact rfl)
    | (apply s_f; exact rfl; (first | assumption | omega))
    | apply w_seq
    | apply w_region
    | apply s_nil
    | apply t_norm
    | apply t_exit
    | apply k_hit
    | apply w_exit
    | apply w_ret
    | (apply w_condF; exact rfl; exact rfl)
    | (apply s_k (HJ); exact rfl))
    exact lv_ret (ret1 rfl (res_tmp rfl))
def numP (d : Nat) (w : Nm) : Option Int := match numO w d with
  | some v => if 0 ≤ v then some v else none
  | none => none
def numsO (d : Nat) (ws : List Nm) : Option (List Int) := ws.foldl (fun o w => o.bind fun l => (numP d w).map fun v => l ++ [v]) (some [])
theorem numsO_snoc (d : Nat) (ws : List Nm) (w : Nm) : numsO d (ws ++ [w]) = (numsO d ws).bind fun l => (numP d w).map fun v => l ++ [v] := by
  unfold numsO
  rw [List.foldl_append]; rfl
theorem fold_none (d : Nat) : ∀ ws : List Nm, ws.foldl (fun (o : Option (List Int)) w => o.bind fun l => (numP d w).map fun v => l ++ [v]) none = none
  | [] => rfl
  | _ :: ws => fold_none d ws
theorem numsO_bad {d : Nat} {ws : List Nm} {k : Nat} (hk : k < ws.length) (h : numP d ws[k] = none) : numsO d ws = none := by
  have e : ws = (ws.take k ++ [ws[k]]) ++ ws.drop (k + 1) := by
    rw [← List.take_succ_eq_append_getElem hk, List.take_append_drop]
  unfold numsO
  rw [e, List.foldl_append, List.foldl_append]
  generalize (ws.take k).foldl _ _ = o
  have e2 : List.foldl (fun (o : Option (List Int)) w => o.bind fun l => (numP d w).map fun v => l ++ [v]) o [ws[k]] = none := by
    show (o.bind fun l => (numP d ws[k]).map fun v => l ++ [v]) = none
    rw [h]
    cases o <;> rfl
  rw [e2]
  exact fold_none d _
theorem numsO_next {d : Nat} {ws : List Nm} {k : Nat} {l : List Int} {v : Int} (hk : k < ws.length) (hl : numsO d (ws.take k) = some l) (h : numP d ws[k] = some v) : numsO d (ws.take (k + 1)) = some (l ++ [v]) := by
  rw [List.take_succ_eq_append_getElem hk, numsO_snoc, hl, h]; rfl
theorem fold_len (d : Nat) : ∀ (ws : List Nm) (l0 l : List Int), ws.foldl (fun (o : Option (List Int)) w => o.bind fun l => (numP d w).map fun v => l ++ [v]) (some l0) = some l → l.length = l0.length + ws.length
  | [], l0, l, h => by rw [← Option.some.inj h]; simp
  | w :: ws, l0, l, h => by
    rw [List.foldl_cons] at h
    cases hw : numP d w with
    | none =>
      have e : ((some l0).bind fun l => (numP d w).map fun v => l ++ [v]) = none := by rw [hw]; rfl
      rw [e, fold_none] at h; cases h
    | some v =>
      have e : ((some l0).bind fun l => (numP d w).map fun v => l ++ [v]) = some (l0 ++ [v]) := by rw [hw]; rfl
      rw [e] at h
      have := fold_len d ws (l0 ++ [v]) l h
      rw [this, List.length_append, List.length_singleton, List.length_cons]; omega
theorem numsO_len {d : Nat} {ws : List Nm} {l : List Int} (h : numsO d ws = some l) : l.length = ws.length := by
  have := fold_len d ws [] l h
  rw [this]; simp
def numsR (d : Nat) (ws : List Nm) : FV := match numsO d ws with
  | some l => .tup [.sl l.length (intsF l), .v (.bool true)]
  | none => .tup [.sl 0 [], .v (.bool false)]
theorem numsR_no {d : Nat} {ws : List Nm} (h : numsO d ws = none) : numsR d ws = .tup [.sl 0 [], .v (.bool false)] := by unfold numsR; rw [h]
theorem numsR_ok {d : Nat} {ws : List Nm} {l : List Int} (h : numsO d ws = some l) : numsR d ws = .tup [.sl l.length (intsF l), .v (.bool true)] := by unfold numsR; rw [h]
theorem res_nil {C : Ctx} {n : Nat} {st : St} {t : Nat} (h : st.s t = .f (.v (.slice none 0 0))) : ResOk C n st (.tmp t) (.sl 0 []) := fun w0 a w S =>
  let ⟨v, h1, h2⟩ := res_tmp h w0 a w S
  ⟨v, h1, rep_nilsl h2⟩
theorem atoi_rng {l : Nm} {v : Int} (h : atoiAll l = .ok v) : -9223372036854775808 ≤ v ∧ v ≤ 9223372036854775807 := by
  unfold atoiAll at h
  cases l with
  | nil => cases h
  | cons c r =>
    simp only at h
    split at h
    · cases h
    · cases h
    · rename_i u hu
      split at h
      · cases h
      · split at h
        · cases h
        · injection h with h
          by_cases hn : c.toNat = 45
          · rw [if_pos hn] at h; omega
          · rw [if_neg hn] at h; omega
theorem atS_pos {v : Int} (h : 0 ≤ v) : atS (itoa v) = 0 := by
  unfold itoa
  rw [if_neg (by omega)]
  exact atS_dec _
set_option maxRecDepth 100000 in
set_option maxHeartbeats 3200000 in
theorem numbers_s (ws : List Nm) (d : Nat) (hd : d ≤ 17) (hl : ws.length ≤ 1000000) (hw : ∀ w ∈ ws, w.length ≤ 1000000) : Summ Tryz.prog GS 147 [.sl ws.length (strsF ws), iv ((d : Nat) : Int)] (numsR d ws) := by
  refine summW Tryz.func147 rfl rfl 46 rfl (by simp) (fun M0 => ?_)
  repeat (first
    | (apply s_a TY; exact rfl)
    | apply w_seq
    | apply w_region
    | apply s_nil
    | apply t_norm
    | apply w_block)
  apply w_gh (gh_own 6 3 1 rfl rfl)
  apply w_loop (fun q : Nat × List Int => ⟨(Ab.upd (Ab.upd (Ab.upd (Ab.upd (Ab.upd (fun _ => .bot) 1 (.f (iv ((d : Nat) : Int)))) 6 (.ow 0)) 11 (.f (.sl ws.length (strsF ws)))) 12 (.f (iv ws.length))) 13 (.f (iv ((q.1 : Nat) : Int)))), (Ab.upd (fun _ => none) 0 (some (.row 3 1 q.2.length (intsF q.2)))), 1⟩) (fun q => numsO d (ws.take q.1) = some q.2 ∧ q.1 ≤ ws.length) (fun q => ws.length - q.1) (0, []) (⟨rfl, Nat.zero_le _⟩) (gh_le ⟨le_upd rfl trivial (le_upd rfl trivial (le_upd rfl trivial (le_upd rfl rfl (le_upd rfl trivial (le_nil _))))), le_hupd rfl trivial (le_h0 _ _)⟩)
  rintro ⟨k, l⟩ ⟨hn, hk⟩
  change numsO d (ws.take k) = some l at hn
  change k ≤ ws.length at hk
  change W _ _ _ _ (⟨(Ab.upd (Ab.upd (Ab.upd (Ab.upd (Ab.upd (fun _ => .bot) 1 (.f (iv ((d : Nat) : Int)))) 6 (.ow 0)) 11 (.f (.sl ws.length (strsF ws)))) 12 (.f (iv ws.length))) 13 (.f (iv ((k : Nat) : Int)))), (Ab.upd (fun _ => none) 0 (some (.row 3 1 l.length (intsF l)))), 1⟩)
  have hll := numsO_len hn
  rw [List.length_take] at hll
  by_cases hc : k < ws.length
  · have hat : (strsF ws)[k * 1]? = some (sv ws[k]) := strsF_at hc
    have hne : strsF ws ≠ [] := strsF_ne (k := k) hc
    have hwk := hw _ (List.getElem_mem hc)
    have hsz := strSz ws[k]
    have LIB := @num_lib ws[k] d hd
    by_cases hok : ∃ v, atoiAll ws[k] = .ok v
    case neg =>
      obtain ⟨m, HA⟩ := Atoi_err ws[k] hwk (fun v e => hok ⟨v, e⟩)
      have hno : numO ws[k] d = none := by
        cases e : numO ws[k] d with
        | none => rfl
        | some v => exact absurd ⟨v, (LIB.1 e).1⟩ hok
      rw [numsR_no (numsO_bad hc (by unfold numP; rw [hno]))]
      repeat (first
    | (apply s_ifcNe Tryz.underlying338; exact rfl; exact rfl; exact rfl)
    | (apply s_a TY; exact rfl)
    | (apply s_t; exact rfl; (first | assumption | omega))
    | apply w_seq
    | apply w_region
    | apply s_nil
    | apply t_norm
    | apply t_ret
    | apply k_ret
    | apply w_block
    | apply w_ret
    | apply w_skip
    | (apply w_condT; exact rfl; exact rfl)
    | (apply s_k (HA); exact rfl)
    | (apply s_s; exact rfl)
    | (apply s_c TY; exact rfl; (first | omega | exact ⟨by omega, by (first | with_reducible assumption | ((with_reducible apply strsF_ne); omega) | assumption)⟩))
    | (apply s_l TY; exact rfl; (first | exact rfl | with_reducible assumption | ((with_reducible apply strsF_at); omega) | assumption)))
      exact lv_ret (ret2 rfl (res_nil rfl) (res_tmp rfl))
    obtain ⟨v, hv⟩ := hok
    have HA := Atoi_ok ws[k] hwk hv
    have HI := Itoa_s v (atoi_rng hv)
    by_cases hneg : v < 0
    · have hno : numP d ws[k] = none := by
        unfold numP
        cases e : numO ws[k] d with
        | none => rfl
        | some u =>
          have e1 := (LIB.1 e).1
          rw [hv] at e1
          injection e1 with e1
          show (if 0 ≤ u then some u else none) = none
          rw [if_neg (by omega)]
      rw [numsR_no (numsO_bad hc hno)]
      repeat (first
    | (apply s_ifcNil Tryz.underlying338; exact rfl; exact rfl; exact rfl)
    | (apply s_a TY; exact rfl)
    | (apply s_t; exact rfl; (first | assumption | omega))
    | apply w_seq
    | apply w_region
    | apply s_nil
    | apply t_norm
    | apply t_ret
    | apply k_ret
    | apply w_block
    | apply w_ret
    | apply w_skip
    | (apply w_condT; exact rfl; exact rfl)
    | (apply s_k (HA); exact rfl)
    | (apply s_s; exact rfl)
    | (apply s_c TY; exact rfl; (first | omega | exact ⟨by omega, by (first | with_reducible assumption | ((with_reducible apply strsF_ne); omega) | assumption)⟩))
    | (apply s_l TY; exact rfl; (first | exact rfl | with_reducible assumption | ((with_reducible apply strsF_at); omega) | assumption)))
      exact lv_ret (ret2 rfl (res_nil rfl) (res_tmp rfl))
    by_cases hew : itoa v = ws[k]
    case neg =>
      have hnw : ¬ itoa v = ws[k] := hew
      have hno : numP d ws[k] = none := by
        unfold numP
        cases e : numO ws[k] d with
        | none => rfl
        | some u =>
          have e1 := LIB.1 e
          rw [hv] at e1
          injection e1.1 with e2
          rw [← e2] at e1
          exact absurd e1.2.1 hew
      rw [numsR_no (numsO_bad hc hno)]
      repeat (first
    | (apply s_bind; exact rfl; exact rfl; exact rfl; exact rfl; exact rfl; exact rfl; exact nes_t hnw)
    | (apply s_ifcNil Tryz.underlying338; exact rfl; exact rfl; exact rfl)
    | (apply s_a TY; exact rfl)
    | (apply s_t; exact rfl; (first | assumption | omega))
    | (apply s_f; exact rfl; (first | assumption | omega))
    | apply w_seq
    | apply w_region
    | apply s_nil
    | apply t_norm
    | apply t_ret
    | apply k_ret
    | apply w_block
    | apply w_ret
    | apply w_skip
    | (apply w_condT; exact rfl; exact rfl)
    | (apply s_k (HA); exact rfl)
    | (apply s_k (HI); exact rfl)
    | (apply s_s; exact rfl)
    | (apply s_c TY; exact rfl; (first | omega | exact ⟨by omega, by (first | with_reducible assumption | ((with_reducible apply strsF_ne); omega) | assumption)⟩))
    | (apply s_l TY; exact rfl; (first | exact rfl | with_reducible assumption | ((with_reducible apply strsF_at); omega) | assumption)))
      exact lv_ret (ret2 rfl (res_nil rfl) (res_tmp rfl))
    have hat0 : atS ws[k] = 0 := by rw [← hew]; exact atS_pos (by omega)
    by_cases hdl : ws[k].length ≤ d
    · have hso : numP d ws[k] = some v := by
        unfold numP
        rw [LIB.2 ⟨hv, hew, by rw [hat0]; exact hdl⟩]
        show (if 0 ≤ v then some v else none) = some v
        rw [if_pos (by omega)]
      have hrow : some (Blk.row 3 1 (l.length + 1) (intsF l ++ [iv v])) = some (Blk.row 3 1 (l ++ [v]).length (intsF (l ++ [v]))) := by rw [intsF_snoc, List.length_append]; rfl
      repeat (first
    | (apply s_append TY; exact rfl; exact rfl; exact rfl; exact rfl; exact rfl; exact rfl; exact rfl; exact rfl; exact rfl; (unfold maxLen; omega); omega)
    | (apply s_bind; exact rfl; exact rfl; exact rfl; exact rfl; exact rfl; exact rfl; exact nes_f hew)
    | (apply s_ifcNil Tryz.underlying338; exact rfl; exact rfl; exact rfl)
    | (apply s_a TY; exact rfl)
    | (apply s_t; exact rfl; (first | assumption | omega))
    | (apply s_f; exact rfl; (first | assumption | omega))
    | apply w_seq
    | apply w_region
    | apply s_nil
    | apply t_norm
    | apply k_norm
    | apply w_block
    | apply w_skip
    | (apply w_condT; exact rfl; exact rfl)
    | (apply w_condF; exact rfl; exact rfl)
    | (apply s_k (HA); exact rfl)
    | (apply s_k (HI); exact rfl)
    | (apply s_c TY; exact rfl; (first | omega | exact ⟨by omega, by (first | with_reducible assumption | ((with_reducible apply strsF_ne); omega) | assumption)⟩))
    | (apply s_l TY; exact rfl; (first | exact rfl | with_reducible assumption | ((with_reducible apply strsF_at); omega) | assumption)))
      exact ⟨(k + 1, l ++ [v]), ⟨numsO_next hc hn hso, by show k + 1 ≤ _; omega⟩, by show _ - (k + 1) < _ - k; omega, gh_le ⟨le_upd rfl trivial (le_upd rfl trivial (le_upd rfl trivial (le_upd rfl rfl (le_upd rfl trivial (le_nil _))))), le_hupd hrow trivial (le_h0 _ _)⟩⟩
    · have hno : numP d ws[k] = none := by
        unfold numP
        cases e : numO ws[k] d with
        | none => rfl
        | some u =>
          have e1 := (LIB.1 e).2.2
          rw [hat0] at e1
          exact absurd e1 hdl
      rw [numsR_no (numsO_bad hc hno)]
      repeat (first
    | (apply s_bind; exact rfl; exact rfl; exact rfl; exact rfl; exact rfl; exact rfl; exact nes_f hew)
    | (apply s_ifcNil Tryz.underlying338; exact rfl; exact rfl; exact rfl)
    | (apply s_a TY; exact rfl)
    | (apply s_t; exact rfl; (first | assumption | omega))
    | (apply s_f; exact rfl; (first | assumption | omega))
    | apply w_seq
    | apply w_region
    | apply s_nil
    | apply t_norm
    | apply t_ret
    | apply k_ret
    | apply w_block
    | apply w_ret
    | apply w_skip
    | (apply w_condT; exact rfl; exact rfl)
    | (apply s_k (HA); exact rfl)
    | (apply s_k (HI); exact rfl)
    | (apply s_c TY; exact rfl; (first | omega | exact ⟨by omega, by (first | with_reducible assumption | ((with_reducible apply strsF_ne); omega) | assumption)⟩))
    | (apply s_l TY; exact rfl; (first | exact rfl | with_reducible assumption | ((with_reducible apply strsF_at); omega) | assumption)))
      exact lv_ret (ret2 rfl (res_nil rfl) (res_tmp rfl))
  · have hke : k = ws.length := by omega
    subst hke
    rw [List.take_length] at hn
    rw [numsR_ok hn]
    repeat (first
    | (apply s_a TY; exact rfl)
    | (apply s_f; exact rfl; (first | assumption | omega))
    | apply w_seq
    | apply w_region
    | apply s_nil
    | apply t_norm
    | apply t_exit
    | apply k_hit
    | apply w_exit
    | apply w_ret
    | (apply w_condF; exact rfl; exact rfl))
    exact lv_ret (ret2 rfl (res_sees rfl (sees_row rfl)) (res_tmp rfl))
end Go.Proofs.YtbkdjlahhcofmaaGreatDoor
namespace Go.Proofs.YtbkdjlahhcofmaaGreatDoor
open Go.Lib (itoa)
open Go Go.RowKit Go.Proofs Go.Shelf Go.Ab
theorem rep_nilE {w : World} {M : Nat → Prop} {v : Value} {cs : List FV} (h : RepF w M v (.agg (cs ++ [.v (.slice none 0 0)]))) : RepF w M v (.agg (cs ++ [.sl 0 []])) := by
  cases h with
  | agg _ us hl ho hr =>
    refine RepF.agg _ us (by simpa using hl) ho (fun k u x a b => ?_)
    by_cases hk : k < cs.length
    · rw [List.getElem?_append_left hk] at b
      exact hr k u x a (by rw [List.getElem?_append_left hk]; exact b)
    · rw [List.getElem?_append_right (by omega)] at b
      have hk0 : k - cs.length = 0 := by
        have := (List.getElem?_eq_some_iff.1 b).1
        simp at this; omega
      rw [hk0] at b
      cases b
      exact rep_nilsl (hr k u _ a (by rw [List.getElem?_append_right (by omega), hk0]; rfl))
theorem summ_nilE {P : Program} {G : Nat → Option FV} {g : Nat} {args cs : List FV} {y : FV} (S : Summ P G g args (.tup [.agg (cs ++ [.v (.slice none 0 0)]), y])) : Summ P G g args (.tup [.agg (cs ++ [.sl 0 []]), y]) :=
  ⟨S.enters, fun w M us h1 h2 h3 => (S.call w M us h1 h2 h3).mono fun _ _ ⟨v, q1, q2, q3⟩ => ⟨v, q1, by
    cases q2 with
    | tup cs us hl hr =>
      refine RepF.tup _ us (by simpa using hl) (fun k u x a b => ?_)
      match k with
      | 0 => simp at b; subst b; exact rep_nilE (hr 0 u _ a rfl)
      | 1 => simp at b; subst b; exact hr 1 u _ a rfl
      | k + 2 => simp at b, q3⟩⟩
def mapR (s : Nm) : FV := match numsO 7 (cutS 32 s) with
  | some l => .tup [skF l, iv 0]
  | none => .tup [skF [], iv 7]
theorem FormatMap_s (l : List Int) (hl : l.length ≤ 1000) (hr : I64 l) : Summ Tryz.prog GS 67 [skF l] (sv (wordsS l)) := by
  have HW := words_s l hl hr
  refine summW Tryz.func67 rfl rfl 6 rfl (by simp) (fun M0 => ?_)
  repeat (first
    | (apply s_a TY; exact rfl)
    | apply w_seq
    | apply w_region
    | apply s_nil
    | apply t_norm
    | apply w_ret
    | (apply s_k (HW); exact rfl))
  exact lv_ret (ret1 rfl (res_tmp rfl))
set_option maxRecDepth 100000 in
theorem ParseMap_s (s : Nm) (hs : s.length ≤ 10000) : Summ Tryz.prog GS 66 [sv s] (mapR s) := by
  have hsz := strSz s
  have HC := Split_s s 32 (by omega)
  have hcl := cutS_len 32 s
  have HN := numbers_s (cutS 32 s) 7 (by decide) (by omega) (fun w hw => by have := cutS_mem_len 32 s w hw; omega)
  unfold mapR
  cases e : numsO 7 (cutS 32 s) with
  | some l =>
    rw [numsR_ok e] at HN
    refine summW Tryz.func66 rfl rfl 21 rfl (by simp) (fun M0 => ?_)
    repeat (first
    | (apply s_a TY; exact rfl)
    | (apply s_f; exact rfl; (first | assumption | omega))
    | apply w_seq
    | apply w_region
    | apply s_nil
    | apply t_norm
    | apply w_ret
    | apply w_skip
    | (apply w_condF; exact rfl; exact rfl)
    | (apply s_k (HC); exact rfl)
    | (apply s_k (HN); exact rfl)
    | (apply s_alloc TY; exact rfl; exact rfl; exact rfl)
    | (apply s_store TY; exact rfl; exact rfl; exact rfl; exact rfl; exact rfl; exact rfl))
    exact lv_ret (ret2 rfl (res_bxs (sub := [.sl l.length (intsF l)]) TY rfl rfl rfl rfl rfl) (res_tmp rfl))
  | none =>
    rw [numsR_no e] at HN
    refine summ_nilE (cs := []) ?_
    refine summW Tryz.func66 rfl rfl 21 rfl (by simp) (fun M0 => ?_)
    repeat (first
    | (apply s_a TY; exact rfl)
    | (apply s_f; exact rfl; (first | assumption | omega))
    | apply w_seq
    | apply w_region
    | apply s_nil
    | apply t_norm
    | apply t_ret
    | apply w_ret
    | apply w_skip
    | (apply w_condT; exact rfl; exact rfl)
    | (apply w_condF; exact rfl; exact rfl)
    | (apply s_k (HC); exact rfl)
    | (apply s_k (HN); exact rfl)
    | (apply s_alloc TY; exact rfl; exact rfl; exact rfl)
    | (apply s_store TY; exact rfl; exact rfl; exact rfl; exact rfl; exact rfl; exact rfl))
    exact lv_ret (ret2 rfl (res_bxs (sub := [.v (.slice none 0 0)]) TY rfl rfl rfl rfl rfl) (res_tmp rfl))
structure Ntc where
  name : Nm
  version : Int
  tick : Int
  cells : List Int
section
variable {s : Nm}
end
end Go.Proofs.YtbkdjlahhcofmaaGreatDoor
namespace Go.Proofs.YtbkdjlahhcofmaaGreatDoor
open Go.Lib (itoa)
open Go Go.RowKit Go.Proofs Go.Shelf Go.Ab
def mapP (s : Nm) : List Int × Int := match numsO 7 (cutS 32 s) with
  | some l => (l, 0)
  | none => ([], 7)
theorem mapR_eq (s : Nm) : mapR s = .tup [skF (mapP s).1, iv (mapP s).2] := by
  unfold mapR mapP
  cases numsO 7 (cutS 32 s) <;> rfl
end Go.Proofs.YtbkdjlahhcofmaaGreatDoor
namespace Go.Proofs.YtbkdjlahhcofmaaGreatDoor
open Go Go.RowKit Go.Proofs Go.Shelf Go.Ab
structure CelsOk (cs : List Cel) : Prop where
  len : cs.length ≤ 96
  each : ∀ i (hi : i < cs.length), (1 ≤ cs[i].count ∧ cs[i].count ≤ 12) ∧ (0 ≤ cs[i].index ∧ cs[i].index < cs[i].count) ∧ 0 ≤ cs[i].ring ∧ cs[i].ring ≤ 8
  same : ∀ i j (hi : i < cs.length) (hj : j < cs.length), cs[i].ring = cs[j].ring → cs[i].count = cs[j].count
theorem mul_bdC {x y : Int} (hx : 0 ≤ x ∧ x ≤ 12) (hy : 0 ≤ y ∧ y ≤ 12) : 0 ≤ x * y ∧ x * y ≤ 144 :=
  ⟨Int.mul_nonneg hx.1 hy.1, Int.le_trans (Int.mul_le_mul hx.2 hy.2 hy.1 (by omega)) (by decide)⟩
theorem skyC_cels {rs : List Int} (o : SkyOk rs) : CelsOk (skyC rs) := by
  have hb := skyC_bd o
  refine ⟨hb.2, fun i hi => ?_, fun i j hi hj he => ?_⟩
  case refine_2 =>
    obtain ⟨h1, h2, -, -⟩ := ring_at o hi
    obtain ⟨k1, k2, -, -⟩ := ring_at o hj
    rw [h2, k2] at he ⊢
    have e : ringZ rs i = ringZ rs j := by have : ((ringZ rs i : Nat) : Int) = (ringZ rs j : Nat) := he; omega
    show rs.getD (ringZ rs i) default = rs.getD (ringZ rs j) default
    rw [e]
  obtain ⟨h1, h2, h3, h4⟩ := ring_at o hi
  have hr := o.ring _ h1
  have hl := o.len
  rw [h2]
  refine ⟨hr, ⟨h3, h4⟩, ?_, ?_⟩
  · show (0 : Int) ≤ (ringZ rs i : Nat); omega
  · show ((ringZ rs i : Nat) : Int) ≤ 8; omega
set_option maxRecDepth 100000 in
set_option maxHeartbeats 3200000 in
theorem near_s (cs : List Cel) (o : CelsOk cs) (a b : Nat) (ha : a < cs.length) (hb : b < cs.length) : Summ Tryz.prog GG 184 [xF cs, iv ((a : Nat) : Int), iv ((b : Nat) : Int)] (bv (nearC a b cs[a] cs[b])) := by
  have hl := o.len
  obtain ⟨a1, a2, a3⟩ := o.each a ha
  obtain ⟨b1, b2, b3⟩ := o.each b hb
  have hca : cs[a].count ≠ 0 := by omega
  have m1 := mul_bdC (x := cs[a].index) (y := cs[b].count) (by omega) (by omega)
  have m2 := mul_bdC (x := cs[b].index + 1) (y := cs[a].count) (by omega) (by omega)
  have m3 := mul_bdC (x := cs[b].index) (y := cs[a].count) (by omega) (by omega)
  have hcc := o.same a b ha hb
  have m4 := mul_bdC (x := cs[a].index + 1) (y := cs[b].count) (by omega) (by omega)
  by_cases hab : (a : Int) = b
  · have hv : nearC a b cs[a] cs[b] = false := by
      unfold nearC
      rw [if_pos hab]
    rw [hv]
    refine summW Tryz.func184 rfl rfl 82 rfl (by simp) (fun M0 => ?_)
    repeat (first
    | (apply s_a TY; exact rfl)
    | (apply s_t; exact rfl; (first | assumption | omega))
    | apply w_seq
    | apply w_region
    | (apply w_draw1 (id := 1) 10 rfl (by kernel_rfl); exact rfl; kernel_rfl)
    | (apply s_allocB TY (d := some 7); exact rfl; exact rfl; exact rfl)
    | (apply s_sto TY; exact rfl; exact rfl; exact rfl; exact rfl; exact rfl; exact rfl; exact rfl)
    | apply s_nil
    | apply t_norm
    | apply t_ret
    | apply k_ret
    | apply w_block
    | apply w_ret
    | (apply w_condT; exact rfl; exact rfl)
    | (apply s_c TY; exact rfl; (first | omega | exact ⟨by omega, by (first | with_reducible assumption | ((with_reducible apply celsF_ne); omega) | assumption)⟩))
    | (apply s_m TY; exact rfl; (first | with_reducible assumption | ((with_reducible apply celsF_sub); omega) | exact rfl); exact rfl)
    | (apply s_alloc TY; exact rfl; exact rfl; exact rfl)
    | (apply s_store TY; exact rfl; exact rfl; exact rfl; exact rfl; exact rfl; exact rfl))
    exact lv_ret (ret1 rfl (res_tmp rfl))
  · by_cases hr : cs[a].ring = cs[b].ring
    · by_cases h1 : (cs[a].index - cs[b].index + cs[a].count) % cs[a].count = 1
      · have hv : nearC a b cs[a] cs[b] = true := by
          unfold nearC
          rw [if_neg hab, if_pos hr]
          rw [decide_eq_true h1]; rfl
        rw [hv]
        have hcc := hcc hr
        refine summW Tryz.func184 rfl rfl 82 rfl (by simp) (fun M0 => ?_)
        repeat (first
    | (apply s_a TY; exact rfl)
    | (apply s_t; exact rfl; (first | assumption | omega))
    | (apply s_f; exact rfl; (first | assumption | omega))
    | apply w_seq
    | apply w_region
    | (apply w_draw1 (id := 1) 10 rfl (by kernel_rfl); exact rfl; kernel_rfl)
    | (apply s_allocB TY (d := some 7); exact rfl; exact rfl; exact rfl)
    | (apply s_sto TY; exact rfl; exact rfl; exact rfl; exact rfl; exact rfl; exact rfl; exact rfl)
    | apply s_nil
    | apply t_norm
    | apply t_ret
    | apply k_ret
    | apply w_block
    | apply w_ret
    | (apply w_condT; exact rfl; exact rfl)
    | (apply w_condF; exact rfl; exact rfl)
    | (apply s_s; exact rfl)
    | (apply s_c TY; exact rfl; (first | omega | exact ⟨by omega, by (first | with_reducible assumption | ((with_reducible apply celsF_ne); omega) | assumption)⟩))
    | (apply s_m TY; exact rfl; (first | with_reducible assumption | ((with_reducible apply celsF_sub); omega) | exact rfl); exact rfl)
    | (apply s_alloc TY; exact rfl; exact rfl; exact rfl)
    | (apply s_store TY; exact rfl; exact rfl; exact rfl; exact rfl; exact rfl; exact rfl))
        exact lv_ret (ret1 rfl (res_tmp rfl))
      · by_cases h2 : (cs[a].index - cs[b].index + cs[a].count) % cs[a].count = cs[a].count - 1
        · have hv : nearC a b cs[a] cs[b] = true := by
            unfold nearC
            rw [if_neg hab, if_pos hr]
            rw [decide_eq_true h2, Bool.or_true]
          rw [hv]
          have hcc := hcc hr
          refine summW Tryz.func184 rfl rfl 82 rfl (by simp) (fun M0 => ?_)
          repeat (first
    | (apply s_a TY; exact rfl)
    | (apply s_t; exact rfl; (first | assumption | omega))
    | (apply s_f; exact rfl; (first | assumption | omega))
    | apply w_seq
    | apply w_region
    | (apply w_draw1 (id := 1) 10 rfl (by kernel_rfl); exact rfl; kernel_rfl)
    | (apply s_allocB TY (d := some 7); exact rfl; exact rfl; exact rfl)
    | (apply s_sto TY; exact rfl; exact rfl; exact rfl; exact rfl; exact rfl; exact rfl; exact rfl)
    | apply s_nil
    | apply t_norm
    | apply t_ret
    | apply k_ret
    | apply w_block
    | apply w_ret
    | (apply w_condT; exact rfl; exact rfl)
    | (apply w_condF; exact rfl; exact rfl)
    | (apply s_c TY; exact rfl; (first | omega | exact ⟨by omega, by (first | with_reducible assumption | ((with_reducible apply celsF_ne); omega) | assumption)⟩))
    | (apply s_m TY; exact rfl; (first | with_reducible assumption | ((with_reducible apply celsF_sub); omega) | exact rfl); exact rfl)
    | (apply s_alloc TY; exact rfl; exact rfl; exact rfl)
    | (apply s_store TY; exact rfl; exact rfl; exact rfl; exact rfl; exact rfl; exact rfl))
          exact lv_ret (ret1 rfl (res_tmp rfl))
        · have hv : nearC a b cs[a] cs[b] = false := by
            unfold nearC
            rw [if_neg hab, if_pos hr]
            rw [decide_eq_false h1, decide_eq_false h2]; rfl
          rw [hv]
          have hcc := hcc hr
          refine summW Tryz.func184 rfl rfl 82 rfl (by simp) (fun M0 => ?_)
          repeat (first
    | (apply s_a TY; exact rfl)
    | (apply s_t; exact rfl; (first | assumption | omega))
    | (apply s_f; exact rfl; (first | assumption | omega))
    | apply w_seq
    | apply w_region
    | (apply w_draw1 (id := 1) 10 rfl (by kernel_rfl); exact rfl; kernel_rfl)
    | (apply s_allocB TY (d := some 7); exact rfl; exact rfl; exact rfl)
    | (apply s_sto TY; exact rfl; exact rfl; exact rfl; exact rfl; exact rfl; exact rfl; exact rfl)
    | apply s_nil
    | apply t_norm
    | apply t_ret
    | apply k_ret
    | apply w_block
    | apply w_ret
    | (apply w_condT; exact rfl; exact rfl)
    | (apply w_condF; exact rfl; exact rfl)
    | (apply s_c TY; exact rfl; (first | omega | exact ⟨by omega, by (first | with_reducible assumption | ((with_reducible apply celsF_ne); omega) | assumption)⟩))
    | (apply s_m TY; exact rfl; (first | with_reducible assumption | ((with_reducible apply celsF_sub); omega) | exact rfl); exact rfl)
    | (apply s_alloc TY; exact rfl; exact rfl; exact rfl)
    | (apply s_store TY; exact rfl; exact rfl; exact rfl; exact rfl; exact rfl; exact rfl))
          exact lv_ret (ret1 rfl (res_tmp rfl))
    · by_cases hw : -1 ≤ cs[a].ring - cs[b].ring ∧ cs[a].ring - cs[b].ring ≤ 1
      · by_cases hp : cs[a].index * cs[b].count < (cs[b].index + 1) * cs[a].count
        · by_cases hq : cs[b].index * cs[a].count < (cs[a].index + 1) * cs[b].count
          · have hv : nearC a b cs[a] cs[b] = true := by
              unfold nearC
              rw [if_neg hab, if_neg hr]
              rw [decide_eq_true hw.1, decide_eq_true hw.2, decide_eq_true hp, decide_eq_true hq]; rfl
            rw [hv]
            refine summW Tryz.func184 rfl rfl 82 rfl (by simp) (fun M0 => ?_)
            repeat (first
    | (apply s_a TY; exact rfl)
    | (apply s_t; exact rfl; (first | assumption | omega))
    | (apply s_f; exact rfl; (first | assumption | omega))
    | apply w_seq
    | apply w_region
    | (apply w_draw1 (id := 1) 10 rfl (by kernel_rfl); exact rfl; kernel_rfl)
    | (apply s_allocB TY (d := some 7); exact rfl; exact rfl; exact rfl)
    | (apply s_sto TY; exact rfl; exact rfl; exact rfl; exact rfl; exact rfl; exact rfl; exact rfl)
    | apply s_nil
    | apply t_norm
    | apply k_norm
    | apply w_block
    | apply w_ret
    | apply w_skip
    | (apply w_condF; exact rfl; exact rfl)
    | (apply s_k1 (within_T _ _ _); exact rfl; (first | assumption | omega | decide))
    | (apply s_c TY; exact rfl; (first | omega | exact ⟨by omega, by (first | with_reducible assumption | ((with_reducible apply celsF_ne); omega) | assumption)⟩))
    | (apply s_m TY; exact rfl; (first | with_reducible assumption | ((with_reducible apply celsF_sub); omega) | exact rfl); exact rfl)
    | (apply s_alloc TY; exact rfl; exact rfl; exact rfl)
    | (apply s_store TY; exact rfl; exact rfl; exact rfl; exact rfl; exact rfl; exact rfl))
            exact lv_ret (ret1 rfl (res_tmp rfl))
          · have hv : nearC a b cs[a] cs[b] = false := by
              unfold nearC
              rw [if_neg hab, if_neg hr]
              rw [decide_eq_false hq, Bool.and_false]
            rw [hv]
            refine summW Tryz.func184 rfl rfl 82 rfl (by simp) (fun M0 => ?_)
            repeat (first
    | (apply s_a TY; exact rfl)
    | (apply s_t; exact rfl; (first | assumption | omega))
    | (apply s_f; exact rfl; (first | assumption | omega))
    | apply w_seq
    | apply w_region
    | (apply w_draw1 (id := 1) 10 rfl (by kernel_rfl); exact rfl; kernel_rfl)
    | (apply s_allocB TY (d := some 7); exact rfl; exact rfl; exact rfl)
    | (apply s_sto TY; exact rfl; exact rfl; exact rfl; exact rfl; exact rfl; exact rfl; exact rfl)
    | apply s_nil
    | apply t_norm
    | apply k_norm
    | apply w_block
    | apply w_ret
    | apply w_skip
    | (apply w_condF; exact rfl; exact rfl)
    | (apply s_k1 (within_T _ _ _); exact rfl; (first | assumption | omega | decide))
    | (apply s_c TY; exact rfl; (first | omega | exact ⟨by omega, by (first | with_reducible assumption | ((with_reducible apply celsF_ne); omega) | assumption)⟩))
    | (apply s_m TY; exact rfl; (first | with_reducible assumption | ((with_reducible apply celsF_sub); omega) | exact rfl); exact rfl)
    | (apply s_alloc TY; exact rfl; exact rfl; exact rfl)
    | (apply s_store TY; exact rfl; exact rfl; exact rfl; exact rfl; exact rfl; exact rfl))
            exact lv_ret (ret1 rfl (res_tmp rfl))
        · have hv : nearC a b cs[a] cs[b] = false := by
            unfold nearC
            rw [if_neg hab, if_neg hr]
            rw [decide_eq_false hp, Bool.and_false, Bool.false_and]
          rw [hv]
          refine summW Tryz.func184 rfl rfl 82 rfl (by simp) (fun M0 => ?_)
          repeat (first
    | (apply s_a TY; exact rfl)
    | (apply s_f; exact rfl; (first | assumption | omega))
    | apply w_seq
    | apply w_region
    | (apply w_draw1 (id := 1) 10 rfl (by kernel_rfl); exact rfl; kernel_rfl)
    | (apply s_allocB TY (d := some 7); exact rfl; exact rfl; exact rfl)
    | (apply s_sto TY; exact rfl; exact rfl; exact rfl; exact rfl; exact rfl; exact rfl; exact rfl)
    | apply s_nil
    | apply t_norm
    | apply k_norm
    | apply w_block
    | apply w_ret
    | apply w_skip
    | (apply w_condF; exact rfl; exact rfl)
    | (apply s_k1 (within_T _ _ _); exact rfl; (first | assumption | omega | decide))
    | (apply s_s; exact rfl)
    | (apply s_c TY; exact rfl; (first | omega | exact ⟨by omega, by (first | with_reducible assumption | ((with_reducible apply celsF_ne); omega) | assumption)⟩))
    | (apply s_m TY; exact rfl; (first | with_reducible assumption | ((with_reducible apply celsF_sub); omega) | exact rfl); exact rfl)
    | (apply s_alloc TY; exact rfl; exact rfl; exact rfl)
    | (apply s_store TY; exact rfl; exact rfl; exact rfl; exact rfl; exact rfl; exact rfl))
          exact lv_ret (ret1 rfl (res_tmp rfl))
      · have hv : nearC a b cs[a] cs[b] = false := by
          unfold nearC
          rw [if_neg hab, if_neg hr]
          rw [show (decide (-1 ≤ cs[a].ring - cs[b].ring) && decide (cs[a].ring - cs[b].ring ≤ 1)) = false by simp only [Bool.and_eq_false_iff, decide_eq_false_iff_not]; omega]; rfl
        rw [hv]
        refine summW Tryz.func184 rfl rfl 82 rfl (by simp) (fun M0 => ?_)
        repeat (first
    | (apply s_a TY; exact rfl)
    | (apply s_f; exact rfl; (first | assumption | omega))
    | apply w_seq
    | apply w_region
    | (apply w_draw1 (id := 1) 10 rfl (by kernel_rfl); exact rfl; kernel_rfl)
    | (apply s_allocB TY (d := some 7); exact rfl; exact rfl; exact rfl)
    | (apply s_sto TY; exact rfl; exact rfl; exact rfl; exact rfl; exact rfl; exact rfl; exact rfl)
    | apply s_nil
    | apply t_norm
    | apply k_norm
    | apply w_block
    | apply w_ret
    | apply w_skip
    | (apply w_condF; exact rfl; exact rfl)
    | (apply s_k1 (within_F _ _ _); exact rfl; (first | assumption | omega | decide))
    | (apply s_s; exact rfl)
    | (apply s_c TY; exact rfl; (first | omega | exact ⟨by omega, by (first | with_reducible assumption | ((with_reducible apply celsF_ne); omega) | assumption)⟩))
    | (apply s_m TY; exact rfl; (first | with_reducible assumption | ((with_reducible apply celsF_sub); omega) | exact rfl); exact rfl)
    | (apply s_alloc TY; exact rfl; exact rfl; exact rfl)
    | (apply s_store TY; exact rfl; exact rfl; exact rfl; exact rfl; exact rfl; exact rfl))
        exact lv_ret (ret1 rfl (res_tmp rfl))
end Go.Proofs.YtbkdjlahhcofmaaGreatDoor
namespace Go.Proofs.YtbkdjlahhcofmaaGreatDoor
open Go Go.RowKit Go.Proofs Go.Shelf Go.Ab
end Go.Proofs.YtbkdjlahhcofmaaGreatDoor
namespace Go.Proofs.YtbkdjlahhcofmaaGreatDoor
open Go Go.RowKit Go.Proofs Go.Shelf Go.Ab
end Go.Proofs.YtbkdjlahhcofmaaGreatDoor
namespace Go.Proofs.YtbkdjlahhcofmaaGreatDoor
open Go Go.RowKit Go.Proofs Go.Shelf Go.Ab
def rowP (q : Nat → Nat → Bool) (i : Nat) : Nat → List (Int × Int)
  | 0 => []
  | k + 1 => if q i k = true then rowP q i k ++ [((i : Int), (k : Int))] else rowP q i k
def allP (q : Nat → Nat → Bool) (m : Nat) : Nat → List (Int × Int)
  | 0 => []
  | i + 1 => allP q m i ++ rowP q i m
theorem rowP_len (q : Nat → Nat → Bool) (i : Nat) : ∀ k, (rowP q i k).length ≤ k
  | 0 => Nat.le_refl _
  | k + 1 => by
    have := rowP_len q i k
    rw [rowP]; split
    · rw [List.length_append, List.length_singleton]; omega
    · omega
theorem allP_len (q : Nat → Nat → Bool) (m : Nat) : ∀ i, (allP q m i).length ≤ i * m
  | 0 => by simp [allP]
  | i + 1 => by
    have h1 := allP_len q m i
    have h2 := rowP_len q i m
    rw [allP, List.length_append, Nat.succ_mul]; omega
section
variable {near : Int → Int → Bool}
structure MkOk (near : Int → Int → Bool) (X mk : List Int) : Prop where
  len : mk.length = X.length
  each : ∀ i, i < X.length → mk.getD i default ∈ X ∧ Conn near X (X.getD i default) (mk.getD i default) ∧ mk.getD i default ≤ X.getD i default
def stillM (near : Int → Int → Bool) (X mk : List Int) (i k : Nat) : Prop := ¬ (mk.getD i default < mk.getD k default ∧ near (X.getD i default) (X.getD k default) = true)
def sumM (mk : List Int) : Nat := (mk.map Int.toNat).sum
structure Sweep (near : Int → Int → Bool) (X m0 : List Int) (i k : Nat) (mk : List Int) (c : Bool) : Prop where
  ok : MkOk near X mk
  low : c = true → sumM mk < sumM m0
  same : c = false → mk = m0
  still : c = false → ∀ a b, a < X.length → b < X.length → (a < i ∨ (a = i ∧ b < k)) → stillM near X m0 a b
end
end Go.Proofs.YtbkdjlahhcofmaaGreatDoor
namespace Go.Proofs.YtbkdjlahhcofmaaGreatDoor
open Go Go.RowKit Go.Proofs Go.Shelf Go.Ab
def evE (c : Int) (x : Aev) : Int := firstE [tickE x.tick, celE c x.cell]
def evsE (c : Int) (l : List Aev) : Int := if 20 < l.length then 8 else (eachE l.length fun i => evE c (l.getD i default)).2
theorem evE_iff {c : Int} {x : Aev} : evE c x = 0 ↔ (0 ≤ x.tick ∧ x.tick ≤ 1000000000000) ∧ 0 ≤ x.cell ∧ x.cell ≤ c - 1 := by
  unfold evE tickE celE
  by_cases h1 : 0 ≤ x.tick ∧ x.tick ≤ 1000000000000
  · by_cases h2 : 0 ≤ x.cell ∧ x.cell ≤ c - 1
    · rw [if_pos h1, if_pos h2]; simp [firstE, h1, h2]
    · rw [if_pos h1, if_neg h2]; simp [firstE, h2]
  · rw [if_neg h1]; simp [firstE, h1]
theorem evsE_of {c : Int} {l : List Aev} (h : evsE c l = 0) : l.length ≤ 20 ∧ ∀ i (hi : i < l.length), (0 ≤ l[i].tick ∧ l[i].tick ≤ 1000000000000) ∧ 0 ≤ l[i].cell ∧ l[i].cell ≤ c - 1 := by
  unfold evsE at h
  split at h
  · cases h
  rename_i h2
  rcases eachE_cases l.length (fun i => evE c (l.getD i default)) with ⟨_, hz⟩ | ⟨q, _, _, hne, e⟩
  · refine ⟨by omega, fun i hi => ?_⟩
    have := evE_iff.1 (hz i hi)
    rwa [getD_at hi] at this
  · rw [e] at h; exact absurd h hne
set_option maxRecDepth 100000 in
theorem eventsErr_s (cs : List Cel) (l : List Aev) (hcs : cs.length ≤ 1000) (hl : l.length ≤ 1000000) : Summ Tryz.prog GG 182 [xF cs, .sl l.length (aevsF l)] (iv (evsE cs.length l)) := by
  by_cases h20 : 20 < l.length
  · rw [show evsE cs.length l = 8 from if_pos h20]
    refine summW Tryz.func182 rfl rfl 30 rfl (by simp) (fun M0 => ?_)
    repeat (first
    | (apply s_a TY; exact rfl)
    | (apply s_t; exact rfl; (first | assumption | omega))
    | apply w_seq
    | apply w_region
    | apply s_nil
    | apply t_norm
    | apply t_ret
    | apply w_ret
    | (apply w_condT; exact rfl; exact rfl))
    exact lv_ret (ret1 rfl (res_tmp rfl))
  rw [show evsE cs.length l = (eachE l.length fun i => evE cs.length (l.getD i default)).2 from if_neg h20]
  refine summW Tryz.func182 rfl rfl 30 rfl (by simp) (fun M0 => ?_)
  repeat (first
    | (apply s_a TY; exact rfl)
    | (apply s_f; exact rfl; (first | assumption | omega))
    | apply w_seq
    | apply w_region
    | apply s_nil
    | apply t_norm
    | apply w_block
    | apply w_skip
    | (apply w_condF; exact rfl; exact rfl))
  apply w_loop (fun k : Nat => ⟨(Ab.upd (Ab.upd (Ab.upd (Ab.upd (fun _ => .bot) 0 (.f (xF cs))) 11 (.f (.sl l.length (aevsF l)))) 12 (.f (iv l.length))) 13 (.f (iv (k : Nat)))), (fun _ => none), 0⟩) (fun k => k ≤ l.length ∧ ∀ i, i < k → evE cs.length (l.getD i default) = 0) (fun k => l.length - k) 0 (⟨Nat.zero_le _, fun i h => absurd h (Nat.not_lt_zero i)⟩) (gh_le ⟨le_upd rfl trivial (le_upd rfl trivial (le_upd rfl trivial (le_upd rfl trivial (le_nil _)))), le_h0 _ _⟩)
  intro k ⟨hk, hz⟩
  by_cases hc : k < l.length
  · have hg := getD_at hc
    have HT := tickErr_s l[k].tick
    have HE := cellErr_s cs l[k].cell hcs
    have HF := first2_s (tickE l[k].tick) (celE cs.length l[k].cell)
    by_cases he : firstE [tickE l[k].tick, celE cs.length l[k].cell] = 0
    · repeat (first
    | (apply s_a TY; exact rfl)
    | (apply s_t; exact rfl; (first | assumption | omega))
    | apply w_seq
    | apply w_region
    | (apply w_draw (id := 6) 6 rfl (by kernel_rfl))
    | apply s_nil
    | apply t_norm
    | apply k_norm
    | apply w_block
    | apply w_skip
    | (apply w_condT; exact rfl; exact rfl)
    | (apply w_condF; exact rfl; exact rfl)
    | (apply s_k (HT); exact rfl)
    | (apply s_k (HE); exact rfl)
    | (apply s_k (HF); exact rfl)
    | (apply s_c TY; exact rfl; (first | omega | exact ⟨by omega, by (first | with_reducible assumption | ((with_reducible apply aevsF_ne); omega) | assumption)⟩))
    | (apply s_m TY; exact rfl; (first | with_reducible assumption | ((with_reducible apply aevsF_sub); omega) | exact rfl); exact rfl)
    | (apply s_alloc TY; exact rfl; exact rfl; exact rfl)
    | (apply s_store TY; exact rfl; exact rfl; exact rfl; exact rfl; exact rfl; exact rfl))
      exact ⟨k + 1, ⟨by omega, fun i hi => by
        by_cases e : i = k
        · subst e; rw [hg]; exact he
        · exact hz i (by omega)⟩, by omega, gh_le ⟨le_upd rfl trivial (le_upd rfl trivial (le_upd rfl trivial (le_upd rfl trivial (le_nil _)))), le_h0 _ _⟩⟩
    · have hx : evE cs.length (l.getD k default) = firstE [tickE l[k].tick, celE cs.length l[k].cell] := by rw [hg]; rfl
      rw [eachE_at hc hz (by rw [hx]; exact he), hx]
      repeat (first
    | (apply s_a TY; exact rfl)
    | (apply s_t; exact rfl; (first | assumption | omega))
    | (apply s_f; exact rfl; (first | assumption | omega))
    | apply w_seq
    | apply w_region
    | (apply w_draw (id := 6) 6 rfl (by kernel_rfl))
    | apply s_nil
    | apply t_norm
    | apply t_ret
    | apply k_ret
    | apply w_block
    | apply w_ret
    | apply w_skip
    | (apply w_condT; exact rfl; exact rfl)
    | (apply s_k (HT); exact rfl)
    | (apply s_k (HE); exact rfl)
    | (apply s_k (HF); exact rfl)
    | (apply s_c TY; exact rfl; (first | omega | exact ⟨by omega, by (first | with_reducible assumption | ((with_reducible apply aevsF_ne); omega) | assumption)⟩))
    | (apply s_m TY; exact rfl; (first | with_reducible assumption | ((with_reducible apply aevsF_sub); omega) | exact rfl); exact rfl)
    | (apply s_alloc TY; exact rfl; exact rfl; exact rfl)
    | (apply s_store TY; exact rfl; exact rfl; exact rfl; exact rfl; exact rfl; exact rfl))
      exact lv_ret (ret1 rfl (res_tmp rfl))
  · rw [eachE_ok fun i hi => hz i (by omega)]
    repeat (first
    | (apply s_a TY; exact rfl)
    | (apply s_f; exact rfl; (first | assumption | omega))
    | apply w_seq
    | apply w_region
    | apply s_nil
    | apply t_norm
    | apply t_exit
    | apply k_hit
    | apply w_exit
    | apply w_ret
    | (apply w_condF; exact rfl; exact rfl))
    exact lv_ret (ret1 rfl (res_tmp rfl))
def coin (rs : List Int) (w : Int) (x y : Aev) : Bool := decide (-w ≤ x.tick - y.tick ∧ x.tick - y.tick ≤ w) && (decide (x.cell = y.cell) || nearR rs x.cell y.cell)
def coinQ (rs : List Int) (w : Int) (a b : List Aev) (i k : Nat) : Bool := coin rs w (a.getD i default) (b.getD k default)
theorem prRow {L M : List Pr} (h : L = M) : some (Blk.row 305 2 L.length (prsF L)) = some (Blk.row 305 2 M.length (prsF M)) := by rw [h]
theorem prRow_app {L M : List Pr} {x : Pr} (h : M = L ++ [x]) : some (Blk.row 305 2 (L.length + 1) (prsF L ++ [iv x.1, iv x.2])) = some (Blk.row 305 2 M.length (prsF M)) := by
  rw [h, prsF_snoc, List.length_append]; rfl
set_option maxRecDepth 100000 in
set_option maxHeartbeats 3200000 in
theorem Coinciding_ok (rs : List Int) (a b : List Aev) (w : Int) (o : SkyOk rs) (h1 : evsE (befK rs rs.length) a = 0) (h2 : evsE (befK rs rs.length) b = 0) (h3 : 0 ≤ w ∧ w ≤ 1000000000000) : Summ Tryz.prog GG 64 [skF rs, .sl a.length (aevsF a), .sl b.length (aevsF b), iv w] (.tup [.sl (allP (coinQ rs w a b) b.length a.length).length (prsF (allP (coinQ rs w a b) b.length a.length)), iv 0]) := by
  have HO := open_ok rs o
  have hbd := skyC_bd o
  have hlc := skyC_len o
  obtain ⟨la, ea⟩ := evsE_of h1
  obtain ⟨lb, eb⟩ := evsE_of h2
  have H1 := eventsErr_s (skyC rs) a (by omega) (by omega)
  have H2 := eventsErr_s (skyC rs) b (by omega) (by omega)
  rw [hlc, h1] at H1
  rw [hlc, h2] at H2
  have HT := tickErr_s w
  rw [tickE_0 h3] at HT
  obtain ⟨iI, hiI, hzI⟩ := sizeB_spec (n := 1) (TY.ok 3) rfl
  refine summW Tryz.func64 rfl rfl 83 rfl (by simp) (fun M0 => ?_)
  repeat (first
    | (apply s_a TY; exact rfl)
    | (apply s_t; exact rfl; (first | assumption | omega))
    | apply w_seq
    | apply w_region
    | apply s_nil
    | apply t_norm
    | apply w_block
    | apply w_skip
    | (apply w_condF; exact rfl; exact rfl)
    | (apply s_k (HO); exact rfl)
    | (apply s_k (H1); exact rfl)
    | (apply s_k (H2); exact rfl)
    | (apply s_k (HT); exact rfl)
    | (apply s_k1 (first4_3 _ _ _ _); exact rfl; (first | assumption | omega | decide)))
  apply w_gh (gh_own 12 305 2 rfl rfl)
  apply w_loop (fun i : Nat => ⟨(Ab.upd (Ab.upd (Ab.upd (Ab.upd (Ab.upd (Ab.upd (Ab.upd (fun _ => .bot) 2 (.f (.sl b.length (aevsF b)))) 3 (.f (iv w))) 10 (.f (xF (skyC rs)))) 12 (.ow 0)) 36 (.f (.sl a.length (aevsF a)))) 37 (.f (iv a.length))) 38 (.f (iv (i : Nat)))), (Ab.upd (fun _ => none) 0 (some (.row 305 2 (allP (coinQ rs w a b) b.length i).length (prsF (allP (coinQ rs w a b) b.length i))))), 1⟩) (fun i => i ≤ a.length) (fun i => a.length - i) 0 (Nat.zero_le _) (gh_le ⟨le_upd rfl trivial (le_upd rfl trivial (le_upd rfl trivial (le_upd rfl rfl (le_upd rfl trivial (le_upd rfl trivial (le_upd rfl trivial (le_nil _))))))), le_hupd rfl trivial (le_h0 _ _)⟩)
  intro i hi
  by_cases hia : i < a.length
  · have hga := getD_at hia
    have hea := ea i hia
    repeat (first
    | (apply s_a TY; exact rfl)
    | (apply s_t; exact rfl; (first | assumption | omega))
    | apply w_seq
    | apply w_region
    | apply s_nil
    | apply t_norm
    | apply w_block
    | apply w_skip
    | (apply w_condT; exact rfl; exact rfl)
    | (apply s_c TY; exact rfl; (first | omega | exact ⟨by omega, by (first | with_reducible assumption | ((with_reducible apply aevsF_ne); omega) | assumption)⟩))
    | (apply s_m TY; exact rfl; (first | with_reducible assumption | ((with_reducible apply aevsF_sub); omega) | exact rfl); exact rfl)
    | (apply s_alloc TY; exact rfl; exact rfl; exact rfl)
    | (apply s_store TY; exact rfl; exact rfl; exact rfl; exact rfl; exact rfl; exact rfl))
    apply w_loop (fun k : Nat => ⟨(Ab.upd (Ab.upd (Ab.upd (Ab.upd (Ab.upd (Ab.upd (Ab.upd (Ab.upd (Ab.upd (Ab.upd (Ab.upd (Ab.upd (fun _ => .bot) 2 (.f (.sl b.length (aevsF b)))) 3 (.f (iv w))) 10 (.f (xF (skyC rs)))) 12 (.ow 0)) 13 (.f (iv ((i : Nat) : Int)))) 14 (.bx 1 0)) 36 (.f (.sl a.length (aevsF a)))) 37 (.f (iv a.length))) 38 (.f (iv ((i : Nat) : Int)))) 43 (.f (.sl b.length (aevsF b)))) 44 (.f (iv b.length))) 45 (.f (iv (k : Nat)))), (Ab.upd (Ab.upd (fun _ => none) 0 (some (.row 305 2 ((allP (coinQ rs w a b) b.length i) ++ rowP (coinQ rs w a b) i k).length (prsF ((allP (coinQ rs w a b) b.length i) ++ rowP (coinQ rs w a b) i k))))) 1 (some (.box [.f (iv a[i].tick), .f (iv a[i].cell)]))), 2⟩) (fun k => k ≤ b.length) (fun k => b.length - k) 0 (Nat.zero_le _) (gh_le ⟨le_upd rfl trivial (le_upd rfl trivial (le_upd rfl trivial (le_upd rfl trivial (le_upd rfl trivial (le_upd rfl trivial (le_upd rfl rfl (le_upd rfl trivial (le_upd rfl rfl (le_upd rfl trivial (le_upd rfl trivial (le_upd rfl trivial (le_nil _)))))))))))), le_hupd rfl (fun y hy => by simp at hy; rcases hy with rfl | rfl <;> trivial) (le_hupd (prRow (List.append_nil _).symm) trivial (le_h0 _ _))⟩)
    intro k hk
    by_cases hkb : k < b.length
    · have hgb := getD_at hkb
      have heb := eb k hkb
      have hlen := allP_len (coinQ rs w a b) b.length i
      have hrl := rowP_len (coinQ rs w a b) i k
      have hmul : i * b.length ≤ 20 * 20 := Nat.mul_le_mul (by omega) (by omega)
      have happ : ((allP (coinQ rs w a b) b.length i) ++ rowP (coinQ rs w a b) i k).length = (allP (coinQ rs w a b) b.length i).length + (rowP (coinQ rs w a b) i k).length := List.length_append
      have HN := near_s (skyC rs) (skyC_cels o) a[i].cell.toNat b[k].cell.toNat (by omega) (by omega)
      rw [near_eq o (by omega) (by omega), show ((a[i].cell.toNat : Nat) : Int) = a[i].cell by omega, show ((b[k].cell.toNat : Nat) : Int) = b[k].cell by omega] at HN
      by_cases hw1 : -w ≤ a[i].tick - b[k].tick ∧ a[i].tick - b[k].tick ≤ w
      · by_cases hcl : a[i].cell = b[k].cell
        · have hv : coinQ rs w a b i k = true := by unfold coinQ coin; rw [hga, hgb, decide_eq_true hw1, decide_eq_true hcl, Bool.true_or, Bool.true_and]
          have hs : rowP (coinQ rs w a b) i (k + 1) = rowP (coinQ rs w a b) i k ++ [((i : Int), (k : Int))] := by rw [rowP, if_pos hv]
          have hrow := prRow_app (L := ((allP (coinQ rs w a b) b.length i) ++ rowP (coinQ rs w a b) i k)) (M := ((allP (coinQ rs w a b) b.length i) ++ rowP (coinQ rs w a b) i (k + 1))) (x := (((i : Nat) : Int), ((k : Nat) : Int))) (by rw [hs, List.append_assoc])
          repeat (first
    | (apply s_append TY; exact rfl; exact rfl; exact rfl; exact rfl; exact rfl; exact rfl; exact rfl; exact rfl; exact rfl; (unfold maxLen; omega); omega)
    | (apply s_buildA TY Tryz.underlying305 hiI hzI; exact rfl; exact rfl; exact rfl; exact rfl; exact rfl)
    | (apply s_a TY; exact rfl)
    | (apply s_t; exact rfl; (first | assumption | omega))
    | apply w_seq
    | apply w_region
    | apply s_nil
    | apply t_norm
    | apply k_norm
    | apply w_block
    | apply w_skip
    | (apply w_condT; exact rfl; exact rfl)
    | (apply s_k1 (within_T _ _ _); exact rfl; (first | assumption | omega | decide))
    | (apply s_s; exact rfl)
    | (apply s_c TY; exact rfl; (first | omega | exact ⟨by omega, by (first | with_reducible assumption | ((with_reducible apply aevsF_ne); omega) | assumption)⟩))
    | (apply s_m TY; exact rfl; (first | with_reducible assumption | ((with_reducible apply aevsF_sub); omega) | exact rfl); exact rfl)
    | (apply s_alloc TY; exact rfl; exact rfl; exact rfl)
    | (apply s_store TY; exact rfl; exact rfl; exact rfl; exact rfl; exact rfl; exact rfl))
          exact ⟨k + 1, by omega, by omega, gh_le ⟨le_upd rfl trivial (le_upd rfl trivial (le_upd rfl trivial (le_upd rfl trivial (le_upd rfl trivial (le_upd rfl trivial (le_upd rfl rfl (le_upd rfl trivial (le_upd rfl rfl (le_upd rfl trivial (le_upd rfl trivial (le_upd rfl trivial (le_nil _)))))))))))), le_hupd rfl (fun y hy => by simp at hy; rcases hy with rfl | rfl <;> trivial) (le_hupd hrow trivial (le_h0 _ _))⟩⟩
        · by_cases hn : nearR rs a[i].cell b[k].cell = true
          · have hv : coinQ rs w a b i k = true := by unfold coinQ coin; rw [hga, hgb, decide_eq_true hw1, hn, Bool.or_true, Bool.true_and]
            rw [hn] at HN
            have hs : rowP (coinQ rs w a b) i (k + 1) = rowP (coinQ rs w a b) i k ++ [((i : Int), (k : Int))] := by rw [rowP, if_pos hv]
            have hrow := prRow_app (L := ((allP (coinQ rs w a b) b.length i) ++ rowP (coinQ rs w a b) i k)) (M := ((allP (coinQ rs w a b) b.length i) ++ rowP (coinQ rs w a b) i (k + 1))) (x := (((i : Nat) : Int), ((k : Nat) : Int))) (by rw [hs, List.append_assoc])
            repeat (first
    | (apply s_append TY; exact rfl; exact rfl; exact rfl; exact rfl; exact rfl; exact rfl; exact rfl; exact rfl; exact rfl; (unfold maxLen; omega); omega)
    | (apply s_buildA TY Tryz.underlying305 hiI hzI; exact rfl; exact rfl; exact rfl; exact rfl; exact rfl)
    | (apply s_a TY; exact rfl)
    | (apply s_t; exact rfl; (first | assumption | omega))
    | (apply s_f; exact rfl; (first | assumption | omega))
    | apply w_seq
    | apply w_region
    | apply s_nil
    | apply t_norm
    | apply k_norm
    | apply w_block
    | apply w_skip
    | (apply w_condT; exact rfl; exact rfl)
    | (apply s_k (HN); exact rfl)
    | (apply s_k1 (within_T _ _ _); exact rfl; (first | assumption | omega | decide))
    | (apply s_c TY; exact rfl; (first | omega | exact ⟨by omega, by (first | with_reducible assumption | ((with_reducible apply aevsF_ne); omega) | assumption)⟩))
    | (apply s_m TY; exact rfl; (first | with_reducible assumption | ((with_reducible apply aevsF_sub); omega) | exact rfl); exact rfl)
    | (apply s_alloc TY; exact rfl; exact rfl; exact rfl)
    | (apply s_store TY; exact rfl; exact rfl; exact rfl; exact rfl; exact rfl; exact rfl))
            exact ⟨k + 1, by omega, by omega, gh_le ⟨le_upd rfl trivial (le_upd rfl trivial (le_upd rfl trivial (le_upd rfl trivial (le_upd rfl trivial (le_upd rfl trivial (le_upd rfl rfl (le_upd rfl trivial (le_upd rfl rfl (le_upd rfl trivial (le_upd rfl trivial (le_upd rfl trivial (le_nil _)))))))))))), le_hupd rfl (fun y hy => by simp at hy; rcases hy with rfl | rfl <;> trivial) (le_hupd hrow trivial (le_h0 _ _))⟩⟩
          · have hn2 : nearR rs a[i].cell b[k].cell = false := by simpa using hn
            have hv : coinQ rs w a b i k = false := by unfold coinQ coin; rw [hga, hgb, decide_eq_true hw1, decide_eq_false hcl, hn2, Bool.or_false, Bool.and_false]
            rw [hn2] at HN
            have hs : rowP (coinQ rs w a b) i (k + 1) = rowP (coinQ rs w a b) i k := by rw [rowP, if_neg (by rw [hv]; decide)]
            have hrow := prRow (L := ((allP (coinQ rs w a b) b.length i) ++ rowP (coinQ rs w a b) i k)) (M := ((allP (coinQ rs w a b) b.length i) ++ rowP (coinQ rs w a b) i (k + 1))) (by rw [hs])
            repeat (first
    | (apply s_a TY; exact rfl)
    | (apply s_t; exact rfl; (first | assumption | omega))
    | (apply s_f; exact rfl; (first | assumption | omega))
    | apply w_seq
    | apply w_region
    | apply s_nil
    | apply t_norm
    | apply k_norm
    | apply w_block
    | apply w_skip
    | (apply w_condT; exact rfl; exact rfl)
    | (apply w_condF; exact rfl; exact rfl)
    | (apply s_k (HN); exact rfl)
    | (apply s_k1 (within_T _ _ _); exact rfl; (first | assumption | omega | decide))
    | (apply s_c TY; exact rfl; (first | omega | exact ⟨by omega, by (first | with_reducible assumption | ((with_reducible apply aevsF_ne); omega) | assumption)⟩))
    | (apply s_m TY; exact rfl; (first | with_reducible assumption | ((with_reducible apply aevsF_sub); omega) | exact rfl); exact rfl)
    | (apply s_alloc TY; exact rfl; exact rfl; exact rfl)
    | (apply s_store TY; exact rfl; exact rfl; exact rfl; exact rfl; exact rfl; exact rfl))
            exact ⟨k + 1, by omega, by omega, gh_le ⟨le_upd rfl trivial (le_upd rfl trivial (le_upd rfl trivial (le_upd rfl trivial (le_upd rfl trivial (le_upd rfl trivial (le_upd rfl rfl (le_upd rfl trivial (le_upd rfl rfl (le_upd rfl trivial (le_upd rfl trivial (le_upd rfl trivial (le_nil _)))))))))))), le_hupd rfl (fun y hy => by simp at hy; rcases hy with rfl | rfl <;> trivial) (le_hupd hrow trivial (le_h0 _ _))⟩⟩
      · have hv : coinQ rs w a b i k = false := by unfold coinQ coin; rw [hga, hgb, decide_eq_false hw1, Bool.false_and]
        have hs : rowP (coinQ rs w a b) i (k + 1) = rowP (coinQ rs w a b) i k := by rw [rowP, if_neg (by rw [hv]; decide)]
        have hrow := prRow (L := ((allP (coinQ rs w a b) b.length i) ++ rowP (coinQ rs w a b) i k)) (M := ((allP (coinQ rs w a b) b.length i) ++ rowP (coinQ rs w a b) i (k + 1))) (by rw [hs])
        repeat (first
    | (apply s_a TY; exact rfl)
    | (apply s_t; exact rfl; (first | assumption | omega))
    | apply w_seq
    | apply w_region
    | apply s_nil
    | apply t_norm
    | apply k_norm
    | apply w_block
    | apply w_skip
    | (apply w_condT; exact rfl; exact rfl)
    | (apply w_condF; exact rfl; exact rfl)
    | (apply s_k1 (within_F _ _ _); exact rfl; (first | assumption | omega | decide))
    | (apply s_s; exact rfl)
    | (apply s_c TY; exact rfl; (first | omega | exact ⟨by omega, by (first | with_reducible assumption | ((with_reducible apply aevsF_ne); omega) | assumption)⟩))
    | (apply s_m TY; exact rfl; (first | with_reducible assumption | ((with_reducible apply aevsF_sub); omega) | exact rfl); exact rfl)
    | (apply s_alloc TY; exact rfl; exact rfl; exact rfl)
    | (apply s_store TY; exact rfl; exact rfl; exact rfl; exact rfl; exact rfl; exact rfl))
        exact ⟨k + 1, by omega, by omega, gh_le ⟨le_upd rfl trivial (le_upd rfl trivial (le_upd rfl trivial (le_upd rfl trivial (le_upd rfl trivial (le_upd rfl trivial (le_upd rfl rfl (le_upd rfl trivial (le_upd rfl rfl (le_upd rfl trivial (le_upd rfl trivial (le_upd rfl trivial (le_nil _)))))))))))), le_hupd rfl (fun y hy => by simp at hy; rcases hy with rfl | rfl <;> trivial) (le_hupd hrow trivial (le_h0 _ _))⟩⟩
    · have hkl : k = b.length := by omega
      subst hkl
      repeat (first
    | (apply s_a TY; exact rfl)
    | (apply s_f; exact rfl; (first | assumption | omega))
    | apply w_seq
    | apply w_region
    | apply s_nil
    | apply t_norm
    | apply t_exit
    | apply k_hit
    | apply k_norm
    | apply w_exit
    | (apply w_condF; exact rfl; exact rfl)
    | (apply s_c TY; exact rfl; (first | omega | exact ⟨by omega, by (first | with_reducible assumption | ((with_reducible apply aevsF_ne); omega) | assumption)⟩)))
      exact ⟨i + 1, by omega, by omega, gh_le ⟨le_upd rfl trivial (le_upd rfl trivial (le_upd rfl trivial (le_upd rfl rfl (le_upd rfl trivial (le_upd rfl trivial (le_upd rfl trivial (le_nil _))))))), le_hupd rfl trivial (le_h0 _ _)⟩⟩
  · have hil : i = a.length := by omega
    subst hil
    repeat (first
    | (apply s_a TY; exact rfl)
    | (apply s_f; exact rfl; (first | assumption | omega))
    | apply w_seq
    | apply w_region
    | apply s_nil
    | apply t_norm
    | apply t_exit
    | apply k_hit
    | apply w_exit
    | apply w_ret
    | (apply w_condF; exact rfl; exact rfl))
    exact lv_ret (ret2 rfl (res_sees rfl (sees_row rfl)) (res_tmp rfl))
end Go.Proofs.YtbkdjlahhcofmaaGreatDoor
namespace Go.Proofs.YtbkdjlahhcofmaaGreatDoor
open Go Go.RowKit Go.Proofs Go.Shelf Go.Ab
theorem CopyEvents_s (l : List Aev) (hl : l.length ≤ 1000000) : Summ Tryz.prog GG 65 [.sl l.length (aevsF l)] (.sl l.length (aevsF l)) := by
  have hlen := aevsF_len l
  refine summW Tryz.func65 rfl rfl 6 rfl (by simp) (fun M0 => ?_)
  repeat (first
    | (apply s_bslice_clip TY; exact rfl; exact rfl; exact rfl; exact rfl; exact rfl; exact rfl)
    | (apply s_append_copy TY; exact rfl; exact rfl; exact rfl; exact rfl; exact rfl; exact rfl; exact rfl; assumption; (unfold maxLen; omega); omega)
    | (apply s_a TY; exact rfl)
    | apply w_seq
    | apply w_region
    | apply s_nil
    | apply t_norm
    | apply w_ret)
  exact lv_ret (ret1 rfl (res_tmp rfl))
end Go.Proofs.YtbkdjlahhcofmaaGreatDoor
namespace Go.Proofs.YtbkdjlahhcofmaaGreatDoor
open Go Go.RowKit Go.Proofs Go.Shelf Go.Ab
section
variable {C : Ctx} {N : Nat} {st : St}
end
end Go.Proofs.YtbkdjlahhcofmaaGreatDoor
namespace Go.Proofs.YtbkdjlahhcofmaaGreatDoor
open Go Go.RowKit Go.Proofs Go.Shelf Go.Ab
end Go.Proofs.YtbkdjlahhcofmaaGreatDoor
namespace Go.Proofs.YtbkdjlahhcofmaaGreatDoor
open Go.Lib (itoa decDigits join)
open Go Go.RowKit Go.Proofs Go.Shelf Go.Ab
def allW (m : List Int) : Int := sumI (wI m) (idxL m.length)
theorem allW_bd {n : Int} {m : List Int} (o : MapOk n m) : 0 ≤ allW m ∧ allW m ≤ 1000000 * (m.length : Int) := by
  have h := sumW_bd o (l := idxL m.length) (fun z hz => idxL_mem.1 hz) (Nat.le_refl _)
  rw [List.take_length, idxL_len] at h
  exact h
theorem sumI_mem_le {f : Int → Int} {l : List Int} {a : Int} (h : a ∈ l) (hn : ∀ z, z ∈ l → 0 ≤ f z) : f a ≤ sumI f l := by
  rw [sumI_erase h]
  have := sumI_nn (f := f) (X := l.erase a) fun z hz => hn z (List.mem_of_mem_erase hz)
  omega
theorem allW_pos {n : Int} {m : List Int} (o : MapOk n m) : 0 < allW m := by
  obtain ⟨i, hi, hw⟩ := o.some
  have h := sumI_mem_le (f := wI m) (l := idxL m.length) (a := (i : Int)) (idxL_mem.2 (by omega)) fun z hz => (wI_bd o (idxL_mem.1 hz)).1
  have e : wI m (i : Int) = m.getD i default := rfl
  unfold allW
  omega
section
variable {n : Int} {m : List Int}
theorem sw_of (m : List Int) : SortW (wI m) m.length (sortedW m) := SortW.of_sortO m.length
theorem sumS (m : List Int) : sumI (wI m) (sortedW m) = allW m := sumI_perm (sortO_perm _)
def regT (m : List Int) (p : Int) : List Int := (sortedW m).take (regC (wI m) (sortedW m) (wantV m p))
theorem regV_mem {p z : Int} : z ∈ regV m p ↔ z ∈ regT m p := (List.mergeSort_perm _ _).mem_iff
theorem regV_sum {p : Int} : sumI (wI m) (regV m p) = sumI (wI m) (regT m p) := sumI_perm (List.mergeSort_perm _ _)
theorem regV_l {p : Int} : (regV m p).length = (regT m p).length := (List.mergeSort_perm _ _).length_eq
theorem regV_in {p z : Int} (h : z ∈ regV m p) : 0 ≤ z ∧ z < m.length := (sw_of m).mem.1 (List.mem_of_mem_take (regV_mem.1 h))
theorem want_pos (o : MapOk n m) {p : Int} (hp : 1 ≤ p) : 0 < wantV m p := Int.mul_pos (by omega) (allW_pos o)
theorem regV_w (o : MapOk n m) {p : Int} (hp : 1 ≤ p ∧ p ≤ 100) : (0 ≤ sumI (wI m) (regV m p) ∧ sumI (wI m) (regV m p) ≤ allW m) ∧ p * allW m ≤ 100 * sumI (wI m) (regV m p) := by
  rw [regV_sum, ← sumS m]
  have hw : ∀ z, z ∈ sortedW m → 0 ≤ wI m z := fun z hz => (wI_bd o ((sw_of m).mem.1 hz)).1
  refine ⟨⟨sumI_nn fun z hz => hw z (List.mem_of_mem_take hz), sumI_take_le hw _⟩, ?_⟩
  rw [sumS]
  exact (regC_spec (want_ok o hp)).2.1
theorem regV_without (o : MapOk n m) {p z : Int} (hp : 1 ≤ p ∧ p ≤ 100) (hz : z ∈ regV m p) : 100 * (sumI (wI m) (regV m p) - wI m z) < p * allW m := by
  rw [regV_sum]
  exact reg_without (sw_of m) (want_pos o hp.1) (want_ok o hp) (regV_mem.1 hz)
end
theorem itoa_nn {v : Int} (h : 0 ≤ v) : itoa v = decDigits v.toNat := by unfold itoa; rw [if_neg (by omega)]
theorem dd_len : ∀ (k n : Nat), n < 10 ^ (k + 1) → (decDigits n).length ≤ k + 1
  | 0, n, h => by rw [decDigits, dif_pos (show n < 10 by omega)]; simp
  | k + 1, n, h => by
    rw [decDigits]
    split
    · simp
    · rw [List.length_append]
      have := dd_len k (n / 10) (by rw [Nat.pow_succ] at h; omega)
      simp; omega
theorem itoa_no32 {v : Int} (h : 0 ≤ v) : (32 : UInt8) ∉ itoa v := by
  rw [itoa_nn h]
  intro hm
  have := (decDigits_byte hm).1
  revert this; decide
theorem numP_itoa {v : Int} (h : 0 ≤ v ∧ v ≤ 9999999) : numP 7 (itoa v) = some v := by
  have hl : ((itoa v).drop (atS (itoa v))).length ≤ 7 := by
    rw [List.length_drop, itoa_nn h.1]
    have := dd_len 6 v.toNat (by omega)
    omega
  unfold numP
  rw [numO_itoa v hl]
  show (if 0 ≤ v then some v else none) = _
  rw [if_pos h.1]
theorem numsO_itoa : ∀ (l : List Int), (∀ z, z ∈ l → 0 ≤ z ∧ z ≤ 9999999) → ∀ k, k ≤ l.length → numsO 7 ((l.map itoa).take k) = some (l.take k)
  | _, _, 0, _ => rfl
  | l, h, k + 1, hk => by
    have ih := numsO_itoa l h k (by omega)
    have hm : k < (l.map itoa).length := by rw [List.length_map]; omega
    have hk2 : k < l.length := hk
    have hv : numP 7 (l.map itoa)[k] = some l[k] := by rw [List.getElem_map]; exact numP_itoa (h _ (List.getElem_mem hk2))
    rw [numsO_next hm ih hv, List.take_succ_eq_append_getElem hk2]
theorem map_again {l : List Int} (hne : l ≠ []) (h : ∀ z, z ∈ l → 0 ≤ z ∧ z ≤ 9999999) : mapP (wordsS l) = (l, 0) := by
  have e : cutS 32 (wordsS l) = l.map itoa := cut_join (by simpa using hne) fun w hw => by
    obtain ⟨z, hz, rfl⟩ := List.mem_map.1 hw
    exact itoa_no32 (h z hz).1
  have h2 := numsO_itoa l h l.length (Nat.le_refl _)
  rw [List.take_of_length_le (Nat.le_of_eq (List.length_map _)), List.take_length] at h2
  unfold mapP
  rw [e, h2]
theorem rowP_full {q : Nat → Nat → Bool} {i : Nat} : ∀ {k : Nat}, (∀ j, j < k → q i j = true) → (rowP q i k).length = k
  | 0, _ => rfl
  | k + 1, h => by rw [rowP, if_pos (h k (by omega)), List.length_append, rowP_full fun j hj => h j (by omega)]; rfl
theorem allP_full {q : Nat → Nat → Bool} {m : Nat} : ∀ {n : Nat}, (∀ i, i < n → ∀ j, j < m → q i j = true) → (allP q m n).length = n * m
  | 0, _ => by simp [allP]
  | n + 1, h => by rw [allP, List.length_append, allP_full fun i hi => h i (by omega), rowP_full fun j hj => h n (by omega) j hj, Nat.succ_mul]
section
variable {n : Int} {m : List Int}
theorem regV_100 (o : MapOk n m) {i : Nat} (hi : i < m.length) : (regV m 100).contains (i : Int) = decide (0 < m.getD i default) := by
  have e : wI m (i : Int) = m.getD i default := rfl
  rw [← e]
  have hs := (regV_w o (p := 100) (by omega))
  have hin : ∀ z, z ∈ regV m 100 → 0 ≤ z ∧ z < m.length := fun z hz => regV_in hz
  have hb := wI_bd o (z := (i : Int)) (by omega)
  by_cases hc : (i : Int) ∈ regV m 100
  · have h := regV_without o (p := 100) (by omega) hc
    rw [List.contains_iff_mem.2 hc, decide_eq_true (by omega)]
  · have h1 : (regV m 100).contains (i : Int) = false := by rw [Bool.eq_false_iff, ne_eq, List.contains_iff_mem]; exact hc
    have hnd : ((i : Int) :: regV m 100).Nodup := List.nodup_cons.2 ⟨hc, ((List.mergeSort_perm _ _).nodup_iff).2 ((sw_of m).nd.sublist (List.take_sublist _ _))⟩
    have ht := top_most (sw_of m).desc hnd fun z hz => (sw_of m).mem.2 (by
      rcases List.mem_cons.1 hz with rfl | hz
      · omega
      · exact hin z hz)
    have h3 := sumI_take_le (w := wI m) (L := sortedW m) (fun z hz => (wI_bd o ((sw_of m).mem.1 hz)).1) ((i : Int) :: regV m 100).length
    rw [sumS] at h3
    rw [sumI] at ht
    rw [h1, decide_eq_false (by omega)]
theorem regV_one (o : MapOk n m) {p : Int} (hp : 1 ≤ p ∧ p ≤ 100) {c : Nat} (hc : c < m.length) (hmost : ∀ i, i < m.length → i ≠ c → m.getD i default < m.getD c default) (hw : p * allW m ≤ 100 * m.getD c default) : regV m p = [(c : Int)] := by
  have hcw : wI m (c : Int) = m.getD c default := rfl
  have hmem : (c : Int) ∈ sortedW m := (sw_of m).mem.2 (by omega)
  obtain ⟨a, t, ht⟩ : ∃ a t, sortedW m = a :: t := by
    cases h : sortedW m with
    | nil => rw [h] at hmem; simp at hmem
    | cons a t => exact ⟨a, t, rfl⟩
  have hord := (sw_of m).ord
  rw [ht] at hord hmem
  have ha : a = (c : Int) := by
    rcases List.mem_cons.1 hmem with e | e
    · exact e.symm
    · have hb := (List.pairwise_cons.1 hord).1 _ e
      have hai := (sw_of m).mem.1 (show a ∈ sortedW m by rw [ht]; simp)
      refine Classical.byContradiction fun hne => ?_
      have hl := hmost a.toNat (by omega) (by omega)
      have haw : wI m a = m.getD a.toNat default := rfl
      unfold befW at hb
      omega
  have hspec := regC_spec (want_ok o hp)
  have hpos := regC_pos (want_pos o hp.1) (want_ok o hp)
  have h1 : regC (wI m) (sortedW m) (wantV m p) = 1 := by
    refine Classical.byContradiction fun hne => ?_
    have := hspec.2.2 1 (by omega)
    rw [ht, ha] at this
    simp only [List.take_succ_cons, List.take_zero, sumI] at this
    have e : wantV m p = p * allW m := rfl
    omega
  unfold regV
  rw [h1, ht, ha]
  show ascL [(c : Int)] = _
  unfold ascL
  exact List.mergeSort_singleton _
end
end Go.Proofs.YtbkdjlahhcofmaaGreatDoor
namespace Go.Proofs.YtbkdjlahhcofmaaGreatDoor
open Go Go.RowKit Go.Proofs Go.Shelf Go.Ab
theorem ints_init (n : Nat) : some (Blk.row 3 1 ((n : Nat) : Int).toNat (initF [.int .i64 0] (((n : Nat) : Int).toNat * 1))) = some (Blk.row 3 1 n (intsF (List.replicate n 0))) := by
  rw [initF_one, Int.toNat_natCast, Nat.mul_one]
  unfold intsF
  rw [List.map_replicate]; rfl
theorem OrdOk.len {l : List Job} {o : List Int} (q : OrdOk l o) : o.length ≤ l.length := by
  have h := pig (n := l.length) (o := o.map Int.toNat) (List.pairwise_map.2 (q.nd.imp_of_mem fun {a b} ha hb hne e => hne (by
    have h1 := q.mem a ha; have h2 := q.mem b hb; omega))) (fun z hz => by
    obtain ⟨y, hy, rfl⟩ := List.mem_map.1 hz
    have := q.mem y hy; omega)
  simpa using h
end Go.Proofs.YtbkdjlahhcofmaaGreatDoor
namespace Go.Proofs.YtbkdjlahhcofmaaGreatDoor
open Go Go.RowKit Go.Proofs Go.Shelf Go.Ab
structure Sn where
  pt : Pt
  tick : Int
instance : Inhabited Sn := ⟨⟨default, 0⟩⟩
def snF (x : Sn) : List FV := [iv x.pt.height, iv x.pt.turn, iv x.tick]
def snsF (l : List Sn) : List FV := l.flatMap snF
theorem snsF_ne {l : List Sn} {k : Nat} (h : k < l.length) : snsF l ≠ [] := flat_ne (f := snF) (fun _ => rfl) (by decide : 0 < 3) h
theorem snsF_sub {l : List Sn} {k : Nat} (h : k < l.length) : ((snsF l).drop (k * 3)).take 3 = snF l[k] := flat_sub (f := snF) (fun _ => rfl) h
theorem snsF_f0 {l : List Sn} {k : Nat} (h : k < l.length) : (snsF l)[k * 3 + 0]? = some (iv l[k].pt.height) := (flat_at (f := snF) (fun _ => rfl) h (by decide : 0 < 3)).trans rfl
theorem snsF_f1 {l : List Sn} {k : Nat} (h : k < l.length) : (snsF l)[k * 3 + 1]? = some (iv l[k].pt.turn) := (flat_at (f := snF) (fun _ => rfl) h (by decide : 1 < 3)).trans rfl
theorem snsF_f2 {l : List Sn} {k : Nat} (h : k < l.length) : (snsF l)[k * 3 + 2]? = some (iv l[k].tick) := (flat_at (f := snF) (fun _ => rfl) h (by decide : 2 < 3)).trans rfl
def evsC (c : Int) (tk : List Int) (i : Nat) : List Aev := (tk.take i).map fun t => ⟨t, c⟩
theorem evsC_len {c : Int} {tk : List Int} {i : Nat} (h : i ≤ tk.length) : (evsC c tk i).length = i := by
  unfold evsC; rw [List.length_map, List.length_take]; omega
theorem evsC_succ {c : Int} {tk : List Int} {i : Nat} (h : i < tk.length) : evsC c tk (i + 1) = evsC c tk i ++ [⟨tk[i], c⟩] := by
  unfold evsC; rw [List.take_succ_eq_append_getElem h, List.map_append]; rfl
theorem evsC_at {c : Int} {tk : List Int} {i : Nat} (h : i < (evsC c tk tk.length).length) : ∃ h2 : i < tk.length, (evsC c tk tk.length)[i] = ⟨tk[i], c⟩ := by
  have hl := evsC_len (c := c) (tk := tk) (Nat.le_refl _)
  refine ⟨by omega, ?_⟩
  unfold evsC
  simp
structure Wt (N c : Nat) (ws : List Int) (k a : Nat) : Prop where
  len : ws.length = N
  each : ∀ i, i < N → 0 ≤ ws.getD i default ∧ ws.getD i default ≤ k
  sum : allW ws = k
  low : (a : Int) ≤ ws.getD c default
theorem getD_setW {ws : List Int} {o i : Nat} {v : Int} (h : o < ws.length) : (ws.set o v).getD i default = if i = o then v else ws.getD i default := by
  rw [List.getD_eq_getElem?_getD, List.getD_eq_getElem?_getD, List.getElem?_set]
  by_cases e : o = i
  · subst e; rw [if_pos rfl, if_pos rfl, if_pos h]; rfl
  · rw [if_neg e, if_neg (fun x => e x.symm)]
theorem allW_set {ws : List Int} {o : Nat} (h : o < ws.length) (v : Int) : allW (ws.set o v) = allW ws - ws.getD o default + v := by
  have hm : (o : Int) ∈ idxL ws.length := idxL_mem.2 (by omega)
  unfold allW
  rw [List.length_set, sumI_erase hm, sumI_erase (f := wI ws) hm]
  have e1 : wI (ws.set o v) (o : Int) = v := by
    unfold wI
    rw [show ((o : Int)).toNat = o by omega, getD_setW h, if_pos rfl]
  have e2 : wI ws (o : Int) = ws.getD o default := rfl
  have e3 : sumI (wI (ws.set o v)) ((idxL ws.length).erase (o : Int)) = sumI (wI ws) ((idxL ws.length).erase (o : Int)) := sumI_congr fun z hz => by
    have hz2 := (idxL_nd ws.length).mem_erase_iff.1 hz
    have hz3 := idxL_mem.1 hz2.2
    unfold wI
    rw [getD_setW h, if_neg (by omega)]
  rw [e1, e2, e3]
  omega
theorem Wt.step {N c k a o : Nat} {ws : List Int} (h : Wt N c ws k a) (ho : o < N) : Wt N c (ws.set o (ws.getD o default + 1)) (k + 1) (if o = c then a + 1 else a) := by
  have hl := h.len
  have e := h.each
  refine ⟨by rw [List.length_set, hl], fun i hi => ?_, ?_, ?_⟩
  · rw [getD_setW (by omega)]
    have h1 := e i hi
    have h2 := e o ho
    split <;> omega
  · rw [allW_set (by omega), h.sum]; omega
  · rw [getD_setW (by omega)]
    have := h.low
    by_cases hc : c = o
    · subst hc; rw [if_pos rfl, if_pos rfl]; omega
    · rw [if_neg hc, if_neg (fun x => hc x.symm)]; exact this
theorem sumI_zero {f : Int → Int} : ∀ {l : List Int}, (∀ z, z ∈ l → f z = 0) → sumI f l = 0
  | [], _ => rfl
  | x :: l, h => by rw [sumI, h x (by simp), sumI_zero fun z hz => h z (by simp [hz])]; rfl
theorem Wt.zero (N c : Nat) : Wt N c (List.replicate N 0) 0 0 := by
  have z : ∀ i, (List.replicate N (0 : Int)).getD i default = 0 := fun i => by
    rw [List.getD_eq_getElem?_getD, List.getElem?_replicate]
    split <;> rfl
  refine ⟨List.length_replicate, fun i _ => by rw [z]; omega, ?_, by rw [z]; omega⟩
  exact sumI_zero fun i _ => z _
theorem Wt.ok {N c k a : Nat} {ws : List Int} (h : Wt N c ws k a) (hc : c < N) (ha : 1 ≤ a) (hk : k ≤ 1000000) : MapOk N ws := by
  have hl := h.len
  refine ⟨by rw [hl], fun i hi => ?_, c, by omega, ?_⟩
  · have := h.each i (by omega); omega
  · have := h.low; omega
theorem Wt.i64 {N c k a : Nat} {ws : List Int} (h : Wt N c ws k a) (hk : k ≤ 1000000) : ∀ z, z ∈ ws → 0 ≤ z ∧ z ≤ 1000000 := fun z hz => by
  obtain ⟨i, hi, rfl⟩ := List.getElem_of_mem hz
  have := h.each i (by have := h.len; omega)
  rw [getD_at hi] at this
  omega
theorem intsF_set (ws : List Int) (o : Nat) (v : Int) : (intsF ws).set o (iv v) = intsF (ws.set o v) := by
  unfold intsF
  rw [List.map_set]
theorem coin_one {rs : List Int} {c : Int} {tk : List Int} (h : ∀ t, t ∈ tk → 0 ≤ t ∧ t ≤ 1000000000000) : (allP (coinQ rs 1000000000000 (evsC c tk tk.length) (evsC c tk tk.length)) (evsC c tk tk.length).length (evsC c tk tk.length).length).length = tk.length * tk.length := by
  have hl := evsC_len (c := c) (tk := tk) (Nat.le_refl _)
  rw [allP_full, hl]
  intro i hi j hj
  obtain ⟨i2, ei⟩ := evsC_at hi
  obtain ⟨j2, ej⟩ := evsC_at hj
  have h1 := h _ (List.getElem_mem i2)
  have h2 := h _ (List.getElem_mem j2)
  unfold coinQ coin
  rw [getD_at hi, getD_at hj, ei, ej]
  simp only [decide_true, Bool.true_or, Bool.and_true, decide_eq_true_eq]
  omega
theorem evsC_ok {n c : Int} {tk : List Int} (hl : tk.length ≤ 20) (h : ∀ t, t ∈ tk → 0 ≤ t ∧ t ≤ 1000000000000) (hc : 0 ≤ c ∧ c ≤ n - 1) : evsE n (evsC c tk tk.length) = 0 := by
  have hln := evsC_len (c := c) (tk := tk) (Nat.le_refl _)
  unfold evsE
  rw [if_neg (by omega), eachE_ok]
  intro i hi
  obtain ⟨i2, ei⟩ := evsC_at hi
  rw [getD_at hi, ei]
  exact evE_iff.2 ⟨h _ (List.getElem_mem i2), hc⟩
end Go.Proofs.YtbkdjlahhcofmaaGreatDoor
namespace Go.Proofs.YtbkdjlahhcofmaaGreatDoor
open Go Go.RowKit Go.Proofs Go.Shelf Go.Ab
structure Mrg (w : Int → Int) (D : Nat → Int) (a m b : Nat) : Prop where
  L : SrtI w D a m
  R : SrtI w D m b
  X : ∀ i j, a ≤ i → i < m → m ≤ j → j < b → D i < D j
structure Res (w : Int → Int) (D E : Nat → Int) (a b : Nat) : Prop where
  srt : SrtI w E a b
  out : ∀ p, p < a ∨ b ≤ p → E p = D p
  ins : ∀ z, InI E a b z ↔ InI D a b z
theorem befW_x {w : Int → Int} {x y : Int} (h : y < x) : befW w x y ↔ w y < w x := by unfold befW; omega
theorem srt_ne {w : Int → Int} {D : Nat → Int} {a b : Nat} (h : SrtI w D a b) {i j : Nat} (h1 : a ≤ i) (h2 : i < b) (h3 : a ≤ j) (h4 : j < b) (hne : i ≠ j) : D i ≠ D j := fun e => by
  by_cases hlt : i < j
  · have := h i j h1 hlt h4
    rw [e] at this; exact befW_irr this this
  · have := h j i h3 (by omega) h2
    rw [e] at this; exact befW_irr this this
theorem Mrg.dist {w : Int → Int} {D : Nat → Int} {a m b : Nat} (h : Mrg w D a m b) : ∀ i j, a ≤ i → i < b → a ≤ j → j < b → i ≠ j → D i ≠ D j := fun i j h1 h2 h3 h4 hne e => by
  by_cases hi : i < m
  · by_cases hj : j < m
    · exact srt_ne h.L h1 hi h3 hj hne e
    · have := h.X i j h1 hi (by omega) h4; omega
  · by_cases hj : j < m
    · have := h.X j i h3 hj (by omega) h2; omega
    · exact srt_ne h.R (by omega) h2 (by omega) h4 hne e
theorem rot_nil (D : Nat → Int) (s m : Nat) (_h : s ≤ m) : rotI D s m m = D := by
  funext p
  unfold rotI
  by_cases c : s ≤ p ∧ p < s + (m - m)
  · omega
  · rw [if_neg c]
    by_cases d : s + (m - m) ≤ p ∧ p < m
    · rw [if_pos d]; congr 1; omega
    · rw [if_neg d]
theorem rot_nil2 (D : Nat → Int) (m e : Nat) (h : m ≤ e) : rotI D m m e = D := by
  funext p
  unfold rotI
  by_cases c : m ≤ p ∧ p < m + (e - m)
  · rw [if_pos c]; congr 1; omega
  · rw [if_neg c, if_neg (by omega)]
theorem rot_r (D : Nat → Int) {a k : Nat} (h : a ≤ k) : swp1 (rotI D a (a + 1) (k + 1)) k (k + 1) = rotI D a (a + 1) (k + 2) := by
  funext p
  unfold swp1 rotI
  by_cases h1 : p = k
  · subst h1
    rw [if_pos rfl, if_neg (show ¬ (a ≤ p + 1 ∧ p + 1 < a + (p + 1 - (a + 1))) by omega), if_neg (show ¬ (a + (p + 1 - (a + 1)) ≤ p + 1 ∧ p + 1 < p + 1) by omega), if_pos (show a ≤ p ∧ p < a + (p + 2 - (a + 1)) by omega)]
    congr 1; omega
  · rw [if_neg h1]
    by_cases h2 : p = k + 1
    · subst h2
      rw [if_pos rfl, if_neg (show ¬ (a ≤ k ∧ k < a + (k + 1 - (a + 1))) by omega), if_pos (show a + (k + 1 - (a + 1)) ≤ k ∧ k < k + 1 by omega), if_neg (show ¬ (a ≤ k + 1 ∧ k + 1 < a + (k + 2 - (a + 1))) by omega), if_pos (show a + (k + 2 - (a + 1)) ≤ k + 1 ∧ k + 1 < k + 2 by omega)]
      congr 1; omega
    · rw [if_neg h2]
      by_cases c : a ≤ p ∧ p < a + (k + 1 - (a + 1))
      · rw [if_pos c, if_pos (show a ≤ p ∧ p < a + (k + 2 - (a + 1)) by omega)]
      · rw [if_neg c, if_neg (show ¬ (a + (k + 1 - (a + 1)) ≤ p ∧ p < k + 1) by omega), if_neg (show ¬ (a ≤ p ∧ p < a + (k + 2 - (a + 1))) by omega), if_neg (show ¬ (a + (k + 2 - (a + 1)) ≤ p ∧ p < k + 2) by omega)]
theorem rot_l (D : Nat → Int) {k m : Nat} (h : k + 1 ≤ m) : swp1 (rotI D (k + 1) m (m + 1)) (k + 1) k = rotI D k m (m + 1) := by
  funext p
  unfold swp1 rotI
  by_cases h1 : p = k + 1
  · subst h1
    rw [if_pos rfl, if_neg (show ¬ (k + 1 ≤ k ∧ k < k + 1 + (m + 1 - m)) by omega), if_neg (show ¬ (k + 1 + (m + 1 - m) ≤ k ∧ k < m + 1) by omega), if_neg (show ¬ (k ≤ k + 1 ∧ k + 1 < k + (m + 1 - m)) by omega), if_pos (show k + (m + 1 - m) ≤ k + 1 ∧ k + 1 < m + 1 by omega)]
    congr 1; omega
  · rw [if_neg h1]
    by_cases h2 : p = k
    · subst h2
      rw [if_pos rfl, if_pos (show p + 1 ≤ p + 1 ∧ p + 1 < p + 1 + (m + 1 - m) by omega), if_pos (show p ≤ p ∧ p < p + (m + 1 - m) by omega)]
      congr 1; omega
    · rw [if_neg h2]
      by_cases c : k + 1 ≤ p ∧ p < k + 1 + (m + 1 - m)
      · omega
      · rw [if_neg c, if_neg (show ¬ (k ≤ p ∧ p < k + (m + 1 - m)) by omega)]
        by_cases d : k + 1 + (m + 1 - m) ≤ p ∧ p < m + 1
        · rw [if_pos d, if_pos (show k + (m + 1 - m) ≤ p ∧ p < m + 1 by omega)]
        · rw [if_neg d, if_neg (show ¬ (k + (m + 1 - m) ≤ p ∧ p < m + 1) by omega)]
theorem rot_out (D : Nat → Int) {s m e a b p : Nat} (h1 : a ≤ s) (h2 : e ≤ b) (h3 : s ≤ m ∧ m ≤ e) (h : p < a ∨ b ≤ p) : rotI D s m e p = D p := by
  unfold rotI; rw [if_neg (by omega), if_neg (by omega)]
theorem res_one {w : Int → Int} {D : Nat → Int} {a b i : Nat} (h : Mrg w D a (a + 1) b) (h1 : a + 1 ≤ i) (h2 : i ≤ b) (hl : ∀ q, a + 1 ≤ q → q < i → befW w (D q) (D a)) (hr : ∀ q, i ≤ q → q < b → ¬ befW w (D q) (D a)) : Res w D (rotI D a (a + 1) i) a b := by
  refine ⟨fun x y p q r => ?_, fun p hp => rot_out D (Nat.le_refl _) h2 ⟨by omega, h1⟩ hp, fun z => rot_in (Nat.le_refl _) (by omega) h1 h2⟩
  have g1 : ∀ p, a ≤ p → p < i - 1 → rotI D a (a + 1) i p = D (p + 1) := fun p h3 h4 => by
    unfold rotI; rw [if_pos (show a ≤ p ∧ p < a + (i - (a + 1)) by omega)]; congr 1; omega
  have g2 : rotI D a (a + 1) i (i - 1) = D a := by
    unfold rotI; rw [if_neg (show ¬ (a ≤ i - 1 ∧ i - 1 < a + (i - (a + 1))) by omega), if_pos (show a + (i - (a + 1)) ≤ i - 1 ∧ i - 1 < i by omega)]; congr 1; omega
  have g3 : ∀ p, i ≤ p → rotI D a (a + 1) i p = D p := fun p h3 => by
    unfold rotI; rw [if_neg (show ¬ (a ≤ p ∧ p < a + (i - (a + 1))) by omega), if_neg (show ¬ (a + (i - (a + 1)) ≤ p ∧ p < i) by omega)]
  have hb : ∀ q, i ≤ q → q < b → befW w (D a) (D q) := fun q h3 h4 => not_bef (h.dist q a (by omega) h4 (by omega) (by omega) (by omega)) (hr q h3 h4)
  by_cases c1 : x < i - 1
  · rw [g1 x p c1]
    by_cases c2 : y < i - 1
    · rw [g1 y (by omega) c2]; exact h.R _ _ (by omega) (by omega) (by omega)
    · by_cases c3 : y = i - 1
      · rw [c3, g2]; exact hl _ (by omega) (by omega)
      · rw [g3 y (by omega)]; exact h.R _ _ (by omega) (by omega) (by omega)
  · by_cases c3 : x = i - 1
    · rw [c3, g2, g3 y (by omega)]; exact hb y (by omega) r
    · rw [g3 x (by omega), g3 y (by omega)]; exact h.R _ _ (by omega) q r
theorem res_last {w : Int → Int} {D : Nat → Int} {a m i : Nat} (h : Mrg w D a m (m + 1)) (h1 : a ≤ i) (h2 : i ≤ m) (hl : ∀ q, a ≤ q → q < i → ¬ befW w (D m) (D q)) (hr : ∀ q, i ≤ q → q < m → befW w (D m) (D q)) : Res w D (rotI D i m (m + 1)) a (m + 1) := by
  refine ⟨fun x y p q r => ?_, fun p hp => rot_out D h1 (Nat.le_refl _) ⟨h2, by omega⟩ hp, fun z => rot_in h1 h2 (by omega) (Nat.le_refl _)⟩
  have g1 : ∀ p, p < i → rotI D i m (m + 1) p = D p := fun p h3 => by
    unfold rotI; rw [if_neg (show ¬ (i ≤ p ∧ p < i + (m + 1 - m)) by omega), if_neg (show ¬ (i + (m + 1 - m) ≤ p ∧ p < m + 1) by omega)]
  have g2 : rotI D i m (m + 1) i = D m := by
    unfold rotI; rw [if_pos (show i ≤ i ∧ i < i + (m + 1 - m) by omega)]; congr 1; omega
  have g3 : ∀ p, i < p → p < m + 1 → rotI D i m (m + 1) p = D (p - 1) := fun p h3 h4 => by
    unfold rotI; rw [if_neg (show ¬ (i ≤ p ∧ p < i + (m + 1 - m)) by omega), if_pos (show i + (m + 1 - m) ≤ p ∧ p < m + 1 by omega)]; congr 1; omega
  have hb : ∀ q, a ≤ q → q < i → befW w (D q) (D m) := fun q h3 h4 => not_bef (h.dist m q (by omega) (by omega) h3 (by omega) (by omega)) (hl q h3 h4)
  by_cases c1 : x < i
  · rw [g1 x c1]
    by_cases c2 : y < i
    · rw [g1 y c2]; exact h.L _ _ p q (by omega)
    · by_cases c3 : y = i
      · rw [c3, g2]; exact hb x p c1
      · rw [g3 y (by omega) r]; exact h.L _ _ p (by omega) (by omega)
  · by_cases c3 : x = i
    · rw [c3, g2, g3 y (by omega) r]; exact hr _ (by omega) (by omega)
    · rw [g3 x (by omega) (by omega), g3 y (by omega) r]; exact h.L _ _ (by omega) (by omega) (by omega)
structure CutAt (w : Int → Int) (D : Nat → Int) (a m b mid s e : Nat) : Prop where
  hs : a ≤ s ∧ s ≤ m ∧ s ≤ mid
  he : m ≤ e ∧ e ≤ b ∧ mid ≤ e
  sum : s + e = mid + m
  r1 : SrtI w (rotI D s m e) a s
  r2 : SrtI w (rotI D s m e) s mid
  r3 : SrtI w (rotI D s m e) mid e
  r4 : SrtI w (rotI D s m e) e b
  x : ∀ x y, a ≤ x → x < mid → mid ≤ y → y < b → befW w (rotI D s m e x) (rotI D s m e y)
theorem cut_at {w : Int → Int} {D : Nat → Int} {a m b mid lo hi s : Nat} (h : Mrg w D a m b) (h0 : a < m ∧ m < b) (hmid : mid = (a + b) / 2) (hb : (mid < m ∧ lo + b = mid + m ∧ hi = mid) ∨ (m ≤ mid ∧ lo = a ∧ hi = m)) (hlo : lo ≤ s ∧ s ≤ hi)
    (c1 : ∀ c, lo ≤ c → c < s → ¬ befW w (D (mid + m - 1 - c)) (D c)) (c2 : ∀ c, s ≤ c → c < hi → befW w (D (mid + m - 1 - c)) (D c)) : CutAt w D a m b mid s (mid + m - s) := by
  obtain ⟨q1, q2, q3, q4, q5⟩ := sym_cut (e := mid + m - s) h.L h.R h.dist h0 (mid := mid) (lo := lo) (hi := hi) (s := s) (by omega) (by omega) (by omega) (by omega) hlo (by omega) (by omega) (by omega) c1 c2
  exact ⟨by omega, by omega, by omega, q1, q2, q3, q4, q5⟩
theorem CutAt.m1 {w : Int → Int} {D : Nat → Int} {a m b mid s e : Nat} (c : CutAt w D a m b mid s e) (h : Mrg w D a m b) : Mrg w (rotI D s m e) a s mid := by
  have hs := c.hs; have he := c.he; have hu := c.sum
  refine ⟨c.r1, c.r2, fun i j h1 h2 h3 h4 => ?_⟩
  have e1 : rotI D s m e i = D i := by unfold rotI; rw [if_neg (by omega), if_neg (by omega)]
  have e2 : rotI D s m e j = D (j + (m - s)) := by unfold rotI; rw [if_pos (by omega)]
  rw [e1, e2]; exact h.X _ _ h1 (by omega) (by omega) (by omega)
theorem CutAt.m2 {w : Int → Int} {D E : Nat → Int} {a m b mid s e : Nat} (c : CutAt w D a m b mid s e) (h : Mrg w D a m b) (hE : ∀ p, mid ≤ p → E p = rotI D s m e p) : Mrg w E mid e b := by
  have hs := c.hs; have he := c.he; have hu := c.sum
  refine ⟨fun i j p q r => ?_, fun i j p q r => ?_, fun i j h1 h2 h3 h4 => ?_⟩
  · rw [hE i p, hE j (by omega)]; exact c.r3 i j p q r
  · rw [hE i (by omega), hE j (by omega)]; exact c.r4 i j p q r
  · have e1 : rotI D s m e i = D (i - (e - m)) := by unfold rotI; rw [if_neg (by omega), if_pos (by omega)]
    have e2 : rotI D s m e j = D j := by unfold rotI; rw [if_neg (by omega), if_neg (by omega)]
    rw [hE i h1, hE j (by omega), e1, e2]; exact h.X _ _ (by omega) (by omega) (by omega) h4
theorem res_join {w : Int → Int} {D E1 E2 : Nat → Int} {a m b mid s e : Nat} (c : CutAt w D a m b mid s e) (hm : a ≤ mid ∧ mid ≤ b) (r1 : Res w (rotI D s m e) E1 a mid) (r2 : Res w E1 E2 mid b) : Res w D E2 a b := by
  have hs := c.hs; have he := c.he
  have o1 : ∀ p, p < mid → E2 p = E1 p := fun p hp => r2.out p (.inl hp)
  have i1 : ∀ x, a ≤ x → x < mid → InI (rotI D s m e) a mid (E2 x) := fun x h1 h2 => by rw [o1 x h2]; exact (r1.ins _).1 ⟨x, h1, h2, rfl⟩
  have i2 : ∀ y, mid ≤ y → y < b → InI (rotI D s m e) mid b (E2 y) := fun y h1 h2 => by
    obtain ⟨q, q1, q2, q3⟩ := (r2.ins _).1 ⟨y, h1, h2, rfl⟩
    exact ⟨q, q1, q2, by rw [← r1.out q (.inr q1)]; exact q3⟩
  refine ⟨SrtI.join (m := mid) (fun i j p q r => by rw [o1 i (by omega), o1 j r]; exact r1.srt i j p q r) r2.srt (fun i j p q r t => ?_), fun p hp => ?_, fun z => ?_⟩
  · obtain ⟨x, x1, x2, x3⟩ := i1 i p q
    obtain ⟨y, y1, y2, y3⟩ := i2 j r t
    rw [← x3, ← y3]; exact c.x x y x1 x2 y1 y2
  · rw [r2.out p (by omega), r1.out p (by omega)]; exact rot_out D hs.1 he.2.1 ⟨hs.2.1, he.1⟩ hp
  · rw [← rot_in (D := D) (s := s) (m := m) (e := e) hs.1 hs.2.1 he.1 he.2.1]
    constructor
    · rintro ⟨x, x1, x2, rfl⟩
      by_cases h : x < mid
      · obtain ⟨q, q1, q2, q3⟩ := i1 x x1 h
        exact ⟨q, q1, by omega, q3⟩
      · obtain ⟨q, q1, q2, q3⟩ := i2 x (by omega) x2
        exact ⟨q, by omega, q2, q3⟩
    · rintro ⟨x, x1, x2, rfl⟩
      by_cases h : x < mid
      · obtain ⟨q, q1, q2, q3⟩ := (r1.ins _).2 ⟨x, x1, h, rfl⟩
        exact ⟨q, q1, by omega, by rw [o1 q q2]; exact q3⟩
      · obtain ⟨q, q1, q2, q3⟩ := (r2.ins (E1 x)).2 ⟨x, by omega, x2, rfl⟩
        exact ⟨q, by omega, q2, by rw [q3]; exact r1.out x (.inr (by omega))⟩
theorem res_same {w : Int → Int} {D : Nat → Int} {a b : Nat} (h : SrtI w D a b) : Res w D D a b := ⟨h, fun _ _ => rfl, fun _ => Iff.rfl⟩
theorem Res.rng {w : Int → Int} {D E : Nat → Int} {a b : Nat} (r : Res w D E a b) {Q : Int → Prop} (h : ∀ p, a ≤ p → p < b → Q (D p)) : ∀ p, a ≤ p → p < b → Q (E p) := fun p h1 h2 => by
  obtain ⟨q, q1, q2, q3⟩ := (r.ins _).1 ⟨p, h1, h2, rfl⟩
  rw [← q3]; exact h q q1 q2
end Go.Proofs.YtbkdjlahhcofmaaGreatDoor
namespace Go.Proofs.YtbkdjlahhcofmaaGreatDoor
open Go Go.RowKit Go.Proofs Go.Shelf Go.Ab
def lst (D : Nat → Int) (n : Nat) : List Int := (List.range n).map D
theorem lst_len (D : Nat → Int) (n : Nat) : (lst D n).length = n := by simp [lst]
theorem lst_get (D : Nat → Int) {n k : Nat} (h : k < n) : (lst D n)[k]? = some (D k) := by unfold lst; rw [List.getElem?_map, List.getElem?_range h]; rfl
theorem lst_of (L : List Int) : lst (fun p => L.getD p default) L.length = L := by
  refine List.ext_getElem (lst_len _ _) fun i h1 h2 => ?_
  simp only [lst, List.getElem_map, List.getElem_range]
  exact getD_at h2
theorem lst_swap (D : Nat → Int) {n x y : Nat} (hx : x < n) (hy : y < n) : ((lst D n).set x (D y)).set y (D x) = lst (swp1 D x y) n ∨ x = y := by
  by_cases e : x = y
  · exact .inr e
  · left
    refine List.ext_getElem (by simp [lst]) fun i h1 h2 => ?_
    have hi : i < n := by rwa [lst_len] at h2
    have e1 : (lst (swp1 D x y) n)[i] = swp1 D x y i := by simp [lst]
    have e2 : (lst D n)[i]'(by rw [lst_len]; exact hi) = D i := by simp [lst]
    rw [e1]
    unfold swp1
    by_cases h3 : i = y
    · subst h3
      rw [List.getElem_set_self, if_neg (fun h => e h.symm), if_pos rfl]
    · rw [List.getElem_set_ne (fun h => h3 h.symm)]
      by_cases h4 : i = x
      · subst h4
        rw [List.getElem_set_self, if_pos rfl]
      · rw [List.getElem_set_ne (fun h => h4 h.symm), e2, if_neg h4, if_neg h3]
theorem cells_swap (D : Nat → Int) {n x y : Nat} (hx : x < n) (hy : y < n) (hne : x ≠ y) {o q : Nat} (ho : o = x) (hq : q = y) : setAt (setAt (cellsA (lst D n)) o [.f (iv (D y))]) q [.f (iv (D x))] = cellsA (lst (swp1 D x y) n) := by
  rw [cellsA_set ho, cellsA_set hq, (lst_swap D hx hy).resolve_right hne]
theorem cells_get (D : Nat → Int) {n k o : Nat} (h : k < n) (ho : o = k) : (cellsA (lst D n))[o]? = some (.f (iv (D k))) := cellsA_at ho (lst_get D h)
set_option maxRecDepth 100000 in
set_option maxHeartbeats 3200000 in
theorem swapRange_g (c : FV) (D : Nat → Int) (n a b k : Nat) (hn : n ≤ 1000) (h1 : a + k ≤ b) (h2 : b + k ≤ n) : SummG Tryz.prog GG 445 [.arr 3 1 n (cellsA (lst D n))] [.ow 0, .f (iv ((a : Nat) : Int)), .f (iv ((b : Nat) : Int)), .f (iv ((k : Nat) : Int)), .f c] (.f (.tup [])) [.arr 3 1 n (cellsA (lst (swpI D a b k) n))] := by
  refine summG_of Tryz.func445 rfl rfl 38 rfl (by simp) (by simp) (fun i B B' h1 h2 => by
    match i, h1, h2 with
    | 0, h1, h2 => cases h1; cases h2; rfl
    | _ + 1, h1, _ => simp at h1) (fun M X J => ?_)
  repeat (first
    | (apply s_a TY; exact rfl)
    | apply w_seq
    | apply w_region
    | apply s_nil
    | apply t_norm
    | apply w_block)
  apply w_loop (fun i : Nat => ⟨(Ab.upd (Ab.upd (Ab.upd (Ab.upd (Ab.upd (fun _ => .bot) 0 (.ow 0)) 1 (.f (iv ((a : Nat) : Int)))) 2 (.f (iv ((b : Nat) : Int)))) 3 (.f (iv ((k : Nat) : Int)))) 10 (.f (iv ((i : Nat) : Int)))), (Ab.upd (fun _ => none) 0 (some (.arr 3 1 n (cellsA (lst (swpI D a b i) n))))), 1⟩) (fun i => i ≤ k) (fun i => k - i) 0 (Nat.zero_le _) (gh_le ⟨le_upd rfl trivial (le_upd rfl trivial (le_upd rfl trivial (le_upd rfl trivial (le_upd rfl rfl (le_nil _))))), le_hupd (arrEq (by rw [swpI_zero])) (cl_arr _) (le_h0 _ _)⟩)
  intro i hi
  by_cases hik : i < k
  · have hln : (lst (swpI D a b i) n).length = n := lst_len _ _
    have hX : (cellsA (lst (swpI D a b i) n))[((((b : Nat) : Int)) + ((i : Nat) : Int)).toNat * 1]? = some (.f (iv ((swpI D a b i) (b + i)))) := cells_get _ (by omega) (by omega)
    have hY : (cellsA (lst (swpI D a b i) n))[((((a : Nat) : Int)) + ((i : Nat) : Int)).toNat * 1]? = some (.f (iv ((swpI D a b i) (a + i)))) := cells_get _ (by omega) (by omega)
    have hcs : setAt (setAt (cellsA (lst (swpI D a b i) n)) (((((a : Nat) : Int)) + ((i : Nat) : Int)).toNat * 1) [.f (iv ((swpI D a b i) (b + i)))]) (((((b : Nat) : Int)) + ((i : Nat) : Int)).toNat * 1) [.f (iv ((swpI D a b i) (a + i)))] = cellsA (lst (swpI D a b (i + 1)) n) := by
      rw [cells_swap _ (x := a + i) (y := b + i) (by omega) (by omega) (by omega) (by omega) (by omega), swpI_succ D hik h1]
    repeat (first
    | (apply w_draw4 (id := 3) 21 22 2096911 240 rfl (by kernel_rfl) (by kernel_rfl); exact rfl)
    | (apply s_stW TY; exact rfl; exact rfl; exact rfl; exact rfl; exact rfl; (show _ + 1 ≤ _; rw [cellsA_len]; omega); exact rfl; exact rfl; exact (fun _ => rfl))
    | (refine KW.mk ⟨rfl, rfl, rfl, rfl, rfl, rfl, rfl, rfl, rfl, rfl, rfl, rfl, rfl, rfl, rfl, rfl, rfl, rfl, rfl, rfl, rfl, trivial⟩ ?_)
    | (apply s_storeArr TY; exact rfl; exact rfl; exact rfl; exact rfl; exact rfl; (show _ + 1 ≤ _; rw [setAt_length, cellsA_len]; omega))
    | (apply s_idxArr TY; exact rfl; exact rfl; exact rfl; exact rfl; exact rfl; exact rfl; omega; omega)
    | (apply s_ldArr TY; exact rfl; exact rfl; exact rfl; exact rfl; exact rfl; assumption)
    | (apply s_a TY; exact rfl)
    | (apply s_t; exact rfl; (first | assumption | omega))
    | apply w_seq
    | apply w_region
    | apply s_nil
    | apply t_norm
    | apply k_norm
    | apply w_block
    | apply w_skip
    | (apply w_condT; exact rfl; exact rfl)
    | (apply s_c TY; exact rfl; (first | omega | exact ⟨by omega, by (first | with_reducible assumption | ((with_reducible apply intsF_ne); omega) | assumption)⟩)))
    exact ⟨i + 1, by omega, by omega, gh_le ⟨le_upd rfl trivial (le_upd rfl trivial (le_upd rfl trivial (le_upd rfl trivial (le_upd rfl rfl (le_nil _))))), le_hupd (arrEq hcs) (cl_arr _) (le_h0 _ _)⟩⟩
  · have hik2 : i = k := by omega
    subst hik2
    repeat (first
    | (apply s_a TY; exact rfl)
    | (apply s_f; exact rfl; (first | assumption | omega))
    | apply w_seq
    | apply w_region
    | apply s_nil
    | apply t_norm
    | apply t_exit
    | apply k_hit
    | apply w_exit
    | (apply w_condF; exact rfl; exact rfl))
    exact lvG_norm (L' := [.arr 3 1 n (cellsA (lst (swpI D a b i) n))]) (s := (fun _ => .bot)) (nx := 1) (gh_le ⟨le_nil _, le_hupd rfl (cl_arr _) (le_h0 _ _)⟩) (rg0 rfl)
set_option maxRecDepth 100000 in
set_option maxHeartbeats 3200000 in
theorem rotate_g (D : Nat → Int) (n a m b : Nat) (mm : List Int) (hn : n ≤ 1000) (h1 : a < m) (h2 : m < b) (h3 : b ≤ n) : SummG Tryz.prog GG 400 [.arr 3 1 n (cellsA (lst D n))] [.ow 0, .f (iv ((a : Nat) : Int)), .f (iv ((m : Nat) : Int)), .f (iv ((b : Nat) : Int)), .f (.fn 188 [.pt [.sl mm.length (intsF mm)] 0])] (.f (.tup [])) [.arr 3 1 n (cellsA (lst (rotI D a m b) n))] := by
  refine summG_of Tryz.func400 rfl rfl 58 rfl (by simp) (by simp) (fun i B B' h1 h2 => by
    match i, h1, h2 with
    | 0, h1, h2 => cases h1; cases h2; rfl
    | _ + 1, h1, _ => simp at h1) (fun M X J => ?_)
  repeat (first
    | (apply s_a TY; exact rfl)
    | apply w_seq
    | apply w_region
    | apply s_nil
    | apply t_norm
    | apply w_block
    | (apply s_c TY; exact rfl; omega))
  apply w_loop (fun q : (Nat → Int) × Nat × Nat => ⟨(Ab.upd (Ab.upd (Ab.upd (Ab.upd (Ab.upd (fun _ => .bot) 0 (.ow 0)) 2 (.f (iv ((m : Nat) : Int)))) 4 (.f (.fn 188 [.pt [.sl mm.length (intsF mm)] 0]))) 10 (.f (iv ((q.2.1 : Nat) : Int)))) 11 (.f (iv ((q.2.2 : Nat) : Int)))), (Ab.upd (fun _ => none) 0 (some (.arr 3 1 n (cellsA (lst q.1 n))))), 1⟩) (fun q => rotI q.1 (m - q.2.1) m (m + q.2.2) = (rotI D a m b) ∧ 1 ≤ q.2.1 ∧ 1 ≤ q.2.2 ∧ q.2.1 ≤ m ∧ m + q.2.2 ≤ n) (fun q => q.2.1 + q.2.2) (D, m - a, b - m) (⟨by show rotI D (m - (m - a)) m (m + (b - m)) = _; rw [show m - (m - a) = a by omega, show m + (b - m) = b by omega], by show 1 ≤ m - a; omega, by show 1 ≤ b - m; omega, by show m - a ≤ m; omega, by show m + (b - m) ≤ n; omega⟩) (gh_le ⟨le_upd (congrArg (fun z : Int => AV.f (iv z)) (show ((b - m : Nat) : Int) = (b : Int) - (m : Int) by omega)) trivial (le_upd (congrArg (fun z : Int => AV.f (iv z)) (show ((m - a : Nat) : Int) = (m : Int) - (a : Int) by omega)) trivial (le_upd rfl trivial (le_upd rfl trivial (le_upd rfl rfl (le_nil _))))), le_hupd rfl (cl_arr _) (le_h0 _ _)⟩)
  rintro ⟨E, i, j⟩ ⟨hE, hi, hj, him, hjn⟩
  change rotI E (m - i) m (m + j) = (rotI D a m b) at hE
  change 1 ≤ i at hi
  change 1 ≤ j at hj
  change i ≤ m at him
  change m + j ≤ n at hjn
  change W _ _ _ _ (⟨(Ab.upd (Ab.upd (Ab.upd (Ab.upd (Ab.upd (fun _ => .bot) 0 (.ow 0)) 2 (.f (iv ((m : Nat) : Int)))) 4 (.f (.fn 188 [.pt [.sl mm.length (intsF mm)] 0]))) 10 (.f (iv ((i : Nat) : Int)))) 11 (.f (iv ((j : Nat) : Int)))), (Ab.upd (fun _ => none) 0 (some (.arr 3 1 n (cellsA (lst E n))))), 1⟩)
  by_cases hij : i = j
  · subst hij
    have HS := swapRange_g (.fn 188 [.pt [.sl mm.length (intsF mm)] 0]) E n (m - i) m i hn (by omega) (by omega)
    rw [show ((m - i : Nat) : Int) = (m : Int) - (i : Int) by omega] at HS
    rw [rot_same E him] at HS
    rw [← hE]
    repeat (first
    | (apply s_callG [0] HS; exact rfl; exact rfl; exact rfl; exact ⟨congrArg some (arrA_ren _ _ _).symm, trivial⟩; exact rfl; exact ⟨rfl, rfl⟩)
    | (apply s_a TY; exact rfl)
    | (apply s_t; exact rfl; (first | assumption | omega))
    | apply w_seq
    | apply w_region
    | apply s_nil
    | apply t_norm
    | apply t_exit
    | apply k_hit
    | apply w_exit
    | (apply w_condF; exact rfl; exact rfl)
    | (apply s_c TY; exact rfl; omega))
    exact lvG_norm (L' := [.arr 3 1 n (cellsA (lst (rotI E (m - i) m (m + i)) n))]) (s := (fun _ => .bot)) (nx := 1) (gh_le ⟨le_nil _, le_hupd (congrArg some (arrA_ren _ _ _)) (cl_arr _) (le_h0 _ _)⟩) (rg0 rfl)
  · by_cases hlt : j < i
    · have HS := swapRange_g (.fn 188 [.pt [.sl mm.length (intsF mm)] 0]) E n (m - i) m j hn (by omega) (by omega)
      rw [show ((m - i : Nat) : Int) = (m : Int) - (i : Int) by omega] at HS
      have hr := rot_left E hlt him
      repeat (first
    | (apply s_callG [0] HS; exact rfl; exact rfl; exact rfl; exact ⟨congrArg some (arrA_ren _ _ _).symm, trivial⟩; exact rfl; exact ⟨rfl, rfl⟩)
    | (apply s_a TY; exact rfl)
    | (apply s_t; exact rfl; (first | assumption | omega))
    | (apply s_f; exact rfl; (first | assumption | omega))
    | apply w_seq
    | apply w_region
    | apply s_nil
    | apply t_norm
    | apply k_norm
    | apply w_block
    | apply w_skip
    | (apply w_condT; exact rfl; exact rfl)
    | (apply s_c TY; exact rfl; omega))
      exact ⟨(swpI E (m - i) m j, i - j, j), ⟨by show rotI _ (m - (i - j)) m (m + j) = _; rw [show m - (i - j) = m - i + j by omega, hr, hE], by show 1 ≤ i - j; omega, hj, by show i - j ≤ m; omega, hjn⟩, by show i - j + j < i + j; omega, gh_le ⟨le_upd rfl trivial (le_upd (congrArg (fun z : Int => AV.f (iv z)) (show ((i - j : Nat) : Int) = (i : Int) - (j : Int) by omega)) trivial (le_upd rfl trivial (le_upd rfl trivial (le_upd rfl rfl (le_nil _))))), le_hupd (congrArg some (arrA_ren _ _ _)) (cl_arr _) (le_h0 _ _)⟩⟩
    · have hlt2 : i < j := by omega
      have HS := swapRange_g (.fn 188 [.pt [.sl mm.length (intsF mm)] 0]) E n (m - i) (m + j - i) i hn (by omega) (by omega)
      rw [show ((m - i : Nat) : Int) = (m : Int) - (i : Int) by omega, show ((m + j - i : Nat) : Int) = (m : Int) + (j : Int) - (i : Int) by omega] at HS
      have hr := rot_right E hlt2 him
      repeat (first
    | (apply s_callG [0] HS; exact rfl; exact rfl; exact rfl; exact ⟨congrArg some (arrA_ren _ _ _).symm, trivial⟩; exact rfl; exact ⟨rfl, rfl⟩)
    | (apply s_a TY; exact rfl)
    | (apply s_f; exact rfl; (first | assumption | omega))
    | apply w_seq
    | apply w_region
    | apply s_nil
    | apply t_norm
    | apply k_norm
    | apply w_block
    | apply w_skip
    | (apply w_condT; exact rfl; exact rfl)
    | (apply w_condF; exact rfl; exact rfl)
    | (apply s_c TY; exact rfl; omega))
      exact ⟨(swpI E (m - i) (m + j - i) i, i, j - i), ⟨by show rotI _ (m - i) m (m + (j - i)) = _; rw [show m + (j - i) = m + j - i by omega, hr, hE], hi, by show 1 ≤ j - i; omega, him, by show m + (j - i) ≤ n; omega⟩, by show i + (j - i) < i + j; omega, gh_le ⟨le_upd (congrArg (fun z : Int => AV.f (iv z)) (show ((j - i : Nat) : Int) = (j : Int) - (i : Int) by omega)) trivial (le_upd rfl trivial (le_upd rfl trivial (le_upd rfl trivial (le_upd rfl rfl (le_nil _))))), le_hupd (congrArg some (arrA_ren _ _ _)) (cl_arr _) (le_h0 _ _)⟩⟩
end Go.Proofs.YtbkdjlahhcofmaaGreatDoor
namespace Go.Proofs.YtbkdjlahhcofmaaGreatDoor
open Go Go.RowKit Go.Proofs Go.Shelf Go.Ab
def symC (mm : List Int) (n : Nat) (D : Nat → Int) (a m b : Nat) : Prop := ∃ E, Res (wI mm) D E a b ∧ SummG Tryz.prog GG 336 [.arr 3 1 n (cellsA (lst D n))] [.ow 0, .f (iv ((a : Nat) : Int)), .f (iv ((m : Nat) : Int)), .f (iv ((b : Nat) : Int)), .f (.fn 188 [.pt [.sl mm.length (intsF mm)] 0])] (.f (.tup [])) [.arr 3 1 n (cellsA (lst E n))]
theorem split_at {P : Nat → Prop} (lo : Nat) : ∀ (d : Nat), (∀ c e, lo ≤ c → c ≤ e → e < lo + d → P e → P c) → ∃ i, lo ≤ i ∧ i ≤ lo + d ∧ (∀ q, lo ≤ q → q < i → P q) ∧ (∀ q, i ≤ q → q < lo + d → ¬ P q)
  | 0, _ => ⟨lo, Nat.le_refl _, Nat.le_refl _, fun q h1 h2 => absurd h2 (by omega), fun q h1 h2 => absurd h2 (by omega)⟩
  | d + 1, h => by
    obtain ⟨i, h1, h2, h3, h4⟩ := split_at lo d (fun c e a1 a2 a3 => h c e a1 a2 (by omega))
    by_cases hp : P (lo + d)
    · refine ⟨lo + d + 1, by omega, by omega, fun q q1 q2 => h q (lo + d) q1 (by omega) (by omega) hp, fun q q1 q2 => absurd q2 (by omega)⟩
    · refine ⟨i, h1, by omega, h3, fun q q1 q2 => ?_⟩
      by_cases e : q = lo + d
      · subst e; exact hp
      · exact h4 q q1 (by omega)
theorem conv_iu {z : Int} (h : 0 ≤ z ∧ z ≤ 1000000) (w : World) : (convert 3 384 (.int .i64 z)).run Tryz.prog w = .ok (.int .u64 z) w := by
  have e : IntKind.u64.wrap z = z := IntWalk.u64_in _ (by omega)
  simp [convert, run_underlying Tryz.underlying3, run_underlying Tryz.underlying384, Conv.intToInt, e]
theorem conv_ui {z : Int} (h : 0 ≤ z ∧ z ≤ 1000000) (w : World) : (convert 384 3 (.int .u64 z)).run Tryz.prog w = .ok (.int .i64 z) w := by
  have e : IntKind.i64.wrap z = z := IntWalk.i64_in _ (by omega)
  simp [convert, run_underlying Tryz.underlying3, run_underlying Tryz.underlying384, Conv.intToInt, e]
theorem shr_u {x y : Operand} {z c : Int} (_hz : 0 ≤ z ∧ z ≤ 1000000) (hc : z / 2 = c) (w : World) : (do eqGuard .shr 384 x y (.int .u64 z) (.int .u64 1); binOp .shr 384 (.int .u64 z) (.int .u64 1) : Sem Value).run Tryz.prog w = .ok (.int .u64 c) w := by
  have e : z.fdiv 2 = c := by rw [Int.fdiv_eq_ediv_of_nonneg _ (by decide)]; exact hc
  have e2 : min 1 IntKind.u64.bits = 1 := by decide
  simp [eqGuard, binOp, Op.shift, e2, e]
set_option maxRecDepth 100000 in
set_option maxHeartbeats 6400000 in
theorem sym_one (mm : List Int) (n : Nat) (hn : n ≤ 1000) (D : Nat → Int) (a b : Nat) (h1 : a + 1 < b) (h2 : b ≤ n) (MG : Mrg (wI mm) D a (a + 1) b) (hr : ∀ p, a ≤ p → p < b → 0 ≤ D p ∧ D p < mm.length) : symC mm n D a (a + 1) b := by
  obtain ⟨i, hi1, hi2, hl, hg⟩ := split_at (P := fun q => befW (wI mm) (D q) (D a)) (a + 1) (b - (a + 1)) (fun c e q1 q2 q3 q4 => by
    by_cases ee : c = e
    · subst ee; exact q4
    · exact befW_trans (MG.R c e q1 (by omega) (by omega)) q4)
  rw [show a + 1 + (b - (a + 1)) = b by omega] at hi2 hg
  refine ⟨rotI D a (a + 1) i, res_one MG hi1 hi2 hl hg, ?_⟩
  have hln : (lst D n).length = n := lst_len _ _
  have hA : (cellsA (lst D n))[((a : Nat) : Int).toNat * 1]? = some (.f (iv (D a))) := cells_get _ (by omega) (by omega)
  have hra := hr a (by omega) (by omega)
  refine summG_of Tryz.func336 rfl rfl 220 rfl (by simp) (by simp) (fun i B B' h1 h2 => by
    match i, h1, h2 with
    | 0, h1, h2 => cases h1; cases h2; rfl
    | _ + 1, h1, _ => simp at h1) (fun M X J => ?_)
  repeat (first
    | (apply s_a TY; exact rfl)
    | (apply s_t; exact rfl; (first | assumption | omega))
    | apply w_seq
    | apply w_region
    | apply s_nil
    | apply t_norm
    | apply w_block
    | (apply w_condT; exact rfl; exact rfl)
    | (apply s_c TY; exact rfl; (first | omega | exact ⟨by omega, by (first | with_reducible assumption | ((with_reducible apply intsF_ne); omega) | assumption)⟩)))
  apply w_loop (fun q : Nat × Nat => ⟨(Ab.upd (Ab.upd (Ab.upd (Ab.upd (Ab.upd (fun _ => .bot) 0 (.ow 0)) 1 (.f (iv ((a : Nat) : Int)))) 4 (.f (.fn 188 [.pt [.sl mm.length (intsF mm)] 0]))) 10 (.f (iv ((q.1 : Nat) : Int)))) 11 (.f (iv ((q.2 : Nat) : Int)))), (Ab.upd (fun _ => none) 0 (some (.arr 3 1 n (cellsA (lst D n))))), 1⟩) (fun q => a + 1 ≤ q.1 ∧ q.1 ≤ i ∧ i ≤ q.2 ∧ q.2 ≤ b) (fun q => q.2 - q.1) (a + 1, b) (⟨Nat.le_refl _, hi1, hi2, Nat.le_refl _⟩) (gh_le ⟨le_upd rfl trivial (le_upd rfl trivial (le_upd rfl trivial (le_upd rfl trivial (le_upd rfl rfl (le_nil _))))), le_hupd rfl (cl_arr _) (le_h0 _ _)⟩)
  rintro ⟨x, y⟩ ⟨q1, q2, q3, q4⟩
  change a + 1 ≤ x at q1
  change x ≤ i at q2
  change i ≤ y at q3
  change y ≤ b at q4
  change W _ _ _ _ (⟨(Ab.upd (Ab.upd (Ab.upd (Ab.upd (Ab.upd (fun _ => .bot) 0 (.ow 0)) 1 (.f (iv ((a : Nat) : Int)))) 4 (.f (.fn 188 [.pt [.sl mm.length (intsF mm)] 0]))) 10 (.f (iv ((x : Nat) : Int)))) 11 (.f (iv ((y : Nat) : Int)))), (Ab.upd (fun _ => none) 0 (some (.arr 3 1 n (cellsA (lst D n))))), 1⟩)
  by_cases hxy : x < y
  · obtain ⟨h, hh⟩ : ∃ h : Nat, ((((x : Nat) : Int)) + ((y : Nat) : Int)) / 2 = ((h : Nat) : Int) := ⟨(x + y) / 2, by omega⟩
    have hX : (cellsA (lst D n))[((h : Nat) : Int).toNat * 1]? = some (.f (iv (D h))) := cells_get _ (by omega) (by omega)
    have HC := cmpW_s mm (D h) (D a) (hr h (by omega) (by omega)) hra
    have hbx := befW_x (w := (wI mm)) (MG.X a h (Nat.le_refl _) (by omega) (by omega) (by omega))
    by_cases hw : wI mm (D a) < wI mm (D h)
    · have hz := cmpZ_lt hw
      have hhi : h < i := Nat.lt_of_not_le fun e => hg h e (by omega) (hbx.2 hw)
      repeat (first
    | (apply s_convW; exact rfl; exact rfl; exact rfl; (first | exact conv_iu (by omega) | exact conv_ui (by omega)))
    | (apply s_bind; exact rfl; exact rfl; exact rfl; exact rfl; exact rfl; exact rfl; exact shr_u (by omega) hh)
    | (apply s_idxArr TY; exact rfl; exact rfl; exact rfl; exact rfl; exact rfl; exact rfl; omega; omega)
    | (apply s_ldArr TY; exact rfl; exact rfl; exact rfl; exact rfl; exact rfl; assumption)
    | (apply s_a TY; exact rfl)
    | (apply s_t; exact rfl; (first | assumption | omega))
    | apply w_seq
    | apply w_region
    | (apply w_draw (id := 5) 9 rfl (by kernel_rfl))
    | apply s_nil
    | apply t_norm
    | apply k_norm
    | apply w_block
    | apply w_skip
    | (apply w_condT; exact rfl; exact rfl)
    | (apply s_k (HC); exact rfl)
    | (apply s_c TY; exact rfl; (first | omega | exact ⟨by omega, by (first | with_reducible assumption | ((with_reducible apply intsF_ne); omega) | assumption)⟩)))
      exact ⟨(h + 1, y), ⟨by show _ ≤ _; omega, by show _ ≤ _; omega, by show _ ≤ _; omega, by show _ ≤ _; omega⟩, by show _ - _ < _ - _; omega, gh_le ⟨le_upd rfl trivial (le_upd rfl trivial (le_upd rfl trivial (le_upd rfl trivial (le_upd rfl rfl (le_nil _))))), le_hupd rfl (cl_arr _) (le_h0 _ _)⟩⟩
    · have hz := cmpZ_ge hw
      have hhi : i ≤ h := Nat.le_of_not_lt fun e => hw (hbx.1 (hl h (by omega) e))
      repeat (first
    | (apply s_convW; exact rfl; exact rfl; exact rfl; (first | exact conv_iu (by omega) | exact conv_ui (by omega)))
    | (apply s_bind; exact rfl; exact rfl; exact rfl; exact rfl; exact rfl; exact rfl; exact shr_u (by omega) hh)
    | (apply s_idxArr TY; exact rfl; exact rfl; exact rfl; exact rfl; exact rfl; exact rfl; omega; omega)
    | (apply s_ldArr TY; exact rfl; exact rfl; exact rfl; exact rfl; exact rfl; assumption)
    | (apply s_a TY; exact rfl)
    | (apply s_t; exact rfl; (first | assumption | omega))
    | (apply s_f; exact rfl; (first | assumption | omega))
    | apply w_seq
    | apply w_region
    | (apply w_draw (id := 5) 9 rfl (by kernel_rfl))
    | apply s_nil
    | apply t_norm
    | apply k_norm
    | apply w_block
    | apply w_skip
    | (apply w_condT; exact rfl; exact rfl)
    | (apply w_condF; exact rfl; exact rfl)
    | (apply s_k (HC); exact rfl)
    | (apply s_c TY; exact rfl; (first | omega | exact ⟨by omega, by (first | with_reducible assumption | ((with_reducible apply intsF_ne); omega) | assumption)⟩)))
      exact ⟨(x, h), ⟨by show _ ≤ _; omega, by show _ ≤ _; omega, by show _ ≤ _; omega, by show _ ≤ _; omega⟩, by show _ - _ < _ - _; omega, gh_le ⟨le_upd rfl trivial (le_upd rfl trivial (le_upd rfl trivial (le_upd rfl trivial (le_upd rfl rfl (le_nil _))))), le_hupd rfl (cl_arr _) (le_h0 _ _)⟩⟩
  · have hxi : x = i := by omega
    subst hxi
    repeat (first
    | (apply s_a TY; exact rfl)
    | (apply s_f; exact rfl; (first | assumption | omega))
    | apply w_seq
    | apply w_region
    | apply s_nil
    | apply t_norm
    | apply t_exit
    | apply k_hit
    | apply w_block
    | apply w_exit
    | (apply w_condF; exact rfl; exact rfl))
    apply w_loop (fun k : Nat => ⟨(Ab.upd (Ab.upd (Ab.upd (fun _ => .bot) 0 (.ow 0)) 10 (.f (iv ((x : Nat) : Int)))) 13 (.f (iv ((k : Nat) : Int)))), (Ab.upd (fun _ => none) 0 (some (.arr 3 1 n (cellsA (lst (rotI D a (a + 1) (k + 1)) n))))), 1⟩) (fun k => a ≤ k ∧ k + 1 ≤ x) (fun k => x - k) a (⟨Nat.le_refl _, hi1⟩) (gh_le ⟨le_upd rfl trivial (le_upd rfl trivial (le_upd rfl rfl (le_nil _))), le_hupd (arrEq (by rw [rot_nil D a (a + 1) (Nat.le_succ a)])) (cl_arr _) (le_h0 _ _)⟩)
    intro k ⟨k1, k2⟩
    have hlk : (lst (rotI D a (a + 1) (k + 1)) n).length = n := lst_len _ _
    by_cases hk : k + 1 < x
    · have hX : (cellsA (lst (rotI D a (a + 1) (k + 1)) n))[((((k : Nat) : Int)) + 1).toNat * 1]? = some (.f (iv ((rotI D a (a + 1) (k + 1)) (k + 1)))) := cells_get _ (by omega) (by omega)
      have hY : (cellsA (lst (rotI D a (a + 1) (k + 1)) n))[((k : Nat) : Int).toNat * 1]? = some (.f (iv ((rotI D a (a + 1) (k + 1)) k))) := cells_get _ (by omega) (by omega)
      have hcs : setAt (setAt (cellsA (lst (rotI D a (a + 1) (k + 1)) n)) (((k : Nat) : Int).toNat * 1) [.f (iv ((rotI D a (a + 1) (k + 1)) (k + 1)))]) (((((k : Nat) : Int)) + 1).toNat * 1) [.f (iv ((rotI D a (a + 1) (k + 1)) k))] = cellsA (lst (rotI D a (a + 1) ((k + 1) + 1)) n) := by
        rw [cells_swap _ (x := k) (y := k + 1) (by omega) (by omega) (by omega) (by omega) (by omega), rot_r D k1]
      repeat (first
    | (apply w_draw4 (id := 11) 15 16 32739 28 rfl (by kernel_rfl) (by kernel_rfl); exact rfl)
    | (apply s_stW TY; exact rfl; exact rfl; exact rfl; exact rfl; exact rfl; (show _ + 1 ≤ _; rw [cellsA_len]; omega); exact rfl; exact rfl; exact (fun _ => rfl))
    | (refine KW.mk ⟨rfl, rfl, rfl, rfl, rfl, rfl, rfl, rfl, rfl, rfl, rfl, rfl, rfl, rfl, rfl, trivial⟩ ?_)
    | (apply s_storeArr TY; exact rfl; exact rfl; exact rfl; exact rfl; exact rfl; (show _ + 1 ≤ _; rw [setAt_length, cellsA_len]; omega))
    | (apply s_idxArr TY; exact rfl; exact rfl; exact rfl; exact rfl; exact rfl; exact rfl; omega; omega)
    | (apply s_ldArr TY; exact rfl; exact rfl; exact rfl; exact rfl; exact rfl; assumption)
    | (apply s_a TY; exact rfl)
    | (apply s_t; exact rfl; (first | assumption | omega))
    | apply w_seq
    | apply w_region
    | apply s_nil
    | apply t_norm
    | apply k_norm
    | apply w_block
    | apply w_skip
    | (apply w_condT; exact rfl; exact rfl)
    | (apply s_c TY; exact rfl; (first | omega | exact ⟨by omega, by (first | with_reducible assumption | ((with_reducible apply intsF_ne); omega) | assumption)⟩)))
      exact ⟨k + 1, ⟨by omega, by omega⟩, by omega, gh_le ⟨le_upd rfl trivial (le_upd rfl trivial (le_upd rfl rfl (le_nil _))), le_hupd (arrEq hcs) (cl_arr _) (le_h0 _ _)⟩⟩
    · have hke : x = k + 1 := by omega
      subst hke
      repeat (first
    | (apply s_a TY; exact rfl)
    | (apply s_f; exact rfl; (first | assumption | omega))
    | apply w_seq
    | apply w_region
    | apply s_nil
    | apply t_norm
    | apply t_exit
    | apply t_ret
    | apply k_hit
    | apply w_exit
    | apply w_ret
    | (apply w_condF; exact rfl; exact rfl)
    | (apply s_c TY; exact rfl; (first | omega | exact ⟨by omega, by (first | with_reducible assumption | ((with_reducible apply intsF_ne); omega) | assumption)⟩)))
      exact lvG_ret (L' := [.arr 3 1 n (cellsA (lst (rotI D a (a + 1) (k + 1)) n))]) (s := (fun _ => .bot)) (nx := 1) (gh_le ⟨le_nil _, le_hupd rfl (cl_arr _) (le_h0 _ _)⟩) (rg0 rfl)
set_option maxRecDepth 100000 in
set_option maxHeartbeats 6400000 in
theorem sym_last (mm : List Int) (n : Nat) (hn : n ≤ 1000) (D : Nat → Int) (a m : Nat) (h1 : a + 1 < m) (h2 : m + 1 ≤ n) (MG : Mrg (wI mm) D a m (m + 1)) (hr : ∀ p, a ≤ p → p < m + 1 → 0 ≤ D p ∧ D p < mm.length) : symC mm n D a m (m + 1) := by
  obtain ⟨i, hi1, hi2, hl, hg⟩ := split_at (P := fun q => ¬ befW (wI mm) (D m) (D q)) a (m - a) (fun c e q1 q2 q3 q4 q5 => q4 (by
    by_cases ee : c = e
    · subst ee; exact q5
    · exact befW_trans q5 (MG.L c e q1 (by omega) (by omega))))
  rw [show a + (m - a) = m by omega] at hi2 hg
  have hg2 : ∀ q, i ≤ q → q < m → befW (wI mm) (D m) (D q) := fun q q1 q2 => Classical.byContradiction fun h => hg q q1 q2 h
  refine ⟨rotI D i m (m + 1), res_last MG hi1 hi2 hl hg2, ?_⟩
  have hln : (lst D n).length = n := lst_len _ _
  have hA : (cellsA (lst D n))[((m : Nat) : Int).toNat * 1]? = some (.f (iv (D m))) := cells_get _ (by omega) (by omega)
  have hra := hr m (by omega) (by omega)
  refine summG_of Tryz.func336 rfl rfl 220 rfl (by simp) (by simp) (fun i B B' h1 h2 => by
    match i, h1, h2 with
    | 0, h1, h2 => cases h1; cases h2; rfl
    | _ + 1, h1, _ => simp at h1) (fun M X J => ?_)
  repeat (first
    | (apply s_a TY; exact rfl)
    | (apply s_t; exact rfl; (first | assumption | omega))
    | (apply s_f; exact rfl; (first | assumption | omega))
    | apply w_seq
    | apply w_region
    | apply s_nil
    | apply t_norm
    | apply w_block
    | apply w_skip
    | (apply w_condT; exact rfl; exact rfl)
    | (apply w_condF; exact rfl; exact rfl)
    | (apply s_c TY; exact rfl; (first | omega | exact ⟨by omega, by (first | with_reducible assumption | ((with_reducible apply intsF_ne); omega) | assumption)⟩)))
  apply w_loop (fun q : Nat × Nat => ⟨(Ab.upd (Ab.upd (Ab.upd (Ab.upd (Ab.upd (fun _ => .bot) 0 (.ow 0)) 2 (.f (iv ((m : Nat) : Int)))) 4 (.f (.fn 188 [.pt [.sl mm.length (intsF mm)] 0]))) 14 (.f (iv ((q.1 : Nat) : Int)))) 15 (.f (iv ((q.2 : Nat) : Int)))), (Ab.upd (fun _ => none) 0 (some (.arr 3 1 n (cellsA (lst D n))))), 1⟩) (fun q => a ≤ q.1 ∧ q.1 ≤ i ∧ i ≤ q.2 ∧ q.2 ≤ m) (fun q => q.2 - q.1) (a, m) (⟨Nat.le_refl _, hi1, hi2, Nat.le_refl _⟩) (gh_le ⟨le_upd rfl trivial (le_upd rfl trivial (le_upd rfl trivial (le_upd rfl trivial (le_upd rfl rfl (le_nil _))))), le_hupd rfl (cl_arr _) (le_h0 _ _)⟩)
  rintro ⟨x, y⟩ ⟨q1, q2, q3, q4⟩
  change a ≤ x at q1
  change x ≤ i at q2
  change i ≤ y at q3
  change y ≤ m at q4
  change W _ _ _ _ (⟨(Ab.upd (Ab.upd (Ab.upd (Ab.upd (Ab.upd (fun _ => .bot) 0 (.ow 0)) 2 (.f (iv ((m : Nat) : Int)))) 4 (.f (.fn 188 [.pt [.sl mm.length (intsF mm)] 0]))) 14 (.f (iv ((x : Nat) : Int)))) 15 (.f (iv ((y : Nat) : Int)))), (Ab.upd (fun _ => none) 0 (some (.arr 3 1 n (cellsA (lst D n))))), 1⟩)
  by_cases hxy : x < y
  · obtain ⟨h, hh⟩ : ∃ h : Nat, ((((x : Nat) : Int)) + ((y : Nat) : Int)) / 2 = ((h : Nat) : Int) := ⟨(x + y) / 2, by omega⟩
    have hX : (cellsA (lst D n))[((h : Nat) : Int).toNat * 1]? = some (.f (iv (D h))) := cells_get _ (by omega) (by omega)
    have HC := cmpW_s mm (D m) (D h) hra (hr h (by omega) (by omega))
    have hbx := befW_x (w := (wI mm)) (MG.X h m (by omega) (by omega) (Nat.le_refl _) (by omega))
    by_cases hw : wI mm (D h) < wI mm (D m)
    · have hz := cmpZ_lt hw
      have hhi : i ≤ h := Nat.le_of_not_lt fun e => hl h (by omega) e (hbx.2 hw)
      repeat (first
    | (apply s_convW; exact rfl; exact rfl; exact rfl; (first | exact conv_iu (by omega) | exact conv_ui (by omega)))
    | (apply s_bind; exact rfl; exact rfl; exact rfl; exact rfl; exact rfl; exact rfl; exact shr_u (by omega) hh)
    | (apply s_idxArr TY; exact rfl; exact rfl; exact rfl; exact rfl; exact rfl; exact rfl; omega; omega)
    | (apply s_ldArr TY; exact rfl; exact rfl; exact rfl; exact rfl; exact rfl; assumption)
    | (apply s_a TY; exact rfl)
    | (apply s_t; exact rfl; (first | assumption | omega))
    | apply w_seq
    | apply w_region
    | (apply w_draw (id := 17) 9 rfl (by kernel_rfl))
    | apply s_nil
    | apply t_norm
    | apply k_norm
    | apply w_block
    | apply w_skip
    | (apply w_condT; exact rfl; exact rfl)
    | (apply w_condF; exact rfl; exact rfl)
    | (apply s_k (HC); exact rfl)
    | (apply s_c TY; exact rfl; (first | omega | exact ⟨by omega, by (first | with_reducible assumption | ((with_reducible apply intsF_ne); omega) | assumption)⟩)))
      exact ⟨(x, h), ⟨by show _ ≤ _; omega, by show _ ≤ _; omega, by show _ ≤ _; omega, by show _ ≤ _; omega⟩, by show _ - _ < _ - _; omega, gh_le ⟨le_upd rfl trivial (le_upd rfl trivial (le_upd rfl trivial (le_upd rfl trivial (le_upd rfl rfl (le_nil _))))), le_hupd rfl (cl_arr _) (le_h0 _ _)⟩⟩
    · have hz := cmpZ_ge hw
      have hhi : h < i := Nat.lt_of_not_le fun e => hw (hbx.1 (hg2 h e (by omega)))
      repeat (first
    | (apply s_convW; exact rfl; exact rfl; exact rfl; (first | exact conv_iu (by omega) | exact conv_ui (by omega)))
    | (apply s_bind; exact rfl; exact rfl; exact rfl; exact rfl; exact rfl; exact rfl; exact shr_u (by omega) hh)
    | (apply s_idxArr TY; exact rfl; exact rfl; exact rfl; exact rfl; exact rfl; exact rfl; omega; omega)
    | (apply s_ldArr TY; exact rfl; exact rfl; exact rfl; exact rfl; exact rfl; assumption)
    | (apply s_a TY; exact rfl)
    | (apply s_t; exact rfl; (first | assumption | omega))
    | (apply s_f; exact rfl; (first | assumption | omega))
    | apply w_seq
    | apply w_region
    | (apply w_draw (id := 17) 9 rfl (by kernel_rfl))
    | apply s_nil
    | apply t_norm
    | apply k_norm
    | apply w_block
    | apply w_skip
    | (apply w_condT; exact rfl; exact rfl)
    | (apply s_k (HC); exact rfl)
    | (apply s_c TY; exact rfl; (first | omega | exact ⟨by omega, by (first | with_reducible assumption | ((with_reducible apply intsF_ne); omega) | assumption)⟩)))
      exact ⟨(h + 1, y), ⟨by show _ ≤ _; omega, by show _ ≤ _; omega, by show _ ≤ _; omega, by show _ ≤ _; omega⟩, by show _ - _ < _ - _; omega, gh_le ⟨le_upd rfl trivial (le_upd rfl trivial (le_upd rfl trivial (le_upd rfl trivial (le_upd rfl rfl (le_nil _))))), le_hupd rfl (cl_arr _) (le_h0 _ _)⟩⟩
  · have hxi : x = i := by omega
    subst hxi
    repeat (first
    | (apply s_a TY; exact rfl)
    | (apply s_f; exact rfl; (first | assumption | omega))
    | apply w_seq
    | apply w_region
    | apply s_nil
    | apply t_norm
    | apply t_exit
    | apply k_hit
    | apply w_block
    | apply w_exit
    | (apply w_condF; exact rfl; exact rfl))
    apply w_loop (fun k : Nat => ⟨(Ab.upd (Ab.upd (Ab.upd (fun _ => .bot) 0 (.ow 0)) 14 (.f (iv ((x : Nat) : Int)))) 17 (.f (iv ((k : Nat) : Int)))), (Ab.upd (fun _ => none) 0 (some (.arr 3 1 n (cellsA (lst (rotI D k m (m + 1)) n))))), 1⟩) (fun k => x ≤ k ∧ k ≤ m) (fun k => k) m (⟨hi2, Nat.le_refl _⟩) (gh_le ⟨le_upd rfl trivial (le_upd rfl trivial (le_upd rfl rfl (le_nil _))), le_hupd (arrEq (by rw [rot_nil2 D m (m + 1) (Nat.le_succ m)])) (cl_arr _) (le_h0 _ _)⟩)
    intro k ⟨k1, k2⟩
    by_cases hk : x < k
    · obtain ⟨k, rfl⟩ : ∃ k', k = k' + 1 := ⟨k - 1, by omega⟩
      have hlk : (lst (rotI D (k + 1) m (m + 1)) n).length = n := lst_len _ _
      have hX : (cellsA (lst (rotI D (k + 1) m (m + 1)) n))[((((k + 1 : Nat) : Int)) - 1).toNat * 1]? = some (.f (iv ((rotI D (k + 1) m (m + 1)) k))) := cells_get _ (by omega) (by omega)
      have hY : (cellsA (lst (rotI D (k + 1) m (m + 1)) n))[((k + 1 : Nat) : Int).toNat * 1]? = some (.f (iv ((rotI D (k + 1) m (m + 1)) (k + 1)))) := cells_get _ (by omega) (by omega)
      have hcs : setAt (setAt (cellsA (lst (rotI D (k + 1) m (m + 1)) n)) (((k + 1 : Nat) : Int).toNat * 1) [.f (iv ((rotI D (k + 1) m (m + 1)) k))]) (((((k + 1 : Nat) : Int)) - 1).toNat * 1) [.f (iv ((rotI D (k + 1) m (m + 1)) (k + 1)))] = cellsA (lst (rotI D k m (m + 1)) n) := by
        rw [cells_swap _ (x := k + 1) (y := k) (by omega) (by omega) (by omega) (by omega) (by omega), rot_l D k2]
      repeat (first
    | (apply w_draw4 (id := 23) 15 16 32739 28 rfl (by kernel_rfl) (by kernel_rfl); exact rfl)
    | (apply s_stW TY; exact rfl; exact rfl; exact rfl; exact rfl; exact rfl; (show _ + 1 ≤ _; rw [cellsA_len]; omega); exact rfl; exact rfl; exact (fun _ => rfl))
    | (refine KW.mk ⟨rfl, rfl, rfl, rfl, rfl, rfl, rfl, rfl, rfl, rfl, rfl, rfl, rfl, rfl, rfl, trivial⟩ ?_)
    | (apply s_storeArr TY; exact rfl; exact rfl; exact rfl; exact rfl; exact rfl; (show _ + 1 ≤ _; rw [setAt_length, cellsA_len]; omega))
    | (apply s_idxArr TY; exact rfl; exact rfl; exact rfl; exact rfl; exact rfl; exact rfl; omega; omega)
    | (apply s_ldArr TY; exact rfl; exact rfl; exact rfl; exact rfl; exact rfl; assumption)
    | (apply s_a TY; exact rfl)
    | (apply s_t; exact rfl; (first | assumption | omega))
    | apply w_seq
    | apply w_region
    | apply s_nil
    | apply t_norm
    | apply k_norm
    | apply w_block
    | apply w_skip
    | (apply w_condT; exact rfl; exact rfl)
    | (apply s_c TY; exact rfl; (first | omega | exact ⟨by omega, by (first | with_reducible assumption | ((with_reducible apply intsF_ne); omega) | assumption)⟩)))
      exact ⟨k, ⟨by omega, by omega⟩, by omega, gh_le ⟨le_upd (congrArg (fun z : Int => AV.f (iv z)) (show ((k : Nat) : Int) = ((k + 1 : Nat) : Int) - 1 by omega)) trivial (le_upd rfl trivial (le_upd rfl rfl (le_nil _))), le_hupd (arrEq hcs) (cl_arr _) (le_h0 _ _)⟩⟩
    · have hke : k = x := by omega
      subst hke
      repeat (first
    | (apply s_a TY; exact rfl)
    | (apply s_f; exact rfl; (first | assumption | omega))
    | apply w_seq
    | apply w_region
    | apply s_nil
    | apply t_norm
    | apply t_exit
    | apply t_ret
    | apply k_hit
    | apply w_exit
    | apply w_ret
    | (apply w_condF; exact rfl; exact rfl))
      exact lvG_ret (L' := [.arr 3 1 n (cellsA (lst (rotI D k m (m + 1)) n))]) (s := (fun _ => .bot)) (nx := 1) (gh_le ⟨le_nil _, le_hupd rfl (cl_arr _) (le_h0 _ _)⟩) (rg0 rfl)
end Go.Proofs.YtbkdjlahhcofmaaGreatDoor
namespace Go.Proofs.YtbkdjlahhcofmaaGreatDoor
open Go Go.RowKit Go.Proofs Go.Shelf Go.Ab
theorem rot_rng {D : Nat → Int} {a s m e b : Nat} {Q : Int → Prop} (h1 : a ≤ s) (h2 : s ≤ m) (h3 : m ≤ e) (h4 : e ≤ b) (h : ∀ p, a ≤ p → p < b → Q (D p)) : ∀ p, a ≤ p → p < b → Q (rotI D s m e p) := fun p p1 p2 => by
  obtain ⟨q, q1, q2, q3⟩ := (rot_in h1 h2 h3 h4).1 ⟨p, p1, p2, rfl⟩
  rw [← q3]; exact h q q1 q2
set_option maxRecDepth 100000 in
set_option maxHeartbeats 25600000 in
theorem sym_gen (mm : List Int) (n : Nat) (hn : n ≤ 1000) (D : Nat → Int) (a m b : Nat) (h1 : a + 1 < m) (h2 : m + 1 < b) (h3 : b ≤ n) (MG : Mrg (wI mm) D a m b) (hr : ∀ p, a ≤ p → p < b → 0 ≤ D p ∧ D p < mm.length) (IH : ∀ (D' : Nat → Int) (a' m' b' : Nat), b' - a' < b - a → a' < m' → m' < b' → b' ≤ n → Mrg (wI mm) D' a' m' b' → (∀ p, a' ≤ p → p < b' → 0 ≤ D' p ∧ D' p < mm.length) → symC mm n D' a' m' b') : symC mm n D a m b := by
  obtain ⟨mid, hh⟩ : ∃ mid : Nat, (((a : Nat) : Int) + ((b : Nat) : Int)) / 2 = ((mid : Nat) : Int) := ⟨(a + b) / 2, by omega⟩
  obtain ⟨lo, hi, hcase⟩ : ∃ lo hi : Nat, (mid < m ∧ lo + b = mid + m ∧ hi = mid) ∨ (m ≤ mid ∧ lo = a ∧ hi = m) := by
    by_cases h : mid < m
    · exact ⟨mid + m - b, mid, .inl ⟨h, by omega, rfl⟩⟩
    · exact ⟨a, m, .inr ⟨by omega, rfl, rfl⟩⟩
  obtain ⟨s, s1, s2, hl, hg⟩ := split_at (P := fun c => ¬ befW (wI mm) (D (mid + m - 1 - c)) (D c)) lo (hi - lo) (fun c e q1 q2 q3 q4 q5 => q4 (cut_mono MG.L MG.R ⟨by omega, by omega⟩ (lo := lo) (hi := hi) (by omega) (by omega) (by omega) (by omega) q1 q2 (by omega) q5))
  rw [show lo + (hi - lo) = hi by omega] at s2 hg
  have hg2 : ∀ c, s ≤ c → c < hi → befW (wI mm) (D (mid + m - 1 - c)) (D c) := fun c q1 q2 => Classical.byContradiction fun h => hg c q1 q2 h
  have CT := cut_at MG ⟨by omega, by omega⟩ (mid := mid) (by omega) hcase ⟨s1, s2⟩ hl hg2
  obtain ⟨e, he⟩ : ∃ e : Nat, e = mid + m - s := ⟨_, rfl⟩
  rw [← he] at CT
  have hec : ((e : Nat) : Int) = ((mid : Nat) : Int) + ((m : Nat) : Int) - ((s : Nat) : Int) := by omega
  have c1 := CT.hs
  have c2 := CT.he
  have hrR := rot_rng (Q := fun z => 0 ≤ z ∧ z < mm.length) c1.1 c1.2.1 c2.1 c2.2.1 hr
  have M1 := CT.m1 MG
  obtain ⟨R, hR⟩ : ∃ R, R = rotI D s m e := ⟨_, rfl⟩
  rw [← hR] at hrR M1
  obtain ⟨E1, r1, A1⟩ : ∃ E1, Res (wI mm) R E1 a mid ∧ ((a < s ∧ s < mid ∧ SummG Tryz.prog GG 336 [.arr 3 1 n (cellsA (lst R n))] [.ow 0, .f (iv ((a : Nat) : Int)), .f (iv ((s : Nat) : Int)), .f (iv ((mid : Nat) : Int)), .f (.fn 188 [.pt [.sl mm.length (intsF mm)] 0])] (.f (.tup [])) [.arr 3 1 n (cellsA (lst E1 n))]) ∨ (¬ (a < s ∧ s < mid) ∧ E1 = R)) := by
    by_cases h : a < s ∧ s < mid
    · obtain ⟨E1, r1, K1⟩ := IH R a s mid (by omega) h.1 h.2 (by omega) M1 (fun p q1 q2 => hrR p q1 (by omega))
      exact ⟨E1, r1, .inl ⟨h.1, h.2, K1⟩⟩
    · refine ⟨R, res_same ?_, .inr ⟨h, rfl⟩⟩
      by_cases hs : s = a
      · have := CT.r2; rw [← hR, hs] at this; exact this
      · have hs2 : s = mid := by omega
        have := CT.r1; rw [← hR, hs2] at this; exact this
  have hE1 : ∀ p, mid ≤ p → E1 p = R p := fun p hp => r1.out p (.inr hp)
  have M2 := CT.m2 MG (E := E1) (fun p hp => by rw [hE1 p hp, hR])
  obtain ⟨E2, r2, A2⟩ : ∃ E2, Res (wI mm) E1 E2 mid b ∧ ((mid < e ∧ e < b ∧ SummG Tryz.prog GG 336 [.arr 3 1 n (cellsA (lst E1 n))] [.ow 0, .f (iv ((mid : Nat) : Int)), .f (iv (((mid : Nat) : Int) + ((m : Nat) : Int) - ((s : Nat) : Int))), .f (iv ((b : Nat) : Int)), .f (.fn 188 [.pt [.sl mm.length (intsF mm)] 0])] (.f (.tup [])) [.arr 3 1 n (cellsA (lst E2 n))]) ∨ (¬ (mid < e ∧ e < b) ∧ E2 = E1)) := by
    by_cases h : mid < e ∧ e < b
    · obtain ⟨E2, r2, K2⟩ := IH E1 mid e b (by omega) h.1 h.2 (by omega) M2 (fun p q1 q2 => by rw [hE1 p q1]; exact hrR p (by omega) q2)
      rw [hec] at K2
      exact ⟨E2, r2, .inl ⟨h.1, h.2, K2⟩⟩
    · refine ⟨E1, res_same ?_, .inr ⟨h, rfl⟩⟩
      by_cases hs : e = mid
      · have := M2.R; rw [hs] at this; exact this
      · have hs2 : e = b := by omega
        have := M2.L; rw [hs2] at this; exact this
  refine ⟨E2, res_join CT ⟨by omega, by omega⟩ (by rw [← hR]; exact r1) r2, ?_⟩
  clear IH M1 M2 r1 r2 hE1 hrR
  have hln : (lst D n).length = n := lst_len _ _
  refine summG_of Tryz.func336 rfl rfl 220 rfl (by simp) (by simp) (fun i B B' h1 h2 => by
    match i, h1, h2 with
    | 0, h1, h2 => cases h1; cases h2; rfl
    | _ + 1, h1, _ => simp at h1) (fun M X J => ?_)
  repeat (first
    | (apply s_convW; exact rfl; exact rfl; exact rfl; (first | exact conv_iu (by omega) | exact conv_ui (by omega)))
    | (apply s_bind; exact rfl; exact rfl; exact rfl; exact rfl; exact rfl; exact rfl; exact shr_u (by omega) hh)
    | (apply s_a TY; exact rfl)
    | (apply s_f; exact rfl; (first | assumption | omega))
    | apply w_seq
    | apply w_region
    | apply s_nil
    | apply t_norm
    | apply w_skip
    | (apply w_condF; exact rfl; exact rfl)
    | (apply s_c TY; exact rfl; (first | omega | exact ⟨by omega, by (first | with_reducible assumption | ((with_reducible apply intsF_ne); omega) | assumption)⟩)))
  rcases hcase with ⟨k1, k2, k3⟩ | ⟨k1, k2, k3⟩
  all_goals
    repeat (first
    | (apply s_a TY; exact rfl)
    | (apply s_t; exact rfl; (first | assumption | omega))
    | (apply s_f; exact rfl; (first | assumption | omega))
    | apply w_seq
    | apply w_region
    | apply s_nil
    | apply t_norm
    | apply w_block
    | (apply w_condT; exact rfl; exact rfl)
    | (apply w_condF; exact rfl; exact rfl)
    | (apply s_c TY; exact rfl; (first | omega | exact ⟨by omega, by (first | with_reducible assumption | ((with_reducible apply intsF_ne); omega) | assumption)⟩)))
    apply w_loop (fun q : Nat × Nat => ⟨(Ab.upd (Ab.upd (Ab.upd (Ab.upd (Ab.upd (Ab.upd (Ab.upd (Ab.upd (Ab.upd (Ab.upd (fun _ => .bot) 0 (.ow 0)) 1 (.f (iv ((a : Nat) : Int)))) 2 (.f (iv ((m : Nat) : Int)))) 3 (.f (iv ((b : Nat) : Int)))) 4 (.f (.fn 188 [.pt [.sl mm.length (intsF mm)] 0]))) 18 (.f (iv ((mid : Nat) : Int)))) 19 (.f (iv (((mid : Nat) : Int) + ((m : Nat) : Int))))) 20 (.f (iv ((q.1 : Nat) : Int)))) 21 (.f (iv ((q.2 : Nat) : Int)))) 22 (.f (iv (((mid : Nat) : Int) + ((m : Nat) : Int) - 1)))), (Ab.upd (fun _ => none) 0 (some (.arr 3 1 n (cellsA (lst D n))))), 1⟩) (fun q => lo ≤ q.1 ∧ q.1 ≤ s ∧ s ≤ q.2 ∧ q.2 ≤ hi) (fun q => q.2 - q.1) (lo, hi) (⟨Nat.le_refl _, s1, s2, Nat.le_refl _⟩) (gh_le ⟨le_upd rfl trivial (le_upd (congrArg (fun z : Int => AV.f (iv z)) (by omega)) trivial (le_upd (congrArg (fun z : Int => AV.f (iv z)) (by omega)) trivial (le_upd rfl trivial (le_upd rfl trivial (le_upd rfl trivial (le_upd rfl trivial (le_upd rfl trivial (le_upd rfl trivial (le_upd rfl rfl (le_nil _)))))))))), le_hupd rfl (cl_arr _) (le_h0 _ _)⟩)
    rintro ⟨x, y⟩ ⟨q1, q2, q3, q4⟩
    change lo ≤ x at q1
    change x ≤ s at q2
    change s ≤ y at q3
    change y ≤ hi at q4
    change W _ _ _ _ (⟨(Ab.upd (Ab.upd (Ab.upd (Ab.upd (Ab.upd (Ab.upd (Ab.upd (Ab.upd (Ab.upd (Ab.upd (fun _ => .bot) 0 (.ow 0)) 1 (.f (iv ((a : Nat) : Int)))) 2 (.f (iv ((m : Nat) : Int)))) 3 (.f (iv ((b : Nat) : Int)))) 4 (.f (.fn 188 [.pt [.sl mm.length (intsF mm)] 0]))) 18 (.f (iv ((mid : Nat) : Int)))) 19 (.f (iv (((mid : Nat) : Int) + ((m : Nat) : Int))))) 20 (.f (iv ((x : Nat) : Int)))) 21 (.f (iv ((y : Nat) : Int)))) 22 (.f (iv (((mid : Nat) : Int) + ((m : Nat) : Int) - 1)))), (Ab.upd (fun _ => none) 0 (some (.arr 3 1 n (cellsA (lst D n))))), 1⟩)
    by_cases hxy : x < y
    · obtain ⟨h, hh⟩ : ∃ h : Nat, ((((x : Nat) : Int)) + ((y : Nat) : Int)) / 2 = ((h : Nat) : Int) := ⟨(x + y) / 2, by omega⟩
      have hX : (cellsA (lst D n))[((((mid : Nat) : Int) + ((m : Nat) : Int) - 1) - ((h : Nat) : Int)).toNat * 1]? = some (.f (iv (D (mid + m - 1 - h)))) := cells_get _ (by omega) (by omega)
      have hY : (cellsA (lst D n))[((h : Nat) : Int).toNat * 1]? = some (.f (iv (D h))) := cells_get _ (by omega) (by omega)
      have HC := cmpW_s mm (D (mid + m - 1 - h)) (D h) (hr _ (by omega) (by omega)) (hr h (by omega) (by omega))
      have hbx := befW_x (w := (wI mm)) (MG.X h (mid + m - 1 - h) (by omega) (by omega) (by omega) (by omega))
      by_cases hw : wI mm (D h) < wI mm (D (mid + m - 1 - h))
      · have hz := cmpZ_lt hw
        have hhi : s ≤ h := Nat.le_of_not_lt fun e => hl h (by omega) e (hbx.2 hw)
        repeat (first
    | (apply s_convW; exact rfl; exact rfl; exact rfl; (first | exact conv_iu (by omega) | exact conv_ui (by omega)))
    | (apply s_bind; exact rfl; exact rfl; exact rfl; exact rfl; exact rfl; exact rfl; exact shr_u (by omega) hh)
    | (apply s_idxArr TY; exact rfl; exact rfl; exact rfl; exact rfl; exact rfl; exact rfl; omega; omega)
    | (apply s_ldArr TY; exact rfl; exact rfl; exact rfl; exact rfl; exact rfl; assumption)
    | (apply s_a TY; exact rfl)
    | (apply s_t; exact rfl; (first | assumption | omega))
    | apply w_seq
    | apply w_region
    | (apply w_draw (id := 35) 11 rfl (by kernel_rfl))
    | apply s_nil
    | apply t_norm
    | apply k_norm
    | apply w_block
    | apply w_skip
    | (apply w_condT; exact rfl; exact rfl)
    | (apply w_condF; exact rfl; exact rfl)
    | (apply s_k (HC); exact rfl)
    | (apply s_c TY; exact rfl; (first | omega | exact ⟨by omega, by (first | with_reducible assumption | ((with_reducible apply intsF_ne); omega) | assumption)⟩)))
        exact ⟨(x, h), ⟨by show _ ≤ _; omega, by show _ ≤ _; omega, by show _ ≤ _; omega, by show _ ≤ _; omega⟩, by show _ - _ < _ - _; omega, gh_le ⟨le_upd rfl trivial (le_upd rfl trivial (le_upd rfl trivial (le_upd rfl trivial (le_upd rfl trivial (le_upd rfl trivial (le_upd rfl trivial (le_upd rfl trivial (le_upd rfl trivial (le_upd rfl rfl (le_nil _)))))))))), le_hupd rfl (cl_arr _) (le_h0 _ _)⟩⟩
      · have hz := cmpZ_ge hw
        have hhi : h < s := Nat.lt_of_not_le fun e => hw (hbx.1 (hg2 h e (by omega)))
        repeat (first
    | (apply s_convW; exact rfl; exact rfl; exact rfl; (first | exact conv_iu (by omega) | exact conv_ui (by omega)))
    | (apply s_bind; exact rfl; exact rfl; exact rfl; exact rfl; exact rfl; exact rfl; exact shr_u (by omega) hh)
    | (apply s_idxArr TY; exact rfl; exact rfl; exact rfl; exact rfl; exact rfl; exact rfl; omega; omega)
    | (apply s_ldArr TY; exact rfl; exact rfl; exact rfl; exact rfl; exact rfl; assumption)
    | (apply s_a TY; exact rfl)
    | (apply s_t; exact rfl; (first | assumption | omega))
    | (apply s_f; exact rfl; (first | assumption | omega))
    | apply w_seq
    | apply w_region
    | (apply w_draw (id := 35) 11 rfl (by kernel_rfl))
    | apply s_nil
    | apply t_norm
    | apply k_norm
    | apply w_block
    | apply w_skip
    | (apply w_condT; exact rfl; exact rfl)
    | (apply s_k (HC); exact rfl)
    | (apply s_c TY; exact rfl; (first | omega | exact ⟨by omega, by (first | with_reducible assumption | ((with_reducible apply intsF_ne); omega) | assumption)⟩)))
        exact ⟨(h + 1, y), ⟨by show _ ≤ _; omega, by show _ ≤ _; omega, by show _ ≤ _; omega, by show _ ≤ _; omega⟩, by show _ - _ < _ - _; omega, gh_le ⟨le_upd rfl trivial (le_upd rfl trivial (le_upd rfl trivial (le_upd rfl trivial (le_upd rfl trivial (le_upd rfl trivial (le_upd rfl trivial (le_upd rfl trivial (le_upd rfl trivial (le_upd rfl rfl (le_nil _)))))))))), le_hupd rfl (cl_arr _) (le_h0 _ _)⟩⟩
    · have hxi : x = s := by omega
      subst hxi
      by_cases h0 : x < m ∧ m < e
      · obtain ⟨h0a, h0b⟩ := h0
        have HRt := rotate_g D n x m e mm hn h0a h0b (by omega)
        rw [← hR, hec] at HRt
        rcases A1 with ⟨h1a, h1b, K1⟩ | ⟨h1n, e1⟩
        · rcases A2 with ⟨h2a, h2b, K2⟩ | ⟨h2n, e2⟩
          · try (exfalso; omega)
            all_goals
              repeat (first
    | (apply s_callG [0] HRt; exact rfl; exact rfl; exact rfl; (first | exact ⟨congrArg some (arrA_ren _ _ _).symm, trivial⟩ | exact ⟨congrArg some ((arrA_ren _ _ _).trans (arrA_ren _ _ _).symm), trivial⟩); exact rfl; exact ⟨rfl, rfl⟩)
    | (apply s_callG [0] K1; exact rfl; exact rfl; exact rfl; (first | exact ⟨congrArg some (arrA_ren _ _ _).symm, trivial⟩ | exact ⟨congrArg some ((arrA_ren _ _ _).trans (arrA_ren _ _ _).symm), trivial⟩); exact rfl; exact ⟨rfl, rfl⟩)
    | (apply s_callG [0] K2; exact rfl; exact rfl; exact rfl; (first | exact ⟨congrArg some (arrA_ren _ _ _).symm, trivial⟩ | exact ⟨congrArg some ((arrA_ren _ _ _).trans (arrA_ren _ _ _).symm), trivial⟩); exact rfl; exact ⟨rfl, rfl⟩)
    | (apply s_a TY; exact rfl)
    | (apply s_t; exact rfl; (first | assumption | omega))
    | (apply s_f; exact rfl; (first | assumption | omega))
    | apply w_seq
    | apply w_region
    | apply s_nil
    | apply t_norm
    | apply t_exit
    | apply k_hit
    | apply w_exit
    | (apply w_condT; exact rfl; exact rfl)
    | (apply w_condF; exact rfl; exact rfl)
    | (apply s_c TY; exact rfl; (first | omega | exact ⟨by omega, by (first | with_reducible assumption | ((with_reducible apply intsF_ne); omega) | assumption)⟩)))
              exact lvG_norm (L' := [.arr 3 1 n (cellsA (lst E2 n))]) (s := (fun _ => .bot)) (nx := 1) (gh_le ⟨le_nil _, le_hupd (by first | exact congrArg some (arrA_ren _ _ _) | rfl) (cl_arr _) (le_h0 _ _)⟩) (rg0 rfl)
          · subst e2
            by_cases h2 : mid < e
            · have h2b : ¬ e < b := fun h => h2n ⟨h2, h⟩
              try (exfalso; omega)
              all_goals
                repeat (first
    | (apply s_callG [0] HRt; exact rfl; exact rfl; exact rfl; (first | exact ⟨congrArg some (arrA_ren _ _ _).symm, trivial⟩ | exact ⟨congrArg some ((arrA_ren _ _ _).trans (arrA_ren _ _ _).symm), trivial⟩); exact rfl; exact ⟨rfl, rfl⟩)
    | (apply s_callG [0] K1; exact rfl; exact rfl; exact rfl; (first | exact ⟨congrArg some (arrA_ren _ _ _).symm, trivial⟩ | exact ⟨congrArg some ((arrA_ren _ _ _).trans (arrA_ren _ _ _).symm), trivial⟩); exact rfl; exact ⟨rfl, rfl⟩)
    | (apply s_a TY; exact rfl)
    | (apply s_t; exact rfl; (first | assumption | omega))
    | (apply s_f; exact rfl; (first | assumption | omega))
    | apply w_seq
    | apply w_region
    | apply s_nil
    | apply t_norm
    | apply t_exit
    | apply k_hit
    | apply w_exit
    | apply w_skip
    | (apply w_condT; exact rfl; exact rfl)
    | (apply w_condF; exact rfl; exact rfl)
    | (apply s_c TY; exact rfl; (first | omega | exact ⟨by omega, by (first | with_reducible assumption | ((with_reducible apply intsF_ne); omega) | assumption)⟩)))
                exact lvG_norm (L' := [.arr 3 1 n (cellsA (lst E2 n))]) (s := (fun _ => .bot)) (nx := 1) (gh_le ⟨le_nil _, le_hupd (by first | exact congrArg some (arrA_ren _ _ _) | rfl) (cl_arr _) (le_h0 _ _)⟩) (rg0 rfl)
            · try (exfalso; omega)
              all_goals
                skip
                exact lvG_norm (L' := [.arr 3 1 n (cellsA (lst E2 n))]) (s := (fun _ => .bot)) (nx := 1) (gh_le ⟨le_nil _, le_hupd (by first | exact congrArg some (arrA_ren _ _ _) | rfl) (cl_arr _) (le_h0 _ _)⟩) (rg0 rfl)
        · subst e1
          by_cases h1 : a < x
          · have h1b : ¬ x < mid := fun h => h1n ⟨h1, h⟩
            rcases A2 with ⟨h2a, h2b, K2⟩ | ⟨h2n, e2⟩
            · try (exfalso; omega)
              all_goals
                skip
                exact lvG_norm (L' := [.arr 3 1 n (cellsA (lst E2 n))]) (s := (fun _ => .bot)) (nx := 1) (gh_le ⟨le_nil _, le_hupd (by first | exact congrArg some (arrA_ren _ _ _) | rfl) (cl_arr _) (le_h0 _ _)⟩) (rg0 rfl)
            · subst e2
              by_cases h2 : mid < e
              · have h2b : ¬ e < b := fun h => h2n ⟨h2, h⟩
                try (exfalso; omega)
                all_goals
                  skip
                  exact lvG_norm (L' := [.arr 3 1 n (cellsA (lst E2 n))]) (s := (fun _ => .bot)) (nx := 1) (gh_le ⟨le_nil _, le_hupd (by first | exact congrArg some (arrA_ren _ _ _) | rfl) (cl_arr _) (le_h0 _ _)⟩) (rg0 rfl)
              · try (exfalso; omega)
                all_goals
                  skip
                  exact lvG_norm (L' := [.arr 3 1 n (cellsA (lst E2 n))]) (s := (fun _ => .bot)) (nx := 1) (gh_le ⟨le_nil _, le_hupd (by first | exact congrArg some (arrA_ren _ _ _) | rfl) (cl_arr _) (le_h0 _ _)⟩) (rg0 rfl)
          · rcases A2 with ⟨h2a, h2b, K2⟩ | ⟨h2n, e2⟩
            · try (exfalso; omega)
              all_goals
                repeat (first
    | (apply s_callG [0] HRt; exact rfl; exact rfl; exact rfl; (first | exact ⟨congrArg some (arrA_ren _ _ _).symm, trivial⟩ | exact ⟨congrArg some ((arrA_ren _ _ _).trans (arrA_ren _ _ _).symm), trivial⟩); exact rfl; exact ⟨rfl, rfl⟩)
    | (apply s_callG [0] K2; exact rfl; exact rfl; exact rfl; (first | exact ⟨congrArg some (arrA_ren _ _ _).symm, trivial⟩ | exact ⟨congrArg some ((arrA_ren _ _ _).trans (arrA_ren _ _ _).symm), trivial⟩); exact rfl; exact ⟨rfl, rfl⟩)
    | (apply s_a TY; exact rfl)
    | (apply s_t; exact rfl; (first | assumption | omega))
    | (apply s_f; exact rfl; (first | assumption | omega))
    | apply w_seq
    | apply w_region
    | apply s_nil
    | apply t_norm
    | apply t_exit
    | apply k_hit
    | apply w_exit
    | apply w_skip
    | (apply w_condT; exact rfl; exact rfl)
    | (apply w_condF; exact rfl; exact rfl)
    | (apply s_s; exact rfl)
    | (apply s_c TY; exact rfl; (first | omega | exact ⟨by omega, by (first | with_reducible assumption | ((with_reducible apply intsF_ne); omega) | assumption)⟩)))
                exact lvG_norm (L' := [.arr 3 1 n (cellsA (lst E2 n))]) (s := (fun _ => .bot)) (nx := 1) (gh_le ⟨le_nil _, le_hupd (by first | exact congrArg some (arrA_ren _ _ _) | rfl) (cl_arr _) (le_h0 _ _)⟩) (rg0 rfl)
            · subst e2
              by_cases h2 : mid < e
              · have h2b : ¬ e < b := fun h => h2n ⟨h2, h⟩
                try (exfalso; omega)
                all_goals
                  repeat (first
    | (apply s_callG [0] HRt; exact rfl; exact rfl; exact rfl; (first | exact ⟨congrArg some (arrA_ren _ _ _).symm, trivial⟩ | exact ⟨congrArg some ((arrA_ren _ _ _).trans (arrA_ren _ _ _).symm), trivial⟩); exact rfl; exact ⟨rfl, rfl⟩)
    | (apply s_a TY; exact rfl)
    | (apply s_t; exact rfl; (first | assumption | omega))
    | (apply s_f; exact rfl; (first | assumption | omega))
    | apply w_seq
    | apply w_region
    | apply s_nil
    | apply t_norm
    | apply t_exit
    | apply k_hit
    | apply w_exit
    | apply w_skip
    | (apply w_condT; exact rfl; exact rfl)
    | (apply w_condF; exact rfl; exact rfl)
    | (apply s_s; exact rfl)
    | (apply s_c TY; exact rfl; (first | omega | exact ⟨by omega, by (first | with_reducible assumption | ((with_reducible apply intsF_ne); omega) | assumption)⟩)))
                  exact lvG_norm (L' := [.arr 3 1 n (cellsA (lst E2 n))]) (s := (fun _ => .bot)) (nx := 1) (gh_le ⟨le_nil _, le_hupd (by first | exact congrArg some (arrA_ren _ _ _) | rfl) (cl_arr _) (le_h0 _ _)⟩) (rg0 rfl)
              · try (exfalso; omega)
                all_goals
                  skip
                  exact lvG_norm (L' := [.arr 3 1 n (cellsA (lst E2 n))]) (s := (fun _ => .bot)) (nx := 1) (gh_le ⟨le_nil _, le_hupd (by first | exact congrArg some (arrA_ren _ _ _) | rfl) (cl_arr _) (le_h0 _ _)⟩) (rg0 rfl)
      · have hRD : R = D := by
          rw [hR]
          by_cases h : x < m
          · have : m = e := by omega
            rw [← this]; exact rot_nil D x m (by omega)
          · have : x = m := by omega
            rw [this]; exact rot_nil2 D m e (by omega)
        have h0n := h0
        clear h0
        subst hRD
        by_cases h0 : x < m
        · have h0b : ¬ m < e := fun h => h0n ⟨h0, h⟩
          rcases A1 with ⟨h1a, h1b, K1⟩ | ⟨h1n, e1⟩
          · rcases A2 with ⟨h2a, h2b, K2⟩ | ⟨h2n, e2⟩
            · try (exfalso; omega)
              all_goals
                skip
                exact lvG_norm (L' := [.arr 3 1 n (cellsA (lst E2 n))]) (s := (fun _ => .bot)) (nx := 1) (gh_le ⟨le_nil _, le_hupd (by first | exact congrArg some (arrA_ren _ _ _) | rfl) (cl_arr _) (le_h0 _ _)⟩) (rg0 rfl)
            · subst e2
              by_cases h2 : mid < e
              · have h2b : ¬ e < b := fun h => h2n ⟨h2, h⟩
                try (exfalso; omega)
                all_goals
                  skip
                  exact lvG_norm (L' := [.arr 3 1 n (cellsA (lst E2 n))]) (s := (fun _ => .bot)) (nx := 1) (gh_le ⟨le_nil _, le_hupd (by first | exact congrArg some (arrA_ren _ _ _) | rfl) (cl_arr _) (le_h0 _ _)⟩) (rg0 rfl)
              · try (exfalso; omega)
                all_goals
                  skip
                  exact lvG_norm (L' := [.arr 3 1 n (cellsA (lst E2 n))]) (s := (fun _ => .bot)) (nx := 1) (gh_le ⟨le_nil _, le_hupd (by first | exact congrArg some (arrA_ren _ _ _) | rfl) (cl_arr _) (le_h0 _ _)⟩) (rg0 rfl)
          · subst e1
            by_cases h1 : a < x
            · have h1b : ¬ x < mid := fun h => h1n ⟨h1, h⟩
              rcases A2 with ⟨h2a, h2b, K2⟩ | ⟨h2n, e2⟩
              · try (exfalso; omega)
                all_goals
                  repeat (first
    | (apply s_callG [0] K2; exact rfl; exact rfl; exact rfl; (first | exact ⟨congrArg some (arrA_ren _ _ _).symm, trivial⟩ | exact ⟨congrArg some ((arrA_ren _ _ _).trans (arrA_ren _ _ _).symm), trivial⟩); exact rfl; exact ⟨rfl, rfl⟩)
    | (apply s_a TY; exact rfl)
    | (apply s_t; exact rfl; (first | assumption | omega))
    | (apply s_f; exact rfl; (first | assumption | omega))
    | apply w_seq
    | apply w_region
    | apply s_nil
    | apply t_norm
    | apply t_exit
    | apply k_hit
    | apply w_exit
    | apply w_skip
    | (apply w_condT; exact rfl; exact rfl)
    | (apply w_condF; exact rfl; exact rfl)
    | (apply s_c TY; exact rfl; (first | omega | exact ⟨by omega, by (first | with_reducible assumption | ((with_reducible apply intsF_ne); omega) | assumption)⟩)))
                  exact lvG_norm (L' := [.arr 3 1 n (cellsA (lst E2 n))]) (s := (fun _ => .bot)) (nx := 1) (gh_le ⟨le_nil _, le_hupd (by first | exact congrArg some (arrA_ren _ _ _) | rfl) (cl_arr _) (le_h0 _ _)⟩) (rg0 rfl)
              · subst e2
                by_cases h2 : mid < e
                · have h2b : ¬ e < b := fun h => h2n ⟨h2, h⟩
                  try (exfalso; omega)
                  all_goals
                    skip
                    exact lvG_norm (L' := [.arr 3 1 n (cellsA (lst E2 n))]) (s := (fun _ => .bot)) (nx := 1) (gh_le ⟨le_nil _, le_hupd (by first | exact congrArg some (arrA_ren _ _ _) | rfl) (cl_arr _) (le_h0 _ _)⟩) (rg0 rfl)
                · try (exfalso; omega)
                  all_goals
                    skip
                    exact lvG_norm (L' := [.arr 3 1 n (cellsA (lst E2 n))]) (s := (fun _ => .bot)) (nx := 1) (gh_le ⟨le_nil _, le_hupd (by first | exact congrArg some (arrA_ren _ _ _) | rfl) (cl_arr _) (le_h0 _ _)⟩) (rg0 rfl)
            · rcases A2 with ⟨h2a, h2b, K2⟩ | ⟨h2n, e2⟩
              · try (exfalso; omega)
                all_goals
                  skip
                  exact lvG_norm (L' := [.arr 3 1 n (cellsA (lst E2 n))]) (s := (fun _ => .bot)) (nx := 1) (gh_le ⟨le_nil _, le_hupd (by first | exact congrArg some (arrA_ren _ _ _) | rfl) (cl_arr _) (le_h0 _ _)⟩) (rg0 rfl)
              · subst e2
                by_cases h2 : mid < e
                · have h2b : ¬ e < b := fun h => h2n ⟨h2, h⟩
                  try (exfalso; omega)
                  all_goals
                    skip
                    exact lvG_norm (L' := [.arr 3 1 n (cellsA (lst E2 n))]) (s := (fun _ => .bot)) (nx := 1) (gh_le ⟨le_nil _, le_hupd (by first | exact congrArg some (arrA_ren _ _ _) | rfl) (cl_arr _) (le_h0 _ _)⟩) (rg0 rfl)
                · try (exfalso; omega)
                  all_goals
                    skip
                    exact lvG_norm (L' := [.arr 3 1 n (cellsA (lst E2 n))]) (s := (fun _ => .bot)) (nx := 1) (gh_le ⟨le_nil _, le_hupd (by first | exact congrArg some (arrA_ren _ _ _) | rfl) (cl_arr _) (le_h0 _ _)⟩) (rg0 rfl)
        · rcases A1 with ⟨h1a, h1b, K1⟩ | ⟨h1n, e1⟩
          · rcases A2 with ⟨h2a, h2b, K2⟩ | ⟨h2n, e2⟩
            · try (exfalso; omega)
              all_goals
                skip
                exact lvG_norm (L' := [.arr 3 1 n (cellsA (lst E2 n))]) (s := (fun _ => .bot)) (nx := 1) (gh_le ⟨le_nil _, le_hupd (by first | exact congrArg some (arrA_ren _ _ _) | rfl) (cl_arr _) (le_h0 _ _)⟩) (rg0 rfl)
            · subst e2
              by_cases h2 : mid < e
              · have h2b : ¬ e < b := fun h => h2n ⟨h2, h⟩
                try (exfalso; omega)
                all_goals
                  skip
                  exact lvG_norm (L' := [.arr 3 1 n (cellsA (lst E2 n))]) (s := (fun _ => .bot)) (nx := 1) (gh_le ⟨le_nil _, le_hupd (by first | exact congrArg some (arrA_ren _ _ _) | rfl) (cl_arr _) (le_h0 _ _)⟩) (rg0 rfl)
              · try (exfalso; omega)
                all_goals
                  repeat (first
    | (apply s_callG [0] K1; exact rfl; exact rfl; exact rfl; (first | exact ⟨congrArg some (arrA_ren _ _ _).symm, trivial⟩ | exact ⟨congrArg some ((arrA_ren _ _ _).trans (arrA_ren _ _ _).symm), trivial⟩); exact rfl; exact ⟨rfl, rfl⟩)
    | (apply s_a TY; exact rfl)
    | (apply s_t; exact rfl; (first | assumption | omega))
    | (apply s_f; exact rfl; (first | assumption | omega))
    | apply w_seq
    | apply w_region
    | apply s_nil
    | apply t_norm
    | apply t_exit
    | apply k_hit
    | apply w_exit
    | apply w_skip
    | (apply w_condT; exact rfl; exact rfl)
    | (apply w_condF; exact rfl; exact rfl)
    | (apply s_s; exact rfl)
    | (apply s_c TY; exact rfl; (first | omega | exact ⟨by omega, by (first | with_reducible assumption | ((with_reducible apply intsF_ne); omega) | assumption)⟩)))
                  exact lvG_norm (L' := [.arr 3 1 n (cellsA (lst E2 n))]) (s := (fun _ => .bot)) (nx := 1) (gh_le ⟨le_nil _, le_hupd (by first | exact congrArg some (arrA_ren _ _ _) | rfl) (cl_arr _) (le_h0 _ _)⟩) (rg0 rfl)
          · subst e1
            by_cases h1 : a < x
            · have h1b : ¬ x < mid := fun h => h1n ⟨h1, h⟩
              rcases A2 with ⟨h2a, h2b, K2⟩ | ⟨h2n, e2⟩
              · try (exfalso; omega)
                all_goals
                  skip
                  exact lvG_norm (L' := [.arr 3 1 n (cellsA (lst E2 n))]) (s := (fun _ => .bot)) (nx := 1) (gh_le ⟨le_nil _, le_hupd (by first | exact congrArg some (arrA_ren _ _ _) | rfl) (cl_arr _) (le_h0 _ _)⟩) (rg0 rfl)
              · subst e2
                by_cases h2 : mid < e
                · have h2b : ¬ e < b := fun h => h2n ⟨h2, h⟩
                  try (exfalso; omega)
                  all_goals
                    skip
                    exact lvG_norm (L' := [.arr 3 1 n (cellsA (lst E2 n))]) (s := (fun _ => .bot)) (nx := 1) (gh_le ⟨le_nil _, le_hupd (by first | exact congrArg some (arrA_ren _ _ _) | rfl) (cl_arr _) (le_h0 _ _)⟩) (rg0 rfl)
                · try (exfalso; omega)
                  all_goals
                    repeat (first
    | (apply s_a TY; exact rfl)
    | (apply s_t; exact rfl; (first | assumption | omega))
    | (apply s_f; exact rfl; (first | assumption | omega))
    | apply w_seq
    | apply w_region
    | apply s_nil
    | apply t_norm
    | apply t_exit
    | apply k_hit
    | apply w_exit
    | apply w_skip
    | (apply w_condF; exact rfl; exact rfl)
    | (apply s_s; exact rfl)
    | (apply s_c TY; exact rfl; (first | omega | exact ⟨by omega, by (first | with_reducible assumption | ((with_reducible apply intsF_ne); omega) | assumption)⟩)))
                    exact lvG_norm (L' := [.arr 3 1 n (cellsA (lst E2 n))]) (s := (fun _ => .bot)) (nx := 1) (gh_le ⟨le_nil _, le_hupd (by first | exact congrArg some (arrA_ren _ _ _) | rfl) (cl_arr _) (le_h0 _ _)⟩) (rg0 rfl)
            · rcases A2 with ⟨h2a, h2b, K2⟩ | ⟨h2n, e2⟩
              · try (exfalso; omega)
                all_goals
                  skip
                  exact lvG_norm (L' := [.arr 3 1 n (cellsA (lst E2 n))]) (s := (fun _ => .bot)) (nx := 1) (gh_le ⟨le_nil _, le_hupd (by first | exact congrArg some (arrA_ren _ _ _) | rfl) (cl_arr _) (le_h0 _ _)⟩) (rg0 rfl)
              · subst e2
                by_cases h2 : mid < e
                · have h2b : ¬ e < b := fun h => h2n ⟨h2, h⟩
                  try (exfalso; omega)
                  all_goals
                    skip
                    exact lvG_norm (L' := [.arr 3 1 n (cellsA (lst E2 n))]) (s := (fun _ => .bot)) (nx := 1) (gh_le ⟨le_nil _, le_hupd (by first | exact congrArg some (arrA_ren _ _ _) | rfl) (cl_arr _) (le_h0 _ _)⟩) (rg0 rfl)
                · try (exfalso; omega)
                  all_goals
                    skip
                    exact lvG_norm (L' := [.arr 3 1 n (cellsA (lst E2 n))]) (s := (fun _ => .bot)) (nx := 1) (gh_le ⟨le_nil _, le_hupd (by first | exact congrArg some (arrA_ren _ _ _) | rfl) (cl_arr _) (le_h0 _ _)⟩) (rg0 rfl)
end Go.Proofs.YtbkdjlahhcofmaaGreatDoor
namespace Go.Proofs.YtbkdjlahhcofmaaGreatDoor
open Go Go.RowKit Go.Proofs Go.Shelf Go.Ab
def Same (D E : Nat → Int) (n : Nat) : Prop := ∀ z, InI E 0 n z ↔ InI D 0 n z
theorem Same.refl (D : Nat → Int) (n : Nat) : Same D D n := fun _ => Iff.rfl
theorem Same.step {w : Int → Int} {D E F : Nat → Int} {n a b : Nat} (s : Same D E n) (r : Res w E F a b) (hb : b ≤ n) : Same D F n := fun z => by
  rw [← s z]
  constructor
  · rintro ⟨p, _, p2, rfl⟩
    by_cases h : a ≤ p ∧ p < b
    · obtain ⟨q, q1, q2, q3⟩ := (r.ins _).1 ⟨p, h.1, h.2, rfl⟩
      exact ⟨q, Nat.zero_le _, by omega, q3⟩
    · exact ⟨p, Nat.zero_le _, p2, (r.out p (by omega)).symm⟩
  · rintro ⟨p, _, p2, rfl⟩
    by_cases h : a ≤ p ∧ p < b
    · obtain ⟨q, q1, q2, q3⟩ := (r.ins _).2 ⟨p, h.1, h.2, rfl⟩
      exact ⟨q, Nat.zero_le _, by omega, q3⟩
    · exact ⟨p, Nat.zero_le _, p2, r.out p (by omega)⟩
theorem Res.at_ {w : Int → Int} {D E : Nat → Int} {a b : Nat} (r : Res w D E a b) {p : Nat} (h1 : a ≤ p) (h2 : p < b) : ∃ q, a ≤ q ∧ q < b ∧ E p = D q := by
  obtain ⟨q, q1, q2, q3⟩ := (r.ins _).1 ⟨p, h1, h2, rfl⟩
  exact ⟨q, q1, q2, q3.symm⟩
structure PSt (w : Int → Int) (E : Nat → Int) (n B : Nat) : Prop where
  x : ∀ i j, i < j → j < n → i / B ≠ j / B → E i < E j
  s : ∀ i j, i < j → j < n → i / B = j / B → befW w (E i) (E j)
structure Pass (w : Int → Int) (E : Nat → Int) (n B C a : Nat) : Prop where
  al : a % C = 0
  X : ∀ i j, i < j → j < n → i / C ≠ j / C → E i < E j
  lo : ∀ i j, i < j → j < n → j < a → i / C = j / C → befW w (E i) (E j)
  hs : ∀ i j, a ≤ i → i < j → j < n → i / B = j / B → befW w (E i) (E j)
  hx : ∀ i j, a ≤ i → i < j → j < n → i / B ≠ j / B → E i < E j
theorem pass_start1 {w : Int → Int} {E : Nat → Int} {n : Nat} (s : PSt w E n 1) : Pass w E n 1 20 0 :=
  ⟨by omega, fun i j h1 h2 h3 => s.x i j h1 h2 (by omega), fun i j _ _ h => absurd h (Nat.not_lt_zero _), fun i j _ h1 h2 h3 => s.s i j h1 h2 h3, fun i j _ h1 h2 h3 => s.x i j h1 h2 h3⟩
theorem pass_x1 {w : Int → Int} {E F : Nat → Int} {n a c : Nat} (q : Pass w E n 1 20 a) (hc : c ≤ a + 20) (_hcn : c ≤ n) (r : Res w E F a c) : ∀ i j, i < j → j < n → i / 20 ≠ j / 20 → F i < F j := fun i j h1 h2 h3 => by
  have ha := q.al
  by_cases hi : a ≤ i ∧ i < c
  · obtain ⟨i', e1, e2, e3⟩ := r.at_ hi.1 hi.2
    rw [e3, r.out j (by omega)]; exact q.X i' j (by omega) h2 (by omega)
  · by_cases hj : a ≤ j ∧ j < c
    · obtain ⟨j', e1, e2, e3⟩ := r.at_ hj.1 hj.2
      rw [e3, r.out i (by omega)]; exact q.X i j' (by omega) (by omega) (by omega)
    · rw [r.out i (by omega), r.out j (by omega)]; exact q.X i j h1 h2 h3
theorem pass_step1 {w : Int → Int} {E F : Nat → Int} {n a : Nat} (q : Pass w E n 1 20 a) (h : a + 20 ≤ n) (r : Res w E F a (a + 20)) : Pass w F n 1 20 (a + 20) := by
  have ha := q.al
  refine ⟨by omega, pass_x1 q (Nat.le_refl _) h r, fun i j h1 h2 h3 h4 => ?_, fun i j h1 h2 h3 h4 => ?_, fun i j h1 h2 h3 h4 => ?_⟩
  · by_cases hj : j < a
    · rw [r.out i (by omega), r.out j (by omega)]; exact q.lo i j h1 h2 hj h4
    · exact r.srt i j (by omega) h1 h3
  · rw [r.out i (by omega), r.out j (by omega)]; exact q.hs i j (by omega) h2 h3 h4
  · rw [r.out i (by omega), r.out j (by omega)]; exact q.hx i j (by omega) h2 h3 h4
theorem pass_end1 {w : Int → Int} {E F : Nat → Int} {n a : Nat} (q : Pass w E n 1 20 a) (h : n < a + 20) (hn : a ≤ n) (r : Res w E F a n) : PSt w F n 20 := by
  have ha := q.al
  refine ⟨pass_x1 q (by omega) (Nat.le_refl _) r, fun i j h1 h2 h3 => ?_⟩
  by_cases hj : j < a
  · rw [r.out i (by omega), r.out j (by omega)]; exact q.lo i j h1 h2 hj h3
  · exact r.srt i j (by omega) h1 h2
theorem pass_start20 {w : Int → Int} {E : Nat → Int} {n : Nat} (s : PSt w E n 20) : Pass w E n 20 40 0 :=
  ⟨by omega, fun i j h1 h2 h3 => s.x i j h1 h2 (by omega), fun i j _ _ h => absurd h (Nat.not_lt_zero _), fun i j _ h1 h2 h3 => s.s i j h1 h2 h3, fun i j _ h1 h2 h3 => s.x i j h1 h2 h3⟩
theorem pass_mrg20 {w : Int → Int} {E : Nat → Int} {n a c : Nat} (q : Pass w E n 20 40 a) (h1 : a + 20 < c) (h2 : c ≤ a + 40) (h3 : c ≤ n) : Mrg w E a (a + 20) c := by
  have ha := q.al
  exact ⟨fun i j p1 p2 p3 => q.hs i j p1 p2 (by omega) (by omega), fun i j p1 p2 p3 => q.hs i j (by omega) p2 (by omega) (by omega), fun i j p1 p2 p3 p4 => q.hx i j p1 (by omega) (by omega) (by omega)⟩
theorem pass_x20 {w : Int → Int} {E F : Nat → Int} {n a c : Nat} (q : Pass w E n 20 40 a) (hc : c ≤ a + 40) (_hcn : c ≤ n) (r : Res w E F a c) : ∀ i j, i < j → j < n → i / 40 ≠ j / 40 → F i < F j := fun i j h1 h2 h3 => by
  have ha := q.al
  by_cases hi : a ≤ i ∧ i < c
  · obtain ⟨i', e1, e2, e3⟩ := r.at_ hi.1 hi.2
    rw [e3, r.out j (by omega)]; exact q.X i' j (by omega) h2 (by omega)
  · by_cases hj : a ≤ j ∧ j < c
    · obtain ⟨j', e1, e2, e3⟩ := r.at_ hj.1 hj.2
      rw [e3, r.out i (by omega)]; exact q.X i j' (by omega) (by omega) (by omega)
    · rw [r.out i (by omega), r.out j (by omega)]; exact q.X i j h1 h2 h3
theorem pass_step20 {w : Int → Int} {E F : Nat → Int} {n a : Nat} (q : Pass w E n 20 40 a) (h : a + 40 ≤ n) (r : Res w E F a (a + 40)) : Pass w F n 20 40 (a + 40) := by
  have ha := q.al
  refine ⟨by omega, pass_x20 q (Nat.le_refl _) h r, fun i j h1 h2 h3 h4 => ?_, fun i j h1 h2 h3 h4 => ?_, fun i j h1 h2 h3 h4 => ?_⟩
  · by_cases hj : j < a
    · rw [r.out i (by omega), r.out j (by omega)]; exact q.lo i j h1 h2 hj h4
    · exact r.srt i j (by omega) h1 h3
  · rw [r.out i (by omega), r.out j (by omega)]; exact q.hs i j (by omega) h2 h3 h4
  · rw [r.out i (by omega), r.out j (by omega)]; exact q.hx i j (by omega) h2 h3 h4
theorem pass_end20 {w : Int → Int} {E F : Nat → Int} {n a : Nat} (q : Pass w E n 20 40 a) (h : n < a + 40) (hn : a ≤ n) (r : Res w E F a n) : PSt w F n 40 := by
  have ha := q.al
  refine ⟨pass_x20 q (by omega) (Nat.le_refl _) r, fun i j h1 h2 h3 => ?_⟩
  by_cases hj : j < a
  · rw [r.out i (by omega), r.out j (by omega)]; exact q.lo i j h1 h2 hj h3
  · exact r.srt i j (by omega) h1 h2
theorem pass_skip20 {w : Int → Int} {E : Nat → Int} {n a : Nat} (q : Pass w E n 20 40 a) (h : n ≤ a + 20) (_hn : a ≤ n) : PSt w E n 40 := by
  have ha := q.al
  refine ⟨q.X, fun i j h1 h2 h3 => ?_⟩
  by_cases hj : j < a
  · exact q.lo i j h1 h2 hj h3
  · exact q.hs i j (by omega) h1 h2 (by omega)
theorem pass_start40 {w : Int → Int} {E : Nat → Int} {n : Nat} (s : PSt w E n 40) : Pass w E n 40 80 0 :=
  ⟨by omega, fun i j h1 h2 h3 => s.x i j h1 h2 (by omega), fun i j _ _ h => absurd h (Nat.not_lt_zero _), fun i j _ h1 h2 h3 => s.s i j h1 h2 h3, fun i j _ h1 h2 h3 => s.x i j h1 h2 h3⟩
theorem pass_mrg40 {w : Int → Int} {E : Nat → Int} {n a c : Nat} (q : Pass w E n 40 80 a) (h1 : a + 40 < c) (h2 : c ≤ a + 80) (h3 : c ≤ n) : Mrg w E a (a + 40) c := by
  have ha := q.al
  exact ⟨fun i j p1 p2 p3 => q.hs i j p1 p2 (by omega) (by omega), fun i j p1 p2 p3 => q.hs i j (by omega) p2 (by omega) (by omega), fun i j p1 p2 p3 p4 => q.hx i j p1 (by omega) (by omega) (by omega)⟩
theorem pass_x40 {w : Int → Int} {E F : Nat → Int} {n a c : Nat} (q : Pass w E n 40 80 a) (hc : c ≤ a + 80) (_hcn : c ≤ n) (r : Res w E F a c) : ∀ i j, i < j → j < n → i / 80 ≠ j / 80 → F i < F j := fun i j h1 h2 h3 => by
  have ha := q.al
  by_cases hi : a ≤ i ∧ i < c
  · obtain ⟨i', e1, e2, e3⟩ := r.at_ hi.1 hi.2
    rw [e3, r.out j (by omega)]; exact q.X i' j (by omega) h2 (by omega)
  · by_cases hj : a ≤ j ∧ j < c
    · obtain ⟨j', e1, e2, e3⟩ := r.at_ hj.1 hj.2
      rw [e3, r.out i (by omega)]; exact q.X i j' (by omega) (by omega) (by omega)
    · rw [r.out i (by omega), r.out j (by omega)]; exact q.X i j h1 h2 h3
theorem pass_step40 {w : Int → Int} {E F : Nat → Int} {n a : Nat} (q : Pass w E n 40 80 a) (h : a + 80 ≤ n) (r : Res w E F a (a + 80)) : Pass w F n 40 80 (a + 80) := by
  have ha := q.al
  refine ⟨by omega, pass_x40 q (Nat.le_refl _) h r, fun i j h1 h2 h3 h4 => ?_, fun i j h1 h2 h3 h4 => ?_, fun i j h1 h2 h3 h4 => ?_⟩
  · by_cases hj : j < a
    · rw [r.out i (by omega), r.out j (by omega)]; exact q.lo i j h1 h2 hj h4
    · exact r.srt i j (by omega) h1 h3
  · rw [r.out i (by omega), r.out j (by omega)]; exact q.hs i j (by omega) h2 h3 h4
  · rw [r.out i (by omega), r.out j (by omega)]; exact q.hx i j (by omega) h2 h3 h4
theorem pass_end40 {w : Int → Int} {E F : Nat → Int} {n a : Nat} (q : Pass w E n 40 80 a) (h : n < a + 80) (hn : a ≤ n) (r : Res w E F a n) : PSt w F n 80 := by
  have ha := q.al
  refine ⟨pass_x40 q (by omega) (Nat.le_refl _) r, fun i j h1 h2 h3 => ?_⟩
  by_cases hj : j < a
  · rw [r.out i (by omega), r.out j (by omega)]; exact q.lo i j h1 h2 hj h3
  · exact r.srt i j (by omega) h1 h2
theorem pass_skip40 {w : Int → Int} {E : Nat → Int} {n a : Nat} (q : Pass w E n 40 80 a) (h : n ≤ a + 40) (_hn : a ≤ n) : PSt w E n 80 := by
  have ha := q.al
  refine ⟨q.X, fun i j h1 h2 h3 => ?_⟩
  by_cases hj : j < a
  · exact q.lo i j h1 h2 hj h3
  · exact q.hs i j (by omega) h1 h2 (by omega)
theorem pass_start80 {w : Int → Int} {E : Nat → Int} {n : Nat} (s : PSt w E n 80) : Pass w E n 80 160 0 :=
  ⟨by omega, fun i j h1 h2 h3 => s.x i j h1 h2 (by omega), fun i j _ _ h => absurd h (Nat.not_lt_zero _), fun i j _ h1 h2 h3 => s.s i j h1 h2 h3, fun i j _ h1 h2 h3 => s.x i j h1 h2 h3⟩
theorem pass_mrg80 {w : Int → Int} {E : Nat → Int} {n a c : Nat} (q : Pass w E n 80 160 a) (h1 : a + 80 < c) (h2 : c ≤ a + 160) (h3 : c ≤ n) : Mrg w E a (a + 80) c := by
  have ha := q.al
  exact ⟨fun i j p1 p2 p3 => q.hs i j p1 p2 (by omega) (by omega), fun i j p1 p2 p3 => q.hs i j (by omega) p2 (by omega) (by omega), fun i j p1 p2 p3 p4 => q.hx i j p1 (by omega) (by omega) (by omega)⟩
theorem pass_x80 {w : Int → Int} {E F : Nat → Int} {n a c : Nat} (q : Pass w E n 80 160 a) (hc : c ≤ a + 160) (_hcn : c ≤ n) (r : Res w E F a c) : ∀ i j, i < j → j < n → i / 160 ≠ j / 160 → F i < F j := fun i j h1 h2 h3 => by
  have ha := q.al
  by_cases hi : a ≤ i ∧ i < c
  · obtain ⟨i', e1, e2, e3⟩ := r.at_ hi.1 hi.2
    rw [e3, r.out j (by omega)]; exact q.X i' j (by omega) h2 (by omega)
  · by_cases hj : a ≤ j ∧ j < c
    · obtain ⟨j', e1, e2, e3⟩ := r.at_ hj.1 hj.2
      rw [e3, r.out i (by omega)]; exact q.X i j' (by omega) (by omega) (by omega)
    · rw [r.out i (by omega), r.out j (by omega)]; exact q.X i j h1 h2 h3
theorem pass_step80 {w : Int → Int} {E F : Nat → Int} {n a : Nat} (q : Pass w E n 80 160 a) (h : a + 160 ≤ n) (r : Res w E F a (a + 160)) : Pass w F n 80 160 (a + 160) := by
  have ha := q.al
  refine ⟨by omega, pass_x80 q (Nat.le_refl _) h r, fun i j h1 h2 h3 h4 => ?_, fun i j h1 h2 h3 h4 => ?_, fun i j h1 h2 h3 h4 => ?_⟩
  · by_cases hj : j < a
    · rw [r.out i (by omega), r.out j (by omega)]; exact q.lo i j h1 h2 hj h4
    · exact r.srt i j (by omega) h1 h3
  · rw [r.out i (by omega), r.out j (by omega)]; exact q.hs i j (by omega) h2 h3 h4
  · rw [r.out i (by omega), r.out j (by omega)]; exact q.hx i j (by omega) h2 h3 h4
theorem pass_end80 {w : Int → Int} {E F : Nat → Int} {n a : Nat} (q : Pass w E n 80 160 a) (h : n < a + 160) (hn : a ≤ n) (r : Res w E F a n) : PSt w F n 160 := by
  have ha := q.al
  refine ⟨pass_x80 q (by omega) (Nat.le_refl _) r, fun i j h1 h2 h3 => ?_⟩
  by_cases hj : j < a
  · rw [r.out i (by omega), r.out j (by omega)]; exact q.lo i j h1 h2 hj h3
  · exact r.srt i j (by omega) h1 h2
theorem pass_skip80 {w : Int → Int} {E : Nat → Int} {n a : Nat} (q : Pass w E n 80 160 a) (h : n ≤ a + 80) (_hn : a ≤ n) : PSt w E n 160 := by
  have ha := q.al
  refine ⟨q.X, fun i j h1 h2 h3 => ?_⟩
  by_cases hj : j < a
  · exact q.lo i j h1 h2 hj h3
  · exact q.hs i j (by omega) h1 h2 (by omega)
theorem st_asc {w : Int → Int} {E : Nat → Int} {n : Nat} (h : ∀ i j, i < j → j < n → E i < E j) : PSt w E n 1 := ⟨fun i j h1 h2 _ => h i j h1 h2, fun i j h1 h2 h3 => by omega⟩
theorem st_all {w : Int → Int} {E : Nat → Int} {n B : Nat} (s : PSt w E n B) (h : n ≤ B) : SrtI w E 0 n := fun i j _ h1 h2 => s.s i j h1 h2 (by rw [Nat.div_eq_of_lt (by omega), Nat.div_eq_of_lt (by omega)])
end Go.Proofs.YtbkdjlahhcofmaaGreatDoor
namespace Go.Proofs.YtbkdjlahhcofmaaGreatDoor
open Go Go.RowKit Go.Proofs Go.Shelf Go.Ab
theorem sym_all (mm : List Int) (n : Nat) (hn : n ≤ 1000) : ∀ (d : Nat) (D : Nat → Int) (a m b : Nat), b - a ≤ d → a < m → m < b → b ≤ n → Mrg (wI mm) D a m b → (∀ p, a ≤ p → p < b → 0 ≤ D p ∧ D p < mm.length) → symC mm n D a m b
  | 0, D, a, m, b, h, h1, h2, _, _, _ => absurd h (by omega)
  | d + 1, D, a, m, b, h, h1, h2, h3, MG, hr => by
    by_cases c1 : m = a + 1
    · subst c1; exact sym_one mm n hn D a b h2 h3 MG hr
    · by_cases c2 : b = m + 1
      · subst c2; exact sym_last mm n hn D a m (by omega) h3 MG hr
      · exact sym_gen mm n hn D a m b (by omega) (by omega) h3 MG hr fun D' a' m' b' k k1 k2 k3 k4 k5 => sym_all mm n hn d D' a' m' b' (by omega) k1 k2 k3 k4 k5
theorem lst_parts (D : Nat → Int) (a s t : Nat) : lst D (a + (s + t)) = lst D a ++ ((List.range s).map (fun i => D (a + i)) ++ (List.range t).map (fun i => D (a + (s + i)))) := by
  simp [lst, List.range_add, List.map_append, List.map_map, Function.comp_def]
theorem insF (mm : List Int) (n : Nat) (hn : n ≤ 1000) (D : Nat → Int) (a b : Nat) (hab : a ≤ b) (hb : b ≤ n) (asc : ∀ i j, a ≤ i → i < j → j < b → D i < D j) (hr : ∀ p, a ≤ p → p < b → 0 ≤ D p ∧ D p < mm.length) : ∃ E, Res (wI mm) D E a b ∧ SummG Tryz.prog GG 335 [.arr 3 1 n (cellsA (lst D n))] [.ow 0, .f (iv ((a : Nat) : Int)), .f (iv ((b : Nat) : Int)), .f (.fn 188 [.pt [.sl mm.length (intsF mm)] 0])] (.f (.tup [])) [.arr 3 1 n (cellsA (lst E n))] := by
  obtain ⟨s, rfl⟩ : ∃ s, b = a + s := ⟨b - a, by omega⟩
  obtain ⟨t, rfl⟩ : ∃ t, n = a + (s + t) := ⟨n - a - s, by omega⟩
  obtain ⟨seg, hseg⟩ : ∃ seg, seg = (List.range s).map fun i => D (a + i) := ⟨_, rfl⟩
  have hsl : seg.length = s := by rw [hseg]; simp
  have hsm : ∀ z, z ∈ seg ↔ InI D a (a + s) z := fun z => by
    rw [hseg, List.mem_map]
    constructor
    · rintro ⟨i, hi, rfl⟩
      rw [List.mem_range] at hi
      exact ⟨a + i, by omega, by omega, rfl⟩
    · rintro ⟨q, q1, q2, rfl⟩
      exact ⟨q - a, List.mem_range.2 (by omega), by congr 1; omega⟩
  have hpw : seg.Pairwise (· < ·) := by
    rw [hseg]
    exact List.pairwise_map.2 (List.pairwise_lt_range.imp_of_mem fun {x y} hx hy hxy => asc _ _ (by omega) (by omega) (by have := List.mem_range.1 hy; omega))
  have hnd : seg.Nodup := hpw.imp fun h e => by omega
  have hso : (sortO (wI mm) seg).length = s := by rw [sortO_len, hsl]
  have hsr := sortO_sorted (w := (wI mm)) hnd
  have K := insertion_g mm (lst D a) seg ((List.range t).map fun i => D (a + (s + i))) (a + (s + t)) (by rw [lst_len, hsl]; simp; omega) hn hpw (fun z hz => by
    obtain ⟨q, q1, q2, rfl⟩ := (hsm z).1 hz
    exact hr q q1 q2)
  rw [lst_len, hsl] at K
  refine ⟨fun q => if a ≤ q ∧ q < a + s then (sortO (wI mm) seg).getD (q - a) default else D q, ⟨fun i j h1 h2 h3 => ?_, fun q hq => if_neg (by omega), fun z => ?_⟩, ?_⟩
  · try simp only
    rw [if_pos ⟨h1, by omega⟩, if_pos ⟨by omega, h3⟩, getD_at (show i - a < (sortO (wI mm) seg).length by omega), getD_at (show j - a < (sortO (wI mm) seg).length by omega)]
    exact List.pairwise_iff_getElem.1 hsr (i - a) (j - a) (by omega) (by omega) (by omega)
  · rw [← hsm z, ← (sortO_perm (w := (wI mm)) seg).mem_iff]
    constructor
    · rintro ⟨q, q1, q2, rfl⟩
      try simp only
      rw [if_pos ⟨q1, q2⟩, getD_at (show q - a < (sortO (wI mm) seg).length by omega)]
      exact List.getElem_mem _
    · intro hz
      obtain ⟨i, hi, rfl⟩ := List.getElem_of_mem hz
      refine ⟨a + i, by omega, by omega, ?_⟩
      try simp only
      rw [if_pos ⟨by omega, by omega⟩, Nat.add_sub_cancel_left, getD_at hi]
  · have e1 : lst (fun q => if a ≤ q ∧ q < a + s then (sortO (wI mm) seg).getD (q - a) default else D q) (a + (s + t)) = lst D a ++ (sortO (wI mm) seg ++ (List.range t).map fun i => D (a + (s + i))) := by
      rw [lst_parts]
      congr 1
      · unfold lst
        refine List.map_congr_left fun i hi => if_neg (by have := List.mem_range.1 hi; omega)
      · congr 1
        · refine List.ext_getElem (by simp [hso]) fun i h1 h2 => ?_
          have hi : i < s := by simpa using h1
          rw [List.getElem_map, List.getElem_range, if_pos ⟨by omega, by omega⟩, Nat.add_sub_cancel_left, getD_at h2]
        · refine List.map_congr_left fun i _ => if_neg (by omega)
    rw [e1]
    have e2 : lst D (a + (s + t)) = lst D a ++ (seg ++ (List.range t).map fun i => D (a + (s + i))) := by rw [lst_parts, hseg]
    rw [e2]
    exact K
set_option maxRecDepth 100000 in
set_option maxHeartbeats 12800000 in
theorem stable_f (mm : List Int) (n : Nat) (hn : n ≤ 1000) (D : Nat → Int) (h160 : n ≤ 160) (asc : ∀ i j, i < j → j < n → D i < D j) (hr : ∀ p, p < n → 0 ≤ D p ∧ D p < mm.length) (T : List Int) (hT : ∀ E, SrtI (wI mm) E 0 n → Same D E n → lst E n = T) : SummG Tryz.prog GG 265 [.arr 3 1 n (cellsA (lst D n))] [.ow 0, .f (iv ((n : Nat) : Int)), .f (.fn 188 [.pt [.sl mm.length (intsF mm)] 0])] (.f (.tup [])) [.arr 3 1 n (cellsA T)] := by
  refine summG_of Tryz.func265 rfl rfl 63 rfl (by simp) (by simp) (fun i B B' h1 h2 => by
    match i, h1, h2 with
    | 0, h1, h2 => cases h1; cases h2; rfl
    | _ + 1, h1, _ => simp at h1) (fun M X J => ?_)
  repeat (first
    | (apply s_a TY; exact rfl)
    | apply w_seq
    | apply w_region
    | apply s_nil
    | apply t_norm
    | apply w_block)
  apply w_loop (fun q : (Nat → Int) × Nat => ⟨(Ab.upd (Ab.upd (Ab.upd (Ab.upd (Ab.upd (Ab.upd (fun _ => .bot) 0 (.ow 0)) 1 (.f (iv ((n : Nat) : Int)))) 2 (.f (.fn 188 [.pt [.sl mm.length (intsF mm)] 0]))) 6 (.f (iv 20))) 7 (.f (iv ((q.2 : Nat) : Int)))) 8 (.f (iv (((q.2 + 20) : Nat) : Int)))), (Ab.upd (fun _ => none) 0 (some (.arr 3 1 n (cellsA (lst q.1 n))))), 1⟩) (fun q => Pass (wI mm) q.1 n 1 20 q.2 ∧ Same D q.1 n ∧ q.2 ≤ n) (fun q => n - q.2) (D, 0) (⟨pass_start1 (st_asc asc), Same.refl _ _, Nat.zero_le _⟩) (gh_le ⟨le_upd rfl trivial (le_upd rfl trivial (le_upd rfl trivial (le_upd rfl trivial (le_upd rfl trivial (le_upd rfl rfl (le_nil _)))))), le_hupd rfl (cl_arr _) (le_h0 _ _)⟩)
  rintro ⟨E, a⟩ ⟨hp, hsm, ha⟩
  change Pass (wI mm) E n 1 20 a at hp
  change Same D E n at hsm
  change a ≤ n at ha
  change W _ _ _ _ (⟨(Ab.upd (Ab.upd (Ab.upd (Ab.upd (Ab.upd (Ab.upd (fun _ => .bot) 0 (.ow 0)) 1 (.f (iv ((n : Nat) : Int)))) 2 (.f (.fn 188 [.pt [.sl mm.length (intsF mm)] 0]))) 6 (.f (iv 20))) 7 (.f (iv ((a : Nat) : Int)))) 8 (.f (iv (((a + 20) : Nat) : Int)))), (Ab.upd (fun _ => none) 0 (some (.arr 3 1 n (cellsA (lst E n))))), 1⟩)
  have hrE : ∀ p, p < n → 0 ≤ E p ∧ E p < mm.length := fun p hq => by
    obtain ⟨q, q1, q2, q3⟩ := (hsm _).1 ⟨p, Nat.zero_le _, hq, rfl⟩
    rw [← q3]; exact hr q q2
  by_cases hc : a + 20 ≤ n
  · obtain ⟨E2, r, K⟩ := insF mm n hn E a (a + 20) (by omega) hc (fun i j h1 h2 h3 => hp.hx i j h1 h2 (by omega) (by omega)) (fun p _ h2 => hrE p (by omega))
    repeat (first
    | (apply s_callG [0] K; exact rfl; exact rfl; exact rfl; (first | exact ⟨congrArg some (arrA_ren _ _ _).symm, trivial⟩ | exact ⟨congrArg some ((arrA_ren _ _ _).trans (arrA_ren _ _ _).symm), trivial⟩); exact rfl; exact ⟨rfl, rfl⟩)
    | (apply s_a TY; exact rfl)
    | (apply s_t; exact rfl; (first | assumption | omega))
    | apply w_seq
    | apply w_region
    | apply s_nil
    | apply t_norm
    | apply k_norm
    | apply w_block
    | apply w_skip
    | (apply w_condT; exact rfl; exact rfl)
    | (apply s_c TY; exact rfl; omega))
    exact ⟨(E2, a + 20), ⟨pass_step1 hp hc r, hsm.step r hc, hc⟩, by show n - (a + 20) < n - a; omega, gh_le ⟨le_upd (congrArg (fun z : Int => AV.f (iv z)) (by omega)) trivial (le_upd rfl trivial (le_upd rfl trivial (le_upd rfl trivial (le_upd rfl trivial (le_upd rfl rfl (le_nil _)))))), le_hupd (congrArg some (arrA_ren _ _ _)) (cl_arr _) (le_h0 _ _)⟩⟩
  · obtain ⟨E2, r, K⟩ := insF mm n hn E a n ha (Nat.le_refl _) (fun i j h1 h2 h3 => hp.hx i j h1 h2 (by omega) (by omega)) (fun p _ h2 => hrE p h2)
    have hs := pass_end1 hp (by omega) ha r
    have hsm2 := hsm.step r (Nat.le_refl _)
    repeat (first
    | (apply s_callG [0] K; exact rfl; exact rfl; exact rfl; (first | exact ⟨congrArg some (arrA_ren _ _ _).symm, trivial⟩ | exact ⟨congrArg some ((arrA_ren _ _ _).trans (arrA_ren _ _ _).symm), trivial⟩); exact rfl; exact ⟨rfl, rfl⟩)
    | (apply s_a TY; exact rfl)
    | (apply s_f; exact rfl; (first | assumption | omega))
    | apply w_seq
    | apply w_region
    | apply s_nil
    | apply t_norm
    | apply t_exit
    | apply k_hit
    | apply w_block
    | apply w_exit
    | (apply w_condF; exact rfl; exact rfl))
    apply w_loop (fun q : (Nat → Int) × Nat => ⟨(Ab.upd (Ab.upd (Ab.upd (Ab.upd (fun _ => .bot) 0 (.ow 0)) 1 (.f (iv ((n : Nat) : Int)))) 2 (.f (.fn 188 [.pt [.sl mm.length (intsF mm)] 0]))) 6 (.f (iv ((q.2 : Nat) : Int)))), (Ab.upd (fun _ => none) 0 (some (.arr 3 1 n (cellsA (lst q.1 n))))), 1⟩) (fun q => (q.2 = 20 ∨ q.2 = 40 ∨ q.2 = 80 ∨ q.2 = 160) ∧ PSt (wI mm) q.1 n q.2 ∧ Same D q.1 n) (fun q => 200 - q.2) (E2, 20) (⟨.inl rfl, hs, hsm2⟩) (gh_le ⟨le_upd rfl trivial (le_upd rfl trivial (le_upd rfl trivial (le_upd rfl rfl (le_nil _)))), le_hupd (congrArg some (arrA_ren _ _ _)) (cl_arr _) (le_h0 _ _)⟩)
    clear hp hsm ha hrE hc r K hs hsm2 E E2
    rintro ⟨E, b⟩ ⟨hb, hs, hsm⟩
    change b = 20 ∨ b = 40 ∨ b = 80 ∨ b = 160 at hb
    change PSt (wI mm) E n b at hs
    change Same D E n at hsm
    change W _ _ _ _ (⟨(Ab.upd (Ab.upd (Ab.upd (Ab.upd (fun _ => .bot) 0 (.ow 0)) 1 (.f (iv ((n : Nat) : Int)))) 2 (.f (.fn 188 [.pt [.sl mm.length (intsF mm)] 0]))) 6 (.f (iv ((b : Nat) : Int)))), (Ab.upd (fun _ => none) 0 (some (.arr 3 1 n (cellsA (lst E n))))), 1⟩)
    by_cases hbn : b < n
    · rcases hb with rfl | rfl | rfl | rfl
      · repeat (first
    | (apply s_a TY; exact rfl)
    | (apply s_t; exact rfl; (first | assumption | omega))
    | apply w_seq
    | apply w_region
    | apply s_nil
    | apply t_norm
    | apply w_block
    | apply w_skip
    | (apply w_condT; exact rfl; exact rfl)
    | (apply s_c TY; exact rfl; omega))
        apply w_loop (fun q : (Nat → Int) × Nat => ⟨(Ab.upd (Ab.upd (Ab.upd (Ab.upd (Ab.upd (Ab.upd (fun _ => .bot) 0 (.ow 0)) 1 (.f (iv ((n : Nat) : Int)))) 2 (.f (.fn 188 [.pt [.sl mm.length (intsF mm)] 0]))) 6 (.f (iv ((20 : Nat) : Int)))) 7 (.f (iv ((q.2 : Nat) : Int)))) 8 (.f (iv (((q.2 + 40) : Nat) : Int)))), (Ab.upd (fun _ => none) 0 (some (.arr 3 1 n (cellsA (lst q.1 n))))), 1⟩) (fun q => Pass (wI mm) q.1 n 20 40 q.2 ∧ Same D q.1 n ∧ q.2 ≤ n) (fun q => n - q.2) (E, 0) (⟨pass_start20 hs, hsm, Nat.zero_le _⟩) (gh_le ⟨le_upd rfl trivial (le_upd rfl trivial (le_upd rfl trivial (le_upd rfl trivial (le_upd rfl trivial (le_upd rfl rfl (le_nil _)))))), le_hupd rfl (cl_arr _) (le_h0 _ _)⟩)
        rintro ⟨E, a⟩ ⟨hp, hsm, ha⟩
        change Pass (wI mm) E n 20 40 a at hp
        change Same D E n at hsm
        change a ≤ n at ha
        change W _ _ _ _ (⟨(Ab.upd (Ab.upd (Ab.upd (Ab.upd (Ab.upd (Ab.upd (fun _ => .bot) 0 (.ow 0)) 1 (.f (iv ((n : Nat) : Int)))) 2 (.f (.fn 188 [.pt [.sl mm.length (intsF mm)] 0]))) 6 (.f (iv ((20 : Nat) : Int)))) 7 (.f (iv ((a : Nat) : Int)))) 8 (.f (iv (((a + 40) : Nat) : Int)))), (Ab.upd (fun _ => none) 0 (some (.arr 3 1 n (cellsA (lst E n))))), 1⟩)
        have hrE : ∀ p, p < n → 0 ≤ E p ∧ E p < mm.length := fun p hq => by
          obtain ⟨q, q1, q2, q3⟩ := (hsm _).1 ⟨p, Nat.zero_le _, hq, rfl⟩
          rw [← q3]; exact hr q q2
        by_cases hc : a + 40 ≤ n
        · obtain ⟨E2, r, K⟩ := sym_all mm n hn 40 E a (a + 20) (a + 40) (by omega) (by omega) (by omega) hc (pass_mrg20 hp (by omega) (Nat.le_refl _) hc) (fun p _ h2 => hrE p (by omega))
          rw [show ((a + 20 : Nat) : Int) = ((a : Nat) : Int) + ((20 : Nat) : Int) from rfl] at K
          repeat (first
    | (apply s_callG [0] K; exact rfl; exact rfl; exact rfl; (first | exact ⟨congrArg some (arrA_ren _ _ _).symm, trivial⟩ | exact ⟨congrArg some ((arrA_ren _ _ _).trans (arrA_ren _ _ _).symm), trivial⟩); exact rfl; exact ⟨rfl, rfl⟩)
    | (apply s_a TY; exact rfl)
    | (apply s_t; exact rfl; (first | assumption | omega))
    | apply w_seq
    | apply w_region
    | apply s_nil
    | apply t_norm
    | apply k_norm
    | apply w_block
    | apply w_skip
    | (apply w_condT; exact rfl; exact rfl)
    | (apply s_c TY; exact rfl; omega))
          exact ⟨(E2, a + 40), ⟨pass_step20 hp hc r, hsm.step r hc, hc⟩, by show n - (a + 40) < n - a; omega, gh_le ⟨le_upd (congrArg (fun z : Int => AV.f (iv z)) (by omega)) trivial (le_upd rfl trivial (le_upd rfl trivial (le_upd rfl trivial (le_upd rfl trivial (le_upd rfl rfl (le_nil _)))))), le_hupd (congrArg some (arrA_ren _ _ _)) (cl_arr _) (le_h0 _ _)⟩⟩
        · by_cases hm : a + 20 < n
          · obtain ⟨E2, r, K⟩ := sym_all mm n hn 40 E a (a + 20) n (by omega) (by omega) hm (Nat.le_refl _) (pass_mrg20 hp hm (by omega) (Nat.le_refl _)) (fun p _ h2 => hrE p h2)
            rw [show ((a + 20 : Nat) : Int) = ((a : Nat) : Int) + ((20 : Nat) : Int) from rfl] at K
            repeat (first
    | (apply s_callG [0] K; exact rfl; exact rfl; exact rfl; (first | exact ⟨congrArg some (arrA_ren _ _ _).symm, trivial⟩ | exact ⟨congrArg some ((arrA_ren _ _ _).trans (arrA_ren _ _ _).symm), trivial⟩); exact rfl; exact ⟨rfl, rfl⟩)
    | (apply s_a TY; exact rfl)
    | (apply s_t; exact rfl; (first | assumption | omega))
    | (apply s_f; exact rfl; (first | assumption | omega))
    | apply w_seq
    | apply w_region
    | apply s_nil
    | apply t_norm
    | apply t_exit
    | apply k_hit
    | apply k_norm
    | apply w_exit
    | (apply w_condT; exact rfl; exact rfl)
    | (apply w_condF; exact rfl; exact rfl)
    | (apply s_c TY; exact rfl; omega))
            exact ⟨(E2, 40), ⟨by show 40 = 20 ∨ 40 = 40 ∨ 40 = 80 ∨ 40 = 160; omega, pass_end20 hp (by omega) ha r, hsm.step r (Nat.le_refl _)⟩, by show 200 - 40 < 200 - 20; omega, gh_le ⟨le_upd (congrArg (fun z : Int => AV.f (iv z)) (by omega)) trivial (le_upd rfl trivial (le_upd rfl trivial (le_upd rfl rfl (le_nil _)))), le_hupd (congrArg some (arrA_ren _ _ _)) (cl_arr _) (le_h0 _ _)⟩⟩
          · repeat (first
    | (apply s_a TY; exact rfl)
    | (apply s_f; exact rfl; (first | assumption | omega))
    | apply w_seq
    | apply w_region
    | apply s_nil
    | apply t_norm
    | apply t_exit
    | apply k_hit
    | apply k_norm
    | apply w_exit
    | apply w_skip
    | (apply w_condF; exact rfl; exact rfl)
    | (apply s_c TY; exact rfl; omega))
            exact ⟨(E, 40), ⟨by show 40 = 20 ∨ 40 = 40 ∨ 40 = 80 ∨ 40 = 160; omega, pass_skip20 hp (by omega) ha, hsm⟩, by show 200 - 40 < 200 - 20; omega, gh_le ⟨le_upd (congrArg (fun z : Int => AV.f (iv z)) (by omega)) trivial (le_upd rfl trivial (le_upd rfl trivial (le_upd rfl rfl (le_nil _)))), le_hupd rfl (cl_arr _) (le_h0 _ _)⟩⟩
      · repeat (first
    | (apply s_a TY; exact rfl)
    | (apply s_t; exact rfl; (first | assumption | omega))
    | apply w_seq
    | apply w_region
    | apply s_nil
    | apply t_norm
    | apply w_block
    | apply w_skip
    | (apply w_condT; exact rfl; exact rfl)
    | (apply s_c TY; exact rfl; omega))
        apply w_loop (fun q : (Nat → Int) × Nat => ⟨(Ab.upd (Ab.upd (Ab.upd (Ab.upd (Ab.upd (Ab.upd (fun _ => .bot) 0 (.ow 0)) 1 (.f (iv ((n : Nat) : Int)))) 2 (.f (.fn 188 [.pt [.sl mm.length (intsF mm)] 0]))) 6 (.f (iv ((40 : Nat) : Int)))) 7 (.f (iv ((q.2 : Nat) : Int)))) 8 (.f (iv (((q.2 + 80) : Nat) : Int)))), (Ab.upd (fun _ => none) 0 (some (.arr 3 1 n (cellsA (lst q.1 n))))), 1⟩) (fun q => Pass (wI mm) q.1 n 40 80 q.2 ∧ Same D q.1 n ∧ q.2 ≤ n) (fun q => n - q.2) (E, 0) (⟨pass_start40 hs, hsm, Nat.zero_le _⟩) (gh_le ⟨le_upd rfl trivial (le_upd rfl trivial (le_upd rfl trivial (le_upd rfl trivial (le_upd rfl trivial (le_upd rfl rfl (le_nil _)))))), le_hupd rfl (cl_arr _) (le_h0 _ _)⟩)
        rintro ⟨E, a⟩ ⟨hp, hsm, ha⟩
        change Pass (wI mm) E n 40 80 a at hp
        change Same D E n at hsm
        change a ≤ n at ha
        change W _ _ _ _ (⟨(Ab.upd (Ab.upd (Ab.upd (Ab.upd (Ab.upd (Ab.upd (fun _ => .bot) 0 (.ow 0)) 1 (.f (iv ((n : Nat) : Int)))) 2 (.f (.fn 188 [.pt [.sl mm.length (intsF mm)] 0]))) 6 (.f (iv ((40 : Nat) : Int)))) 7 (.f (iv ((a : Nat) : Int)))) 8 (.f (iv (((a + 80) : Nat) : Int)))), (Ab.upd (fun _ => none) 0 (some (.arr 3 1 n (cellsA (lst E n))))), 1⟩)
        have hrE : ∀ p, p < n → 0 ≤ E p ∧ E p < mm.length := fun p hq => by
          obtain ⟨q, q1, q2, q3⟩ := (hsm _).1 ⟨p, Nat.zero_le _, hq, rfl⟩
          rw [← q3]; exact hr q q2
        by_cases hc : a + 80 ≤ n
        · obtain ⟨E2, r, K⟩ := sym_all mm n hn 80 E a (a + 40) (a + 80) (by omega) (by omega) (by omega) hc (pass_mrg40 hp (by omega) (Nat.le_refl _) hc) (fun p _ h2 => hrE p (by omega))
          rw [show ((a + 40 : Nat) : Int) = ((a : Nat) : Int) + ((40 : Nat) : Int) from rfl] at K
          repeat (first
    | (apply s_callG [0] K; exact rfl; exact rfl; exact rfl; (first | exact ⟨congrArg some (arrA_ren _ _ _).symm, trivial⟩ | exact ⟨congrArg some ((arrA_ren _ _ _).trans (arrA_ren _ _ _).symm), trivial⟩); exact rfl; exact ⟨rfl, rfl⟩)
    | (apply s_a TY; exact rfl)
    | (apply s_t; exact rfl; (first | assumption | omega))
    | apply w_seq
    | apply w_region
    | apply s_nil
    | apply t_norm
    | apply k_norm
    | apply w_block
    | apply w_skip
    | (apply w_condT; exact rfl; exact rfl)
    | (apply s_c TY; exact rfl; omega))
          exact ⟨(E2, a + 80), ⟨pass_step40 hp hc r, hsm.step r hc, hc⟩, by show n - (a + 80) < n - a; omega, gh_le ⟨le_upd (congrArg (fun z : Int => AV.f (iv z)) (by omega)) trivial (le_upd rfl trivial (le_upd rfl trivial (le_upd rfl trivial (le_upd rfl trivial (le_upd rfl rfl (le_nil _)))))), le_hupd (congrArg some (arrA_ren _ _ _)) (cl_arr _) (le_h0 _ _)⟩⟩
        · by_cases hm : a + 40 < n
          · obtain ⟨E2, r, K⟩ := sym_all mm n hn 80 E a (a + 40) n (by omega) (by omega) hm (Nat.le_refl _) (pass_mrg40 hp hm (by omega) (Nat.le_refl _)) (fun p _ h2 => hrE p h2)
            rw [show ((a + 40 : Nat) : Int) = ((a : Nat) : Int) + ((40 : Nat) : Int) from rfl] at K
            repeat (first
    | (apply s_callG [0] K; exact rfl; exact rfl; exact rfl; (first | exact ⟨congrArg some (arrA_ren _ _ _).symm, trivial⟩ | exact ⟨congrArg some ((arrA_ren _ _ _).trans (arrA_ren _ _ _).symm), trivial⟩); exact rfl; exact ⟨rfl, rfl⟩)
    | (apply s_a TY; exact rfl)
    | (apply s_t; exact rfl; (first | assumption | omega))
    | (apply s_f; exact rfl; (first | assumption | omega))
    | apply w_seq
    | apply w_region
    | apply s_nil
    | apply t_norm
    | apply t_exit
    | apply k_hit
    | apply k_norm
    | apply w_exit
    | (apply w_condT; exact rfl; exact rfl)
    | (apply w_condF; exact rfl; exact rfl)
    | (apply s_c TY; exact rfl; omega))
            exact ⟨(E2, 80), ⟨by show 80 = 20 ∨ 80 = 40 ∨ 80 = 80 ∨ 80 = 160; omega, pass_end40 hp (by omega) ha r, hsm.step r (Nat.le_refl _)⟩, by show 200 - 80 < 200 - 40; omega, gh_le ⟨le_upd (congrArg (fun z : Int => AV.f (iv z)) (by omega)) trivial (le_upd rfl trivial (le_upd rfl trivial (le_upd rfl rfl (le_nil _)))), le_hupd (congrArg some (arrA_ren _ _ _)) (cl_arr _) (le_h0 _ _)⟩⟩
          · repeat (first
    | (apply s_a TY; exact rfl)
    | (apply s_f; exact rfl; (first | assumption | omega))
    | apply w_seq
    | apply w_region
    | apply s_nil
    | apply t_norm
    | apply t_exit
    | apply k_hit
    | apply k_norm
    | apply w_exit
    | apply w_skip
    | (apply w_condF; exact rfl; exact rfl)
    | (apply s_c TY; exact rfl; omega))
            exact ⟨(E, 80), ⟨by show 80 = 20 ∨ 80 = 40 ∨ 80 = 80 ∨ 80 = 160; omega, pass_skip40 hp (by omega) ha, hsm⟩, by show 200 - 80 < 200 - 40; omega, gh_le ⟨le_upd (congrArg (fun z : Int => AV.f (iv z)) (by omega)) trivial (le_upd rfl trivial (le_upd rfl trivial (le_upd rfl rfl (le_nil _)))), le_hupd rfl (cl_arr _) (le_h0 _ _)⟩⟩
      · repeat (first
    | (apply s_a TY; exact rfl)
    | (apply s_t; exact rfl; (first | assumption | omega))
    | apply w_seq
    | apply w_region
    | apply s_nil
    | apply t_norm
    | apply w_block
    | apply w_skip
    | (apply w_condT; exact rfl; exact rfl)
    | (apply s_c TY; exact rfl; omega))
        apply w_loop (fun q : (Nat → Int) × Nat => ⟨(Ab.upd (Ab.upd (Ab.upd (Ab.upd (Ab.upd (Ab.upd (fun _ => .bot) 0 (.ow 0)) 1 (.f (iv ((n : Nat) : Int)))) 2 (.f (.fn 188 [.pt [.sl mm.length (intsF mm)] 0]))) 6 (.f (iv ((80 : Nat) : Int)))) 7 (.f (iv ((q.2 : Nat) : Int)))) 8 (.f (iv (((q.2 + 160) : Nat) : Int)))), (Ab.upd (fun _ => none) 0 (some (.arr 3 1 n (cellsA (lst q.1 n))))), 1⟩) (fun q => Pass (wI mm) q.1 n 80 160 q.2 ∧ Same D q.1 n ∧ q.2 ≤ n) (fun q => n - q.2) (E, 0) (⟨pass_start80 hs, hsm, Nat.zero_le _⟩) (gh_le ⟨le_upd rfl trivial (le_upd rfl trivial (le_upd rfl trivial (le_upd rfl trivial (le_upd rfl trivial (le_upd rfl rfl (le_nil _)))))), le_hupd rfl (cl_arr _) (le_h0 _ _)⟩)
        rintro ⟨E, a⟩ ⟨hp, hsm, ha⟩
        change Pass (wI mm) E n 80 160 a at hp
        change Same D E n at hsm
        change a ≤ n at ha
        change W _ _ _ _ (⟨(Ab.upd (Ab.upd (Ab.upd (Ab.upd (Ab.upd (Ab.upd (fun _ => .bot) 0 (.ow 0)) 1 (.f (iv ((n : Nat) : Int)))) 2 (.f (.fn 188 [.pt [.sl mm.length (intsF mm)] 0]))) 6 (.f (iv ((80 : Nat) : Int)))) 7 (.f (iv ((a : Nat) : Int)))) 8 (.f (iv (((a + 160) : Nat) : Int)))), (Ab.upd (fun _ => none) 0 (some (.arr 3 1 n (cellsA (lst E n))))), 1⟩)
        have hrE : ∀ p, p < n → 0 ≤ E p ∧ E p < mm.length := fun p hq => by
          obtain ⟨q, q1, q2, q3⟩ := (hsm _).1 ⟨p, Nat.zero_le _, hq, rfl⟩
          rw [← q3]; exact hr q q2
        by_cases hc : a + 160 ≤ n
        · obtain ⟨E2, r, K⟩ := sym_all mm n hn 160 E a (a + 80) (a + 160) (by omega) (by omega) (by omega) hc (pass_mrg80 hp (by omega) (Nat.le_refl _) hc) (fun p _ h2 => hrE p (by omega))
          rw [show ((a + 80 : Nat) : Int) = ((a : Nat) : Int) + ((80 : Nat) : Int) from rfl] at K
          repeat (first
    | (apply s_callG [0] K; exact rfl; exact rfl; exact rfl; (first | exact ⟨congrArg some (arrA_ren _ _ _).symm, trivial⟩ | exact ⟨congrArg some ((arrA_ren _ _ _).trans (arrA_ren _ _ _).symm), trivial⟩); exact rfl; exact ⟨rfl, rfl⟩)
    | (apply s_a TY; exact rfl)
    | (apply s_t; exact rfl; (first | assumption | omega))
    | apply w_seq
    | apply w_region
    | apply s_nil
    | apply t_norm
    | apply k_norm
    | apply w_block
    | apply w_skip
    | (apply w_condT; exact rfl; exact rfl)
    | (apply s_c TY; exact rfl; omega))
          exact ⟨(E2, a + 160), ⟨pass_step80 hp hc r, hsm.step r hc, hc⟩, by show n - (a + 160) < n - a; omega, gh_le ⟨le_upd (congrArg (fun z : Int => AV.f (iv z)) (by omega)) trivial (le_upd rfl trivial (le_upd rfl trivial (le_upd rfl trivial (le_upd rfl trivial (le_upd rfl rfl (le_nil _)))))), le_hupd (congrArg some (arrA_ren _ _ _)) (cl_arr _) (le_h0 _ _)⟩⟩
        · by_cases hm : a + 80 < n
          · obtain ⟨E2, r, K⟩ := sym_all mm n hn 160 E a (a + 80) n (by omega) (by omega) hm (Nat.le_refl _) (pass_mrg80 hp hm (by omega) (Nat.le_refl _)) (fun p _ h2 => hrE p h2)
            rw [show ((a + 80 : Nat) : Int) = ((a : Nat) : Int) + ((80 : Nat) : Int) from rfl] at K
            repeat (first
    | (apply s_callG [0] K; exact rfl; exact rfl; exact rfl; (first | exact ⟨congrArg some (arrA_ren _ _ _).symm, trivial⟩ | exact ⟨congrArg some ((arrA_ren _ _ _).trans (arrA_ren _ _ _).symm), trivial⟩); exact rfl; exact ⟨rfl, rfl⟩)
    | (apply s_a TY; exact rfl)
    | (apply s_t; exact rfl; (first | assumption | omega))
    | (apply s_f; exact rfl; (first | assumption | omega))
    | apply w_seq
    | apply w_region
    | apply s_nil
    | apply t_norm
    | apply t_exit
    | apply k_hit
    | apply k_norm
    | apply w_exit
    | (apply w_condT; exact rfl; exact rfl)
    | (apply w_condF; exact rfl; exact rfl)
    | (apply s_c TY; exact rfl; omega))
            exact ⟨(E2, 160), ⟨by show 160 = 20 ∨ 160 = 40 ∨ 160 = 80 ∨ 160 = 160; omega, pass_end80 hp (by omega) ha r, hsm.step r (Nat.le_refl _)⟩, by show 200 - 160 < 200 - 80; omega, gh_le ⟨le_upd (congrArg (fun z : Int => AV.f (iv z)) (by omega)) trivial (le_upd rfl trivial (le_upd rfl trivial (le_upd rfl rfl (le_nil _)))), le_hupd (congrArg some (arrA_ren _ _ _)) (cl_arr _) (le_h0 _ _)⟩⟩
          · repeat (first
    | (apply s_a TY; exact rfl)
    | (apply s_f; exact rfl; (first | assumption | omega))
    | apply w_seq
    | apply w_region
    | apply s_nil
    | apply t_norm
    | apply t_exit
    | apply k_hit
    | apply k_norm
    | apply w_exit
    | apply w_skip
    | (apply w_condF; exact rfl; exact rfl)
    | (apply s_c TY; exact rfl; omega))
            exact ⟨(E, 160), ⟨by show 160 = 20 ∨ 160 = 40 ∨ 160 = 80 ∨ 160 = 160; omega, pass_skip80 hp (by omega) ha, hsm⟩, by show 200 - 160 < 200 - 80; omega, gh_le ⟨le_upd (congrArg (fun z : Int => AV.f (iv z)) (by omega)) trivial (le_upd rfl trivial (le_upd rfl trivial (le_upd rfl rfl (le_nil _)))), le_hupd rfl (cl_arr _) (le_h0 _ _)⟩⟩
      · omega
    · have hE := hT E (st_all hs (by omega)) hsm
      repeat (first
    | (apply s_a TY; exact rfl)
    | (apply s_f; exact rfl; (first | assumption | omega))
    | apply w_seq
    | apply w_region
    | apply s_nil
    | apply t_norm
    | apply t_exit
    | apply k_hit
    | apply w_exit
    | (apply w_condF; exact rfl; exact rfl))
      exact lvG_norm (L' := [.arr 3 1 n (cellsA T)]) (s := (fun _ => .bot)) (nx := 1) (gh_le ⟨le_nil _, le_hupd (arrEq (by rw [hE])) (cl_arr _) (le_h0 _ _)⟩) (rg0 rfl)
theorem stable_g (mm L : List Int) (hl : L.length ≤ 160) (ha : L.Pairwise (· < ·)) (hm : ∀ z, z ∈ L → 0 ≤ z ∧ z < mm.length) : SummG Tryz.prog GG 265 [.arr 3 1 L.length (cellsA L)] [.ow 0, .f (iv (L.length : Nat)), .f (.fn 188 [.pt [.sl mm.length (intsF mm)] 0])] (.f (.tup [])) [.arr 3 1 L.length (cellsA (sortO (wI mm) L))] := by
  have hnd : L.Nodup := ha.imp fun h e => by omega
  have h := stable_f mm L.length (by omega) (fun q => L.getD q default) hl (fun i j h1 h2 => by
    rw [getD_at (show i < L.length by omega), getD_at h2]
    exact List.pairwise_iff_getElem.1 ha i j (by omega) h2 h1) (fun q hq => by rw [getD_at hq]; exact hm _ (List.getElem_mem hq)) (sortO (wI mm) L) (fun E hE hs => (sortO_of hnd (by
    unfold lst
    exact List.pairwise_map.2 (List.pairwise_lt_range.imp_of_mem fun {x y} hx hy hxy => hE x y (Nat.zero_le _) hxy (List.mem_range.1 hy))) (fun z => by
    have e : z ∈ lst E L.length ↔ InI E 0 L.length z := by
      unfold lst
      rw [List.mem_map]
      exact ⟨fun ⟨i, h1, h2⟩ => ⟨i, Nat.zero_le _, List.mem_range.1 h1, h2⟩, fun ⟨i, _, h1, h2⟩ => ⟨i, List.mem_range.2 h1, h2⟩⟩
    have e2 : z ∈ L ↔ InI (fun q => L.getD q default) 0 L.length z := by
      constructor
      · intro hz
        obtain ⟨i, hi, rfl⟩ := List.getElem_of_mem hz
        exact ⟨i, Nat.zero_le _, hi, getD_at hi⟩
      · rintro ⟨i, _, hi, rfl⟩
        show L.getD i default ∈ L
        rw [getD_at hi]; exact List.getElem_mem hi
    rw [e, hs z, e2])).symm)
  rwa [lst_of] at h
theorem stab_all {m : List Int} (h : m.length ≤ 160) : StabOk m := sortStable_of m (idxL m.length) (stable_g m _ (by rw [idxL_len]; exact h) (idxL_asc _) (fun z hz => idxL_mem.1 hz))
end Go.Proofs.YtbkdjlahhcofmaaGreatDoor
namespace Go.Proofs.YtbkdjlahhcofmaaGreatDoor
open Go Go.RowKit Go.Proofs Go.Shelf Go.Ab
set_option maxRecDepth 100000 in
set_option maxHeartbeats 1600000 in
theorem shown_s : Summ Tryz.prog GG 33 [] (.v (.bool true)) := by
  have H1 := Sky_s
  have H3 := Map_s
  have H4 := RegionOf_of exRs exM 90 exSky exMap (by decide) (stab_few (by decide))
  rw [exReg] at H4
  have H6 := Acts_s
  have H7 := RecipientsOf_ok exRs exSky exActs (by decide) (by decide) exRun 5 (by decide) (by decide) (by decide)
  have hw : (runW exActs exActs.length)[5]'(by rw [runW_len]; decide) = [nAnn, nBob] := by
    have := exRec
    rw [List.getElem?_eq_getElem (by rw [runW_len]; decide)] at this
    exact Option.some.inj this
  rw [hw] at H7
  have HA := Ints_s [1, 2, 5] [1, 2, 5] (by decide) (by decide)
  rw [decide_eq_true rfl] at HA
  have HC := Texts_s [nAnn, nBob] [nAnn, nBob] (by decide) (by decide)
  rw [decide_eq_true rfl] at HC
  refine summW Tryz.func33 rfl rfl 33 rfl (by simp) (fun M0 => ?_)
  repeat (first
    | (apply s_a TY; exact rfl)
    | (apply s_t; exact rfl; (first | assumption | omega))
    | apply w_seq
    | apply w_region
    | apply s_nil
    | apply t_norm
    | apply w_ret
    | (apply s_k (H1); exact rfl)
    | (apply s_k (H3); exact rfl)
    | (apply s_k (H4); exact rfl)
    | (apply s_k (H6); exact rfl)
    | (apply s_k (H7); exact rfl)
    | (apply s_k (HA); exact rfl)
    | (apply s_k (HC); exact rfl))
  exact lv_ret (ret1 rfl (res_tmp rfl))
end Go.Proofs.YtbkdjlahhcofmaaGreatDoor
namespace Go.Proofs.YtbkdjlahhcofmaaGreatDoor
open Go Go.RowKit Go.Proofs Go.Shelf Go.Ab
theorem regV_le (m : List Int) (p : Int) : (regV m p).length ≤ m.length := by
  rw [regV_l]
  unfold regT
  have h := (sw_of m).len
  rw [List.length_take]
  omega
theorem Wt.le {N c k a a' : Nat} {ws : List Int} (h : Wt N c ws k a) (l : a' ≤ a) : Wt N c ws k a' := ⟨h.len, h.each, h.sum, by have := h.low; omega⟩
theorem le_int {l : List Int} {n : Nat} (h : n ≤ l.length) : n ≤ (intsF l).length := by unfold intsF; rw [List.length_map]; exact h
theorem back_loc {t n : Int} (h : 0 ≤ t ∧ t ≤ 999999) : turnedZ (turnedZ t n (-1)) n 1 = t := by
  rw [turned_loc, turned_fix]
  omega
set_option maxRecDepth 100000 in
set_option maxHeartbeats 12800000 in
theorem TopAlertTurning_s (rs : List Int) (pt : Pt) (tk : List Int) (ot : List Sn) : Summ Tryz.prog GS 6 [skF rs, .agg [iv pt.height, iv pt.turn, .sl tk.length (intsF tk), .sl ot.length (snsF ot)]] (.v (.bool true)) := by
  have HA := up shown_s
  by_cases h8 : rs.length ≤ 8
  case neg =>
    refine summW Tryz.func6 rfl rfl 366 rfl (by simp) (fun M0 => ?_)
    repeat (first
    | (apply s_a TY; exact rfl)
    | (apply s_t; exact rfl; (first | assumption | omega))
    | apply w_seq
    | apply w_region
    | apply s_nil
    | apply t_norm
    | apply t_ret
    | apply w_ret
    | apply w_skip
    | (apply w_condT; exact rfl; exact rfl)
    | (apply w_condF; exact rfl; exact rfl)
    | (apply s_k (HA); exact rfl)
    | (apply s_s; exact rfl))
    exact lv_ret (ret1 rfl (res_tmp rfl))
  have HS := up (SkyErr_s rs (by omega))
  by_cases he : (skyChk rs).2 = 0
  case neg =>
    refine summW Tryz.func6 rfl rfl 366 rfl (by simp) (fun M0 => ?_)
    repeat (first
    | (apply s_a TY; exact rfl)
    | (apply s_f; exact rfl; (first | assumption | omega))
    | apply w_seq
    | apply w_region
    | apply s_nil
    | apply t_norm
    | apply t_ret
    | apply w_ret
    | apply w_skip
    | (apply w_condT; exact rfl; exact rfl)
    | (apply w_condF; exact rfl; exact rfl)
    | (apply s_k (HA); exact rfl)
    | (apply s_k (HS); exact rfl)
    | (apply s_s; exact rfl))
    exact lv_ret (ret1 rfl (res_tmp rfl))
  have o := skyOk_of he
  rw [he] at HS
  have HP := up (rPointErr_s pt)
  by_cases op : PtOk pt
  case neg =>
    have e2 := ptE_2 (p := pt) (fun h => op ⟨h.1, h.2⟩)
    rw [e2] at HP
    refine summW Tryz.func6 rfl rfl 366 rfl (by simp) (fun M0 => ?_)
    repeat (first
    | (apply s_a TY; exact rfl)
    | (apply s_t; exact rfl; (first | assumption | omega))
    | (apply s_f; exact rfl; (first | assumption | omega))
    | apply w_seq
    | apply w_region
    | apply s_nil
    | apply t_norm
    | apply t_ret
    | apply w_ret
    | apply w_skip
    | (apply w_condT; exact rfl; exact rfl)
    | (apply w_condF; exact rfl; exact rfl)
    | (apply s_k (HA); exact rfl)
    | (apply s_k (HS); exact rfl)
    | (apply s_k (HP); exact rfl)
    | (apply s_s; exact rfl))
    exact lv_ret (ret1 rfl (res_tmp rfl))
  rw [ptE_0 ⟨op.h, op.t⟩] at HP
  by_cases ht0 : tk.length = 0
  case pos =>
    refine summW Tryz.func6 rfl rfl 366 rfl (by simp) (fun M0 => ?_)
    repeat (first
    | (apply s_a TY; exact rfl)
    | (apply s_t; exact rfl; (first | assumption | omega))
    | (apply s_f; exact rfl; (first | assumption | omega))
    | apply w_seq
    | apply w_region
    | apply s_nil
    | apply t_norm
    | apply t_ret
    | apply w_ret
    | apply w_skip
    | (apply w_condT; exact rfl; exact rfl)
    | (apply w_condF; exact rfl; exact rfl)
    | (apply s_k (HA); exact rfl)
    | (apply s_k (HS); exact rfl)
    | (apply s_k (HP); exact rfl)
    | (apply s_s; exact rfl))
    exact lv_ret (ret1 rfl (res_tmp rfl))
  by_cases ht : tk.length ≤ 10
  case neg =>
    refine summW Tryz.func6 rfl rfl 366 rfl (by simp) (fun M0 => ?_)
    repeat (first
    | (apply s_a TY; exact rfl)
    | (apply s_t; exact rfl; (first | assumption | omega))
    | (apply s_f; exact rfl; (first | assumption | omega))
    | apply w_seq
    | apply w_region
    | apply s_nil
    | apply t_norm
    | apply t_ret
    | apply w_ret
    | apply w_skip
    | (apply w_condT; exact rfl; exact rfl)
    | (apply w_condF; exact rfl; exact rfl)
    | (apply s_k (HA); exact rfl)
    | (apply s_k (HS); exact rfl)
    | (apply s_k (HP); exact rfl)
    | (apply s_s; exact rfl))
    exact lv_ret (ret1 rfl (res_tmp rfl))
  by_cases ho : ot.length ≤ 5
  case neg =>
    refine summW Tryz.func6 rfl rfl 366 rfl (by simp) (fun M0 => ?_)
    repeat (first
    | (apply s_a TY; exact rfl)
    | (apply s_t; exact rfl; (first | assumption | omega))
    | (apply s_f; exact rfl; (first | assumption | omega))
    | apply w_seq
    | apply w_region
    | apply s_nil
    | apply t_norm
    | apply t_ret
    | apply w_ret
    | apply w_skip
    | (apply w_condT; exact rfl; exact rfl)
    | (apply w_condF; exact rfl; exact rfl)
    | (apply s_k (HA); exact rfl)
    | (apply s_k (HS); exact rfl)
    | (apply s_k (HP); exact rfl))
    exact lv_ret (ret1 rfl (res_tmp rfl))
  have HN := up (Count_s rs o)
  have HCp := up (CopySky_s rs (by omega))
  have H1 := up (CellOf_ok rs pt o ⟨op.h, op.t⟩)
  obtain ⟨z1, z2, z3⟩ := cellZ_at o op.h.2 (t := pt.turn) (by have := op.t; omega)
  have hbl := befK_bd o (Nat.le_refl rs.length)
  have hpos := o.pos
  have hlen := o.len
  obtain ⟨N, hN⟩ : ∃ N : Nat, (N : Int) = befK rs rs.length := ⟨(befK rs rs.length).toNat, by omega⟩
  obtain ⟨c, hc⟩ : ∃ c : Nat, (c : Int) = cellZ rs pt.height pt.turn := ⟨(cellZ rs pt.height pt.turn).toNat, by omega⟩
  rw [← hc] at H1
  rw [← hN] at HN
  have hcN : c < N := by omega
  have HB := up (bwithin_T (c : Int) 0 ((N : Int) - 1) ⟨by omega, by omega⟩)
  refine summW Tryz.func6 rfl rfl 366 rfl (by simp) (fun M0 => ?_)
  repeat (first
    | (apply s_a TY; exact rfl)
    | (apply s_buildO TY; exact rfl; exact rfl; exact rfl; exact rfl; exact rfl; exact rfl)
    | (apply s_t; exact rfl; (first | assumption | omega))
    | (apply s_f; exact rfl; (first | assumption | omega))
    | apply w_seq
    | apply w_region
    | (apply w_draw (id := 7) 9 rfl (by kernel_rfl))
    | apply s_nil
    | apply t_norm
    | apply w_block
    | apply w_skip
    | (apply w_condF; exact rfl; exact rfl)
    | (apply s_k (HA); exact rfl)
    | (apply s_k (HS); exact rfl)
    | (apply s_k (HP); exact rfl)
    | (apply s_k (HN); exact rfl)
    | (apply s_k (HCp); exact rfl)
    | (apply s_k (H1); exact rfl)
    | (apply s_k (HB); exact rfl)
    | (apply s_c TY; exact rfl; (first | omega | exact ⟨by omega, by (first | with_reducible assumption | ((with_reducible apply intsF_ne); omega) | ((with_reducible apply snsF_ne); omega) | assumption)⟩))
    | (apply s_alloc TY; exact rfl; exact rfl; exact rfl)
    | (apply s_store TY; exact rfl; exact rfl; exact rfl; exact rfl; exact rfl; exact rfl)
    | (apply s_make TY; exact rfl; exact rfl; exact rfl; exact rfl; exact rfl; exact rfl; omega; omega; omega; omega))
  apply w_gh (gh_own 9 144 2 rfl rfl)
  apply w_loop (fun q : Nat × List Int => ⟨(Ab.upd (Ab.upd (Ab.upd (Ab.upd (Ab.upd (Ab.upd (Ab.upd (fun _ => .bot) 2 (.f (.pt [.sl rs.length (intsF rs)] 0))) 3 (.f (.pt [iv pt.height, iv pt.turn, .sl tk.length (intsF tk), .sl ot.length (snsF ot)] 0))) 5 (.f (iv ((N : Nat) : Int)))) 6 (.bx 1 0)) 7 (.f (iv ((c : Nat) : Int)))) 9 (.ow 2)) 10 (.f (iv ((q.1 : Nat) : Int)))), (Ab.upd (Ab.upd (Ab.upd (fun _ => none) 0 (some (.row 3 1 N (intsF q.2)))) 1 (some (.box [.ow 0]))) 2 (some (.row 144 2 (evsC (c : Int) tk q.1).length (aevsF (evsC (c : Int) tk q.1))))), 3⟩) (fun q => q.1 ≤ tk.length ∧ Wt N c q.2 q.1 q.1 ∧ ∀ t, t ∈ tk.take q.1 → 0 ≤ t ∧ t ≤ 1000000000000) (fun q => tk.length - q.1) (0, List.replicate N 0) ⟨Nat.zero_le _, Wt.zero N c, fun t h => by simp at h⟩ (gh_le ⟨le_upd rfl trivial (le_upd rfl rfl (le_upd rfl trivial (le_upd rfl rfl (le_upd rfl trivial (le_upd rfl trivial (le_upd rfl trivial (le_nil _))))))), le_hupd rfl trivial (le_hupd rfl (fun y hy => by simp at hy; subst hy; first | trivial | rfl) (le_hupd (ints_init N) trivial (le_h0 _ _)))⟩)
  rintro ⟨i, ws⟩ ⟨hi, hw, hv⟩
  change i ≤ tk.length at hi
  change Wt N c ws i i at hw
  change ∀ t, t ∈ tk.take i → _ at hv
  change W _ _ _ _ (⟨(Ab.upd (Ab.upd (Ab.upd (Ab.upd (Ab.upd (Ab.upd (Ab.upd (fun _ => .bot) 2 (.f (.pt [.sl rs.length (intsF rs)] 0))) 3 (.f (.pt [iv pt.height, iv pt.turn, .sl tk.length (intsF tk), .sl ot.length (snsF ot)] 0))) 5 (.f (iv ((N : Nat) : Int)))) 6 (.bx 1 0)) 7 (.f (iv ((c : Nat) : Int)))) 9 (.ow 2)) 10 (.f (iv ((i : Nat) : Int)))), (Ab.upd (Ab.upd (Ab.upd (fun _ => none) 0 (some (.row 3 1 N (intsF ws)))) 1 (some (.box [.ow 0]))) 2 (some (.row 144 2 (evsC (c : Int) tk i).length (aevsF (evsC (c : Int) tk i))))), 3⟩)
  have hwl := hw.len
  have hel := evsC_len (c := (c : Int)) (tk := tk) (i := i) hi
  by_cases hic : i < tk.length
  · have hg := getD_at hic
    have HT := up (rTickErr_s tk[i])
    by_cases hti : 0 ≤ tk[i] ∧ tk[i] ≤ 1000000000000
    case neg =>
      rw [tickE_2 hti] at HT
      repeat (first
    | (apply s_a TY; exact rfl)
    | (apply s_t; exact rfl; (first | assumption | omega))
    | (apply s_f; exact rfl; (first | assumption | omega))
    | apply w_seq
    | apply w_region
    | apply s_nil
    | apply t_norm
    | apply t_ret
    | apply k_ret
    | apply w_block
    | apply w_ret
    | apply w_skip
    | (apply w_condT; exact rfl; exact rfl)
    | (apply s_k (HT); exact rfl)
    | (apply s_c TY; exact rfl; (first | omega | exact ⟨by omega, by (first | with_reducible assumption | ((with_reducible apply intsF_ne); omega) | ((with_reducible apply snsF_ne); omega) | assumption)⟩))
    | (apply s_l TY; exact rfl; (first | exact rfl | with_reducible assumption | ((with_reducible apply intsF_at); omega) | ((with_reducible apply snsF_f0); omega) | ((with_reducible apply snsF_f1); omega) | ((with_reducible apply snsF_f2); omega) | assumption)))
      exact lv_ret (ret1 rfl (res_tmp rfl))
    rw [tickE_0 hti] at HT
    have HL := up (LocalOf_ok pt tk[i] op hti)
    have hbk := back_loc (t := pt.turn) (n := tk[i]) op.t
    have hbd := turned_bd pt.turn tk[i] (-1)
    generalize turnedZ pt.turn tk[i] (-1) = loc at *
    change Summ _ _ _ _ (.tup [.agg [iv pt.height, iv loc], iv 0]) at HL
    have opL : PtOk ⟨pt.height, loc⟩ := ⟨op.h, by show 0 ≤ loc ∧ loc ≤ 999999; omega⟩
    have HPL := up (rPointErr_s ⟨pt.height, loc⟩)
    rw [ptE_0 ⟨opL.h, opL.t⟩] at HPL
    have HF := up (FixedOf_ok ⟨pt.height, loc⟩ tk[i] opL hti)
    rw [show turnedZ (Pt.turn ⟨pt.height, loc⟩) tk[i] 1 = pt.turn from hbk] at HF
    change Summ _ _ _ _ (.tup [.agg [iv pt.height, iv pt.turn], iv 0]) at HF
    have hwc := hw.each c hcN
    rw [getD_at (show c < ws.length by omega)] at hwc
    have hat : (intsF ws)[c * 1]? = some (iv ws[c]) := intsF_at (by omega)
    repeat (first
    | (apply s_bind; exact rfl; exact rfl; exact rfl; exact rfl; exact rfl; exact rfl; exact neI (c := false) (decide_eq_true rfl))
    | (apply s_append TY; exact rfl; exact rfl; exact rfl; exact rfl; exact rfl; exact rfl; exact rfl; exact rfl; exact rfl; (unfold maxLen; omega); omega)
    | (apply s_a TY; exact rfl)
    | (apply s_t; exact rfl; (first | assumption | omega))
    | apply w_seq
    | apply w_region
    | (apply w_draw1 (id := 16) 12 rfl (by kernel_rfl); exact rfl; kernel_rfl)
    | (apply s_allocB TY (d := some 11); exact rfl; exact rfl; exact rfl)
    | (apply s_sto TY; exact rfl; exact rfl; exact rfl; exact rfl; exact rfl; exact rfl; exact rfl)
    | (apply w_draw1 (id := 19) 11 rfl (by kernel_rfl); exact rfl; kernel_rfl)
    | (apply s_allocB TY (d := some 13); exact rfl; exact rfl; exact rfl)
    | (apply w_draw (id := 20) 8 rfl (by kernel_rfl))
    | (apply w_draw (id := 24) 9 rfl (by kernel_rfl))
    | apply s_nil
    | apply t_norm
    | apply k_norm
    | apply w_block
    | apply w_skip
    | (apply w_condT; exact rfl; exact rfl)
    | (apply w_condF; exact rfl; exact rfl)
    | (apply s_k (HT); exact rfl)
    | (apply s_k (HL); exact rfl)
    | (apply s_k (HPL); exact rfl)
    | (apply s_k (HF); exact rfl)
    | (apply s_k (HCp); exact rfl)
    | (apply s_k (H1); exact rfl)
    | (apply s_c TY; exact rfl; (first | omega | exact ⟨by omega, by (first | with_reducible assumption | ((with_reducible apply intsF_ne); omega) | ((with_reducible apply snsF_ne); omega) | assumption)⟩))
    | (apply s_l TY; exact rfl; (first | exact rfl | with_reducible assumption | ((with_reducible apply intsF_at); omega) | ((with_reducible apply snsF_f0); omega) | ((with_reducible apply snsF_f1); omega) | ((with_reducible apply snsF_f2); omega) | assumption))
    | (apply s_r TY; exact rfl; (first | exact rfl | with_reducible assumption | ((with_reducible apply intsF_at); omega) | ((with_reducible apply snsF_f0); omega) | ((with_reducible apply snsF_f1); omega) | ((with_reducible apply snsF_f2); omega) | assumption))
    | (apply s_storeR TY; exact rfl; exact rfl; exact rfl; exact rfl; exact rfl; (first | exact rfl | ((repeat apply le_set); (first | apply le_int | apply le_ini); show _ + 1 ≤ _; omega))))
    have hst := hw.step hcN
    rw [if_pos rfl, getD_at (show c < ws.length by omega)] at hst
    have hrow : some (Blk.row 3 1 N ((intsF ws).set (c * 1) (iv (ws[c] + 1)))) = some (Blk.row 3 1 N (intsF (ws.set c (ws[c] + 1)))) := by rw [Nat.mul_one, intsF_set]
    have hev : some (Blk.row 144 2 ((evsC (c : Int) tk i).length + 1) (aevsF (evsC (c : Int) tk i) ++ [iv tk[i], iv (c : Int)])) = some (Blk.row 144 2 (evsC (c : Int) tk (i + 1)).length (aevsF (evsC (c : Int) tk (i + 1)))) := by rw [evsC_succ hic, aevsF_snoc, List.length_append]; rfl
    exact ⟨(i + 1, ws.set c (ws[c] + 1)), ⟨hic, hst, fun t ht2 => by
      rw [List.take_succ_eq_append_getElem hic] at ht2
      rcases List.mem_append.1 ht2 with h | h
      · exact hv t h
      · rw [List.mem_singleton] at h; subst h; exact hti⟩, by show tk.length - (i + 1) < tk.length - i; omega, gh_le ⟨le_upd rfl trivial (le_upd rfl rfl (le_upd rfl trivial (le_upd rfl rfl (le_upd rfl trivial (le_upd rfl trivial (le_upd rfl trivial (le_nil _))))))), le_hupd hev trivial (le_hupd rfl (fun y hy => by simp at hy; subst hy; first | trivial | rfl) (le_hupd hrow trivial (le_h0 _ _)))⟩⟩
  have hil : i = tk.length := by omega
  subst hil
  rw [List.take_length] at hv
  have hE0 : (0 : Int) ≤ c ∧ (c : Int) ≤ befK rs rs.length - 1 := by omega
  have hEv := evsC_ok (n := befK rs rs.length) (c := (c : Int)) (tk := tk) (by omega) hv hE0
  have hco := coin_one (rs := rs) (c := (c : Int)) hv
  have hCE := up (CopyEvents_s (evsC (c : Int) tk tk.length) (by omega))
  have hCo := up (Coinciding_ok rs (evsC (c : Int) tk tk.length) (evsC (c : Int) tk tk.length) 1000000000000 o hEv hEv (by decide))
  generalize allP (coinQ rs 1000000000000 (evsC (c : Int) tk tk.length) (evsC (c : Int) tk tk.length)) (evsC (c : Int) tk tk.length).length (evsC (c : Int) tk tk.length).length = PL at *
  generalize evsC (c : Int) tk tk.length = E at *
  have hmul : (PL.length : Int) = (E.length : Int) * (E.length : Int) := by rw [hco, hel, Int.natCast_mul]
  have hmb := mul_nn (a := (E.length : Int)) (A := 10) (b := (E.length : Int)) (B := 10) (by omega) (by omega)
  apply w_gh (gh_row 2 rfl)
  repeat (first
    | (apply s_a TY; exact rfl)
    | (apply s_t; exact rfl; (first | assumption | omega))
    | (apply s_f; exact rfl; (first | assumption | omega))
    | apply w_seq
    | apply w_region
    | apply s_nil
    | apply t_norm
    | apply t_exit
    | apply k_hit
    | apply w_block
    | apply w_exit
    | apply w_skip
    | (apply w_condF; exact rfl; exact rfl)
    | (apply s_k (HCp); exact rfl)
    | (apply s_k (hCE); exact rfl)
    | (apply s_k (hCo); exact rfl)
    | (apply s_c TY; exact rfl; (first | omega | exact ⟨by omega, by (first | with_reducible assumption | ((with_reducible apply intsF_ne); omega) | ((with_reducible apply snsF_ne); omega) | assumption)⟩)))
  apply w_loop (fun q : Nat × List Int => ⟨(Ab.upd (Ab.upd (Ab.upd (Ab.upd (Ab.upd (Ab.upd (fun _ => .bot) 2 (.f (.pt [.sl rs.length (intsF rs)] 0))) 3 (.f (.pt [iv pt.height, iv pt.turn, .sl tk.length (intsF tk), .sl ot.length (snsF ot)] 0))) 5 (.f (iv ((N : Nat) : Int)))) 6 (.bx 1 0)) 7 (.f (iv ((c : Nat) : Int)))) 19 (.f (iv ((q.1 : Nat) : Int)))), (Ab.upd (Ab.upd (fun _ => none) 0 (some (.row 3 1 N (intsF q.2)))) 1 (some (.box [.ow 0]))), 2⟩) (fun q => q.1 ≤ ot.length ∧ Wt N c q.2 (tk.length + q.1) tk.length) (fun q => ot.length - q.1) (0, ws) ⟨Nat.zero_le _, hw⟩ (gh_le ⟨le_upd rfl trivial (le_upd rfl trivial (le_upd rfl rfl (le_upd rfl trivial (le_upd rfl trivial (le_upd rfl trivial (le_nil _)))))), le_hupd rfl (fun y hy => by simp at hy; subst hy; first | trivial | rfl) (le_hupd rfl trivial (le_h0 _ _))⟩)
  clear hw hwl
  rintro ⟨i, ws⟩ ⟨hi2, hw⟩
  change i ≤ ot.length at hi2
  change Wt N c ws (tk.length + i) tk.length at hw
  change W _ _ _ _ (⟨(Ab.upd (Ab.upd (Ab.upd (Ab.upd (Ab.upd (Ab.upd (fun _ => .bot) 2 (.f (.pt [.sl rs.length (intsF rs)] 0))) 3 (.f (.pt [iv pt.height, iv pt.turn, .sl tk.length (intsF tk), .sl ot.length (snsF ot)] 0))) 5 (.f (iv ((N : Nat) : Int)))) 6 (.bx 1 0)) 7 (.f (iv ((c : Nat) : Int)))) 19 (.f (iv ((i : Nat) : Int)))), (Ab.upd (Ab.upd (fun _ => none) 0 (some (.row 3 1 N (intsF ws)))) 1 (some (.box [.ow 0]))), 2⟩)
  have hwl := hw.len
  by_cases hic : i < ot.length
  · have HPL := up (rPointErr_s ot[i].pt)
    by_cases opi : PtOk ot[i].pt
    case neg =>
      have e2 := ptE_2 (p := ot[i].pt) (fun h => opi ⟨h.1, h.2⟩)
      rw [e2] at HPL
      repeat (first
    | (apply s_a TY; exact rfl)
    | (apply s_t; exact rfl; (first | assumption | omega))
    | (apply s_f; exact rfl; (first | assumption | omega))
    | apply w_seq
    | apply w_region
    | apply s_nil
    | apply t_norm
    | apply t_ret
    | apply k_ret
    | apply w_block
    | apply w_ret
    | apply w_skip
    | (apply w_condT; exact rfl; exact rfl)
    | (apply s_k (HPL); exact rfl)
    | (apply s_s; exact rfl)
    | (apply s_c TY; exact rfl; (first | omega | exact ⟨by omega, by (first | with_reducible assumption | ((with_reducible apply intsF_ne); omega) | ((with_reducible apply snsF_ne); omega) | assumption)⟩))
    | (apply s_m TY; exact rfl; (first | with_reducible assumption | ((with_reducible apply snsF_sub); omega) | exact rfl); exact rfl)
    | (apply s_alloc TY; exact rfl; exact rfl; exact rfl)
    | (apply s_store TY; exact rfl; exact rfl; exact rfl; exact rfl; exact rfl; exact rfl))
      exact lv_ret (ret1 rfl (res_tmp rfl))
    rw [ptE_0 ⟨opi.h, opi.t⟩] at HPL
    have HT := up (rTickErr_s ot[i].tick)
    by_cases hti : 0 ≤ ot[i].tick ∧ ot[i].tick ≤ 1000000000000
    case neg =>
      rw [tickE_2 hti] at HT
      repeat (first
    | (apply s_a TY; exact rfl)
    | (apply s_t; exact rfl; (first | assumption | omega))
    | (apply s_f; exact rfl; (first | assumption | omega))
    | apply w_seq
    | apply w_region
    | apply s_nil
    | apply t_norm
    | apply t_ret
    | apply k_ret
    | apply w_block
    | apply w_ret
    | apply w_skip
    | (apply w_condT; exact rfl; exact rfl)
    | (apply s_k (HPL); exact rfl)
    | (apply s_k (HT); exact rfl)
    | (apply s_c TY; exact rfl; (first | omega | exact ⟨by omega, by (first | with_reducible assumption | ((with_reducible apply intsF_ne); omega) | ((with_reducible apply snsF_ne); omega) | assumption)⟩))
    | (apply s_m TY; exact rfl; (first | with_reducible assumption | ((with_reducible apply snsF_sub); omega) | exact rfl); exact rfl)
    | (apply s_alloc TY; exact rfl; exact rfl; exact rfl)
    | (apply s_store TY; exact rfl; exact rfl; exact rfl; exact rfl; exact rfl; exact rfl))
      exact lv_ret (ret1 rfl (res_tmp rfl))
    rw [tickE_0 hti] at HT
    have HF := up (FixedOf_ok ot[i].pt ot[i].tick opi hti)
    have hbd := turned_bd ot[i].pt.turn ot[i].tick 1
    generalize turnedZ ot[i].pt.turn ot[i].tick 1 = fix at *
    change Summ _ _ _ _ (.tup [.agg [iv ot[i].pt.height, iv fix], iv 0]) at HF
    have opF : PtOk ⟨ot[i].pt.height, fix⟩ := ⟨opi.h, by show 0 ≤ fix ∧ fix ≤ 999999; omega⟩
    have HC2 := up (CellOf_ok rs ⟨ot[i].pt.height, fix⟩ o ⟨opF.h, opF.t⟩)
    obtain ⟨y1, y2, y3⟩ := cellZ_at o opi.h.2 (t := fix) (by omega)
    obtain ⟨d, hd⟩ : ∃ d : Nat, (d : Int) = cellZ rs ot[i].pt.height fix := ⟨(cellZ rs ot[i].pt.height fix).toNat, by omega⟩
    change Summ _ _ _ _ (.tup [iv (cellZ rs ot[i].pt.height fix), iv 0]) at HC2
    rw [← hd] at HC2
    have hdN : d < N := by omega
    have HB2 := up (bwithin_T (d : Int) 0 ((N : Int) - 1) ⟨by omega, by omega⟩)
    have hwc := hw.each d hdN
    rw [getD_at (show d < ws.length by omega)] at hwc
    have hat : (intsF ws)[d * 1]? = some (iv ws[d]) := intsF_at (by omega)
    repeat (first
    | (apply s_a TY; exact rfl)
    | (apply s_t; exact rfl; (first | assumption | omega))
    | apply w_seq
    | apply w_region
    | (apply w_draw (id := 35) 8 rfl (by kernel_rfl))
    | (apply w_draw (id := 38) 9 rfl (by kernel_rfl))
    | apply s_nil
    | apply t_norm
    | apply k_norm
    | apply w_block
    | apply w_skip
    | (apply w_condT; exact rfl; exact rfl)
    | (apply w_condF; exact rfl; exact rfl)
    | (apply s_k (HPL); exact rfl)
    | (apply s_k (HT); exact rfl)
    | (apply s_k (HF); exact rfl)
    | (apply s_k (HCp); exact rfl)
    | (apply s_k (HC2); exact rfl)
    | (apply s_k (HB2); exact rfl)
    | (apply s_c TY; exact rfl; (first | omega | exact ⟨by omega, by (first | with_reducible assumption | ((with_reducible apply intsF_ne); omega) | ((with_reducible apply snsF_ne); omega) | assumption)⟩))
    | (apply s_m TY; exact rfl; (first | with_reducible assumption | ((with_reducible apply snsF_sub); omega) | exact rfl); exact rfl)
    | (apply s_r TY; exact rfl; (first | exact rfl | with_reducible assumption | ((with_reducible apply intsF_at); omega) | ((with_reducible apply snsF_f0); omega) | ((with_reducible apply snsF_f1); omega) | ((with_reducible apply snsF_f2); omega) | assumption))
    | (apply s_alloc TY; exact rfl; exact rfl; exact rfl)
    | (apply s_store TY; exact rfl; exact rfl; exact rfl; exact rfl; exact rfl; exact rfl)
    | (apply s_storeR TY; exact rfl; exact rfl; exact rfl; exact rfl; exact rfl; (first | exact rfl | ((repeat apply le_set); (first | apply le_int | apply le_ini); show _ + 1 ≤ _; omega))))
    have hst := hw.step hdN
    rw [getD_at (show d < ws.length by omega)] at hst
    have hst2 := hst.le (a' := tk.length) (by split <;> omega)
    have hrow : some (Blk.row 3 1 N ((intsF ws).set (d * 1) (iv (ws[d] + 1)))) = some (Blk.row 3 1 N (intsF (ws.set d (ws[d] + 1)))) := by rw [Nat.mul_one, intsF_set]
    exact ⟨(i + 1, ws.set d (ws[d] + 1)), ⟨hic, hst2⟩, by show ot.length - (i + 1) < ot.length - i; omega, gh_le ⟨le_upd rfl trivial (le_upd rfl trivial (le_upd rfl rfl (le_upd rfl trivial (le_upd rfl trivial (le_upd rfl trivial (le_nil _)))))), le_hupd rfl (fun y hy => by simp at hy; subst hy; first | trivial | rfl) (le_hupd hrow trivial (le_h0 _ _))⟩⟩
  have hil : i = ot.length := by omega
  subst hil
  have hR1 := regV_le ws 100
  have om : MapOk (befK rs rs.length) ws := by rw [← hN]; exact hw.ok hcN (by omega) (by omega)
  subst hwl
  have hne : ws ≠ [] := fun e => by rw [e] at hcN; simp at hcN
  have hr := hw.i64 (by omega)
  have hi64 : I64 ws := fun z hz => by have := hr z hz; omega
  have hwl2 := wordsS_len hi64
  have HCm := up (CopyMap_s ws (by omega))
  have HFm := FormatMap_s ws (by omega) hi64
  have HPm := ParseMap_s (wordsS ws) (by omega)
  rw [mapR_eq, map_again hne (fun z hz => by have := hr z hz; omega)] at HPm
  change Summ _ _ _ _ (.tup [skF ws, iv 0]) at HPm
  have HI := up (Ints_s ws ws (by omega) (by omega))
  rw [decide_eq_true rfl] at HI
  have HR := up (RegionOf_of rs ws 100 o om (by decide) (stab_all (by omega)))
  apply w_gh (gh_row 0 rfl)
  apply w_gh (gh_box 1 (cs := [.sl ws.length (intsF ws)]) rfl rfl)
  repeat (first
    | (apply s_a TY; exact rfl)
    | (apply s_t; exact rfl; (first | assumption | omega))
    | (apply s_f; exact rfl; (first | assumption | omega))
    | apply w_seq
    | apply w_region
    | (apply w_draw (id := 43) 9 rfl (by kernel_rfl))
    | apply s_nil
    | apply t_norm
    | apply t_exit
    | apply k_hit
    | apply w_block
    | apply w_exit
    | apply w_skip
    | (apply w_condF; exact rfl; exact rfl)
    | (apply s_k (HCp); exact rfl)
    | (apply s_k (HCm); exact rfl)
    | (apply s_k (HFm); exact rfl)
    | (apply s_k (HPm); exact rfl)
    | (apply s_k (HI); exact rfl)
    | (apply s_k (HR); exact rfl)
    | (apply s_c TY; exact rfl; (first | omega | exact ⟨by omega, by (first | with_reducible assumption | ((with_reducible apply intsF_ne); omega) | ((with_reducible apply snsF_ne); omega) | assumption)⟩))
    | (apply s_alloc TY; exact rfl; exact rfl; exact rfl)
    | (apply s_store TY; exact rfl; exact rfl; exact rfl; exact rfl; exact rfl; exact rfl))
  apply w_gh (gh_box 2 (cs := [.sl ws.length (intsF ws)]) rfl rfl)
  apply w_loop (fun q : Nat × Bool => ⟨(Ab.upd (Ab.upd (Ab.upd (Ab.upd (Ab.upd (Ab.upd (Ab.upd (Ab.upd (Ab.upd (fun _ => .bot) 2 (.f (.pt [.sl rs.length (intsF rs)] 0))) 5 (.f (iv ((ws.length : Nat) : Int)))) 6 (.f (.pt [.sl ws.length (intsF ws)] 0))) 7 (.f (iv ((c : Nat) : Int)))) 25 (.f (.pt [.sl ws.length (intsF ws)] 0))) 27 (.f (iv ((tk.length : Int) + (ot.length : Int))))) 28 (.f (.sl (regV ws 100).length (intsF (regV ws 100))))) 30 (.f (.v (.bool q.2)))) 31 (.f (iv ((q.1 : Nat) : Int)))), (fun _ => none), 0⟩) (fun q => q.1 ≤ ws.length ∧ (q.2 = true → ∀ j, j < q.1 → j ≠ c → ws.getD j default < ws.getD c default)) (fun q => ws.length - q.1) (0, true) ⟨Nat.zero_le _, fun _ j h => absurd h (Nat.not_lt_zero j)⟩ (gh_le ⟨le_upd rfl trivial (le_upd rfl trivial (le_upd rfl trivial (le_upd rfl trivial (le_upd rfl trivial (le_upd rfl trivial (le_upd rfl trivial (le_upd rfl trivial (le_upd rfl trivial (le_nil _))))))))), le_h0 _ _⟩)
  rintro ⟨i, b⟩ ⟨hi3, hb⟩
  change i ≤ ws.length at hi3
  change b = true → ∀ j, j < i → j ≠ c → ws.getD j default < ws.getD c default at hb
  change W _ _ _ _ (⟨(Ab.upd (Ab.upd (Ab.upd (Ab.upd (Ab.upd (Ab.upd (Ab.upd (Ab.upd (Ab.upd (fun _ => .bot) 2 (.f (.pt [.sl rs.length (intsF rs)] 0))) 5 (.f (iv ((ws.length : Nat) : Int)))) 6 (.f (.pt [.sl ws.length (intsF ws)] 0))) 7 (.f (iv ((c : Nat) : Int)))) 25 (.f (.pt [.sl ws.length (intsF ws)] 0))) 27 (.f (iv ((tk.length : Int) + (ot.length : Int))))) 28 (.f (.sl (regV ws 100).length (intsF (regV ws 100))))) 30 (.f (.v (.bool b)))) 31 (.f (iv ((i : Nat) : Int)))), (fun _ => none), 0⟩)
  have hatc : (intsF ws)[c * 1]? = some (iv ws[c]) := intsF_at hcN
  have hgc := getD_at hcN
  have hwc := hw.each c hcN
  rw [hgc] at hwc
  by_cases hic : i < ws.length
  · have hg := getD_at hic
    have hat : (intsF ws)[i * 1]? = some (iv ws[i]) := intsF_at hic
    have hwi := hw.each i hic
    rw [hg] at hwi
    have HHs := up (Has_s (regV ws 100) (i : Int) (by omega))
    rw [regV_100 om hic, hg] at HHs
    by_cases hps : 0 < ws[i]
    · rw [decide_eq_true hps] at HHs
      cases b with
      | false =>
        repeat (first
    | (apply s_neb Tryz.underlying4; exact rfl; exact rfl; exact rfl; exact rfl)
    | (apply s_a TY; exact rfl)
    | (apply s_t; exact rfl; (first | assumption | omega))
    | apply w_seq
    | apply w_region
    | (apply w_draw (id := 50) 9 rfl (by kernel_rfl))
    | (apply w_draw (id := 52) 16 rfl (by kernel_rfl))
    | apply s_nil
    | apply t_norm
    | apply k_norm
    | apply w_block
    | apply w_skip
    | (apply w_condT; exact rfl; exact rfl)
    | (apply w_condF; exact rfl; exact rfl)
    | (apply s_k (HHs); exact rfl)
    | (apply s_s; exact rfl)
    | (apply s_c TY; exact rfl; (first | omega | exact ⟨by omega, by (first | with_reducible assumption | ((with_reducible apply intsF_ne); omega) | ((with_reducible apply snsF_ne); omega) | assumption)⟩))
    | (apply s_l TY; exact rfl; (first | exact rfl | with_reducible assumption | ((with_reducible apply intsF_at); omega) | ((with_reducible apply snsF_f0); omega) | ((with_reducible apply snsF_f1); omega) | ((with_reducible apply snsF_f2); omega) | assumption)))
        exact ⟨(i + 1, false), ⟨hic, fun h => absurd h Bool.false_ne_true⟩, by show ws.length - (i + 1) < ws.length - i; omega, gh_le ⟨le_upd rfl trivial (le_upd rfl trivial (le_upd rfl trivial (le_upd rfl trivial (le_upd rfl trivial (le_upd rfl trivial (le_upd rfl trivial (le_upd rfl trivial (le_upd rfl trivial (le_nil _))))))))), le_h0 _ _⟩⟩
      | true =>
        by_cases hec : i = c
        · have hec2 : (i : Int) = (c : Int) := by omega
          repeat (first
    | (apply s_neb Tryz.underlying4; exact rfl; exact rfl; exact rfl; exact rfl)
    | (apply s_a TY; exact rfl)
    | (apply s_t; exact rfl; (first | assumption | omega))
    | apply w_seq
    | apply w_region
    | (apply w_draw (id := 50) 9 rfl (by kernel_rfl))
    | (apply w_draw (id := 52) 16 rfl (by kernel_rfl))
    | apply s_nil
    | apply t_norm
    | apply k_norm
    | apply w_block
    | apply w_skip
    | (apply w_condT; exact rfl; exact rfl)
    | (apply w_condF; exact rfl; exact rfl)
    | (apply s_k (HHs); exact rfl)
    | (apply s_s; exact rfl)
    | (apply s_c TY; exact rfl; (first | omega | exact ⟨by omega, by (first | with_reducible assumption | ((with_reducible apply intsF_ne); omega) | ((with_reducible apply snsF_ne); omega) | assumption)⟩))
    | (apply s_l TY; exact rfl; (first | exact rfl | with_reducible assumption | ((with_reducible apply intsF_at); omega) | ((with_reducible apply snsF_f0); omega) | ((with_reducible apply snsF_f1); omega) | ((with_reducible apply snsF_f2); omega) | assumption)))
          exact ⟨(i + 1, true), ⟨hic, fun _ j hj hjc => by
            by_cases hji : j < i
            · exact hb rfl j hji hjc
            · have e : j = i := by omega
              subst e
              exact absurd hec hjc⟩, by show ws.length - (i + 1) < ws.length - i; omega, gh_le ⟨le_upd rfl trivial (le_upd rfl trivial (le_upd rfl trivial (le_upd rfl trivial (le_upd rfl trivial (le_upd rfl trivial (le_upd rfl trivial (le_upd rfl trivial (le_upd rfl trivial (le_nil _))))))))), le_h0 _ _⟩⟩
        · have hec2 : ¬ (i : Int) = (c : Int) := by omega
          by_cases hlt : ws[i] < ws[c]
          · repeat (first
    | (apply s_neb Tryz.underlying4; exact rfl; exact rfl; exact rfl; exact rfl)
    | (apply s_a TY; exact rfl)
    | (apply s_t; exact rfl; (first | assumption | omega))
    | (apply s_f; exact rfl; (first | assumption | omega))
    | apply w_seq
    | apply w_region
    | (apply w_draw (id := 50) 9 rfl (by kernel_rfl))
    | (apply w_draw (id := 52) 16 rfl (by kernel_rfl))
    | apply s_nil
    | apply t_norm
    | apply k_norm
    | apply w_block
    | apply w_skip
    | (apply w_condT; exact rfl; exact rfl)
    | (apply w_condF; exact rfl; exact rfl)
    | (apply s_k (HHs); exact rfl)
    | (apply s_c TY; exact rfl; (first | omega | exact ⟨by omega, by (first | with_reducible assumption | ((with_reducible apply intsF_ne); omega) | ((with_reducible apply snsF_ne); omega) | assumption)⟩))
    | (apply s_l TY; exact rfl; (first | exact rfl | with_reducible assumption | ((with_reducible apply intsF_at); omega) | ((with_reducible apply snsF_f0); omega) | ((with_reducible apply snsF_f1); omega) | ((with_reducible apply snsF_f2); omega) | assumption)))
            exact ⟨(i + 1, true), ⟨hic, fun _ j hj hjc => by
              by_cases hji : j < i
              · exact hb rfl j hji hjc
              · have e : j = i := by omega
                subst e
                rw [hg, hgc]; exact hlt⟩, by show ws.length - (i + 1) < ws.length - i; omega, gh_le ⟨le_upd rfl trivial (le_upd rfl trivial (le_upd rfl trivial (le_upd rfl trivial (le_upd rfl trivial (le_upd rfl trivial (le_upd rfl trivial (le_upd rfl trivial (le_upd rfl trivial (le_nil _))))))))), le_h0 _ _⟩⟩
          · repeat (first
    | (apply s_neb Tryz.underlying4; exact rfl; exact rfl; exact rfl; exact rfl)
    | (apply s_a TY; exact rfl)
    | (apply s_t; exact rfl; (first | assumption | omega))
    | (apply s_f; exact rfl; (first | assumption | omega))
    | apply w_seq
    | apply w_region
    | (apply w_draw (id := 50) 9 rfl (by kernel_rfl))
    | (apply w_draw (id := 52) 16 rfl (by kernel_rfl))
    | apply s_nil
    | apply t_norm
    | apply k_norm
    | apply w_block
    | apply w_skip
    | (apply w_condT; exact rfl; exact rfl)
    | (apply w_condF; exact rfl; exact rfl)
    | (apply s_k (HHs); exact rfl)
    | (apply s_c TY; exact rfl; (first | omega | exact ⟨by omega, by (first | with_reducible assumption | ((with_reducible apply intsF_ne); omega) | ((with_reducible apply snsF_ne); omega) | assumption)⟩))
    | (apply s_l TY; exact rfl; (first | exact rfl | with_reducible assumption | ((with_reducible apply intsF_at); omega) | ((with_reducible apply snsF_f0); omega) | ((with_reducible apply snsF_f1); omega) | ((with_reducible apply snsF_f2); omega) | assumption)))
            exact ⟨(i + 1, false), ⟨hic, fun h => absurd h Bool.false_ne_true⟩, by show ws.length - (i + 1) < ws.length - i; omega, gh_le ⟨le_upd rfl trivial (le_upd rfl trivial (le_upd rfl trivial (le_upd rfl trivial (le_upd rfl trivial (le_upd rfl trivial (le_upd rfl trivial (le_upd rfl trivial (le_upd rfl trivial (le_nil _))))))))), le_h0 _ _⟩⟩
    · rw [decide_eq_false hps] at HHs
      have hps0 : ws[i] = 0 := by omega
      cases b with
      | false =>
        repeat (first
    | (apply s_neb Tryz.underlying4; exact rfl; exact rfl; exact rfl; exact rfl)
    | (apply s_a TY; exact rfl)
    | (apply s_t; exact rfl; (first | assumption | omega))
    | (apply s_f; exact rfl; (first | assumption | omega))
    | apply w_seq
    | apply w_region
    | (apply w_draw (id := 50) 9 rfl (by kernel_rfl))
    | (apply w_draw (id := 52) 16 rfl (by kernel_rfl))
    | apply s_nil
    | apply t_norm
    | apply k_norm
    | apply w_block
    | apply w_skip
    | (apply w_condT; exact rfl; exact rfl)
    | (apply w_condF; exact rfl; exact rfl)
    | (apply s_k (HHs); exact rfl)
    | (apply s_s; exact rfl)
    | (apply s_c TY; exact rfl; (first | omega | exact ⟨by omega, by (first | with_reducible assumption | ((with_reducible apply intsF_ne); omega) | ((with_reducible apply snsF_ne); omega) | assumption)⟩))
    | (apply s_l TY; exact rfl; (first | exact rfl | with_reducible assumption | ((with_reducible apply intsF_at); omega) | ((with_reducible apply snsF_f0); omega) | ((with_reducible apply snsF_f1); omega) | ((with_reducible apply snsF_f2); omega) | assumption)))
        exact ⟨(i + 1, false), ⟨hic, fun h => absurd h Bool.false_ne_true⟩, by show ws.length - (i + 1) < ws.length - i; omega, gh_le ⟨le_upd rfl trivial (le_upd rfl trivial (le_upd rfl trivial (le_upd rfl trivial (le_upd rfl trivial (le_upd rfl trivial (le_upd rfl trivial (le_upd rfl trivial (le_upd rfl trivial (le_nil _))))))))), le_h0 _ _⟩⟩
      | true =>
        by_cases hec : i = c
        · have hec2 : (i : Int) = (c : Int) := by omega
          repeat (first
    | (apply s_neb Tryz.underlying4; exact rfl; exact rfl; exact rfl; exact rfl)
    | (apply s_a TY; exact rfl)
    | (apply s_t; exact rfl; (first | assumption | omega))
    | (apply s_f; exact rfl; (first | assumption | omega))
    | apply w_seq
    | apply w_region
    | (apply w_draw (id := 50) 9 rfl (by kernel_rfl))
    | (apply w_draw (id := 52) 16 rfl (by kernel_rfl))
    | apply s_nil
    | apply t_norm
    | apply k_norm
    | apply w_block
    | apply w_skip
    | (apply w_condT; exact rfl; exact rfl)
    | (apply w_condF; exact rfl; exact rfl)
    | (apply s_k (HHs); exact rfl)
    | (apply s_s; exact rfl)
    | (apply s_c TY; exact rfl; (first | omega | exact ⟨by omega, by (first | with_reducible assumption | ((with_reducible apply intsF_ne); omega) | ((with_reducible apply snsF_ne); omega) | assumption)⟩))
    | (apply s_l TY; exact rfl; (first | exact rfl | with_reducible assumption | ((with_reducible apply intsF_at); omega) | ((with_reducible apply snsF_f0); omega) | ((with_reducible apply snsF_f1); omega) | ((with_reducible apply snsF_f2); omega) | assumption)))
          exact ⟨(i + 1, true), ⟨hic, fun _ j hj hjc => by
            by_cases hji : j < i
            · exact hb rfl j hji hjc
            · have e : j = i := by omega
              subst e
              exact absurd hec hjc⟩, by show ws.length - (i + 1) < ws.length - i; omega, gh_le ⟨le_upd rfl trivial (le_upd rfl trivial (le_upd rfl trivial (le_upd rfl trivial (le_upd rfl trivial (le_upd rfl trivial (le_upd rfl trivial (le_upd rfl trivial (le_upd rfl trivial (le_nil _))))))))), le_h0 _ _⟩⟩
        · have hec2 : ¬ (i : Int) = (c : Int) := by omega
          by_cases hlt : ws[i] < ws[c]
          · repeat (first
    | (apply s_neb Tryz.underlying4; exact rfl; exact rfl; exact rfl; exact rfl)
    | (apply s_a TY; exact rfl)
    | (apply s_t; exact rfl; (first | assumption | omega))
    | (apply s_f; exact rfl; (first | assumption | omega))
    | apply w_seq
    | apply w_region
    | (apply w_draw (id := 50) 9 rfl (by kernel_rfl))
    | (apply w_draw (id := 52) 16 rfl (by kernel_rfl))
    | apply s_nil
    | apply t_norm
    | apply k_norm
    | apply w_block
    | apply w_skip
    | (apply w_condT; exact rfl; exact rfl)
    | (apply w_condF; exact rfl; exact rfl)
    | (apply s_k (HHs); exact rfl)
    | (apply s_c TY; exact rfl; (first | omega | exact ⟨by omega, by (first | with_reducible assumption | ((with_reducible apply intsF_ne); omega) | ((with_reducible apply snsF_ne); omega) | assumption)⟩))
    | (apply s_l TY; exact rfl; (first | exact rfl | with_reducible assumption | ((with_reducible apply intsF_at); omega) | ((with_reducible apply snsF_f0); omega) | ((with_reducible apply snsF_f1); omega) | ((with_reducible apply snsF_f2); omega) | assumption)))
            exact ⟨(i + 1, true), ⟨hic, fun _ j hj hjc => by
              by_cases hji : j < i
              · exact hb rfl j hji hjc
              · have e : j = i := by omega
                subst e
                rw [hg, hgc]; exact hlt⟩, by show ws.length - (i + 1) < ws.length - i; omega, gh_le ⟨le_upd rfl trivial (le_upd rfl trivial (le_upd rfl trivial (le_upd rfl trivial (le_upd rfl trivial (le_upd rfl trivial (le_upd rfl trivial (le_upd rfl trivial (le_upd rfl trivial (le_nil _))))))))), le_h0 _ _⟩⟩
          · repeat (first
    | (apply s_neb Tryz.underlying4; exact rfl; exact rfl; exact rfl; exact rfl)
    | (apply s_a TY; exact rfl)
    | (apply s_t; exact rfl; (first | assumption | omega))
    | (apply s_f; exact rfl; (first | assumption | omega))
    | apply w_seq
    | apply w_region
    | (apply w_draw (id := 50) 9 rfl (by kernel_rfl))
    | (apply w_draw (id := 52) 16 rfl (by kernel_rfl))
    | apply s_nil
    | apply t_norm
    | apply k_norm
    | apply w_block
    | apply w_skip
    | (apply w_condT; exact rfl; exact rfl)
    | (apply w_condF; exact rfl; exact rfl)
    | (apply s_k (HHs); exact rfl)
    | (apply s_c TY; exact rfl; (first | omega | exact ⟨by omega, by (first | with_reducible assumption | ((with_reducible apply intsF_ne); omega) | ((with_reducible apply snsF_ne); omega) | assumption)⟩))
    | (apply s_l TY; exact rfl; (first | exact rfl | with_reducible assumption | ((with_reducible apply intsF_at); omega) | ((with_reducible apply snsF_f0); omega) | ((with_reducible apply snsF_f1); omega) | ((with_reducible apply snsF_f2); omega) | assumption)))
            exact ⟨(i + 1, false), ⟨hic, fun h => absurd h Bool.false_ne_true⟩, by show ws.length - (i + 1) < ws.length - i; omega, gh_le ⟨le_upd rfl trivial (le_upd rfl trivial (le_upd rfl trivial (le_upd rfl trivial (le_upd rfl trivial (le_upd rfl trivial (le_upd rfl trivial (le_upd rfl trivial (le_upd rfl trivial (le_nil _))))))))), le_h0 _ _⟩⟩
  have hil : i = ws.length := by omega
  subst hil
  have hsum := hw.sum
  have hall := allW_bd om
  have hcl : ws[c] ≤ allW ws := by
    have h := sumI_mem_le (f := wI ws) (l := idxL ws.length) (a := (c : Int)) (idxL_mem.2 (by omega)) fun z hz => (wI_bd om (idxL_mem.1 hz)).1
    have e : wI ws (c : Int) = ws.getD c default := rfl
    rw [e, hgc] at h
    exact h
  have hsm : allW ws = (tk.length : Int) + (ot.length : Int) := by rw [hsum]; omega
  obtain ⟨al, hal⟩ : ∃ al : Int, al = (tk.length : Int) + (ot.length : Int) := ⟨_, rfl⟩
  have HFl := up (Floor_s (100 * ws[c]) al (by omega) (by omega))
  obtain ⟨pc, hpc⟩ : ∃ pc : Int, pc = 100 * ws[c] / al := ⟨_, rfl⟩
  rw [← hpc] at HFl
  have hd1 : pc * al ≤ 100 * ws[c] := by rw [hpc]; exact Int.ediv_mul_le _ (by omega)
  have hd2 : pc ≤ 100 := by
    have : 100 * ws[c] / al ≤ 100 * al / al := Int.ediv_le_ediv (by omega) (by omega)
    rw [Int.mul_ediv_cancel _ (by omega)] at this
    omega
  rw [← hal]
  by_cases hp1 : pc < 1
  · repeat (first
    | (apply s_a TY; exact rfl)
    | (apply s_t; exact rfl; (first | assumption | omega))
    | (apply s_f; exact rfl; (first | assumption | omega))
    | apply w_seq
    | apply w_region
    | apply s_nil
    | apply t_norm
    | apply t_exit
    | apply t_ret
    | apply k_hit
    | apply w_exit
    | apply w_ret
    | (apply w_condT; exact rfl; exact rfl)
    | (apply w_condF; exact rfl; exact rfl)
    | (apply s_k (HFl); exact rfl)
    | (apply s_s; exact rfl)
    | (apply s_c TY; exact rfl; (first | omega | exact ⟨by omega, by (first | with_reducible assumption | ((with_reducible apply intsF_ne); omega) | ((with_reducible apply snsF_ne); omega) | assumption)⟩))
    | (apply s_l TY; exact rfl; (first | exact rfl | with_reducible assumption | ((with_reducible apply intsF_at); omega) | ((with_reducible apply snsF_f0); omega) | ((with_reducible apply snsF_f1); omega) | ((with_reducible apply snsF_f2); omega) | assumption)))
    exact lv_ret (ret1 rfl (res_tmp rfl))
  cases b with
  | false =>
    repeat (first
    | (apply s_a TY; exact rfl)
    | (apply s_f; exact rfl; (first | assumption | omega))
    | apply w_seq
    | apply w_region
    | apply s_nil
    | apply t_norm
    | apply t_exit
    | apply t_ret
    | apply k_hit
    | apply w_exit
    | apply w_ret
    | (apply w_condT; exact rfl; exact rfl)
    | (apply w_condF; exact rfl; exact rfl)
    | (apply s_k (HFl); exact rfl)
    | (apply s_c TY; exact rfl; (first | omega | exact ⟨by omega, by (first | with_reducible assumption | ((with_reducible apply intsF_ne); omega) | ((with_reducible apply snsF_ne); omega) | assumption)⟩))
    | (apply s_l TY; exact rfl; (first | exact rfl | with_reducible assumption | ((with_reducible apply intsF_at); omega) | ((with_reducible apply snsF_f0); omega) | ((with_reducible apply snsF_f1); omega) | ((with_reducible apply snsF_f2); omega) | assumption)))
    exact lv_ret (ret1 rfl (res_tmp rfl))
  | true =>
    have hone := regV_one om (p := pc) (by omega) hcN (fun j hj hjc => hb rfl j hj hjc) (by rw [hgc, hsm, ← hal]; exact hd1)
    have HR2 := up (RegionOf_of rs ws pc o om (by omega) (stab_all (by omega)))
    rw [hone] at HR2
    have HIc := up (Ints_s [(c : Int)] [(c : Int)] (by simp) (by simp))
    rw [decide_eq_true rfl] at HIc
    repeat (first
    | (apply s_a TY; exact rfl)
    | (apply s_t; exact rfl; (first | assumption | omega))
    | (apply s_f; exact rfl; (first | assumption | omega))
    | apply w_seq
    | apply w_region
    | (apply w_draw (id := 56) 9 rfl (by kernel_rfl))
    | apply s_nil
    | apply t_norm
    | apply t_exit
    | apply k_hit
    | apply w_exit
    | apply w_ret
    | apply w_skip
    | (apply w_condF; exact rfl; exact rfl)
    | (apply s_k (HFl); exact rfl)
    | (apply s_k (HR2); exact rfl)
    | (apply s_k (HIc); exact rfl)
    | (apply s_k (HCp); exact rfl)
    | (apply s_c TY; exact rfl; (first | omega | exact ⟨by omega, by (first | with_reducible assumption | ((with_reducible apply intsF_ne); omega) | ((with_reducible apply snsF_ne); omega) | assumption)⟩))
    | (apply s_l TY; exact rfl; (first | exact rfl | with_reducible assumption | ((with_reducible apply intsF_at); omega) | ((with_reducible apply snsF_f0); omega) | ((with_reducible apply snsF_f1); omega) | ((with_reducible apply snsF_f2); omega) | assumption)))
    exact lv_ret (ret1 rfl (res_tmp rfl))
end Go.Proofs.YtbkdjlahhcofmaaGreatDoor
namespace Go.Ab
open Go Go.RowKit
section
variable {P : Program} {w : World}
end
end Go.Ab
namespace Go.Proofs.YtbkdjlahhcofmaaGreatDoor
open Go Go.Ab Go.ChangeShapes Go.WideShapes Go.ChangeAt Go.RowKit
theorem ownKnobT : ownKnob Tryz.prog.godebug = none := by kernel_rfl
theorem laidOutT : laidOutB Tryz.prog = true := by kernel_rfl
theorem trodAll_stays {H : Type} {enc : TypeId × Value → H} {W W' : World} {sp : Nat → Bool} (hb : Below W.heap.size W W') : ∀ {ts : List TypeId} {vs : List Value} {ds : List (DataW H)} {ps : List MemPlace}, (∀ t ∈ ts, Tryz.prog.readableRec t = true ∧ t < Tryz.prog.types.size) → DataW.TrodAll enc Tryz.prog W 0 (fun _ => true) true ts vs ds ps → (∀ p ∈ ps, p.block < W.heap.size) → (∀ p ∈ ps, sp p.block = true) → DataW.TrodAll enc Tryz.prog W' 0 sp true ts vs ds ps
  | [], [], [], _, _, h, _, _ => h
  | t :: ts, v :: vs, d :: ds, ps, ht, ⟨p, q, h1, h2, e⟩, hlt, hsp => by
    have hp : ∀ x ∈ p, x ∈ ps := fun x hx => by rw [e]; exact List.mem_append_left _ hx
    have hq : ∀ x ∈ q, x ∈ ps := fun x hx => by rw [e]; exact List.mem_append_right _ hx
    exact ⟨p, q, WideElems.Trod_stays laidOutT (ht t (by simp)).1 (ht t (by simp)).2 h1 (fun x hx => hb.same (hlt x (hp x hx))) (fun x hx => hsp x (hp x hx)),
      trodAll_stays hb (fun u hu => ht u (by simp [hu])) h2 (fun x hx => hlt x (hq x hx)) (fun x hx => hsp x (hq x hx)), e⟩
theorem post_law {H : Type} {enc : TypeId × Value → H} {f : Func} {s : ChangeSpec} {W W' : World} {args : Array Value} {ds gs : List (DataW H)} {before : List MemPlace}
    (hW : DataW.Whole enc Tryz.prog f.params.toList s.vars false W args.toList ds gs before) (hv : s.vars = []) (hr : f.resultTypes = #[4])
    (ht : ∀ t ∈ f.params.toList, Tryz.prog.readableRec t = true ∧ t < Tryz.prog.types.size)
    (hres : (s.fn H (ds ++ gs)).results = [.lit (.bool true)]) (hargs : (s.fn H (ds ++ gs)).args = ds) (hvs : (s.fn H (ds ++ gs)).vars = [])
    (hb : Below W.heap.size W W') : s.post enc Tryz.prog f false true false false W args (.bool true) W' := by
  have hlt := hW.lt
  have hW0 := hW
  obtain ⟨p, q, h1, h2, e, hz, hn⟩ := hW
  have h2' := h2
  rw [hv] at h2'
  have hq : gs = [] ∧ q = [] := by
    cases gs with
    | nil => exact ⟨rfl, h2'⟩
    | cons g r => exact absurd h2' (by intro h; cases h)
  obtain ⟨rfl, rfl⟩ := hq
  rw [List.append_nil] at e
  subst e
  refine ⟨ds, [], before, [], before, [], hW0, ?_, ?_, ?_, Below.frame hb _, fun h => by cases h⟩
  · rw [hr, hres]; exact trodAll_mk1 (shut_bool Tryz.underlying4 true)
  · rw [hargs]
    exact trodAll_stays hb ht h1 hlt (fun x hx => by simpa using hlt x hx)
  · rw [hv, hvs]; rfl
theorem sq_map {α : Type} (f : α → FV) : ∀ l : List α, l.flatMap (fun x => [f x]) = l.map f
  | [] => rfl
  | x :: l => by rw [List.flatMap_cons, sq_map f l]; rfl
section
variable {W : World}
theorem opens_i : Opens Tryz.prog W 3 (fun z : Int => [iv z]) := opens_int Tryz.underlying3
end
set_option maxRecDepth 100000 in
theorem arg_st {H : Type} {enc : TypeId × Value → H} {W : World} {base : Nat} {T : TypeId} {fs : Array Field} {α : Type} {f : α → List FV} {v : Value} {d : DataW H} {ps : List MemPlace} (h : Opens Tryz.prog W T f) (ht : Tryz.prog.underlying T = some (.struct fs)) (hv : Value.okWide Tryz.prog W .any base T v) (hd : DataW.Trod enc Tryz.prog W 0 (fun _ => true) true T v d ps) : ∃ a, RepF W (fun _ => False) v (.agg (f a)) := by
  obtain ⟨cs, e, _⟩ := okWide_struct ht hv
  exact arg_agg h e hd
end Go.Proofs.YtbkdjlahhcofmaaGreatDoor
