/- Laws on which the proofs of this seat stand. No condition. -/
import Derived.Test.YtbkdjlahhcofmaaGreatDoorTaMail4
import Derived.Lib.ItoaLen
namespace Go.Proofs.YtbkdjlahhcofmaaGreatDoor
open Go Go.RowKit Go.Proofs Go.Shelf Go.Ab
theorem rep_slw {w : World} {M : Nat → Prop} {n : Nat} {v : Value} {cs cs' : List FV} (h : RepF w M v (.sl n cs)) (hl : cs.length = cs'.length) (hc : ∀ (k : Nat) (x x' : FV), cs[k]? = some x → cs'[k]? = some x' → ∀ u, RepF w M u x → RepF w M u x') : RepF w M v (.sl n cs') := by
  cases h with
  | sl a n c cs us h1 h2 h3 h4 h5 =>
    refine RepF.sl a n c cs' us h1 (h2.trans hl) h3 h4 (fun k u x hu hx => ?_)
    have hk : k < cs.length := by rw [hl]; exact (List.getElem?_eq_some_iff.1 hx).1
    exact hc k _ x (List.getElem?_eq_getElem hk) hx u (h5 k u _ hu (List.getElem?_eq_getElem hk))
def nilWL : List FV → List FV → Prop
  | [], [] => True
  | x :: xs, y :: ys => (x = y ∨ (x = .v (.slice none 0 0) ∧ y = .sl 0 [])) ∧ nilWL xs ys
  | _, _ => False
theorem nilWL_len : ∀ {xs ys : List FV}, nilWL xs ys → xs.length = ys.length
  | [], [], _ => rfl
  | _ :: _, _ :: _, h => by simp [nilWL_len h.2]
  | [], _ :: _, h => h.elim
  | _ :: _, [], h => h.elim
theorem nilWL_at {w : World} {M : Nat → Prop} : ∀ {xs ys : List FV}, nilWL xs ys → ∀ (k : Nat) (x x' : FV), xs[k]? = some x → ys[k]? = some x' → ∀ u, RepF w M u x → RepF w M u x'
  | [], [], _, k, x, x', h1, _, _, _ => by simp at h1
  | a :: xs, b :: ys, h, 0, x, x', h1, h2, u, r => by
    simp at h1 h2; subst h1; subst h2
    rcases h.1 with e | ⟨e1, e2⟩
    · rwa [← e]
    · rw [e1] at r; rw [e2]; exact rep_nilsl r
  | a :: xs, b :: ys, h, k + 1, x, x', h1, h2, u, r => nilWL_at h.2 k x x' (by simpa using h1) (by simpa using h2) u r
  | [], _ :: _, h, _, _, _, _, _, _, _ => h.elim
  | _ :: _, [], h, _, _, _, _, _, _, _ => h.elim
theorem summ_slw {g n : Nat} {args cs cs' : List FV} (S : Summ Tryz.prog GG g args (.sl n cs)) (h : nilWL cs cs') : Summ Tryz.prog GG g args (.sl n cs') :=
  ⟨S.enters, fun w M us h1 h2 h3 => (S.call w M us h1 h2 h3).mono fun _ _ ⟨v, q1, q2, q3⟩ => ⟨v, q1, rep_slw q2 (nilWL_len h) (nilWL_at h), q3⟩⟩
def exRs : List Int := [1, 4, 4, 1]
def exM : List Int := [0, 5, 3, 0, 0, 2, 0, 0, 0, 0]
def nAnn : Nm := [97, 110, 110]
def nBob : Nm := [98, 111, 98]
def nX : Nm := [120]
def exActs : List Act := [⟨0, nAnn, []⟩, ⟨2, nX, [1, 2]⟩, ⟨0, nBob, []⟩, ⟨3, nX, [1]⟩, ⟨1, nAnn, []⟩, ⟨4, nX, []⟩]
theorem Sky_s : Summ Tryz.prog GG 133 [] (skF exRs) := by
  refine summW Tryz.func133 rfl rfl 3 rfl (by simp) (fun M0 => ?_)
  repeat (first
    | (apply s_a TY; exact rfl)
    | apply w_seq
    | apply w_region
    | apply s_nil
    | apply t_norm
    | apply w_ret
    | (apply s_alloc TY; exact rfl; exact rfl; exact rfl)
    | (apply s_store TY; exact rfl; exact rfl; exact rfl; exact rfl; exact rfl; exact rfl))
  exact lv_ret (ret1 rfl (res_bxs (sub := [.sl exRs.length (intsF exRs)]) TY rfl rfl rfl rfl rfl))
theorem Map_s : Summ Tryz.prog GG 134 [] (skF exM) := by
  refine summW Tryz.func134 rfl rfl 3 rfl (by simp) (fun M0 => ?_)
  repeat (first
    | (apply s_a TY; exact rfl)
    | apply w_seq
    | apply w_region
    | apply s_nil
    | apply t_norm
    | apply w_ret
    | (apply s_alloc TY; exact rfl; exact rfl; exact rfl)
    | (apply s_store TY; exact rfl; exact rfl; exact rfl; exact rfl; exact rfl; exact rfl))
  exact lv_ret (ret1 rfl (res_bxs (sub := [.sl exM.length (intsF exM)]) TY rfl rfl rfl rfl rfl))
def exActsN : List FV := [iv 0, sv nAnn, .v (.slice none 0 0), iv 2, sv nX, .sl 2 (intsF [1, 2]), iv 0, sv nBob, .v (.slice none 0 0), iv 3, sv nX, .sl 1 (intsF [1]), iv 1, sv nAnn, .v (.slice none 0 0), iv 4, sv nX, .v (.slice none 0 0)]
theorem Acts_n : Summ Tryz.prog GG 135 [] (.sl 6 exActsN) := by
  refine summW Tryz.func135 rfl rfl 10 rfl (by simp) (fun M0 => ?_)
  repeat (first
    | (apply s_a TY; exact rfl)
    | apply w_seq
    | apply w_region
    | apply s_nil
    | apply t_norm
    | apply w_ret)
  exact lv_ret (ret1 rfl (res_tmp rfl))
theorem exActs_w : nilWL exActsN (actsF exActs) := ⟨.inl rfl, .inl rfl, .inr ⟨rfl, rfl⟩, .inl rfl, .inl rfl, .inl rfl, .inl rfl, .inl rfl, .inr ⟨rfl, rfl⟩, .inl rfl, .inl rfl, .inl rfl, .inl rfl, .inl rfl, .inr ⟨rfl, rfl⟩, .inl rfl, .inl rfl, .inr ⟨rfl, rfl⟩, trivial⟩
theorem Acts_s : Summ Tryz.prog GG 135 [] (.sl exActs.length (actsF exActs)) := summ_slw Acts_n exActs_w
theorem exSky : SkyOk exRs := skyOk_of (by decide +kernel)
theorem exMap : MapOk (befK exRs exRs.length) exM := mapOk_of (by decide +kernel)
theorem exReg : regV exM 90 = [1, 2, 5] := by
  have h : (sortedW exM).take (regC (wI exM) (sortedW exM) (wantV exM 90)) = [1, 2, 5] := by decide +kernel
  unfold regV
  rw [h]
  unfold ascL
  refine List.mergeSort_of_pairwise ?_
  decide +kernel
theorem exRun : ∀ i, i < exActs.length → runE (skyC exRs).length exActs i = 0 := by decide +kernel
theorem runW_at (l : List Act) : ∀ (n i : Nat), i < n → (runW l n)[i]? = some (stpW (runS l i) (l.getD i default))
  | 0, i, h => absurd h (Nat.not_lt_zero i)
  | n + 1, i, h => by
    rw [runW]
    by_cases e : i = n
    · subst e
      rw [List.getElem?_append_right (by rw [runW_len]; exact Nat.le_refl _), runW_len, Nat.sub_self]; rfl
    · rw [List.getElem?_append_left (by rw [runW_len]; omega)]
      exact runW_at l n i (by omega)
theorem exWho : (altA (runS exActs 5).2 nX).kys = [nAnn, nBob] := by decide +kernel
theorem exAsc : ascN [nAnn, nBob] = [nAnn, nBob] := by
  unfold ascN
  refine List.mergeSort_of_pairwise ?_
  decide +kernel
theorem exRec : (runW exActs exActs.length)[5]? = some [nAnn, nBob] := by
  rw [runW_at exActs exActs.length 5 (by decide)]
  show some (ascN (altA (runS exActs 5).2 nX).kys) = _
  rw [exWho, exAsc]
end Go.Proofs.YtbkdjlahhcofmaaGreatDoor
namespace Go.Proofs.YtbkdjlahhcofmaaGreatDoor
open Go Go.RowKit Go.Proofs Go.Shelf Go.Ab
end Go.Proofs.YtbkdjlahhcofmaaGreatDoor
namespace Go.Proofs.YtbkdjlahhcofmaaGreatDoor
open Go Go.RowKit Go.Proofs Go.Shelf Go.Ab
end Go.Proofs.YtbkdjlahhcofmaaGreatDoor
namespace Go.Proofs.YtbkdjlahhcofmaaGreatDoor
open Go Go.RowKit Go.Proofs Go.Shelf Go.Ab
end Go.Proofs.YtbkdjlahhcofmaaGreatDoor
namespace Go.Proofs.YtbkdjlahhcofmaaGreatDoor
open Go.Lib (itoa decDigits decFrom digitVal)
open Go Go.RowKit Go.Proofs Go.Shelf Go.Ab
theorem cat_run {x y : Operand} {T : TypeId} {a b : List UInt8} (hl : a.length + b.length ≤ 1000000000) (w : World) : (do eqGuard .add T x y (.string ⟨a.toArray⟩) (.string ⟨b.toArray⟩); binOp .add T (.string ⟨a.toArray⟩) (.string ⟨b.toArray⟩) : Sem Value).run Tryz.prog w = .ok (.string ⟨(a ++ b).toArray⟩) w := by
  have e : (⟨a.toArray⟩ : ByteArray) ++ ⟨b.toArray⟩ = ⟨(a ++ b).toArray⟩ := by
    apply ByteArray.ext
    simp [ByteArray.data_append]
  have h1 : ((⟨a.toArray⟩ : ByteArray).size : Int) + ((⟨b.toArray⟩ : ByteArray).size : Int) ≤ 9223372036854775807 := by simp [ByteArray.size]; omega
  simp [eqGuard, binOp, Op.stringOp, e, h1]
structure CutK (c : UInt8) (s : Nm) (k fr : Nat) (ws : List Nm) : Prop where
  le : fr ≤ k
  no : c ∉ (s.drop fr).take (k - fr)
  all : ws ++ cutS c (s.drop fr) = cutS c s
end Go.Proofs.YtbkdjlahhcofmaaGreatDoor
namespace Go.Proofs.YtbkdjlahhcofmaaGreatDoor
open Go.Lib (itoa decDigits decFrom digitVal)
open Go Go.RowKit Go.Proofs Go.Shelf Go.Ab
end Go.Proofs.YtbkdjlahhcofmaaGreatDoor
namespace Go.Proofs.YtbkdjlahhcofmaaGreatDoor
open Go.Lib (itoa decDigits decFrom digitVal join atoiAll)
open Go Go.RowKit Go.Proofs Go.Shelf Go.Ab
def I64 (l : List Int) : Prop := ∀ z ∈ l, -9223372036854775808 ≤ z ∧ z ≤ 9223372036854775807
def wordsS (l : List Int) : Nm := join (l.map itoa) [32]
theorem join_len : ∀ (l : List Nm) (B : Nat), (∀ s ∈ l, s.length ≤ B) → (join l [32]).length ≤ (B + 1) * l.length
  | [], B, _ => by rw [Lib.join_nil]; simp
  | [x], B, h => by rw [Lib.join_one]; have := h x (by simp); simp; omega
  | x :: y :: r, B, h => by
    have ih := join_len (y :: r) B (fun s hs => h s (by simp [List.mem_cons.1 hs]))
    have e : join (x :: y :: r) [32] = x ++ 32 :: join (y :: r) [32] := by
      rw [Lib.join_cons, Lib.join_cons]
      unfold Lib.joinTail
      simp
    have hx := h x (by simp)
    rw [e, List.length_append, List.length_cons, List.length_cons, Nat.mul_succ]
    omega
theorem itoa_len {z : Int} (h : -9223372036854775808 ≤ z ∧ z ≤ 9223372036854775807) : (itoa z).length ≤ 21 := Lib.itoa_length_le z h.1 h.2
theorem itoas_len {l : List Int} (h : I64 l) (k : Nat) : (join ((l.map itoa).take k) [32]).length ≤ 22 * l.length := by
  have h1 := join_len ((l.map itoa).take k) 21 (fun s hs => by
    obtain ⟨z, hz, rfl⟩ := List.mem_map.1 (List.mem_of_mem_take hs)
    exact itoa_len (h z hz))
  have h2 : ((l.map itoa).take k).length ≤ l.length := by rw [List.length_take, List.length_map]; omega
  have := Nat.mul_le_mul_left 22 h2
  omega
theorem wordsS_len {l : List Int} (h : I64 l) : (wordsS l).length ≤ 22 * l.length := by
  have := itoas_len h l.length
  rw [List.take_of_length_le (by simp)] at this
  exact this
set_option maxRecDepth 100000 in
set_option maxHeartbeats 1600000 in
theorem words_s (l : List Int) (hl : l.length ≤ 1000) (hr : I64 l) : Summ Tryz.prog GS 145 [.sl l.length (intsF l)] (sv (wordsS l)) := by
  refine summW Tryz.func145 rfl rfl 20 rfl (by simp) (fun M0 => ?_)
  repeat (first
    | (apply s_a TY; exact rfl)
    | apply w_seq
    | apply w_region
    | apply s_nil
    | apply t_norm
    | apply w_block)
  apply w_gh (gh_own 3 9 1 rfl rfl)
  apply w_loop (fun k : Nat => ⟨(Ab.upd (Ab.upd (Ab.upd (Ab.upd (fun _ => .bot) 3 (.ow 0)) 6 (.f (.sl l.length (intsF l)))) 7 (.f (iv l.length))) 8 (.f (iv ((k : Nat) : Int)))), (Ab.upd (fun _ => none) 0 (some (.row 9 1 ((l.take k).map itoa).length (strsF ((l.take k).map itoa))))), 1⟩) (fun k => k ≤ l.length) (fun k => l.length - k) 0 (Nat.zero_le _) (gh_le ⟨le_upd rfl trivial (le_upd rfl trivial (le_upd rfl trivial (le_upd rfl rfl (le_nil _)))), le_hupd rfl trivial (le_h0 _ _)⟩)
  intro k hk
  have hrl : ((l.take k).map itoa).length = k := by rw [List.length_map, List.length_take]; omega
  by_cases hc : k < l.length
  · have hat : (intsF l)[k * 1]? = some (iv l[k]) := intsF_at hc
    have hne : intsF l ≠ [] := intsF_ne (k := k) hc
    have HI := Itoa_s l[k] (hr _ (List.getElem_mem hc))
    have hrow : some (Blk.row 9 1 (((l.take k).map itoa).length + 1) (strsF ((l.take k).map itoa) ++ [sv (itoa l[k])])) = some (Blk.row 9 1 ((l.take (k + 1)).map itoa).length (strsF ((l.take (k + 1)).map itoa))) := by
      rw [List.take_succ_eq_append_getElem hc, List.map_append, List.map_cons, List.map_nil, strsF_snoc, List.length_append]; rfl
    repeat (first
    | (apply s_append TY; exact rfl; exact rfl; exact rfl; exact rfl; exact rfl; exact rfl; exact rfl; exact rfl; exact rfl; (unfold maxLen; omega); omega)
    | (apply s_a TY; exact rfl)
    | (apply s_t; exact rfl; (first | assumption | omega))
    | apply w_seq
    | apply w_region
    | apply s_nil
    | apply t_norm
    | apply k_norm
    | apply w_block
    | apply w_skip
    | (apply w_condT; exact rfl; exact rfl)
    | (apply s_k (HI); exact rfl)
    | (apply s_c TY; exact rfl; (first | omega | exact ⟨by omega, by (first | with_reducible assumption | ((with_reducible apply intsF_ne); omega) | assumption)⟩))
    | (apply s_l TY; exact rfl; (first | exact rfl | with_reducible assumption | ((with_reducible apply intsF_at); omega) | assumption)))
    exact ⟨k + 1, by omega, by omega, gh_le ⟨le_upd rfl trivial (le_upd rfl trivial (le_upd rfl trivial (le_upd rfl rfl (le_nil _)))), le_hupd hrow trivial (le_h0 _ _)⟩⟩
  · have hke : k = l.length := by omega
    subst hke
    have hjl := wordsS_len hr
    have HJ := Join_s (l.map itoa) [32] (by rw [List.length_map]; omega) (by show (wordsS l).length ≤ _; omega)
    rw [List.take_length] at hrl
    have hrn : some (Blk.row 9 1 ((l.take l.length).map itoa).length (strsF ((l.take l.length).map itoa))) = some (Blk.row 9 1 (l.map itoa).length (strsF (l.map itoa))) := by rw [List.take_length]
    apply w_gh (gh_row 0 hrn)
    repeat (first
    | (apply s_a TY; exact rfl)
    | (apply s_f; exact rfl; (first | assumption | omega))
    | apply w_seq
    | apply w_region
    | apply s_nil
    | apply t_norm
    | apply t_exit
    | apply k_hit
    | apply w_exit
    | apply w_ret
    | (apply w_condF; exact rfl; exact rfl)
    | (apply s_k (HJ); exact rfl))
    exact lv_ret (ret1 rfl (res_tmp rfl))
def numP (d : Nat) (w : Nm) : Option Int := match numO w d with
  | some v => if 0 ≤ v then some v else none
  | none => none
def numsO (d : Nat) (ws : List Nm) : Option (List Int) := ws.foldl (fun o w => o.bind fun l => (numP d w).map fun v => l ++ [v]) (some [])
theorem numsO_snoc (d : Nat) (ws : List Nm) (w : Nm) : numsO d (ws ++ [w]) = (numsO d ws).bind fun l => (numP d w).map fun v => l ++ [v] := by
  unfold numsO
  rw [List.foldl_append]; rfl
theorem fold_none (d : Nat) : ∀ ws : List Nm, ws.foldl (fun (o : Option (List Int)) w => o.bind fun l => (numP d w).map fun v => l ++ [v]) none = none
  | [] => rfl
  | _ :: ws => fold_none d ws
theorem numsO_bad {d : Nat} {ws : List Nm} {k : Nat} (hk : k < ws.length) (h : numP d ws[k] = none) : numsO d ws = none := by
  have e : ws = (ws.take k ++ [ws[k]]) ++ ws.drop (k + 1) := by
    rw [← List.take_succ_eq_append_getElem hk, List.take_append_drop]
  unfold numsO
  rw [e, List.foldl_append, List.foldl_append]
  generalize (ws.take k).foldl _ _ = o
  have e2 : List.foldl (fun (o : Option (List Int)) w => o.bind fun l => (numP d w).map fun v => l ++ [v]) o [ws[k]] = none := by
    show (o.bind fun l => (numP d ws[k]).map fun v => l ++ [v]) = none
    rw [h]
    cases o <;> rfl
  rw [e2]
  exact fold_none d _
theorem numsO_next {d : Nat} {ws : List Nm} {k : Nat} {l : List Int} {v : Int} (hk : k < ws.length) (hl : numsO d (ws.take k) = some l) (h : numP d ws[k] = some v) : numsO d (ws.take (k + 1)) = some (l ++ [v]) := by
  rw [List.take_succ_eq_append_getElem hk, numsO_snoc, hl, h]; rfl
theorem fold_len (d : Nat) : ∀ (ws : List Nm) (l0 l : List Int), ws.foldl (fun (o : Option (List Int)) w => o.bind fun l => (numP d w).map fun v => l ++ [v]) (some l0) = some l → l.length = l0.length + ws.length
  | [], l0, l, h => by rw [← Option.some.inj h]; simp
  | w :: ws, l0, l, h => by
    rw [List.foldl_cons] at h
    cases hw : numP d w with
    | none =>
      have e : ((some l0).bind fun l => (numP d w).map fun v => l ++ [v]) = none := by rw [hw]; rfl
      rw [e, fold_none] at h; cases h
    | some v =>
      have e : ((some l0).bind fun l => (numP d w).map fun v => l ++ [v]) = some (l0 ++ [v]) := by rw [hw]; rfl
      rw [e] at h
      have := fold_len d ws (l0 ++ [v]) l h
      rw [this, List.length_append, List.length_singleton, List.length_cons]; omega
theorem numsO_len {d : Nat} {ws : List Nm} {l : List Int} (h : numsO d ws = some l) : l.length = ws.length := by
  have := fold_len d ws [] l h
  rw [this]; simp
def numsR (d : Nat) (ws : List Nm) : FV := match numsO d ws with
  | some l => .tup [.sl l.length (intsF l), .v (.bool true)]
  | none => .tup [.sl 0 [], .v (.bool false)]
theorem numsR_no {d : Nat} {ws : List Nm} (h : numsO d ws = none) : numsR d ws = .tup [.sl 0 [], .v (.bool false)] := by unfold numsR; rw [h]
theorem numsR_ok {d : Nat} {ws : List Nm} {l : List Int} (h : numsO d ws = some l) : numsR d ws = .tup [.sl l.length (intsF l), .v (.bool true)] := by unfold numsR; rw [h]
theorem res_nil {C : Ctx} {n : Nat} {st : St} {t : Nat} (h : st.s t = .f (.v (.slice none 0 0))) : ResOk C n st (.tmp t) (.sl 0 []) := fun w0 a w S =>
  let ⟨v, h1, h2⟩ := res_tmp h w0 a w S
  ⟨v, h1, rep_nilsl h2⟩
theorem atoi_rng {l : Nm} {v : Int} (h : atoiAll l = .ok v) : -9223372036854775808 ≤ v ∧ v ≤ 9223372036854775807 := by
  unfold atoiAll at h
  cases l with
  | nil => cases h
  | cons c r =>
    simp only at h
    split at h
    · cases h
    · cases h
    · rename_i u hu
      split at h
      · cases h
      · split at h
        · cases h
        · injection h with h
          by_cases hn : c.toNat = 45
          · rw [if_pos hn] at h; omega
          · rw [if_neg hn] at h; omega
theorem atS_pos {v : Int} (h : 0 ≤ v) : atS (itoa v) = 0 := by
  unfold itoa
  rw [if_neg (by omega)]
  exact atS_dec _
set_option maxRecDepth 100000 in
set_option maxHeartbeats 3200000 in
theorem numbers_s (ws : List Nm) (d : Nat) (hd : d ≤ 17) (hl : ws.length ≤ 1000000) (hw : ∀ w ∈ ws, w.length ≤ 1000000) : Summ Tryz.prog GS 147 [.sl ws.length (strsF ws), iv ((d : Nat) : Int)] (numsR d ws) := by
  refine summW Tryz.func147 rfl rfl 46 rfl (by simp) (fun M0 => ?_)
  repeat (first
    | (apply s_a TY; exact rfl)
    | apply w_seq
    | apply w_region
    | apply s_nil
    | apply t_norm
    | apply w_block)
  apply w_gh (gh_own 6 3 1 rfl rfl)
  apply w_loop (fun q : Nat × List Int => ⟨(Ab.upd (Ab.upd (Ab.upd (Ab.upd (Ab.upd (fun _ => .bot) 1 (.f (iv ((d : Nat) : Int)))) 6 (.ow 0)) 11 (.f (.sl ws.length (strsF ws)))) 12 (.f (iv ws.length))) 13 (.f (iv ((q.1 : Nat) : Int)))), (Ab.upd (fun _ => none) 0 (some (.row 3 1 q.2.length (intsF q.2)))), 1⟩) (fun q => numsO d (ws.take q.1) = some q.2 ∧ q.1 ≤ ws.length) (fun q => ws.length - q.1) (0, []) (⟨rfl, Nat.zero_le _⟩) (gh_le ⟨le_upd rfl trivial (le_upd rfl trivial (le_upd rfl trivial (le_upd rfl rfl (le_upd rfl trivial (le_nil _))))), le_hupd rfl trivial (le_h0 _ _)⟩)
  rintro ⟨k, l⟩ ⟨hn, hk⟩
  change numsO d (ws.take k) = some l at hn
  change k ≤ ws.length at hk
  change W _ _ _ _ (⟨(Ab.upd (Ab.upd (Ab.upd (Ab.upd (Ab.upd (fun _ => .bot) 1 (.f (iv ((d : Nat) : Int)))) 6 (.ow 0)) 11 (.f (.sl ws.length (strsF ws)))) 12 (.f (iv ws.length))) 13 (.f (iv ((k : Nat) : Int)))), (Ab.upd (fun _ => none) 0 (some (.row 3 1 l.length (intsF l)))), 1⟩)
  have hll := numsO_len hn
  rw [List.length_take] at hll
  by_cases hc : k < ws.length
  · have hat : (strsF ws)[k * 1]? = some (sv ws[k]) := strsF_at hc
    have hne : strsF ws ≠ [] := strsF_ne (k := k) hc
    have hwk := hw _ (List.getElem_mem hc)
    have hsz := strSz ws[k]
    have LIB := @num_lib ws[k] d hd
    by_cases hok : ∃ v, atoiAll ws[k] = .ok v
    case neg =>
      obtain ⟨m, HA⟩ := Atoi_err ws[k] hwk (fun v e => hok ⟨v, e⟩)
      have hno : numO ws[k] d = none := by
        cases e : numO ws[k] d with
        | none => rfl
        | some v => exact absurd ⟨v, (LIB.1 e).1⟩ hok
      rw [numsR_no (numsO_bad hc (by unfold numP; rw [hno]))]
      repeat (first
    | (apply s_ifcNe Tryz.underlying338; exact rfl; exact rfl; exact rfl)
    | (apply s_a TY; exact rfl)
    | (apply s_t; exact rfl; (first | assumption | omega))
    | apply w_seq
    | apply w_region
    | apply s_nil
    | apply t_norm
    | apply t_ret
    | apply k_ret
    | apply w_block
    | apply w_ret
    | apply w_skip
    | (apply w_condT; exact rfl; exact rfl)
    | (apply s_k (HA); exact rfl)
    | (apply s_s; exact rfl)
    | (apply s_c TY; exact rfl; (first | omega | exact ⟨by omega, by (first | with_reducible assumption | ((with_reducible apply strsF_ne); omega) | assumption)⟩))
    | (apply s_l TY; exact rfl; (first | exact rfl | with_reducible assumption | ((with_reducible apply strsF_at); omega) | assumption)))
      exact lv_ret (ret2 rfl (res_nil rfl) (res_tmp rfl))
    obtain ⟨v, hv⟩ := hok
    have HA := Atoi_ok ws[k] hwk hv
    have HI := Itoa_s v (atoi_rng hv)
    by_cases hneg : v < 0
    · have hno : numP d ws[k] = none := by
        unfold numP
        cases e : numO ws[k] d with
        | none => rfl
        | some u =>
          have e1 := (LIB.1 e).1
          rw [hv] at e1
          injection e1 with e1
          show (if 0 ≤ u then some u else none) = none
          rw [if_neg (by omega)]
      rw [numsR_no (numsO_bad hc hno)]
      repeat (first
    | (apply s_ifcNil Tryz.underlying338; exact rfl; exact rfl; exact rfl)
    | (apply s_a TY; exact rfl)
    | (apply s_t; exact rfl; (first | assumption | omega))
    | apply w_seq
    | apply w_region
    | apply s_nil
    | apply t_norm
    | apply t_ret
    | apply k_ret
    | apply w_block
    | apply w_ret
    | apply w_skip
    | (apply w_condT; exact rfl; exact rfl)
    | (apply s_k (HA); exact rfl)
    | (apply s_s; exact rfl)
    | (apply s_c TY; exact rfl; (first | omega | exact ⟨by omega, by (first | with_reducible assumption | ((with_reducible apply strsF_ne); omega) | assumption)⟩))
    | (apply s_l TY; exact rfl; (first | exact rfl | with_reducible assumption | ((with_reducible apply strsF_at); omega) | assumption)))
      exact lv_ret (ret2 rfl (res_nil rfl) (res_tmp rfl))
    by_cases hew : itoa v = ws[k]
    case neg =>
      have hnw : ¬ itoa v = ws[k] := hew
      have hno : numP d ws[k] = none := by
        unfold numP
        cases e : numO ws[k] d with
        | none => rfl
        | some u =>
          have e1 := LIB.1 e
          rw [hv] at e1
          injection e1.1 with e2
          rw [← e2] at e1
          exact absurd e1.2.1 hew
      rw [numsR_no (numsO_bad hc hno)]
      repeat (first
    | (apply s_bind; exact rfl; exact rfl; exact rfl; exact rfl; exact rfl; exact rfl; exact nes_t hnw)
    | (apply s_ifcNil Tryz.underlying338; exact rfl; exact rfl; exact rfl)
    | (apply s_a TY; exact rfl)
    | (apply s_t; exact rfl; (first | assumption | omega))
    | (apply s_f; exact rfl; (first | assumption | omega))
    | apply w_seq
    | apply w_region
    | apply s_nil
    | apply t_norm
    | apply t_ret
    | apply k_ret
    | apply w_block
    | apply w_ret
    | apply w_skip
    | (apply w_condT; exact rfl; exact rfl)
    | (apply s_k (HA); exact rfl)
    | (apply s_k (HI); exact rfl)
    | (apply s_s; exact rfl)
    | (apply s_c TY; exact rfl; (first | omega | exact ⟨by omega, by (first | with_reducible assumption | ((with_reducible apply strsF_ne); omega) | assumption)⟩))
    | (apply s_l TY; exact rfl; (first | exact rfl | with_reducible assumption | ((with_reducible apply strsF_at); omega) | assumption)))
      exact lv_ret (ret2 rfl (res_nil rfl) (res_tmp rfl))
    have hat0 : atS ws[k] = 0 := by rw [← hew]; exact atS_pos (by omega)
    by_cases hdl : ws[k].length ≤ d
    · have hso : numP d ws[k] = some v := by
        unfold numP
        rw [LIB.2 ⟨hv, hew, by rw [hat0]; exact hdl⟩]
        show (if 0 ≤ v then some v else none) = some v
        rw [if_pos (by omega)]
      have hrow : some (Blk.row 3 1 (l.length + 1) (intsF l ++ [iv v])) = some (Blk.row 3 1 (l ++ [v]).length (intsF (l ++ [v]))) := by rw [intsF_snoc, List.length_append]; rfl
      repeat (first
    | (apply s_append TY; exact rfl; exact rfl; exact rfl; exact rfl; exact rfl; exact rfl; exact rfl; exact rfl; exact rfl; (unfold maxLen; omega); omega)
    | (apply s_bind; exact rfl; exact rfl; exact rfl; exact rfl; exact rfl; exact rfl; exact nes_f hew)
    | (apply s_ifcNil Tryz.underlying338; exact rfl; exact rfl; exact rfl)
    | (apply s_a TY; exact rfl)
    | (apply s_t; exact rfl; (first | assumption | omega))
    | (apply s_f; exact rfl; (first | assumption | omega))
    | apply w_seq
    | apply w_region
    | apply s_nil
    | apply t_norm
    | apply k_norm
    | apply w_block
    | apply w_skip
    | (apply w_condT; exact rfl; exact rfl)
    | (apply w_condF; exact rfl; exact rfl)
    | (apply s_k (HA); exact rfl)
    | (apply s_k (HI); exact rfl)
    | (apply s_c TY; exact rfl; (first | omega | exact ⟨by omega, by (first | with_reducible assumption | ((with_reducible apply strsF_ne); omega) | assumption)⟩))
    | (apply s_l TY; exact rfl; (first | exact rfl | with_reducible assumption | ((with_reducible apply strsF_at); omega) | assumption)))
      exact ⟨(k + 1, l ++ [v]), ⟨numsO_next hc hn hso, by show k + 1 ≤ _; omega⟩, by show _ - (k + 1) < _ - k; omega, gh_le ⟨le_upd rfl trivial (le_upd rfl trivial (le_upd rfl trivial (le_upd rfl rfl (le_upd rfl trivial (le_nil _))))), le_hupd hrow trivial (le_h0 _ _)⟩⟩
    · have hno : numP d ws[k] = none := by
        unfold numP
        cases e : numO ws[k] d with
        | none => rfl
        | some u =>
          have e1 := (LIB.1 e).2.2
          rw [hat0] at e1
          exact absurd e1 hdl
      rw [numsR_no (numsO_bad hc hno)]
      repeat (first
    | (apply s_bind; exact rfl; exact rfl; exact rfl; exact rfl; exact rfl; exact rfl; exact nes_f hew)
    | (apply s_ifcNil Tryz.underlying338; exact rfl; exact rfl; exact rfl)
    | (apply s_a TY; exact rfl)
    | (apply s_t; exact rfl; (first | assumption | omega))
    | (apply s_f; exact rfl; (first | assumption | omega))
    | apply w_seq
    | apply w_region
    | apply s_nil
    | apply t_norm
    | apply t_ret
    | apply k_ret
    | apply w_block
    | apply w_ret
    | apply w_skip
    | (apply w_condT; exact rfl; exact rfl)
    | (apply s_k (HA); exact rfl)
    | (apply s_k (HI); exact rfl)
    | (apply s_c TY; exact rfl; (first | omega | exact ⟨by omega, by (first | with_reducible assumption | ((with_reducible apply strsF_ne); omega) | assumption)⟩))
    | (apply s_l TY; exact rfl; (first | exact rfl | with_reducible assumption | ((with_reducible apply strsF_at); omega) | assumption)))
      exact lv_ret (ret2 rfl (res_nil rfl) (res_tmp rfl))
  · have hke : k = ws.length := by omega
    subst hke
    rw [List.take_length] at hn
    rw [numsR_ok hn]
    repeat (first
    | (apply s_a TY; exact rfl)
    | (apply s_f; exact rfl; (first | assumption | omega))
    | apply w_seq
    | apply w_region
    | apply s_nil
    | apply t_norm
    | apply t_exit
    | apply k_hit
    | apply w_exit
    | apply w_ret
    | (apply w_condF; exact rfl; exact rfl))
    exact lv_ret (ret2 rfl (res_sees rfl (sees_row rfl)) (res_tmp rfl))
end Go.Proofs.YtbkdjlahhcofmaaGreatDoor
namespace Go.Proofs.YtbkdjlahhcofmaaGreatDoor
open Go.Lib (itoa)
open Go Go.RowKit Go.Proofs Go.Shelf Go.Ab
theorem rep_nilE {w : World} {M : Nat → Prop} {v : Value} {cs : List FV} (h : RepF w M v (.agg (cs ++ [.v (.slice none 0 0)]))) : RepF w M v (.agg (cs ++ [.sl 0 []])) := by
  cases h with
  | agg _ us hl ho hr =>
    refine RepF.agg _ us (by simpa using hl) ho (fun k u x a b => ?_)
    by_cases hk : k < cs.length
    · rw [List.getElem?_append_left hk] at b
      exact hr k u x a (by rw [List.getElem?_append_left hk]; exact b)
    · rw [List.getElem?_append_right (by omega)] at b
      have hk0 : k - cs.length = 0 := by
        have := (List.getElem?_eq_some_iff.1 b).1
        simp at this; omega
      rw [hk0] at b
      cases b
      exact rep_nilsl (hr k u _ a (by rw [List.getElem?_append_right (by omega), hk0]; rfl))
structure Ntc where
  name : Nm
  version : Int
  tick : Int
  cells : List Int
def ntcF (x : Ntc) : List FV := [sv x.name, iv x.version, iv x.tick] ++ [.sl x.cells.length (intsF x.cells)]
def ntcS (x : Ntc) : Nm := x.name ++ [32] ++ wordsS ([x.version, x.tick] ++ x.cells)
theorem intsF_two (a b : Int) (l : List Int) : intsF ([a, b] ++ l) = [iv a, iv b] ++ intsF l := rfl
theorem len_two (a b : Int) (l : List Int) : ([a, b] ++ l).length = 2 + l.length := by rw [List.length_append]; rfl
set_option maxRecDepth 100000 in
theorem FormatNotice_s (x : Ntc) (hn : x.name.length ≤ 1000) (hl : x.cells.length ≤ 900) (hr : I64 ([x.version, x.tick] ++ x.cells)) : Summ Tryz.prog GS 42 [.agg (ntcF x)] (sv (ntcS x)) := by
  have HW := words_s ([x.version, x.tick] ++ x.cells) (by rw [len_two]; omega) hr
  have hwl := wordsS_len hr
  rw [len_two] at HW hwl
  rw [intsF_two] at HW
  unfold ntcS ntcF
  generalize wordsS ([x.version, x.tick] ++ x.cells) = ww at *
  refine summW Tryz.func42 rfl rfl 16 rfl (by simp) (fun M0 => ?_)
  repeat (first
    | (apply s_bslice_clip TY; exact rfl; exact rfl; exact rfl; exact rfl; exact rfl; exact rfl)
    | (apply s_append_cl TY; exact rfl; exact rfl; exact rfl; exact rfl; exact rfl; exact rfl; exact rfl; exact rfl; exact intsF_len _; (unfold maxLen; omega); omega)
    | (apply s_bind; exact rfl; exact rfl; exact rfl; exact rfl; exact rfl; exact rfl; exact cat_run (by (first | omega | (simp only [List.length_cons, List.length_nil, List.length_append]; omega))))
    | (apply s_a TY; exact rfl)
    | apply w_seq
    | apply w_region
    | (apply w_draw (id := 1) 12 rfl (by kernel_rfl))
    | apply s_nil
    | apply t_norm
    | apply w_ret
    | (apply s_k (HW); exact rfl))
  exact lv_ret (ret1 rfl (res_tmp rfl))
def ascK (l : List Int) : Nat → Bool
  | 0 => true
  | k + 1 => ascK l k && (decide (k = 0) || decide (l.getD (k - 1) default < l.getD k default))
def ntcP (s : Nm) : Ntc × Int := match numsO 13 ((cutS 32 s).drop 1) with
  | none => (⟨[], 0, 0, []⟩, 7)
  | some l =>
    if l.length < 2 ∨ (cutS 32 s).getD 0 [] = [] then (⟨[], 0, 0, []⟩, 7)
    else if nameB ((cutS 32 s).getD 0 []) = false then (⟨[], 0, 0, []⟩, 4)
    else if ¬ ((1 ≤ l.getD 0 default ∧ l.getD 0 default ≤ 1000) ∧ l.getD 1 default ≤ 1000000000000) then (⟨[], 0, 0, []⟩, 2)
    else if ascK (l.drop 2) (l.drop 2).length = false then (⟨[], 0, 0, []⟩, 9)
    else (⟨(cutS 32 s).getD 0 [], l.getD 0 default, l.getD 1 default, l.drop 2⟩, 0)
theorem res_nilE {C : Ctx} {n : Nat} {st : St} {rv : ResultVar} {cs : List FV} (h : ResOk C n st rv (.agg (cs ++ [.v (.slice none 0 0)]))) : ResOk C n st rv (.agg (cs ++ [.sl 0 []])) := fun w0 a w S =>
  let ⟨v, h1, h2⟩ := h w0 a w S
  ⟨v, h1, rep_nilE h2⟩
def ntcR (s : Nm) : FV := .tup [.agg (ntcF (ntcP s).1), iv (ntcP s).2]
def zeroN (e : Int) : FV := .tup [.agg ([sv [], iv 0, iv 0] ++ [.sl 0 []]), iv e]
section
variable {s : Nm}
theorem ntcR_7 (h : numsO 13 ((cutS 32 s).drop 1) = none) : ntcR s = zeroN 7 := by unfold ntcR ntcP; rw [h]; rfl
theorem ntcR_7l {l : List Int} (h : numsO 13 ((cutS 32 s).drop 1) = some l) (h2 : l.length < 2 ∨ (cutS 32 s).getD 0 [] = []) : ntcR s = zeroN 7 := by unfold ntcR ntcP; rw [h]; simp only [if_pos h2]; rfl
theorem ntcR_4 {l : List Int} (h : numsO 13 ((cutS 32 s).drop 1) = some l) (h2 : ¬ (l.length < 2 ∨ (cutS 32 s).getD 0 [] = [])) (h3 : nameB ((cutS 32 s).getD 0 []) = false) : ntcR s = zeroN 4 := by unfold ntcR ntcP; rw [h]; simp only [if_neg h2, if_pos h3]; rfl
theorem ntcR_2 {l : List Int} (h : numsO 13 ((cutS 32 s).drop 1) = some l) (h2 : ¬ (l.length < 2 ∨ (cutS 32 s).getD 0 [] = [])) (h3 : nameB ((cutS 32 s).getD 0 []) = true) (h4 : ¬ ((1 ≤ l.getD 0 default ∧ l.getD 0 default ≤ 1000) ∧ l.getD 1 default ≤ 1000000000000)) : ntcR s = zeroN 2 := by
  unfold ntcR ntcP; rw [h]; simp only [if_neg h2, if_neg (show ¬ nameB ((cutS 32 s).getD 0 []) = false by rw [h3]; decide), if_pos h4]; rfl
theorem ntcR_9 {l : List Int} (h : numsO 13 ((cutS 32 s).drop 1) = some l) (h2 : ¬ (l.length < 2 ∨ (cutS 32 s).getD 0 [] = [])) (h3 : nameB ((cutS 32 s).getD 0 []) = true) (h4 : (1 ≤ l.getD 0 default ∧ l.getD 0 default ≤ 1000) ∧ l.getD 1 default ≤ 1000000000000) (h5 : ascK (l.drop 2) (l.drop 2).length = false) : ntcR s = zeroN 9 := by
  unfold ntcR ntcP; rw [h]; simp only [if_neg h2, if_neg (show ¬ nameB ((cutS 32 s).getD 0 []) = false by rw [h3]; decide), if_neg (show ¬ ¬ ((1 ≤ l.getD 0 default ∧ l.getD 0 default ≤ 1000) ∧ l.getD 1 default ≤ 1000000000000) from fun q => q h4), if_pos h5]; rfl
theorem ntcR_0 {l : List Int} (h : numsO 13 ((cutS 32 s).drop 1) = some l) (h2 : ¬ (l.length < 2 ∨ (cutS 32 s).getD 0 [] = [])) (h3 : nameB ((cutS 32 s).getD 0 []) = true) (h4 : (1 ≤ l.getD 0 default ∧ l.getD 0 default ≤ 1000) ∧ l.getD 1 default ≤ 1000000000000) (h5 : ascK (l.drop 2) (l.drop 2).length = true) : ntcR s = .tup [.agg ([sv ((cutS 32 s).getD 0 []), iv (l.getD 0 default), iv (l.getD 1 default)] ++ [.sl (l.drop 2).length (intsF (l.drop 2))]), iv 0] := by
  unfold ntcR ntcP; rw [h]; simp only [if_neg h2, if_neg (show ¬ nameB ((cutS 32 s).getD 0 []) = false by rw [h3]; decide), if_neg (show ¬ ¬ ((1 ≤ l.getD 0 default ∧ l.getD 0 default ≤ 1000) ∧ l.getD 1 default ≤ 1000000000000) from fun q => q h4), if_neg (show ¬ ascK (l.drop 2) (l.drop 2).length = false by rw [h5]; decide)]; rfl
end
theorem getL {l : List Int} {i : Nat} (h : i < l.length) : (intsF l)[i * 1]? = some (iv (l.getD i default)) := by rw [intsF_at h, getD_at h]
theorem getS {l : List Nm} {i : Nat} (h : i < l.length) : (strsF l)[i * 1]? = some (sv (l.getD i [])) := by rw [strsF_at h, List.getD_eq_getElem?_getD, List.getElem?_eq_getElem h]; rfl
theorem drop_ints (l : List Int) (m : Nat) : (intsF l).drop (m * 1) = intsF (l.drop m) := by unfold intsF; rw [Nat.mul_one, List.map_drop]
theorem drop_strs (l : List Nm) (m : Nat) : (strsF l).drop (m * 1) = strsF (l.drop m) := by unfold strsF; rw [Nat.mul_one, List.map_drop]
set_option maxRecDepth 100000 in
set_option maxHeartbeats 6400000 in
theorem ParseNotice_s (s : Nm) (hs : s.length ≤ 10000) : Summ Tryz.prog GS 44 [sv s] (ntcR s) := by
  have hsz := strSz s
  have HC := Split_s s 32 (by omega)
  have hcl := cutS_len 32 s
  have hml := fun w hw => cutS_mem_len 32 s w hw
  have hcne := cutS_ne 32 s
  have HN := numbers_s ((cutS 32 s).drop 1) 13 (by decide) (by rw [List.length_drop]; omega) (fun w hw => by have := hml w (List.mem_of_mem_drop hw); omega)
  have E7 := @ntcR_7 s
  have E7l := @ntcR_7l s
  have E4 := @ntcR_4 s
  have E2 := @ntcR_2 s
  have E9 := @ntcR_9 s
  have E0 := @ntcR_0 s
  generalize cutS 32 s = ws at *
  have hpos : 0 < ws.length := List.length_pos_iff.2 hcne
  have hdw := drop_strs ws 1
  have hw0 := getS hpos
  have hwn : strsF ws ≠ [] := strsF_ne hpos
  have hnl : (ws.getD 0 []).length ≤ 1000000 := by
    rw [List.getD_eq_getElem?_getD, List.getElem?_eq_getElem hpos]
    have := hml _ (List.getElem_mem hpos)
    show ws[0].length ≤ _
    omega
  rw [List.length_drop] at HN
  cases hn : numsO 13 (ws.drop 1) with
  | none =>
    rw [numsR_no hn] at HN
    rw [E7 hn]
    refine summW Tryz.func44 rfl rfl 97 rfl (by simp) (fun M0 => ?_)
    repeat (first
    | (apply s_sliceFrom TY (m := 1); exact rfl; exact rfl; exact rfl; exact rfl; exact rfl; omega; exact strsF_len _; exact hdw)
    | (apply s_a TY; exact rfl)
    | (apply s_f; exact rfl; (first | assumption | omega))
    | apply w_seq
    | apply w_region
    | apply s_nil
    | apply t_norm
    | apply t_ret
    | apply w_ret
    | apply w_skip
    | (apply w_condT; exact rfl; exact rfl)
    | (apply w_condF; exact rfl; exact rfl)
    | (apply s_k (HC); exact rfl)
    | (apply s_k (HN); exact rfl)
    | (apply s_s; exact rfl)
    | (apply s_alloc TY; exact rfl; exact rfl; exact rfl)
    | (apply s_store TY; exact rfl; exact rfl; exact rfl; exact rfl; exact rfl; exact rfl))
    exact lv_ret (ret2 rfl (res_nilE (cs := [sv [], iv 0, iv 0]) (res_bxs (sub := [sv [], iv 0, iv 0] ++ [.v (.slice none 0 0)]) TY rfl rfl rfl rfl rfl)) (res_tmp rfl))
  | some l =>
    have hll := numsO_len hn
    rw [List.length_drop] at hll
    rw [numsR_ok hn] at HN
    by_cases h2 : l.length < 2
    · rw [E7l hn (.inl h2)]
      refine summW Tryz.func44 rfl rfl 97 rfl (by simp) (fun M0 => ?_)
      repeat (first
    | (apply s_sliceFrom TY (m := 1); exact rfl; exact rfl; exact rfl; exact rfl; exact rfl; omega; exact strsF_len _; exact hdw)
    | (apply s_a TY; exact rfl)
    | (apply s_t; exact rfl; (first | assumption | omega))
    | (apply s_f; exact rfl; (first | assumption | omega))
    | apply w_seq
    | apply w_region
    | apply s_nil
    | apply t_norm
    | apply t_ret
    | apply w_ret
    | apply w_skip
    | (apply w_condT; exact rfl; exact rfl)
    | (apply w_condF; exact rfl; exact rfl)
    | (apply s_k (HC); exact rfl)
    | (apply s_k (HN); exact rfl)
    | (apply s_s; exact rfl)
    | (apply s_alloc TY; exact rfl; exact rfl; exact rfl)
    | (apply s_store TY; exact rfl; exact rfl; exact rfl; exact rfl; exact rfl; exact rfl))
      exact lv_ret (ret2 rfl (res_nilE (cs := [sv [], iv 0, iv 0]) (res_bxs (sub := [sv [], iv 0, iv 0] ++ [.v (.slice none 0 0)]) TY rfl rfl rfl rfl rfl)) (res_tmp rfl))
    by_cases he : ws.getD 0 [] = []
    · have hen : sv (ws.getD 0 []) = sv [] := by rw [he]
      rw [E7l hn (.inr he)]
      refine summW Tryz.func44 rfl rfl 97 rfl (by simp) (fun M0 => ?_)
      repeat (first
    | (apply s_sliceFrom TY (m := 1); exact rfl; exact rfl; exact rfl; exact rfl; exact rfl; omega; exact strsF_len _; exact hdw)
    | (apply s_bind; exact rfl; exact rfl; exact rfl; exact rfl; exact rfl; exact rfl; exact eqs_t (by assumption))
    | (apply s_l TY; exact rfl; first | exact hw0 | exact hl0 | exact hl1)
    | (apply s_c TY; exact rfl; first | exact ⟨by omega, hwn⟩ | exact ⟨by omega, hln⟩)
    | (apply s_a TY; exact rfl)
    | (apply s_f; exact rfl; (first | assumption | omega))
    | apply w_seq
    | apply w_region
    | apply s_nil
    | apply t_norm
    | apply t_ret
    | apply w_ret
    | apply w_skip
    | (apply w_condT; exact rfl; exact rfl)
    | (apply w_condF; exact rfl; exact rfl)
    | (apply s_k (HC); exact rfl)
    | (apply s_k (HN); exact rfl)
    | (apply s_alloc TY; exact rfl; exact rfl; exact rfl)
    | (apply s_store TY; exact rfl; exact rfl; exact rfl; exact rfl; exact rfl; exact rfl))
      exact lv_ret (ret2 rfl (res_nilE (cs := [sv [], iv 0, iv 0]) (res_bxs (sub := [sv [], iv 0, iv 0] ++ [.v (.slice none 0 0)]) TY rfl rfl rfl rfl rfl)) (res_tmp rfl))
    have h7 : ¬ (l.length < 2 ∨ ws.getD 0 [] = []) := fun q => q.elim h2 he
    have E4' := E4 hn h7
    have E2' := E2 hn h7
    have E9' := E9 hn h7
    have E0' := E0 hn h7
    have hdl := drop_ints l 2
    have hl0 := getL (show 0 < l.length by omega)
    have hl1 := getL (show 1 < l.length by omega)
    have hln : intsF l ≠ [] := intsF_ne (k := 0) (by omega)
    have hLl : (l.drop 2).length = l.length - 2 := List.length_drop
    generalize l.drop 2 = L at *
    generalize l.getD 0 default = v0 at *
    generalize l.getD 1 default = v1 at *
    generalize ws.getD 0 [] = nm at *
    have HNM := up (isName_s nm hnl)
    refine summW Tryz.func44 rfl rfl 97 rfl (by simp) (fun M0 => ?_)
    repeat (first
    | (apply s_sliceFrom TY (m := 1); exact rfl; exact rfl; exact rfl; exact rfl; exact rfl; omega; exact strsF_len _; exact hdw)
    | (apply s_sliceFrom TY (m := 2); exact rfl; exact rfl; exact rfl; exact rfl; exact rfl; omega; exact intsF_len _; exact hdl)
    | (apply s_bind; exact rfl; exact rfl; exact rfl; exact rfl; exact rfl; exact rfl; exact eqs_f (by assumption))
    | (apply s_l TY; exact rfl; first | exact hw0 | exact hl0 | exact hl1)
    | (apply s_c TY; exact rfl; first | exact ⟨by omega, hwn⟩ | exact ⟨by omega, hln⟩)
    | (apply s_a TY; exact rfl)
    | (apply s_f; exact rfl; (first | assumption | omega))
    | apply w_seq
    | apply w_region
    | (apply w_draw (id := 7) 13 rfl (by kernel_rfl))
    | apply s_nil
    | apply t_norm
    | apply w_block
    | apply w_skip
    | (apply w_condF; exact rfl; exact rfl)
    | (apply s_k (HC); exact rfl)
    | (apply s_k (HN); exact rfl)
    | (apply s_z TY; exact rfl; (first | omega | exact ⟨by omega, by (first | with_reducible assumption | ((with_reducible apply intsF_ne); omega) | ((with_reducible apply strsF_ne); omega) | assumption)⟩))
    | (apply s_alloc TY; exact rfl; exact rfl; exact rfl)
    | (apply s_store TY; exact rfl; exact rfl; exact rfl; exact rfl; exact rfl; exact rfl))
    apply w_loop (fun q : Nat × Bool => ⟨(Ab.upd (Ab.upd (Ab.upd (Ab.upd (Ab.upd (Ab.upd (fun _ => .bot) 2 (.bx 0 0)) 7 (.bx 1 0)) 8 (.f (.v (.bool q.2)))) 51 (.f (.sl (l.length - 2) (intsF L)))) 52 (.f (iv ((l.length - 2 : Nat) : Int)))) 53 (.f (iv ((q.1 : Nat) : Int)))), (Ab.upd (Ab.upd (fun _ => none) 0 (some (.box [.f (sv []), .f (iv 0), .f (iv 0), .f (.v (.slice none 0 0))]))) 1 (some (.box [.f (sv nm), .f (iv v0), .f (iv v1), .f (.sl (l.length - 2) (intsF L))]))), 2⟩) (fun q => ascK L q.1 = q.2 ∧ q.1 ≤ L.length) (fun q => L.length - q.1) (0, true) (⟨rfl, Nat.zero_le _⟩) (gh_le ⟨le_upd rfl trivial (le_upd rfl trivial (le_upd rfl trivial (le_upd rfl trivial (le_upd rfl rfl (le_upd rfl rfl (le_nil _)))))), le_hupd rfl (fun y hy => by simp at hy; rcases hy with rfl | rfl | rfl | rfl <;> trivial) (le_hupd rfl (fun y hy => by simp at hy; rcases hy with rfl | rfl | rfl | rfl <;> trivial) (le_h0 _ _))⟩)
    rintro ⟨k, b⟩ ⟨hb, hk⟩
    change ascK L k = b at hb
    change k ≤ L.length at hk
    change W _ _ _ _ (⟨(Ab.upd (Ab.upd (Ab.upd (Ab.upd (Ab.upd (Ab.upd (fun _ => .bot) 2 (.bx 0 0)) 7 (.bx 1 0)) 8 (.f (.v (.bool b)))) 51 (.f (.sl (l.length - 2) (intsF L)))) 52 (.f (iv ((l.length - 2 : Nat) : Int)))) 53 (.f (iv ((k : Nat) : Int)))), (Ab.upd (Ab.upd (fun _ => none) 0 (some (.box [.f (sv []), .f (iv 0), .f (iv 0), .f (.v (.slice none 0 0))]))) 1 (some (.box [.f (sv nm), .f (iv v0), .f (iv v1), .f (.sl (l.length - 2) (intsF L))]))), 2⟩)
    rcases Bool.eq_false_or_eq_true b with hbb | hbb
    · subst hbb
      by_cases hc : k < L.length
      · have hLn : intsF L ≠ [] := intsF_ne (k := k) hc
        have hk0 := getL hc
        have hk1 : (intsF L)[(max (0 : Int) (((k : Nat) : Int) - 1)).toNat * 1]? = some (iv (L.getD (k - 1) default)) := by
          rw [show (max (0 : Int) (((k : Nat) : Int) - 1)).toNat = k - 1 by omega]; exact getL (by omega)
        by_cases h0 : k = 0
        · repeat (first
    | (apply s_l TY; exact rfl; first | exact hk0 | exact hk1)
    | (apply s_c TY; exact rfl; first | omega | exact ⟨by omega, hLn⟩)
    | (apply s_a TY; exact rfl)
    | (apply s_t; exact rfl; (first | assumption | omega))
    | apply w_seq
    | apply w_region
    | apply s_nil
    | apply t_norm
    | apply k_norm
    | apply w_block
    | apply w_skip
    | (apply w_condT; exact rfl; exact rfl)
    | (apply s_s; exact rfl))
          exact ⟨(k + 1, true), ⟨by show ascK L (k + 1) = true; rw [ascK, hb, h0]; rfl, by show k + 1 ≤ _; omega⟩, by show _ - (k + 1) < _ - k; omega, gh_le ⟨le_upd rfl trivial (le_upd rfl trivial (le_upd rfl trivial (le_upd rfl trivial (le_upd rfl rfl (le_upd rfl rfl (le_nil _)))))), le_hupd rfl (fun y hy => by simp at hy; rcases hy with rfl | rfl | rfl | rfl <;> trivial) (le_hupd rfl (fun y hy => by simp at hy; rcases hy with rfl | rfl | rfl | rfl <;> trivial) (le_h0 _ _))⟩⟩
        · by_cases hlt : L.getD (k - 1) default < L.getD k default
          · repeat (first
    | (apply s_l TY; exact rfl; first | exact hk0 | exact hk1)
    | (apply s_c TY; exact rfl; first | omega | exact ⟨by omega, hLn⟩)
    | (apply s_z TY; exact rfl; first | omega | exact ⟨by omega, hLn⟩)
    | (apply s_a TY; exact rfl)
    | (apply s_t; exact rfl; (first | assumption | omega))
    | (apply s_f; exact rfl; (first | assumption | omega))
    | apply w_seq
    | apply w_region
    | apply s_nil
    | apply t_norm
    | apply k_norm
    | apply w_block
    | apply w_skip
    | (apply w_condT; exact rfl; exact rfl))
            exact ⟨(k + 1, true), ⟨by show ascK L (k + 1) = true; rw [ascK, hb, decide_eq_true hlt, Bool.or_true]; rfl, by show k + 1 ≤ _; omega⟩, by show _ - (k + 1) < _ - k; omega, gh_le ⟨le_upd rfl trivial (le_upd rfl trivial (le_upd rfl trivial (le_upd rfl trivial (le_upd rfl rfl (le_upd rfl rfl (le_nil _)))))), le_hupd rfl (fun y hy => by simp at hy; rcases hy with rfl | rfl | rfl | rfl <;> trivial) (le_hupd rfl (fun y hy => by simp at hy; rcases hy with rfl | rfl | rfl | rfl <;> trivial) (le_h0 _ _))⟩⟩
          · repeat (first
    | (apply s_l TY; exact rfl; first | exact hk0 | exact hk1)
    | (apply s_c TY; exact rfl; first | omega | exact ⟨by omega, hLn⟩)
    | (apply s_z TY; exact rfl; first | omega | exact ⟨by omega, hLn⟩)
    | (apply s_a TY; exact rfl)
    | (apply s_t; exact rfl; (first | assumption | omega))
    | (apply s_f; exact rfl; (first | assumption | omega))
    | apply w_seq
    | apply w_region
    | apply s_nil
    | apply t_norm
    | apply k_norm
    | apply w_block
    | apply w_skip
    | (apply w_condT; exact rfl; exact rfl))
            exact ⟨(k + 1, false), ⟨by show ascK L (k + 1) = false; rw [ascK, hb, decide_eq_false hlt, decide_eq_false h0]; rfl, by show k + 1 ≤ _; omega⟩, by show _ - (k + 1) < _ - k; omega, gh_le ⟨le_upd rfl trivial (le_upd rfl trivial (le_upd rfl trivial (le_upd rfl trivial (le_upd rfl rfl (le_upd rfl rfl (le_nil _)))))), le_hupd rfl (fun y hy => by simp at hy; rcases hy with rfl | rfl | rfl | rfl <;> trivial) (le_hupd rfl (fun y hy => by simp at hy; rcases hy with rfl | rfl | rfl | rfl <;> trivial) (le_h0 _ _))⟩⟩
      · have hke : k = L.length := by omega
        have hfin : ascK L L.length = true := by rw [← hke]; exact hb
        repeat (first
    | (apply s_a TY; exact rfl)
    | (apply s_f; exact rfl; (first | assumption | omega))
    | apply w_seq
    | apply w_region
    | (apply w_draw (id := 14) 14 rfl (by kernel_rfl))
    | apply s_nil
    | apply t_norm
    | apply t_exit
    | apply k_hit
    | apply w_exit
    | (apply w_condF; exact rfl; exact rfl))
        rcases Bool.eq_false_or_eq_true (nameB nm) with hnm | hnm
        · rw [hnm] at HNM
          by_cases hv : 1 ≤ v0 ∧ v0 ≤ 1000
          · by_cases ht : v1 ≤ 1000000000000
            · have HFI := up (first3_2 0 0 0 ⟨rfl, rfl⟩)
              have HWI := up (within_T v0 1 1000 hv)
              rw [E0' hnm ⟨hv, ht⟩ hfin]
              rw [hLl]
              repeat (first
    | (apply s_a TY; exact rfl)
    | (apply s_t; exact rfl; (first | assumption | omega))
    | apply w_seq
    | apply w_region
    | apply s_nil
    | apply t_norm
    | apply w_ret
    | apply w_skip
    | (apply w_condF; exact rfl; exact rfl)
    | (apply s_k (HNM); exact rfl)
    | (apply s_k (HWI); exact rfl)
    | (apply s_k (HFI); exact rfl)
    | (apply s_k (up (unless_T _)); exact rfl)
    | (apply s_store TY; exact rfl; exact rfl; exact rfl; exact rfl; exact rfl; exact rfl))
              exact lv_ret (ret2 rfl (res_bxs (sub := [sv nm, iv v0, iv v1] ++ [.sl (l.length - 2) (intsF L)]) TY rfl rfl rfl rfl rfl) (res_tmp rfl))
            · have HFI := up (first3_1 0 2 0 ⟨rfl, by decide⟩)
              have HWI := up (within_T v0 1 1000 hv)
              rw [E2' hnm (fun q => ht q.2)]
              repeat (first
    | (apply s_a TY; exact rfl)
    | (apply s_f; exact rfl; (first | assumption | omega))
    | apply w_seq
    | apply w_region
    | apply s_nil
    | apply t_norm
    | apply t_ret
    | apply w_ret
    | (apply w_condT; exact rfl; exact rfl)
    | (apply s_k (HNM); exact rfl)
    | (apply s_k (HWI); exact rfl)
    | (apply s_k (HFI); exact rfl)
    | (apply s_k (up (unless_T _)); exact rfl)
    | (apply s_k (up (unless_F _)); exact rfl)
    | (apply s_store TY; exact rfl; exact rfl; exact rfl; exact rfl; exact rfl; exact rfl))
              exact lv_ret (ret2 rfl (res_nilE (cs := [sv [], iv 0, iv 0]) (res_bxs (sub := [sv [], iv 0, iv 0] ++ [.v (.slice none 0 0)]) TY rfl rfl rfl rfl rfl)) (res_tmp rfl))
          · have HFI := up (first3_1 0 2 0 ⟨rfl, by decide⟩)
            have HWI := up (within_F v0 1 1000 hv)
            rw [E2' hnm (fun q => hv q.1)]
            repeat (first
    | (apply s_a TY; exact rfl)
    | (apply s_f; exact rfl; (first | assumption | omega))
    | apply w_seq
    | apply w_region
    | apply s_nil
    | apply t_norm
    | apply t_ret
    | apply w_ret
    | (apply w_condT; exact rfl; exact rfl)
    | (apply s_k (HNM); exact rfl)
    | (apply s_k (HWI); exact rfl)
    | (apply s_k (HFI); exact rfl)
    | (apply s_k (up (unless_T _)); exact rfl)
    | (apply s_k (up (unless_F _)); exact rfl)
    | (apply s_s; exact rfl)
    | (apply s_store TY; exact rfl; exact rfl; exact rfl; exact rfl; exact rfl; exact rfl))
            exact lv_ret (ret2 rfl (res_nilE (cs := [sv [], iv 0, iv 0]) (res_bxs (sub := [sv [], iv 0, iv 0] ++ [.v (.slice none 0 0)]) TY rfl rfl rfl rfl rfl)) (res_tmp rfl))
        · rw [hnm] at HNM
          by_cases hv : 1 ≤ v0 ∧ v0 ≤ 1000
          · by_cases ht : v1 ≤ 1000000000000
            · have HFI := up (first3_0 4 0 0 (by decide))
              have HWI := up (within_T v0 1 1000 hv)
              rw [E4' hnm]
              repeat (first
    | (apply s_a TY; exact rfl)
    | (apply s_t; exact rfl; (first | assumption | omega))
    | (apply s_f; exact rfl; (first | assumption | omega))
    | apply w_seq
    | apply w_region
    | apply s_nil
    | apply t_norm
    | apply t_ret
    | apply w_ret
    | (apply w_condT; exact rfl; exact rfl)
    | (apply s_k (HNM); exact rfl)
    | (apply s_k (HWI); exact rfl)
    | (apply s_k (HFI); exact rfl)
    | (apply s_k (up (unless_T _)); exact rfl)
    | (apply s_k (up (unless_F _)); exact rfl)
    | (apply s_store TY; exact rfl; exact rfl; exact rfl; exact rfl; exact rfl; exact rfl))
              exact lv_ret (ret2 rfl (res_nilE (cs := [sv [], iv 0, iv 0]) (res_bxs (sub := [sv [], iv 0, iv 0] ++ [.v (.slice none 0 0)]) TY rfl rfl rfl rfl rfl)) (res_tmp rfl))
            · have HFI := up (first3_0 4 2 0 (by decide))
              have HWI := up (within_T v0 1 1000 hv)
              rw [E4' hnm]
              repeat (first
    | (apply s_a TY; exact rfl)
    | (apply s_f; exact rfl; (first | assumption | omega))
    | apply w_seq
    | apply w_region
    | apply s_nil
    | apply t_norm
    | apply t_ret
    | apply w_ret
    | (apply w_condT; exact rfl; exact rfl)
    | (apply s_k (HNM); exact rfl)
    | (apply s_k (HWI); exact rfl)
    | (apply s_k (HFI); exact rfl)
    | (apply s_k (up (unless_T _)); exact rfl)
    | (apply s_k (up (unless_F _)); exact rfl)
    | (apply s_store TY; exact rfl; exact rfl; exact rfl; exact rfl; exact rfl; exact rfl))
              exact lv_ret (ret2 rfl (res_nilE (cs := [sv [], iv 0, iv 0]) (res_bxs (sub := [sv [], iv 0, iv 0] ++ [.v (.slice none 0 0)]) TY rfl rfl rfl rfl rfl)) (res_tmp rfl))
          · have HFI := up (first3_0 4 2 0 (by decide))
            have HWI := up (within_F v0 1 1000 hv)
            rw [E4' hnm]
            repeat (first
    | (apply s_a TY; exact rfl)
    | (apply s_f; exact rfl; (first | assumption | omega))
    | apply w_seq
    | apply w_region
    | apply s_nil
    | apply t_norm
    | apply t_ret
    | apply w_ret
    | (apply w_condT; exact rfl; exact rfl)
    | (apply s_k (HNM); exact rfl)
    | (apply s_k (HWI); exact rfl)
    | (apply s_k (HFI); exact rfl)
    | (apply s_k (up (unless_T _)); exact rfl)
    | (apply s_k (up (unless_F _)); exact rfl)
    | (apply s_s; exact rfl)
    | (apply s_store TY; exact rfl; exact rfl; exact rfl; exact rfl; exact rfl; exact rfl))
            exact lv_ret (ret2 rfl (res_nilE (cs := [sv [], iv 0, iv 0]) (res_bxs (sub := [sv [], iv 0, iv 0] ++ [.v (.slice none 0 0)]) TY rfl rfl rfl rfl rfl)) (res_tmp rfl))
    · subst hbb
      by_cases hc : k < L.length
      · have hLn : intsF L ≠ [] := intsF_ne (k := k) hc
        have hk0 := getL hc
        have hk1 : (intsF L)[(max (0 : Int) (((k : Nat) : Int) - 1)).toNat * 1]? = some (iv (L.getD (k - 1) default)) := by
          rw [show (max (0 : Int) (((k : Nat) : Int) - 1)).toNat = k - 1 by omega]; exact getL (by omega)
        repeat (first
    | (apply s_l TY; exact rfl; first | exact hk0 | exact hk1)
    | (apply s_c TY; exact rfl; first | omega | exact ⟨by omega, hLn⟩)
    | (apply s_a TY; exact rfl)
    | (apply s_t; exact rfl; (first | assumption | omega))
    | apply w_seq
    | apply w_region
    | apply s_nil
    | apply t_norm
    | apply k_norm
    | apply w_block
    | apply w_skip
    | (apply w_condT; exact rfl; exact rfl)
    | (apply s_s; exact rfl))
        exact ⟨(k + 1, false), ⟨by show ascK L (k + 1) = false; rw [ascK, hb]; rfl, by show k + 1 ≤ _; omega⟩, by show _ - (k + 1) < _ - k; omega, gh_le ⟨le_upd rfl trivial (le_upd rfl trivial (le_upd rfl trivial (le_upd rfl trivial (le_upd rfl rfl (le_upd rfl rfl (le_nil _)))))), le_hupd rfl (fun y hy => by simp at hy; rcases hy with rfl | rfl | rfl | rfl <;> trivial) (le_hupd rfl (fun y hy => by simp at hy; rcases hy with rfl | rfl | rfl | rfl <;> trivial) (le_h0 _ _))⟩⟩
      · have hke : k = L.length := by omega
        have hfin : ascK L L.length = false := by rw [← hke]; exact hb
        repeat (first
    | (apply s_a TY; exact rfl)
    | (apply s_f; exact rfl; (first | assumption | omega))
    | apply w_seq
    | apply w_region
    | (apply w_draw (id := 14) 14 rfl (by kernel_rfl))
    | apply s_nil
    | apply t_norm
    | apply t_exit
    | apply k_hit
    | apply w_exit
    | (apply w_condF; exact rfl; exact rfl))
        rcases Bool.eq_false_or_eq_true (nameB nm) with hnm | hnm
        · rw [hnm] at HNM
          by_cases hv : 1 ≤ v0 ∧ v0 ≤ 1000
          · by_cases ht : v1 ≤ 1000000000000
            · have HFI := up (first3_2 0 0 9 ⟨rfl, rfl⟩)
              have HWI := up (within_T v0 1 1000 hv)
              rw [E9' hnm ⟨hv, ht⟩ hfin]
              repeat (first
    | (apply s_a TY; exact rfl)
    | (apply s_t; exact rfl; (first | assumption | omega))
    | (apply s_f; exact rfl; (first | assumption | omega))
    | apply w_seq
    | apply w_region
    | apply s_nil
    | apply t_norm
    | apply t_ret
    | apply w_ret
    | (apply w_condT; exact rfl; exact rfl)
    | (apply s_k (HNM); exact rfl)
    | (apply s_k (HWI); exact rfl)
    | (apply s_k (HFI); exact rfl)
    | (apply s_k (up (unless_T _)); exact rfl)
    | (apply s_k (up (unless_F _)); exact rfl)
    | (apply s_store TY; exact rfl; exact rfl; exact rfl; exact rfl; exact rfl; exact rfl))
              exact lv_ret (ret2 rfl (res_nilE (cs := [sv [], iv 0, iv 0]) (res_bxs (sub := [sv [], iv 0, iv 0] ++ [.v (.slice none 0 0)]) TY rfl rfl rfl rfl rfl)) (res_tmp rfl))
            · have HFI := up (first3_1 0 2 9 ⟨rfl, by decide⟩)
              have HWI := up (within_T v0 1 1000 hv)
              rw [E2' hnm (fun q => ht q.2)]
              repeat (first
    | (apply s_a TY; exact rfl)
    | (apply s_f; exact rfl; (first | assumption | omega))
    | apply w_seq
    | apply w_region
    | apply s_nil
    | apply t_norm
    | apply t_ret
    | apply w_ret
    | (apply w_condT; exact rfl; exact rfl)
    | (apply s_k (HNM); exact rfl)
    | (apply s_k (HWI); exact rfl)
    | (apply s_k (HFI); exact rfl)
    | (apply s_k (up (unless_T _)); exact rfl)
    | (apply s_k (up (unless_F _)); exact rfl)
    | (apply s_store TY; exact rfl; exact rfl; exact rfl; exact rfl; exact rfl; exact rfl))
              exact lv_ret (ret2 rfl (res_nilE (cs := [sv [], iv 0, iv 0]) (res_bxs (sub := [sv [], iv 0, iv 0] ++ [.v (.slice none 0 0)]) TY rfl rfl rfl rfl rfl)) (res_tmp rfl))
          · have HFI := up (first3_1 0 2 9 ⟨rfl, by decide⟩)
            have HWI := up (within_F v0 1 1000 hv)
            rw [E2' hnm (fun q => hv q.1)]
            repeat (first
    | (apply s_a TY; exact rfl)
    | (apply s_f; exact rfl; (first | assumption | omega))
    | apply w_seq
    | apply w_region
    | apply s_nil
    | apply t_norm
    | apply t_ret
    | apply w_ret
    | (apply w_condT; exact rfl; exact rfl)
    | (apply s_k (HNM); exact rfl)
    | (apply s_k (HWI); exact rfl)
    | (apply s_k (HFI); exact rfl)
    | (apply s_k (up (unless_T _)); exact rfl)
    | (apply s_k (up (unless_F _)); exact rfl)
    | (apply s_s; exact rfl)
    | (apply s_store TY; exact rfl; exact rfl; exact rfl; exact rfl; exact rfl; exact rfl))
            exact lv_ret (ret2 rfl (res_nilE (cs := [sv [], iv 0, iv 0]) (res_bxs (sub := [sv [], iv 0, iv 0] ++ [.v (.slice none 0 0)]) TY rfl rfl rfl rfl rfl)) (res_tmp rfl))
        · rw [hnm] at HNM
          by_cases hv : 1 ≤ v0 ∧ v0 ≤ 1000
          · by_cases ht : v1 ≤ 1000000000000
            · have HFI := up (first3_0 4 0 9 (by decide))
              have HWI := up (within_T v0 1 1000 hv)
              rw [E4' hnm]
              repeat (first
    | (apply s_a TY; exact rfl)
    | (apply s_t; exact rfl; (first | assumption | omega))
    | (apply s_f; exact rfl; (first | assumption | omega))
    | apply w_seq
    | apply w_region
    | apply s_nil
    | apply t_norm
    | apply t_ret
    | apply w_ret
    | (apply w_condT; exact rfl; exact rfl)
    | (apply s_k (HNM); exact rfl)
    | (apply s_k (HWI); exact rfl)
    | (apply s_k (HFI); exact rfl)
    | (apply s_k (up (unless_T _)); exact rfl)
    | (apply s_k (up (unless_F _)); exact rfl)
    | (apply s_store TY; exact rfl; exact rfl; exact rfl; exact rfl; exact rfl; exact rfl))
              exact lv_ret (ret2 rfl (res_nilE (cs := [sv [], iv 0, iv 0]) (res_bxs (sub := [sv [], iv 0, iv 0] ++ [.v (.slice none 0 0)]) TY rfl rfl rfl rfl rfl)) (res_tmp rfl))
            · have HFI := up (first3_0 4 2 9 (by decide))
              have HWI := up (within_T v0 1 1000 hv)
              rw [E4' hnm]
              repeat (first
    | (apply s_a TY; exact rfl)
    | (apply s_f; exact rfl; (first | assumption | omega))
    | apply w_seq
    | apply w_region
    | apply s_nil
    | apply t_norm
    | apply t_ret
    | apply w_ret
    | (apply w_condT; exact rfl; exact rfl)
    | (apply s_k (HNM); exact rfl)
    | (apply s_k (HWI); exact rfl)
    | (apply s_k (HFI); exact rfl)
    | (apply s_k (up (unless_F _)); exact rfl)
    | (apply s_store TY; exact rfl; exact rfl; exact rfl; exact rfl; exact rfl; exact rfl))
              exact lv_ret (ret2 rfl (res_nilE (cs := [sv [], iv 0, iv 0]) (res_bxs (sub := [sv [], iv 0, iv 0] ++ [.v (.slice none 0 0)]) TY rfl rfl rfl rfl rfl)) (res_tmp rfl))
          · have HFI := up (first3_0 4 2 9 (by decide))
            have HWI := up (within_F v0 1 1000 hv)
            rw [E4' hnm]
            repeat (first
    | (apply s_a TY; exact rfl)
    | (apply s_f; exact rfl; (first | assumption | omega))
    | apply w_seq
    | apply w_region
    | apply s_nil
    | apply t_norm
    | apply t_ret
    | apply w_ret
    | (apply w_condT; exact rfl; exact rfl)
    | (apply s_k (HNM); exact rfl)
    | (apply s_k (HWI); exact rfl)
    | (apply s_k (HFI); exact rfl)
    | (apply s_k (up (unless_F _)); exact rfl)
    | (apply s_s; exact rfl)
    | (apply s_store TY; exact rfl; exact rfl; exact rfl; exact rfl; exact rfl; exact rfl))
            exact lv_ret (ret2 rfl (res_nilE (cs := [sv [], iv 0, iv 0]) (res_bxs (sub := [sv [], iv 0, iv 0] ++ [.v (.slice none 0 0)]) TY rfl rfl rfl rfl rfl)) (res_tmp rfl))
end Go.Proofs.YtbkdjlahhcofmaaGreatDoor
namespace Go.Proofs.YtbkdjlahhcofmaaGreatDoor
open Go.Lib (itoa)
open Go Go.RowKit Go.Proofs Go.Shelf Go.Ab
end Go.Proofs.YtbkdjlahhcofmaaGreatDoor
namespace Go.Proofs.YtbkdjlahhcofmaaGreatDoor
open Go Go.RowKit Go.Proofs Go.Shelf Go.Ab
structure CelsOk (cs : List Cel) : Prop where
  len : cs.length ≤ 96
  each : ∀ i (hi : i < cs.length), (1 ≤ cs[i].count ∧ cs[i].count ≤ 12) ∧ (0 ≤ cs[i].index ∧ cs[i].index < cs[i].count) ∧ 0 ≤ cs[i].ring ∧ cs[i].ring ≤ 8
  same : ∀ i j (hi : i < cs.length) (hj : j < cs.length), cs[i].ring = cs[j].ring → cs[i].count = cs[j].count
end Go.Proofs.YtbkdjlahhcofmaaGreatDoor
namespace Go.Proofs.YtbkdjlahhcofmaaGreatDoor
open Go Go.RowKit Go.Proofs Go.Shelf Go.Ab
end Go.Proofs.YtbkdjlahhcofmaaGreatDoor
namespace Go.Proofs.YtbkdjlahhcofmaaGreatDoor
open Go Go.RowKit Go.Proofs Go.Shelf Go.Ab
end Go.Proofs.YtbkdjlahhcofmaaGreatDoor
namespace Go.Proofs.YtbkdjlahhcofmaaGreatDoor
open Go Go.RowKit Go.Proofs Go.Shelf Go.Ab
section
variable {near : Int → Int → Bool}
structure MkOk (near : Int → Int → Bool) (X mk : List Int) : Prop where
  len : mk.length = X.length
  each : ∀ i, i < X.length → mk.getD i default ∈ X ∧ Conn near X (X.getD i default) (mk.getD i default) ∧ mk.getD i default ≤ X.getD i default
def stillM (near : Int → Int → Bool) (X mk : List Int) (i k : Nat) : Prop := ¬ (mk.getD i default < mk.getD k default ∧ near (X.getD i default) (X.getD k default) = true)
def sumM (mk : List Int) : Nat := (mk.map Int.toNat).sum
structure Sweep (near : Int → Int → Bool) (X m0 : List Int) (i k : Nat) (mk : List Int) (c : Bool) : Prop where
  ok : MkOk near X mk
  low : c = true → sumM mk < sumM m0
  same : c = false → mk = m0
  still : c = false → ∀ a b, a < X.length → b < X.length → (a < i ∨ (a = i ∧ b < k)) → stillM near X m0 a b
end
end Go.Proofs.YtbkdjlahhcofmaaGreatDoor
namespace Go.Proofs.YtbkdjlahhcofmaaGreatDoor
open Go Go.RowKit Go.Proofs Go.Shelf Go.Ab
end Go.Proofs.YtbkdjlahhcofmaaGreatDoor
namespace Go.Proofs.YtbkdjlahhcofmaaGreatDoor
open Go Go.RowKit Go.Proofs Go.Shelf Go.Ab
end Go.Proofs.YtbkdjlahhcofmaaGreatDoor
namespace Go.Proofs.YtbkdjlahhcofmaaGreatDoor
open Go Go.RowKit Go.Proofs Go.Shelf Go.Ab
section
variable {C : Ctx} {N : Nat} {st : St}
end
end Go.Proofs.YtbkdjlahhcofmaaGreatDoor
namespace Go.Proofs.YtbkdjlahhcofmaaGreatDoor
open Go Go.RowKit Go.Proofs Go.Shelf Go.Ab
theorem celsE_of {c : Int} {l : List Int} (h : celsE c l = 0) : (∀ z, z ∈ l → 0 ≤ z ∧ z ≤ c - 1) ∧ l.Pairwise (· < ·) := by
  have hz := celsE_iff.1 h
  have h1 : ∀ i (hi : i < l.length), 0 ≤ l[i] ∧ l[i] ≤ c - 1 := fun i hi => by
    have := hz i hi
    unfold celsX at this
    rw [getD_at hi] at this
    refine Classical.byContradiction fun hn => ?_
    rw [if_pos hn] at this; cases this
  have h2 : ∀ i (hi : i + 1 < l.length), l[i] < l[i + 1] := fun i hi => by
    have := hz (i + 1) hi
    have hi' : i < l.length := by omega
    have hb := h1 (i + 1) hi
    unfold celsX at this
    rw [getD_at hi, if_neg (fun hn => hn hb), Nat.add_sub_cancel, getD_at hi'] at this
    refine Classical.byContradiction fun hn => ?_
    rw [if_pos ⟨by omega, by omega⟩] at this; cases this
  have h3 : ∀ d i (hi : i + d + 1 < l.length), l[i] < l[i + d + 1] := fun d => by
    induction d with
    | zero => exact fun i hi => h2 i hi
    | succ d ih => exact fun i hi => Int.lt_trans (ih i (by omega)) (h2 (i + d + 1) (by omega))
  refine ⟨fun z hz => ?_, List.pairwise_iff_getElem.2 fun i j hi hj hij => ?_⟩
  · obtain ⟨i, hi, rfl⟩ := List.getElem_of_mem hz
    exact h1 i hi
  · obtain ⟨d, rfl⟩ : ∃ d, j = i + d + 1 := ⟨j - i - 1, by omega⟩
    exact h3 d i hj
end Go.Proofs.YtbkdjlahhcofmaaGreatDoor
namespace Go.Proofs.YtbkdjlahhcofmaaGreatDoor
open Go.Lib (itoa decDigits join)
open Go Go.RowKit Go.Proofs Go.Shelf Go.Ab
def allW (m : List Int) : Int := sumI (wI m) (idxL m.length)
section
variable {n : Int} {m : List Int}
end
theorem itoa_nn {v : Int} (h : 0 ≤ v) : itoa v = decDigits v.toNat := by unfold itoa; rw [if_neg (by omega)]
theorem dd_len : ∀ (k n : Nat), n < 10 ^ (k + 1) → (decDigits n).length ≤ k + 1
  | 0, n, h => by rw [decDigits, dif_pos (show n < 10 by omega)]; simp
  | k + 1, n, h => by
    rw [decDigits]
    split
    · simp
    · rw [List.length_append]
      have := dd_len k (n / 10) (by rw [Nat.pow_succ] at h; omega)
      simp; omega
theorem itoa_no32 {v : Int} (h : 0 ≤ v) : (32 : UInt8) ∉ itoa v := by
  rw [itoa_nn h]
  intro hm
  have := (decDigits_byte hm).1
  revert this; decide
section
variable {n : Int} {m : List Int}
end
end Go.Proofs.YtbkdjlahhcofmaaGreatDoor
namespace Go.Proofs.YtbkdjlahhcofmaaGreatDoor
open Go.Lib (itoa decDigits join)
open Go Go.RowKit Go.Proofs Go.Shelf Go.Ab
theorem numP_itoaD {k : Nat} {v : Int} (h : 0 ≤ v ∧ v.toNat < 10 ^ (k + 1)) : numP (k + 1) (itoa v) = some v := by
  have hl : ((itoa v).drop (atS (itoa v))).length ≤ k + 1 := by
    rw [List.length_drop, itoa_nn h.1]
    have := dd_len k v.toNat h.2
    omega
  unfold numP
  rw [numO_itoa v hl]
  show (if 0 ≤ v then some v else none) = _
  rw [if_pos h.1]
theorem numsO_itoaD {d : Nat} : ∀ (l : List Int), (∀ z, z ∈ l → 0 ≤ z ∧ z.toNat < 10 ^ (d + 1)) → ∀ k, k ≤ l.length → numsO (d + 1) ((l.map itoa).take k) = some (l.take k)
  | _, _, 0, _ => rfl
  | l, h, k + 1, hk => by
    have ih := numsO_itoaD l h k (by omega)
    have hm : k < (l.map itoa).length := by rw [List.length_map]; omega
    have hk2 : k < l.length := hk
    have hv : numP (d + 1) (l.map itoa)[k] = some l[k] := by rw [List.getElem_map]; exact numP_itoaD (h _ (List.getElem_mem hk2))
    rw [numsO_next hm ih hv, List.take_succ_eq_append_getElem hk2]
theorem words_again {d : Nat} {l : List Int} (hne : l ≠ []) (h : ∀ z, z ∈ l → 0 ≤ z ∧ z.toNat < 10 ^ (d + 1)) : numsO (d + 1) (cutS 32 (wordsS l)) = some l := by
  have e : cutS 32 (wordsS l) = l.map itoa := cut_join (by simpa using hne) fun w hw => by
    obtain ⟨z, hz, rfl⟩ := List.mem_map.1 hw
    exact itoa_no32 (h z hz).1
  have h2 := numsO_itoaD l h l.length (Nat.le_refl _)
  rw [List.take_of_length_le (Nat.le_of_eq (List.length_map _)), List.take_length] at h2
  rw [e, h2]
theorem ascK_of {l : List Int} (h : l.Pairwise (· < ·)) : ∀ {k : Nat}, k ≤ l.length → ascK l k = true
  | 0, _ => rfl
  | k + 1, hk => by
    rw [ascK, ascK_of h (by omega), Bool.true_and, Bool.or_eq_true, decide_eq_true_eq, decide_eq_true_eq]
    by_cases e : k = 0
    · exact .inl e
    · refine .inr ?_
      rw [getD_at (show k - 1 < l.length by omega), getD_at (show k < l.length by omega)]
      exact List.pairwise_iff_getElem.1 h (k - 1) k (by omega) (by omega) (by omega)
theorem name_no32 {s : Nm} (h : nameB s = true) : (32 : UInt8) ∉ s := fun hm => by
  obtain ⟨i, hi, e⟩ := List.getElem_of_mem hm
  unfold nameB at h
  rw [Bool.and_eq_true, Bool.not_eq_true'] at h
  have hb : anyP s.length (badS s) = true := anyP_iff.2 ⟨i, hi, by
    unfold badS
    rw [getD_at hi, e]
    show badC 32 i = true
    unfold badC
    simp⟩
  rw [hb] at h
  exact absurd h.2 (by decide)
theorem ntc_again {x : Ntc} (hn : nameB x.name = true) (hv : 1 ≤ x.version ∧ x.version ≤ 1000) (ht : 0 ≤ x.tick ∧ x.tick ≤ 1000000000000) (hp : x.cells.Pairwise (· < ·)) (hc : ∀ z, z ∈ x.cells → 0 ≤ z ∧ z ≤ 1000000) : ntcP (ntcS x) = (x, 0) := by
  have e : cutS 32 (ntcS x) = x.name :: cutS 32 (wordsS ([x.version, x.tick] ++ x.cells)) := by
    unfold ntcS
    rw [List.append_assoc]
    exact cutS_hit 32 _ _ (name_no32 hn)
  have hw := words_again (d := 12) (l := [x.version, x.tick] ++ x.cells) (by simp) (fun z hz => by
    rcases List.mem_append.1 hz with h | h
    · rcases List.mem_cons.1 h with h | h
      · subst h; omega
      · rw [List.mem_singleton] at h; subst h; omega
    · have := hc z h; omega)
  have hnl : x.name ≠ [] := fun h => by rw [h] at hn; revert hn; decide
  unfold ntcP
  rw [e, List.drop_succ_cons, List.drop_zero, hw]
  have e0 : (x.name :: cutS 32 (wordsS ([x.version, x.tick] ++ x.cells))).getD 0 [] = x.name := rfl
  have e1 : ([x.version, x.tick] ++ x.cells).getD 0 default = x.version := rfl
  have e2 : ([x.version, x.tick] ++ x.cells).getD 1 default = x.tick := rfl
  have e3 : ([x.version, x.tick] ++ x.cells).drop 2 = x.cells := rfl
  have e4 : ¬ (([x.version, x.tick] ++ x.cells).length < 2 ∨ x.name = []) := by
    rw [len_two]
    rintro (h | h)
    · omega
    · exact hnl h
  simp only [e0, e1, e2, e3]
  rw [if_neg e4, if_neg (by rw [hn]; decide), if_neg (by omega), if_neg (by rw [ascK_of hp (Nat.le_refl _)]; decide)]
end Go.Proofs.YtbkdjlahhcofmaaGreatDoor
namespace Go.Proofs.YtbkdjlahhcofmaaGreatDoor
open Go Go.RowKit Go.Proofs Go.Shelf Go.Ab
def ltS (a b : Nm) : Bool := Op.bytesLess a b
theorem ltS_cons (a b : UInt8) (x y : Nm) : ltS (a :: x) (b :: y) = true ↔ a.toNat < b.toNat ∨ (a = b ∧ ltS x y = true) := by
  unfold ltS
  rw [Op.bytesLess]
  simp [UInt8.lt_iff_toNat_lt]
theorem ltS_nil_r : ∀ a : Nm, ltS a [] = false
  | [] => rfl
  | _ :: _ => rfl
theorem ltS_nil_l (b : UInt8) (y : Nm) : ltS [] (b :: y) = true := rfl
theorem ltS_irr : ∀ a : Nm, ltS a a = false
  | [] => rfl
  | a :: x => by
    have ih := ltS_irr x
    refine Bool.eq_false_iff.2 fun h => ?_
    rcases (ltS_cons a a x x).1 h with h | ⟨_, h⟩
    · omega
    · rw [ih] at h; cases h
theorem ltS_trans : ∀ a b c : Nm, ltS a b = true → ltS b c = true → ltS a c = true
  | _, [], _, h, _ => by rw [ltS_nil_r] at h; cases h
  | _, _ :: _, [], _, h => by rw [ltS_nil_r] at h; cases h
  | [], _ :: _, c :: z, _, _ => ltS_nil_l c z
  | a :: x, b :: y, c :: z, h1, h2 => by
    rw [ltS_cons] at h1 h2 ⊢
    rcases h1 with h1 | ⟨rfl, h1⟩
    · rcases h2 with h2 | ⟨rfl, h2⟩
      · exact .inl (by omega)
      · exact .inl h1
    · rcases h2 with h2 | ⟨rfl, h2⟩
      · exact .inl h2
      · exact .inr ⟨rfl, ltS_trans x y z h1 h2⟩
theorem ltS_tot : ∀ a b : Nm, a ≠ b → ltS a b = true ∨ ltS b a = true
  | [], [], h => absurd rfl h
  | [], b :: y, _ => .inl (ltS_nil_l b y)
  | a :: x, [], _ => .inr (ltS_nil_l a x)
  | a :: x, b :: y, h => by
    rw [ltS_cons, ltS_cons]
    by_cases e : a = b
    · subst e
      rcases ltS_tot x y (fun e => h (by rw [e])) with h1 | h1
      · exact .inl (.inr ⟨rfl, h1⟩)
      · exact .inr (.inr ⟨rfl, h1⟩)
    · have : a.toNat ≠ b.toNat := fun h => e (UInt8.toNat_inj.1 h)
      by_cases h2 : a.toNat < b.toNat
      · exact .inl (.inl h2)
      · exact .inr (.inl (by omega))
theorem ltSOk : LtOk ltS := ⟨ltS_irr, ltS_trans, ltS_tot⟩
theorem leS_eq (a b : Nm) : decide (a ≤ b) = !ltS b a := by
  unfold ltS
  rw [bytesLess_eq, ← decide_not]
  exact decide_eq_decide.2 Iff.rfl
theorem ascN_asc {L : List Nm} (h : L.Nodup) : AscN ltS (ascN L) := by
  have hp : (ascN L).Pairwise fun a b => decide (a ≤ b) = true := List.pairwise_mergeSort (fun a b c h1 h2 => by
    rw [leS_eq, Bool.not_eq_true'] at h1 h2 ⊢
    refine Bool.eq_false_iff.2 fun h3 => ?_
    by_cases e : a = b
    · subst e; rw [h3] at h2; cases h2
    · rcases ltS_tot a b e with h4 | h4
      · have := ltS_trans c a b h3 h4
        rw [this] at h2; cases h2
      · rw [h4] at h1; cases h1) (fun a b => by
    rw [leS_eq, leS_eq]
    by_cases e : ltS b a = true
    · rw [e, ltSOk.asym e]; rfl
    · rw [Bool.not_eq_true] at e; rw [e]; rfl) L
  have hn : (ascN L).Pairwise fun a b => a ≠ b := (List.mergeSort_perm L _).nodup_iff.2 h
  refine (hp.and hn).imp fun {a b} ⟨h1, h2⟩ => ?_
  rw [leS_eq, Bool.not_eq_true'] at h1
  rcases ltS_tot a b h2 with h3 | h3
  · exact h3
  · rw [h3] at h1; cases h1
theorem ascN_mem {L : List Nm} {x : Nm} : x ∈ ascN L ↔ x ∈ L := (List.mergeSort_perm L _).mem_iff
theorem ascN_sorted {L : List Nm} (h : L.Nodup) : ascN L = sortedN ltS L := sortedN_eq ltSOk (ascN_asc h) fun _ => ascN_mem
theorem sortedN_len (L : List Nm) : (sortedN ltS L).length ≤ L.length := by
  obtain ⟨h1, h2⟩ := sortedN_spec ltSOk L
  exact sub_len (h1.nodup ltSOk) fun x hx => (h2 x).1 hx
theorem lts_run (x y : Operand) (a b : Nm) (w : World) : (do eqGuard .lss 9 x y (.string ⟨a.toArray⟩) (.string ⟨b.toArray⟩); binOp .lss 9 (.string ⟨a.toArray⟩) (.string ⟨b.toArray⟩) : Sem Value).run Tryz.prog w = .ok (.bool (ltS a b)) w := by
  simp [eqGuard, binOp, Op.stringOp, ltS]
theorem gts_run (x y : Operand) (a b : Nm) (w : World) : (do eqGuard .gtr 9 x y (.string ⟨a.toArray⟩) (.string ⟨b.toArray⟩); binOp .gtr 9 (.string ⟨a.toArray⟩) (.string ⟨b.toArray⟩) : Sem Value).run Tryz.prog w = .ok (.bool (ltS b a)) w := by
  have e : (!(ltS a b || a == b)) = ltS b a := by
    by_cases h : a = b
    · subst h; rw [ltS_irr]; simp
    · have hb : (a == b) = false := by simpa using h
      rw [hb, Bool.or_false]
      rcases ltS_tot a b h with h1 | h1
      · rw [h1, ltSOk.asym h1]; rfl
      · rw [h1, ltSOk.asym h1]; rfl
  rw [← e]
  simp [eqGuard, binOp, Op.stringOp, ltS]
theorem lts_t {x y : Operand} {a b : Nm} {c : Bool} (h : ltS a b = c) (w : World) : (do eqGuard .lss 9 x y (.string ⟨a.toArray⟩) (.string ⟨b.toArray⟩); binOp .lss 9 (.string ⟨a.toArray⟩) (.string ⟨b.toArray⟩) : Sem Value).run Tryz.prog w = .ok (.bool c) w := by rw [lts_run, h]
theorem gts_t {x y : Operand} {a b : Nm} {c : Bool} (h : ltS b a = c) (w : World) : (do eqGuard .gtr 9 x y (.string ⟨a.toArray⟩) (.string ⟨b.toArray⟩); binOp .gtr 9 (.string ⟨a.toArray⟩) (.string ⟨b.toArray⟩) : Sem Value).run Tryz.prog w = .ok (.bool c) w := by rw [gts_run, h]
theorem gtLast_ne {out : List Nm} (h : ¬ out.length = 0) (x : Nm) : gtLast ltS out x = ltS (out.getD (out.length - 1) default) x := by
  unfold gtLast
  rw [List.getLast?_eq_getElem?, List.getElem?_eq_getElem (by omega), getD_at (show out.length - 1 < out.length by omega)]
theorem rowS_eq {a b : List Nm} (h : a = b) : some (Blk.row 9 1 a.length (strsF a)) = some (Blk.row 9 1 b.length (strsF b)) := by rw [h]
theorem rowS_snoc {a b : List Nm} {x : Nm} (h : b = a ++ [x]) : some (Blk.row 9 1 (a.length + 1) (strsF a ++ [sv x])) = some (Blk.row 9 1 b.length (strsF b)) := by rw [h, strsF_snoc, List.length_append]; rfl
set_option maxRecDepth 100000 in
set_option maxHeartbeats 3200000 in
theorem sorted_s (l : List Nm) (hl : l.length ≤ 1000000) : Summ Tryz.prog GG 149 [.sl l.length (strsF l)] (.sl (sortedN ltS l).length (strsF (sortedN ltS l))) := by
  refine summW Tryz.func149 rfl rfl 54 rfl (by simp) (fun M0 => ?_)
  repeat (first
    | (apply s_a TY; exact rfl)
    | apply w_seq
    | apply w_region
    | apply s_nil
    | apply t_norm
    | apply w_block)
  apply w_gh (gh_own 3 9 1 rfl rfl)
  apply w_loop (fun out : List Nm => ⟨(Ab.upd (Ab.upd (fun _ => .bot) 0 (.f (.sl l.length (strsF l)))) 3 (.ow 0)), (Ab.upd (fun _ => none) 0 (some (.row 9 1 out.length (strsF out)))), 1⟩) (fun out => AscN ltS out ∧ (∀ x, x ∈ out → x ∈ l) ∧ ∃ f, sortN ltS l f out = sortedN ltS l ∧ l.length + 1 = out.length + f) (fun out => l.length + 1 - out.length) [] (⟨List.Pairwise.nil, fun _ h => (nomatch h), l.length + 1, rfl, by simp⟩) (gh_le ⟨le_upd rfl rfl (le_upd rfl trivial (le_nil _)), le_hupd rfl trivial (le_h0 _ _)⟩)
  intro out ⟨ha, hm, f, hf, hlf⟩
  have hol := sub_len (ha.nodup ltSOk) hm
  obtain ⟨f, rfl⟩ : ∃ g, f = g + 1 := ⟨f - 1, by omega⟩
  rw [sortN] at hf
  repeat (first
    | (apply s_a TY; exact rfl)
    | apply w_seq
    | apply w_region
    | apply s_nil
    | apply t_norm
    | apply w_block)
  apply w_loop (fun k : Nat => ⟨(Ab.upd (Ab.upd (Ab.upd (Ab.upd (fun _ => .bot) 0 (.f (.sl l.length (strsF l)))) 3 (.ow 0)) 4 (.f (iv (nextN ltS l out k)))) 5 (.f (iv ((k : Nat) : Int)))), (Ab.upd (fun _ => none) 0 (some (.row 9 1 out.length (strsF out)))), 1⟩) (fun k => k ≤ l.length) (fun k => l.length - k) 0 (Nat.zero_le _) (gh_le ⟨le_upd rfl trivial (le_upd rfl trivial (le_upd rfl rfl (le_upd rfl trivial (le_nil _)))), le_hupd rfl trivial (le_h0 _ _)⟩)
  intro k hk
  have hbd := nextN_bd (lt := ltS) (l := l) (out := out) k
  by_cases hk1 : k < l.length
  · skip
    by_cases ho : out.length = 0
    · by_cases hn : nextN ltS l out k < 0
      · have hgt : gtLast ltS out l[k] = true := by rw [List.eq_nil_of_length_eq_zero ho]; rfl
        have hs : nextN ltS l out (k + 1) = ((k : Nat) : Int) := by rw [nextN, getD_at hk1, if_pos ⟨hgt, .inl hn⟩]
        repeat (first
    | (apply s_a TY; exact rfl)
    | (apply s_t; exact rfl; (first | assumption | omega))
    | apply w_seq
    | apply w_region
    | (apply w_draw (id := 6) 28 rfl (by kernel_rfl))
    | apply s_nil
    | apply t_norm
    | apply k_norm
    | apply w_block
    | apply w_skip
    | (apply w_condT; exact rfl; exact rfl)
    | (apply s_s; exact rfl)
    | (apply s_c TY; exact rfl; (first | omega | exact ⟨by omega, by (first | with_reducible assumption | ((with_reducible apply strsF_ne); omega) | assumption)⟩)))
        exact ⟨k + 1, by omega, by omega, gh_le ⟨le_upd rfl trivial (le_upd (congrArg (fun z => AV.f (iv z)) hs) trivial (le_upd rfl rfl (le_upd rfl trivial (le_nil _)))), le_hupd rfl trivial (le_h0 _ _)⟩⟩
      · by_cases hl0 : ltS l[k] (l.getD (nextN ltS l out k).toNat default) = true
        · have hgt : gtLast ltS out l[k] = true := by rw [List.eq_nil_of_length_eq_zero ho]; rfl
          have hl := hl0
          have hX : (strsF l)[(nextN ltS l out k).toNat * 1]? = some (sv (l.getD (nextN ltS l out k).toNat default)) := by
            rw [getD_at (show (nextN ltS l out k).toNat < l.length by omega)]; exact strsF_at (by omega)
          have hs : nextN ltS l out (k + 1) = ((k : Nat) : Int) := by rw [nextN, getD_at hk1, if_pos ⟨hgt, .inr hl0⟩]
          repeat (first
    | (apply s_bind; exact rfl; exact rfl; exact rfl; exact rfl; exact rfl; exact rfl; exact lts_t hl)
    | (apply s_a TY; exact rfl)
    | (apply s_t; exact rfl; (first | assumption | omega))
    | (apply s_f; exact rfl; (first | assumption | omega))
    | apply w_seq
    | apply w_region
    | (apply w_draw (id := 6) 28 rfl (by kernel_rfl))
    | apply s_nil
    | apply t_norm
    | apply k_norm
    | apply w_block
    | apply w_skip
    | (apply w_condT; exact rfl; exact rfl)
    | (apply s_s; exact rfl)
    | (apply s_c TY; exact rfl; (first | omega | exact ⟨by omega, by (first | with_reducible assumption | ((with_reducible apply strsF_ne); omega) | assumption)⟩))
    | (apply s_z TY; exact rfl; (first | omega | exact ⟨by omega, by (first | with_reducible assumption | ((with_reducible apply strsF_ne); omega) | assumption)⟩))
    | (apply s_l TY; exact rfl; (first | exact rfl | with_reducible assumption | ((with_reducible apply strsF_at); omega) | assumption)))
          exact ⟨k + 1, by omega, by omega, gh_le ⟨le_upd rfl trivial (le_upd (congrArg (fun z => AV.f (iv z)) hs) trivial (le_upd rfl rfl (le_upd rfl trivial (le_nil _)))), le_hupd rfl trivial (le_h0 _ _)⟩⟩
        · have hgt : gtLast ltS out l[k] = true := by rw [List.eq_nil_of_length_eq_zero ho]; rfl
          have hl : ltS l[k] (l.getD (nextN ltS l out k).toNat default) = false := by simpa using hl0
          have hX : (strsF l)[(nextN ltS l out k).toNat * 1]? = some (sv (l.getD (nextN ltS l out k).toNat default)) := by
            rw [getD_at (show (nextN ltS l out k).toNat < l.length by omega)]; exact strsF_at (by omega)
          have hs : nextN ltS l out (k + 1) = nextN ltS l out k := by rw [nextN, getD_at hk1, if_neg (fun h => h.2.elim hn hl0)]
          repeat (first
    | (apply s_bind; exact rfl; exact rfl; exact rfl; exact rfl; exact rfl; exact rfl; exact lts_t hl)
    | (apply s_a TY; exact rfl)
    | (apply s_t; exact rfl; (first | assumption | omega))
    | (apply s_f; exact rfl; (first | assumption | omega))
    | apply w_seq
    | apply w_region
    | (apply w_draw (id := 6) 28 rfl (by kernel_rfl))
    | apply s_nil
    | apply t_norm
    | apply k_norm
    | apply w_block
    | apply w_skip
    | (apply w_condT; exact rfl; exact rfl)
    | (apply w_condF; exact rfl; exact rfl)
    | (apply s_s; exact rfl)
    | (apply s_c TY; exact rfl; (first | omega | exact ⟨by omega, by (first | with_reducible assumption | ((with_reducible apply strsF_ne); omega) | assumption)⟩))
    | (apply s_z TY; exact rfl; (first | omega | exact ⟨by omega, by (first | with_reducible assumption | ((with_reducible apply strsF_ne); omega) | assumption)⟩))
    | (apply s_l TY; exact rfl; (first | exact rfl | with_reducible assumption | ((with_reducible apply strsF_at); omega) | assumption)))
          exact ⟨k + 1, by omega, by omega, gh_le ⟨le_upd rfl trivial (le_upd (congrArg (fun z => AV.f (iv z)) hs) trivial (le_upd rfl rfl (le_upd rfl trivial (le_nil _)))), le_hupd rfl trivial (le_h0 _ _)⟩⟩
    · by_cases hg0 : ltS (out.getD (out.length - 1) default) l[k] = true
      · by_cases hn : nextN ltS l out k < 0
        · have hg := hg0
          have hgt : gtLast ltS out l[k] = true := by rw [gtLast_ne ho]; exact hg0
          have hW : (strsF out)[(((out.length : Nat) : Int) - 1).toNat * 1]? = some (sv (out.getD (out.length - 1) default)) := by
            rw [show (((out.length : Nat) : Int) - 1).toNat = out.length - 1 by omega, getD_at (show out.length - 1 < out.length by omega)]; exact strsF_at (by omega)
          have hWn : strsF out ≠ [] := strsF_ne (k := 0) (by omega)
          have hs : nextN ltS l out (k + 1) = ((k : Nat) : Int) := by rw [nextN, getD_at hk1, if_pos ⟨hgt, .inl hn⟩]
          repeat (first
    | (apply s_bind; exact rfl; exact rfl; exact rfl; exact rfl; exact rfl; exact rfl; exact gts_t hg)
    | (apply s_a TY; exact rfl)
    | (apply s_t; exact rfl; (first | assumption | omega))
    | (apply s_f; exact rfl; (first | assumption | omega))
    | apply w_seq
    | apply w_region
    | (apply w_draw (id := 6) 28 rfl (by kernel_rfl))
    | apply s_nil
    | apply t_norm
    | apply k_norm
    | apply w_block
    | apply w_skip
    | (apply w_condT; exact rfl; exact rfl)
    | (apply s_s; exact rfl)
    | (apply s_c TY; exact rfl; (first | omega | exact ⟨by omega, by (first | with_reducible assumption | ((with_reducible apply strsF_ne); omega) | assumption)⟩))
    | (apply s_z TY; exact rfl; (first | omega | exact ⟨by omega, by (first | with_reducible assumption | ((with_reducible apply strsF_ne); omega) | assumption)⟩))
    | (apply s_l TY; exact rfl; (first | exact rfl | with_reducible assumption | ((with_reducible apply strsF_at); omega) | assumption))
    | (apply s_r TY; exact rfl; (first | exact rfl | with_reducible assumption | ((with_reducible apply strsF_at); omega) | assumption)))
          exact ⟨k + 1, by omega, by omega, gh_le ⟨le_upd rfl trivial (le_upd (congrArg (fun z => AV.f (iv z)) hs) trivial (le_upd rfl rfl (le_upd rfl trivial (le_nil _)))), le_hupd rfl trivial (le_h0 _ _)⟩⟩
        · by_cases hl0 : ltS l[k] (l.getD (nextN ltS l out k).toNat default) = true
          · have hg := hg0
            have hgt : gtLast ltS out l[k] = true := by rw [gtLast_ne ho]; exact hg0
            have hl := hl0
            have hW : (strsF out)[(((out.length : Nat) : Int) - 1).toNat * 1]? = some (sv (out.getD (out.length - 1) default)) := by
              rw [show (((out.length : Nat) : Int) - 1).toNat = out.length - 1 by omega, getD_at (show out.length - 1 < out.length by omega)]; exact strsF_at (by omega)
            have hWn : strsF out ≠ [] := strsF_ne (k := 0) (by omega)
            have hX : (strsF l)[(nextN ltS l out k).toNat * 1]? = some (sv (l.getD (nextN ltS l out k).toNat default)) := by
              rw [getD_at (show (nextN ltS l out k).toNat < l.length by omega)]; exact strsF_at (by omega)
            have hs : nextN ltS l out (k + 1) = ((k : Nat) : Int) := by rw [nextN, getD_at hk1, if_pos ⟨hgt, .inr hl0⟩]
            repeat (first
    | (apply s_bind; exact rfl; exact rfl; exact rfl; exact rfl; exact rfl; exact rfl; exact gts_t hg)
    | (apply s_bind; exact rfl; exact rfl; exact rfl; exact rfl; exact rfl; exact rfl; exact lts_t hl)
    | (apply s_a TY; exact rfl)
    | (apply s_t; exact rfl; (first | assumption | omega))
    | (apply s_f; exact rfl; (first | assumption | omega))
    | apply w_seq
    | apply w_region
    | (apply w_draw (id := 6) 28 rfl (by kernel_rfl))
    | apply s_nil
    | apply t_norm
    | apply k_norm
    | apply w_block
    | apply w_skip
    | (apply w_condT; exact rfl; exact rfl)
    | (apply s_c TY; exact rfl; (first | omega | exact ⟨by omega, by (first | with_reducible assumption | ((with_reducible apply strsF_ne); omega) | assumption)⟩))
    | (apply s_z TY; exact rfl; (first | omega | exact ⟨by omega, by (first | with_reducible assumption | ((with_reducible apply strsF_ne); omega) | assumption)⟩))
    | (apply s_l TY; exact rfl; (first | exact rfl | with_reducible assumption | ((with_reducible apply strsF_at); omega) | assumption))
    | (apply s_r TY; exact rfl; (first | exact rfl | with_reducible assumption | ((with_reducible apply strsF_at); omega) | assumption)))
            exact ⟨k + 1, by omega, by omega, gh_le ⟨le_upd rfl trivial (le_upd (congrArg (fun z => AV.f (iv z)) hs) trivial (le_upd rfl rfl (le_upd rfl trivial (le_nil _)))), le_hupd rfl trivial (le_h0 _ _)⟩⟩
          · have hg := hg0
            have hgt : gtLast ltS out l[k] = true := by rw [gtLast_ne ho]; exact hg0
            have hl : ltS l[k] (l.getD (nextN ltS l out k).toNat default) = false := by simpa using hl0
            have hW : (strsF out)[(((out.length : Nat) : Int) - 1).toNat * 1]? = some (sv (out.getD (out.length - 1) default)) := by
              rw [show (((out.length : Nat) : Int) - 1).toNat = out.length - 1 by omega, getD_at (show out.length - 1 < out.length by omega)]; exact strsF_at (by omega)
            have hWn : strsF out ≠ [] := strsF_ne (k := 0) (by omega)
            have hX : (strsF l)[(nextN ltS l out k).toNat * 1]? = some (sv (l.getD (nextN ltS l out k).toNat default)) := by
              rw [getD_at (show (nextN ltS l out k).toNat < l.length by omega)]; exact strsF_at (by omega)
            have hs : nextN ltS l out (k + 1) = nextN ltS l out k := by rw [nextN, getD_at hk1, if_neg (fun h => h.2.elim hn hl0)]
            repeat (first
    | (apply s_bind; exact rfl; exact rfl; exact rfl; exact rfl; exact rfl; exact rfl; exact gts_t hg)
    | (apply s_bind; exact rfl; exact rfl; exact rfl; exact rfl; exact rfl; exact rfl; exact lts_t hl)
    | (apply s_a TY; exact rfl)
    | (apply s_t; exact rfl; (first | assumption | omega))
    | (apply s_f; exact rfl; (first | assumption | omega))
    | apply w_seq
    | apply w_region
    | (apply w_draw (id := 6) 28 rfl (by kernel_rfl))
    | apply s_nil
    | apply t_norm
    | apply k_norm
    | apply w_block
    | apply w_skip
    | (apply w_condT; exact rfl; exact rfl)
    | (apply w_condF; exact rfl; exact rfl)
    | (apply s_c TY; exact rfl; (first | omega | exact ⟨by omega, by (first | with_reducible assumption | ((with_reducible apply strsF_ne); omega) | assumption)⟩))
    | (apply s_z TY; exact rfl; (first | omega | exact ⟨by omega, by (first | with_reducible assumption | ((with_reducible apply strsF_ne); omega) | assumption)⟩))
    | (apply s_l TY; exact rfl; (first | exact rfl | with_reducible assumption | ((with_reducible apply strsF_at); omega) | assumption))
    | (apply s_r TY; exact rfl; (first | exact rfl | with_reducible assumption | ((with_reducible apply strsF_at); omega) | assumption)))
            exact ⟨k + 1, by omega, by omega, gh_le ⟨le_upd rfl trivial (le_upd (congrArg (fun z => AV.f (iv z)) hs) trivial (le_upd rfl rfl (le_upd rfl trivial (le_nil _)))), le_hupd rfl trivial (le_h0 _ _)⟩⟩
      · have hg : ltS (out.getD (out.length - 1) default) l[k] = false := by simpa using hg0
        have hgt : gtLast ltS out l[k] = false := by rw [gtLast_ne ho]; exact hg
        have hW : (strsF out)[(((out.length : Nat) : Int) - 1).toNat * 1]? = some (sv (out.getD (out.length - 1) default)) := by
          rw [show (((out.length : Nat) : Int) - 1).toNat = out.length - 1 by omega, getD_at (show out.length - 1 < out.length by omega)]; exact strsF_at (by omega)
        have hWn : strsF out ≠ [] := strsF_ne (k := 0) (by omega)
        have hs : nextN ltS l out (k + 1) = nextN ltS l out k := by rw [nextN, getD_at hk1, if_neg (fun h => by rw [hgt] at h; cases h.1)]
        repeat (first
    | (apply s_bind; exact rfl; exact rfl; exact rfl; exact rfl; exact rfl; exact rfl; exact gts_t hg)
    | (apply s_a TY; exact rfl)
    | (apply s_t; exact rfl; (first | assumption | omega))
    | (apply s_f; exact rfl; (first | assumption | omega))
    | apply w_seq
    | apply w_region
    | (apply w_draw (id := 6) 28 rfl (by kernel_rfl))
    | apply s_nil
    | apply t_norm
    | apply k_norm
    | apply w_block
    | apply w_skip
    | (apply w_condT; exact rfl; exact rfl)
    | (apply w_condF; exact rfl; exact rfl)
    | (apply s_s; exact rfl)
    | (apply s_c TY; exact rfl; (first | omega | exact ⟨by omega, by (first | with_reducible assumption | ((with_reducible apply strsF_ne); omega) | assumption)⟩))
    | (apply s_z TY; exact rfl; (first | omega | exact ⟨by omega, by (first | with_reducible assumption | ((with_reducible apply strsF_ne); omega) | assumption)⟩))
    | (apply s_l TY; exact rfl; (first | exact rfl | with_reducible assumption | ((with_reducible apply strsF_at); omega) | assumption))
    | (apply s_r TY; exact rfl; (first | exact rfl | with_reducible assumption | ((with_reducible apply strsF_at); omega) | assumption)))
        exact ⟨k + 1, by omega, by omega, gh_le ⟨le_upd rfl trivial (le_upd (congrArg (fun z => AV.f (iv z)) hs) trivial (le_upd rfl rfl (le_upd rfl trivial (le_nil _)))), le_hupd rfl trivial (le_h0 _ _)⟩⟩
  · have hkl : k = l.length := by omega
    subst hkl
    by_cases hn : nextN ltS l out l.length < 0
    · rw [if_pos hn] at hf
      rw [← hf]
      repeat (first
    | (apply s_a TY; exact rfl)
    | (apply s_t; exact rfl; (first | assumption | omega))
    | (apply s_f; exact rfl; (first | assumption | omega))
    | apply w_seq
    | apply w_region
    | apply s_nil
    | apply t_norm
    | apply t_exit
    | apply t_ret
    | apply k_hit
    | apply k_ret
    | apply w_exit
    | apply w_ret
    | (apply w_condT; exact rfl; exact rfl)
    | (apply w_condF; exact rfl; exact rfl))
      exact lv_ret (ret1 rfl (res_sees rfl (sees_row rfl)))
    · rw [if_neg hn] at hf
      have hX : (strsF l)[(nextN ltS l out l.length).toNat * 1]? = some (sv (l.getD (nextN ltS l out l.length).toNat default)) := by
        rw [getD_at (show (nextN ltS l out l.length).toNat < l.length by omega)]; exact strsF_at (by omega)
      have hlne : strsF l ≠ [] := strsF_ne (k := 0) (by omega)
      obtain ⟨p1, -⟩ := (nextN_spec ltSOk (l := l) (out := out) l.length).2 (by omega)
      have hmem : l.getD (nextN ltS l out l.length).toNat default ∈ l := by
        rw [getD_at (show (nextN ltS l out l.length).toNat < l.length by omega)]; exact List.getElem_mem _
      have hall := (gtLast_all ltSOk ha).1 p1
      have hrow := rowS_snoc (a := out) (b := out ++ [l.getD (nextN ltS l out l.length).toNat default]) (x := l.getD (nextN ltS l out l.length).toNat default) rfl
      repeat (first
    | (apply s_append TY; exact rfl; exact rfl; exact rfl; exact rfl; exact rfl; exact rfl; exact rfl; exact rfl; exact rfl; (unfold maxLen; omega); omega)
    | (apply s_a TY; exact rfl)
    | (apply s_f; exact rfl; (first | assumption | omega))
    | apply w_seq
    | apply w_region
    | apply s_nil
    | apply t_norm
    | apply t_exit
    | apply k_hit
    | apply k_norm
    | apply w_exit
    | apply w_skip
    | (apply w_condF; exact rfl; exact rfl)
    | (apply s_z TY; exact rfl; (first | omega | exact ⟨by omega, by (first | with_reducible assumption | ((with_reducible apply strsF_ne); omega) | assumption)⟩))
    | (apply s_l TY; exact rfl; (first | exact rfl | with_reducible assumption | ((with_reducible apply strsF_at); omega) | assumption)))
      refine ⟨out ++ [l.getD (nextN ltS l out l.length).toNat default], ⟨List.pairwise_append.2 ⟨ha, by simp, fun y hy z hz => by rw [List.mem_singleton] at hz; subst hz; exact hall y hy⟩, fun x hx => ?_, f, hf, by rw [List.length_append, List.length_singleton]; omega⟩, by rw [List.length_append, List.length_singleton]; omega, gh_le ⟨le_upd rfl rfl (le_upd rfl trivial (le_nil _)), le_hupd hrow trivial (le_h0 _ _)⟩⟩
      rcases List.mem_append.1 hx with h | h
      · exact hm x h
      · rw [List.mem_singleton.1 h]; exact hmem
end Go.Proofs.YtbkdjlahhcofmaaGreatDoor
namespace Go.Proofs.YtbkdjlahhcofmaaGreatDoor
open Go Go.RowKit Go.Proofs Go.Shelf Go.Ab
theorem pplK_at {l : List Act} {i : Nat} (h : i < l.length) : pplK l (i + 1) = if l[i].kind = 0 then pplK l i ++ [l[i].name] else if l[i].kind = 1 then (pplK l i).filter (fun x => !decide (x = l[i].name)) else pplK l i := by rw [pplK, List.getElem?_eq_getElem h]
theorem pplK_len (l : List Act) : ∀ k, (pplK l k).length ≤ k
  | 0 => Nat.le_refl _
  | k + 1 => by
    have ih := pplK_len l k
    by_cases h : k < l.length
    · rw [pplK_at h]
      split
      · rw [List.length_append]; show _ + 1 ≤ _; omega
      · split
        · have := List.length_filter_le (fun x => !decide (x = l[k].name)) (pplK l k); omega
        · omega
    · rw [pplK, List.getElem?_eq_none (by omega)]
      show (pplK l k).length ≤ _
      omega
theorem take_at {l : List Act} {k j : Nat} (h : j < k) : (l.take k)[j]? = l[j]? := by rw [List.getElem?_take, if_pos h]
theorem pplK_take (l : List Act) (k : Nat) : ∀ j, j ≤ k → pplK (l.take k) j = pplK l j
  | 0, _ => rfl
  | j + 1, h => by rw [pplK, pplK, take_at (by omega), pplK_take l k j (by omega)]
set_option maxRecDepth 100000 in
set_option maxHeartbeats 3200000 in
theorem People_s (l : List Act) (hl : l.length ≤ 1000) : Summ Tryz.prog GG 46 [.sl l.length (actsF l)] (.sl (sortedN ltS (pplK l l.length)).length (strsF (sortedN ltS (pplK l l.length)))) := by
  refine summW Tryz.func46 rfl rfl 59 rfl (by simp) (fun M0 => ?_)
  repeat (first
    | (apply s_a TY; exact rfl)
    | apply w_seq
    | apply w_region
    | apply s_nil
    | apply t_norm
    | apply w_block)
  apply w_gh (gh_own 3 9 1 rfl rfl)
  apply w_loop (fun i : Nat => ⟨(Ab.upd (Ab.upd (Ab.upd (fun _ => .bot) 0 (.f (.sl l.length (actsF l)))) 3 (.ow 0)) 4 (.f (iv ((i : Nat) : Int)))), (Ab.upd (fun _ => none) 0 (some (.row 9 1 (pplK l i).length (strsF (pplK l i))))), 1⟩) (fun i => i ≤ l.length) (fun i => l.length - i) 0 (Nat.zero_le _) (gh_le ⟨le_upd rfl trivial (le_upd rfl rfl (le_upd rfl trivial (le_nil _))), le_hupd rfl trivial (le_h0 _ _)⟩)
  intro i hi
  have hpl := pplK_len l i
  by_cases hil : i < l.length
  · have hs := pplK_at hil
    by_cases h0 : l[i].kind = 0
    · rw [if_pos h0] at hs
      have hrow := rowS_snoc hs
      repeat (first
    | (apply s_append TY; exact rfl; exact rfl; exact rfl; exact rfl; exact rfl; exact rfl; exact rfl; exact rfl; exact rfl; (unfold maxLen; omega); omega)
    | (apply s_a TY; exact rfl)
    | (apply s_t; exact rfl; (first | assumption | omega))
    | (apply s_f; exact rfl; (first | assumption | omega))
    | apply w_seq
    | apply w_region
    | apply s_nil
    | apply t_norm
    | apply k_norm
    | apply w_block
    | apply w_skip
    | (apply w_condT; exact rfl; exact rfl)
    | (apply w_condF; exact rfl; exact rfl)
    | (apply s_c TY; exact rfl; (first | omega | exact ⟨by omega, by (first | with_reducible assumption | ((with_reducible apply actsF_ne); omega) | ((with_reducible apply strsF_ne); omega) | assumption)⟩))
    | (apply s_l TY; exact rfl; (first | exact rfl | with_reducible assumption | ((with_reducible apply actsF_f0); omega) | ((with_reducible apply actsF_f1); omega) | ((with_reducible apply actsF_f2); omega) | ((with_reducible apply strsF_at); omega) | assumption)))
      exact ⟨i + 1, by omega, by omega, gh_le ⟨le_upd rfl trivial (le_upd rfl rfl (le_upd rfl trivial (le_nil _))), le_hupd hrow trivial (le_h0 _ _)⟩⟩
    · rw [if_neg h0] at hs
      by_cases h1 : l[i].kind = 1
      · rw [if_pos h1] at hs
        repeat (first
    | (apply s_a TY; exact rfl)
    | (apply s_t; exact rfl; (first | assumption | omega))
    | (apply s_f; exact rfl; (first | assumption | omega))
    | apply w_seq
    | apply w_region
    | apply s_nil
    | apply t_norm
    | apply w_block
    | apply w_skip
    | (apply w_condT; exact rfl; exact rfl)
    | (apply w_condF; exact rfl; exact rfl)
    | (apply s_c TY; exact rfl; (first | omega | exact ⟨by omega, by (first | with_reducible assumption | ((with_reducible apply actsF_ne); omega) | ((with_reducible apply strsF_ne); omega) | assumption)⟩))
    | (apply s_l TY; exact rfl; (first | exact rfl | with_reducible assumption | ((with_reducible apply actsF_f0); omega) | ((with_reducible apply actsF_f1); omega) | ((with_reducible apply actsF_f2); omega) | ((with_reducible apply strsF_at); omega) | assumption)))
        apply w_gh (gh_own 5 9 1 rfl rfl)
        apply w_loop (fun k : Nat => ⟨(Ab.upd (Ab.upd (Ab.upd (Ab.upd (Ab.upd (fun _ => .bot) 0 (.f (.sl l.length (actsF l)))) 3 (.ow 0)) 4 (.f (iv ((i : Nat) : Int)))) 5 (.ow 1)) 6 (.f (iv ((k : Nat) : Int)))), (Ab.upd (Ab.upd (fun _ => none) 0 (some (.row 9 1 (pplK l i).length (strsF (pplK l i))))) 1 (some (.row 9 1 (((pplK l i).take k).filter (fun x => !decide (x = l[i].name))).length (strsF (((pplK l i).take k).filter (fun x => !decide (x = l[i].name))))))), 2⟩) (fun k => k ≤ (pplK l i).length) (fun k => (pplK l i).length - k) 0 (Nat.zero_le _) (gh_le ⟨le_upd rfl trivial (le_upd rfl rfl (le_upd rfl trivial (le_upd rfl rfl (le_upd rfl trivial (le_nil _))))), le_hupd rfl trivial (le_hupd rfl trivial (le_h0 _ _))⟩)
        intro k hk
        have hfl := List.length_filter_le (fun x => !decide (x = l[i].name)) ((pplK l i).take k)
        have htk : ((pplK l i).take k).length = k := by rw [List.length_take]; omega
        by_cases hkp : k < (pplK l i).length
        · have hpn : strsF (pplK l i) ≠ [] := strsF_ne hkp
          have hpat := strsF_at hkp
          by_cases hne : (pplK l i)[k] = l[i].name
          · have hs2 : (((pplK l i).take (k + 1)).filter (fun x => !decide (x = l[i].name))) = (((pplK l i).take k).filter (fun x => !decide (x = l[i].name))) := by rw [List.take_succ_eq_append_getElem hkp, List.filter_append, List.filter_cons_of_neg (by simp [hne])]; simp
            have hrow := rowS_eq hs2.symm
            repeat (first
    | (apply s_bind; exact rfl; exact rfl; exact rfl; exact rfl; exact rfl; exact rfl; exact nes_f (by assumption))
    | (apply s_a TY; exact rfl)
    | (apply s_t; exact rfl; (first | assumption | omega))
    | apply w_seq
    | apply w_region
    | (apply w_draw (id := 12) 9 rfl (by kernel_rfl))
    | apply s_nil
    | apply t_norm
    | apply k_norm
    | apply w_block
    | apply w_skip
    | (apply w_condT; exact rfl; exact rfl)
    | (apply w_condF; exact rfl; exact rfl)
    | (apply s_c TY; exact rfl; (first | omega | exact ⟨by omega, by (first | with_reducible assumption | ((with_reducible apply actsF_ne); omega) | ((with_reducible apply strsF_ne); omega) | assumption)⟩))
    | (apply s_l TY; exact rfl; (first | exact rfl | with_reducible assumption | ((with_reducible apply actsF_f0); omega) | ((with_reducible apply actsF_f1); omega) | ((with_reducible apply actsF_f2); omega) | ((with_reducible apply strsF_at); omega) | assumption))
    | (apply s_r TY; exact rfl; (first | exact rfl | with_reducible assumption | ((with_reducible apply actsF_f0); omega) | ((with_reducible apply actsF_f1); omega) | ((with_reducible apply actsF_f2); omega) | ((with_reducible apply strsF_at); omega) | assumption)))
            exact ⟨k + 1, by omega, by omega, gh_le ⟨le_upd rfl trivial (le_upd rfl rfl (le_upd rfl trivial (le_upd rfl rfl (le_upd rfl trivial (le_nil _))))), le_hupd hrow trivial (le_hupd rfl trivial (le_h0 _ _))⟩⟩
          · have hs2 : (((pplK l i).take (k + 1)).filter (fun x => !decide (x = l[i].name))) = (((pplK l i).take k).filter (fun x => !decide (x = l[i].name))) ++ [(pplK l i)[k]] := by rw [List.take_succ_eq_append_getElem hkp, List.filter_append, List.filter_cons_of_pos (by simp [hne])]; simp
            have hrow := rowS_snoc hs2
            repeat (first
    | (apply s_append TY; exact rfl; exact rfl; exact rfl; exact rfl; exact rfl; exact rfl; exact rfl; exact rfl; exact rfl; (unfold maxLen; omega); omega)
    | (apply s_bind; exact rfl; exact rfl; exact rfl; exact rfl; exact rfl; exact rfl; exact nes_t (by assumption))
    | (apply s_a TY; exact rfl)
    | (apply s_t; exact rfl; (first | assumption | omega))
    | apply w_seq
    | apply w_region
    | (apply w_draw (id := 12) 9 rfl (by kernel_rfl))
    | apply s_nil
    | apply t_norm
    | apply k_norm
    | apply w_block
    | apply w_skip
    | (apply w_condT; exact rfl; exact rfl)
    | (apply s_c TY; exact rfl; (first | omega | exact ⟨by omega, by (first | with_reducible assumption | ((with_reducible apply actsF_ne); omega) | ((with_reducible apply strsF_ne); omega) | assumption)⟩))
    | (apply s_l TY; exact rfl; (first | exact rfl | with_reducible assumption | ((with_reducible apply actsF_f0); omega) | ((with_reducible apply actsF_f1); omega) | ((with_reducible apply actsF_f2); omega) | ((with_reducible apply strsF_at); omega) | assumption))
    | (apply s_r TY; exact rfl; (first | exact rfl | with_reducible assumption | ((with_reducible apply actsF_f0); omega) | ((with_reducible apply actsF_f1); omega) | ((with_reducible apply actsF_f2); omega) | ((with_reducible apply strsF_at); omega) | assumption)))
            exact ⟨k + 1, by omega, by omega, gh_le ⟨le_upd rfl trivial (le_upd rfl rfl (le_upd rfl trivial (le_upd rfl rfl (le_upd rfl trivial (le_nil _))))), le_hupd hrow trivial (le_hupd rfl trivial (le_h0 _ _))⟩⟩
        · have hke : k = (pplK l i).length := by omega
          subst hke
          have hrow : some (Blk.row 9 1 (((pplK l i).take (pplK l i).length).filter (fun x => !decide (x = l[i].name))).length (strsF (((pplK l i).take (pplK l i).length).filter (fun x => !decide (x = l[i].name))))) = some (Blk.row 9 1 (pplK l (i + 1)).length (strsF (pplK l (i + 1)))) := rowS_eq (by rw [List.take_length]; exact hs.symm)
          repeat (first
    | (apply s_a TY; exact rfl)
    | (apply s_f; exact rfl; (first | assumption | omega))
    | apply w_seq
    | apply w_region
    | apply s_nil
    | apply t_norm
    | apply t_exit
    | apply k_hit
    | apply k_norm
    | apply w_exit
    | (apply w_condF; exact rfl; exact rfl)
    | (apply s_c TY; exact rfl; (first | omega | exact ⟨by omega, by (first | with_reducible assumption | ((with_reducible apply actsF_ne); omega) | ((with_reducible apply strsF_ne); omega) | assumption)⟩)))
          exact ⟨i + 1, by omega, by omega, gh_trans (b := ⟨(Ab.upd (Ab.upd (Ab.upd (fun _ => .bot) 0 (.f (.sl l.length (actsF l)))) 3 (.ow 1)) 4 (.f (iv (((i + 1) : Nat) : Int)))), (Ab.upd (fun _ => none) 1 (some (.row 9 1 (((pplK l i).take (pplK l i).length).filter (fun x => !decide (x = l[i].name))).length (strsF (((pplK l i).take (pplK l i).length).filter (fun x => !decide (x = l[i].name))))))), 2⟩) (gh_le ⟨le_upd rfl trivial (le_upd rfl rfl (le_upd rfl trivial (le_nil _))), le_hupd rfl trivial (le_h0 _ _)⟩) (gh_trans (gh_mvU 1 0 (by decide) rfl rfl rfl rfl) (gh_le ⟨le_upd rfl trivial (le_upd rfl rfl (le_upd rfl trivial (le_nil _))), le_hupd hrow trivial (le_h0 _ _)⟩))⟩
      · rw [if_neg h1] at hs
        have hrow := rowS_eq hs.symm
        repeat (first
    | (apply s_a TY; exact rfl)
    | (apply s_t; exact rfl; (first | assumption | omega))
    | (apply s_f; exact rfl; (first | assumption | omega))
    | apply w_seq
    | apply w_region
    | apply s_nil
    | apply t_norm
    | apply k_norm
    | apply w_block
    | apply w_skip
    | (apply w_condT; exact rfl; exact rfl)
    | (apply w_condF; exact rfl; exact rfl)
    | (apply s_c TY; exact rfl; (first | omega | exact ⟨by omega, by (first | with_reducible assumption | ((with_reducible apply actsF_ne); omega) | ((with_reducible apply strsF_ne); omega) | assumption)⟩))
    | (apply s_l TY; exact rfl; (first | exact rfl | with_reducible assumption | ((with_reducible apply actsF_f0); omega) | ((with_reducible apply actsF_f1); omega) | ((with_reducible apply actsF_f2); omega) | ((with_reducible apply strsF_at); omega) | assumption)))
        exact ⟨i + 1, by omega, by omega, gh_le ⟨le_upd rfl trivial (le_upd rfl rfl (le_upd rfl trivial (le_nil _))), le_hupd hrow trivial (le_h0 _ _)⟩⟩
  · have hil2 : i = l.length := by omega
    subst hil2
    have HS := sorted_s (pplK l l.length) (by omega)
    repeat (first
    | (refine s_ghost rfl (gh_row 0 (e := 9) (sz := 1) (n := (pplK l l.length).length) (cs := strsF (pplK l l.length)) rfl) ?_)
    | (apply s_a TY; exact rfl)
    | (apply s_f; exact rfl; (first | assumption | omega))
    | apply w_seq
    | apply w_region
    | apply s_nil
    | apply t_norm
    | apply t_exit
    | apply k_hit
    | apply w_exit
    | apply w_ret
    | (apply w_condF; exact rfl; exact rfl)
    | (apply s_k (HS); exact rfl))
    exact lv_ret (ret1 rfl (res_tmp rfl))
theorem PeopleK_s (l : List Act) (k : Nat) (hk : k ≤ l.length) (hl : l.length ≤ 1000) : Summ Tryz.prog GG 46 [.sl k (actsF (l.take k))] (.sl (sortedN ltS (pplK l k)).length (strsF (sortedN ltS (pplK l k)))) := by
  have h := People_s (l.take k) (by rw [List.length_take]; omega)
  have hlk : (l.take k).length = k := by rw [List.length_take]; omega
  rw [hlk, pplK_take l k k (Nat.le_refl _)] at h
  exact h
theorem toldS_at {l : List Act} {k : Nat} (h : k < l.length) : toldS ltS l k = if l[k].kind = 4 then hadS ltS l l[k].name k else sortedN ltS (pplK l k) := by unfold toldS; rw [List.getElem?_eq_getElem h]
theorem hadL_at {l : List Act} {name : Nm} {k : Nat} (h : k < l.length) : hadL ltS l name (k + 1) = if newV name l[k] then hadL ltS l name k ++ sortedN ltS (pplK l k) else hadL ltS l name k := by rw [hadL, List.getElem?_eq_getElem h]
theorem hadL_len (l : List Act) (name : Nm) : ∀ k, k ≤ l.length → (hadL ltS l name k).length ≤ k * l.length
  | 0, _ => by simp [hadL]
  | k + 1, h => by
    have ih := hadL_len l name k (by omega)
    have h1 := pplK_len l k
    have h2 := sortedN_len (pplK l k)
    rw [hadL_at (by omega), Nat.succ_mul]
    split
    · rw [List.length_append]; omega
    · omega
theorem newV_iff {name : Nm} {a : Act} : newV name a = true ↔ a.name = name ∧ (a.kind = 2 ∨ a.kind = 3) := by
  unfold newV; simp
set_option maxRecDepth 100000 in
theorem Told_p (l : List Act) (k : Nat) (hk : k < l.length) (hl : l.length ≤ 1000) (h4 : l[k].kind ≠ 4) : Summ Tryz.prog GG 241 [.sl l.length (actsF l), iv ((k : Nat) : Int)] (.sl (sortedN ltS (pplK l k)).length (strsF (sortedN ltS (pplK l k)))) := by
  have HP := PeopleK_s l k (by omega) hl
  have htk : (actsF l).take (k * 3) = actsF (l.take k) := actsF_take l k
  refine summW Tryz.func241 rfl rfl 24 rfl (by simp) (fun M0 => ?_)
  repeat (first
    | (apply s_sliceTo TY; exact rfl; exact rfl; exact rfl; exact rfl; exact rfl; omega; exact htk)
    | (apply s_a TY; exact rfl)
    | (apply s_f; exact rfl; (first | assumption | omega))
    | apply w_seq
    | apply w_region
    | apply s_nil
    | apply t_norm
    | apply t_ret
    | apply w_ret
    | (apply w_condT; exact rfl; exact rfl)
    | (apply s_k (HP); exact rfl)
    | (apply s_c TY; exact rfl; (first | omega | exact ⟨by omega, by (first | with_reducible assumption | ((with_reducible apply actsF_ne); omega) | assumption)⟩))
    | (apply s_l TY; exact rfl; (first | exact rfl | with_reducible assumption | ((with_reducible apply actsF_f0); omega) | ((with_reducible apply actsF_f1); omega) | ((with_reducible apply actsF_f2); omega) | assumption)))
  exact lv_ret (ret1 rfl (res_tmp rfl))
set_option maxRecDepth 100000 in
set_option maxHeartbeats 3200000 in
theorem Had_s (l : List Act) (name : Nm) (hl : l.length ≤ 1000) : Summ Tryz.prog GG 151 [.sl l.length (actsF l), sv name] (.sl (hadS ltS l name l.length).length (strsF (hadS ltS l name l.length))) := by
  refine summW Tryz.func151 rfl rfl 43 rfl (by simp) (fun M0 => ?_)
  repeat (first
    | (apply s_a TY; exact rfl)
    | apply w_seq
    | apply w_region
    | apply s_nil
    | apply t_norm
    | apply w_block)
  apply w_gh (gh_own 5 9 1 rfl rfl)
  apply w_loop (fun k : Nat => ⟨(Ab.upd (Ab.upd (Ab.upd (Ab.upd (fun _ => .bot) 0 (.f (.sl l.length (actsF l)))) 1 (.f (sv name))) 5 (.ow 0)) 6 (.f (iv ((k : Nat) : Int)))), (Ab.upd (fun _ => none) 0 (some (.row 9 1 (hadL ltS l name k).length (strsF (hadL ltS l name k))))), 1⟩) (fun k => k ≤ l.length) (fun k => l.length - k) 0 (Nat.zero_le _) (gh_le ⟨le_upd rfl trivial (le_upd rfl rfl (le_upd rfl trivial (le_upd rfl trivial (le_nil _)))), le_hupd rfl trivial (le_h0 _ _)⟩)
  intro k hk
  have hhl := hadL_len l name k hk
  have hmm : k * l.length ≤ 1000 * 1000 := Nat.mul_le_mul (by omega) hl
  by_cases hkl : k < l.length
  · have hpl := pplK_len l k
    have hsl := sortedN_len (pplK l k)
    by_cases hn : l[k].name = name
    · by_cases h2 : l[k].kind = 2
      · have hyes : l[k].name = name ∧ (l[k].kind = 2 ∨ l[k].kind = 3) := ⟨hn, .inl h2⟩
        have hs : hadL ltS l name (k + 1) = hadL ltS l name k ++ sortedN ltS (pplK l k) := by rw [hadL_at hkl, if_pos (newV_iff.2 hyes)]
        have hrow : some (Blk.row 9 1 ((hadL ltS l name k).length + (sortedN ltS (pplK l k)).length) (strsF (hadL ltS l name k) ++ strsF (sortedN ltS (pplK l k)))) = some (Blk.row 9 1 (hadL ltS l name (k + 1)).length (strsF (hadL ltS l name (k + 1)))) := by rw [hs, List.length_append]; simp [strsF]
        have HT := Told_p l k hkl hl (by omega)
        have hlen : (strsF (sortedN ltS (pplK l k))).length = (sortedN ltS (pplK l k)).length * 1 := strsF_len _
        repeat (first
    | (apply s_append TY; (first | exact rfl | exact hlen); (first | exact rfl | exact hlen); (first | exact rfl | exact hlen); (first | exact rfl | exact hlen); (first | exact rfl | exact hlen); (first | exact rfl | exact hlen); (first | exact rfl | exact hlen); (first | exact rfl | exact hlen); (first | exact rfl | exact hlen); (unfold maxLen; omega); omega)
    | (apply s_bind; exact rfl; exact rfl; exact rfl; exact rfl; exact rfl; exact rfl; exact eqs_t (by assumption))
    | (apply s_a TY; exact rfl)
    | (apply s_t; exact rfl; (first | assumption | omega))
    | apply w_seq
    | apply w_region
    | apply s_nil
    | apply t_norm
    | apply k_norm
    | apply w_block
    | apply w_skip
    | (apply w_condT; exact rfl; exact rfl)
    | (apply s_k (HT); exact rfl)
    | (apply s_s; exact rfl)
    | (apply s_c TY; exact rfl; (first | omega | exact ⟨by omega, by (first | with_reducible assumption | ((with_reducible apply actsF_ne); omega) | assumption)⟩))
    | (apply s_l TY; exact rfl; (first | exact rfl | with_reducible assumption | ((with_reducible apply actsF_f0); omega) | ((with_reducible apply actsF_f1); omega) | ((with_reducible apply actsF_f2); omega) | assumption)))
        exact ⟨k + 1, by omega, by omega, gh_le ⟨le_upd rfl trivial (le_upd rfl rfl (le_upd rfl trivial (le_upd rfl trivial (le_nil _)))), le_hupd hrow trivial (le_h0 _ _)⟩⟩
      · by_cases h3 : l[k].kind = 3
        · have hyes : l[k].name = name ∧ (l[k].kind = 2 ∨ l[k].kind = 3) := ⟨hn, .inr h3⟩
          have hs : hadL ltS l name (k + 1) = hadL ltS l name k ++ sortedN ltS (pplK l k) := by rw [hadL_at hkl, if_pos (newV_iff.2 hyes)]
          have hrow : some (Blk.row 9 1 ((hadL ltS l name k).length + (sortedN ltS (pplK l k)).length) (strsF (hadL ltS l name k) ++ strsF (sortedN ltS (pplK l k)))) = some (Blk.row 9 1 (hadL ltS l name (k + 1)).length (strsF (hadL ltS l name (k + 1)))) := by rw [hs, List.length_append]; simp [strsF]
          have HT := Told_p l k hkl hl (by omega)
          have hlen : (strsF (sortedN ltS (pplK l k))).length = (sortedN ltS (pplK l k)).length * 1 := strsF_len _
          repeat (first
    | (apply s_append TY; (first | exact rfl | exact hlen); (first | exact rfl | exact hlen); (first | exact rfl | exact hlen); (first | exact rfl | exact hlen); (first | exact rfl | exact hlen); (first | exact rfl | exact hlen); (first | exact rfl | exact hlen); (first | exact rfl | exact hlen); (first | exact rfl | exact hlen); (unfold maxLen; omega); omega)
    | (apply s_bind; exact rfl; exact rfl; exact rfl; exact rfl; exact rfl; exact rfl; exact eqs_t (by assumption))
    | (apply s_a TY; exact rfl)
    | (apply s_t; exact rfl; (first | assumption | omega))
    | (apply s_f; exact rfl; (first | assumption | omega))
    | apply w_seq
    | apply w_region
    | apply s_nil
    | apply t_norm
    | apply k_norm
    | apply w_block
    | apply w_skip
    | (apply w_condT; exact rfl; exact rfl)
    | (apply s_k (HT); exact rfl)
    | (apply s_c TY; exact rfl; (first | omega | exact ⟨by omega, by (first | with_reducible assumption | ((with_reducible apply actsF_ne); omega) | assumption)⟩))
    | (apply s_l TY; exact rfl; (first | exact rfl | with_reducible assumption | ((with_reducible apply actsF_f0); omega) | ((with_reducible apply actsF_f1); omega) | ((with_reducible apply actsF_f2); omega) | assumption)))
          exact ⟨k + 1, by omega, by omega, gh_le ⟨le_upd rfl trivial (le_upd rfl rfl (le_upd rfl trivial (le_upd rfl trivial (le_nil _)))), le_hupd hrow trivial (le_h0 _ _)⟩⟩
        · have hno : ¬ (l[k].name = name ∧ (l[k].kind = 2 ∨ l[k].kind = 3)) := fun h => h.2.elim h2 h3
          have hs : hadL ltS l name (k + 1) = hadL ltS l name k := by rw [hadL_at hkl, if_neg (fun h => hno (newV_iff.1 h))]
          have hrow := rowS_eq hs.symm
          repeat (first
    | (apply s_bind; exact rfl; exact rfl; exact rfl; exact rfl; exact rfl; exact rfl; exact eqs_t (by assumption))
    | (apply s_a TY; exact rfl)
    | (apply s_t; exact rfl; (first | assumption | omega))
    | (apply s_f; exact rfl; (first | assumption | omega))
    | apply w_seq
    | apply w_region
    | apply s_nil
    | apply t_norm
    | apply k_norm
    | apply w_block
    | apply w_skip
    | (apply w_condT; exact rfl; exact rfl)
    | (apply w_condF; exact rfl; exact rfl)
    | (apply s_c TY; exact rfl; (first | omega | exact ⟨by omega, by (first | with_reducible assumption | ((with_reducible apply actsF_ne); omega) | assumption)⟩))
    | (apply s_l TY; exact rfl; (first | exact rfl | with_reducible assumption | ((with_reducible apply actsF_f0); omega) | ((with_reducible apply actsF_f1); omega) | ((with_reducible apply actsF_f2); omega) | assumption)))
          exact ⟨k + 1, by omega, by omega, gh_le ⟨le_upd rfl trivial (le_upd rfl rfl (le_upd rfl trivial (le_upd rfl trivial (le_nil _)))), le_hupd hrow trivial (le_h0 _ _)⟩⟩
    · have hno : ¬ (l[k].name = name ∧ (l[k].kind = 2 ∨ l[k].kind = 3)) := fun h => hn h.1
      have hs : hadL ltS l name (k + 1) = hadL ltS l name k := by rw [hadL_at hkl, if_neg (fun h => hno (newV_iff.1 h))]
      have hrow := rowS_eq hs.symm
      repeat (first
    | (apply s_bind; exact rfl; exact rfl; exact rfl; exact rfl; exact rfl; exact rfl; exact eqs_f (by assumption))
    | (apply s_a TY; exact rfl)
    | (apply s_t; exact rfl; (first | assumption | omega))
    | apply w_seq
    | apply w_region
    | apply s_nil
    | apply t_norm
    | apply k_norm
    | apply w_block
    | apply w_skip
    | (apply w_condT; exact rfl; exact rfl)
    | (apply w_condF; exact rfl; exact rfl)
    | (apply s_s; exact rfl)
    | (apply s_c TY; exact rfl; (first | omega | exact ⟨by omega, by (first | with_reducible assumption | ((with_reducible apply actsF_ne); omega) | assumption)⟩))
    | (apply s_l TY; exact rfl; (first | exact rfl | with_reducible assumption | ((with_reducible apply actsF_f0); omega) | ((with_reducible apply actsF_f1); omega) | ((with_reducible apply actsF_f2); omega) | assumption)))
      exact ⟨k + 1, by omega, by omega, gh_le ⟨le_upd rfl trivial (le_upd rfl rfl (le_upd rfl trivial (le_upd rfl trivial (le_nil _)))), le_hupd hrow trivial (le_h0 _ _)⟩⟩
  · have hke : k = l.length := by omega
    subst hke
    have HS := sorted_s (hadL ltS l name l.length) (by omega)
    repeat (first
    | (refine s_ghost rfl (gh_row 0 (e := 9) (sz := 1) (n := (hadL ltS l name l.length).length) (cs := strsF (hadL ltS l name l.length)) rfl) ?_)
    | (apply s_a TY; exact rfl)
    | (apply s_f; exact rfl; (first | assumption | omega))
    | apply w_seq
    | apply w_region
    | apply s_nil
    | apply t_norm
    | apply t_exit
    | apply k_hit
    | apply w_exit
    | apply w_ret
    | (apply w_condF; exact rfl; exact rfl)
    | (apply s_k (HS); exact rfl))
    exact lv_ret (ret1 rfl (res_tmp rfl))
end Go.Proofs.YtbkdjlahhcofmaaGreatDoor
namespace Go.Proofs.YtbkdjlahhcofmaaGreatDoor
open Go Go.RowKit Go.Proofs Go.Shelf Go.Ab
theorem verK_take (l : List Act) (name : Nm) (k : Nat) : ∀ j, j ≤ k → verK (l.take k) name j = verK l name j
  | 0, _ => rfl
  | j + 1, h => by rw [verK, verK, take_at (by omega), verK_take l name k j (by omega)]
theorem celK_take (l : List Act) (name : Nm) (k : Nat) : ∀ j, j ≤ k → celK (l.take k) name j = celK l name j
  | 0, _ => rfl
  | j + 1, h => by rw [celK, celK, take_at (by omega), celK_take l name k j (by omega)]
theorem wdrK_take (l : List Act) (name : Nm) (k : Nat) : ∀ j, j ≤ k → wdrK (l.take k) name j = wdrK l name j
  | 0, _ => rfl
  | j + 1, h => by rw [wdrK, wdrK, take_at (by omega), wdrK_take l name k j (by omega)]
theorem verK_at {l : List Act} {name : Nm} {k : Nat} (h : k < l.length) : verK l name (k + 1) = if newV name l[k] then verK l name k + 1 else verK l name k := by rw [verK, List.getElem?_eq_getElem h]
theorem celK_at {l : List Act} {name : Nm} {k : Nat} (h : k < l.length) : celK l name (k + 1) = if newV name l[k] then l[k].cells else celK l name k := by rw [celK, List.getElem?_eq_getElem h]
theorem wdrK_at {l : List Act} {name : Nm} {k : Nat} (h : k < l.length) : wdrK l name (k + 1) = if l[k].name = name ∧ l[k].kind = 4 then true else wdrK l name k := by rw [wdrK, List.getElem?_eq_getElem h]
def stA (l : List Act) (name : Nm) (k : Nat) : Ast := ⟨name, verK l name k, celK l name k, wdrK l name k, hadS ltS l name k⟩
theorem CLZ {h : Nat → Option Blk} : closedB h (.box [.bot, .bot, .bot, .bot, .bot]) := (fun y hy => by
  simp only [List.mem_cons, List.not_mem_nil, or_false] at hy
  rcases hy with rfl | rfl | rfl | rfl | rfl <;> trivial)
theorem CLS {h : Nat → Option Blk} (a b c d e : FV) : closedB h (.box [.f a, .f b, .f c, .f d, .f e]) := (fun y hy => by
  simp only [List.mem_cons, List.not_mem_nil, or_false] at hy
  rcases hy with rfl | rfl | rfl | rfl | rfl <;> trivial)
set_option maxRecDepth 100000 in
set_option maxHeartbeats 6400000 in
theorem State_s (l : List Act) (name : Nm) (hl : l.length ≤ 1000) (hcl : ∀ i (hi : i < l.length), l[i].cells.length ≤ 1000000) : Summ Tryz.prog GG 49 [.sl l.length (actsF l), sv name] (.tup [.agg [sv name, iv (verK l name l.length), .sl (celK l name l.length).length (intsF (celK l name l.length)), bv (wdrK l name l.length), .sl (hadS ltS l name l.length).length (strsF (hadS ltS l name l.length))], bv (decide (0 < verK l name l.length))]) := by
  refine summW Tryz.func49 rfl rfl 53 rfl (by simp) (fun M0 => ?_)
  repeat (first
    | (apply s_a TY; exact rfl)
    | apply w_seq
    | apply w_region
    | (apply s_allocB TY (d := some 4); exact rfl; exact rfl; exact rfl)
    | apply s_nil
    | apply t_norm
    | apply w_block
    | (apply s_alloc TY; exact rfl; exact rfl; exact rfl)
    | (apply s_store TY; exact rfl; exact rfl; exact rfl; exact rfl; exact rfl; exact rfl))
  apply w_gh (gh_boxW 1 (cs := [.f (sv name), .f (iv 0), .f (.v (.slice none 0 0)), .f (bv false), .f (.v (.slice none 0 0))]) (cs' := [.f (sv name), .f (iv 0), .f (.sl 0 []), .f (bv false), .f (.v (.slice none 0 0))]) rfl rfl (fun k x x' h1 h2 w J v q => by
    match k, h1, h2 with
    | 0, h1, h2 => cases h1; cases h2; exact q
    | 1, h1, h2 => cases h1; cases h2; exact q
    | 2, h1, h2 => cases h1; cases h2; exact nil_cell q
    | 3, h1, h2 => cases h1; cases h2; exact q
    | 4, h1, h2 => cases h1; cases h2; exact q
    | _ + 5, h1, h2 => cases h1))
  apply w_loop (fun k : Nat => ⟨(Ab.upd (Ab.upd (Ab.upd (Ab.upd (Ab.upd (fun _ => .bot) 0 (.f (.sl l.length (actsF l)))) 1 (.f (sv name))) 4 (.bx 0 0)) 6 (.bx 1 0)) 7 (.f (iv ((k : Nat) : Int)))), (Ab.upd (Ab.upd (fun _ => none) 0 (some (.box [.bot, .bot, .bot, .bot, .bot]))) 1 (some (.box [.f (sv name), .f (iv (verK l name k)), .f (.sl (celK l name k).length (intsF (celK l name k))), .f (bv (wdrK l name k)), .f (.v (.slice none 0 0))]))), 2⟩) (fun k => k ≤ l.length) (fun k => l.length - k) 0 (Nat.zero_le _) (gh_le ⟨le_upd rfl trivial (le_upd rfl rfl (le_upd rfl rfl (le_upd rfl trivial (le_upd rfl trivial (le_nil _))))), le_hupd rfl (CLS _ _ _ _ _) (le_hupd rfl (CLZ) (le_h0 _ _))⟩)
  intro k hk
  have hvb := verK_nn l name k
  by_cases hkl : k < l.length
  · by_cases hn : l[k].name = name
    · by_cases h2 : l[k].kind = 2
      · have hyes : newV name l[k] = true := newV_iff.2 ⟨hn, .inl h2⟩
        have hno4 : ¬ (l[k].name = name ∧ l[k].kind = 4) := fun h => by omega
        have hb : some (Blk.box [.f (sv name), .f (iv (verK l name k + 1)), .f (.sl l[k].cells.length (intsF l[k].cells)), .f (bv (wdrK l name k)), .f (.v (.slice none 0 0))]) = some (Blk.box [.f (sv name), .f (iv (verK l name (k + 1))), .f (.sl (celK l name (k + 1)).length (intsF (celK l name (k + 1)))), .f (bv (wdrK l name (k + 1))), .f (.v (.slice none 0 0))]) := by rw [verK_at hkl, celK_at hkl, wdrK_at hkl, if_pos hyes, if_pos hyes, if_neg hno4]
        have HC := CopyInts_s l[k].cells (hcl k hkl)
        repeat (first
    | (apply s_bind; exact rfl; exact rfl; exact rfl; exact rfl; exact rfl; exact rfl; exact nes_f (by assumption))
    | (apply s_a TY; exact rfl)
    | (apply s_t; exact rfl; (first | assumption | omega))
    | apply w_seq
    | apply w_region
    | (apply w_draw (id := 9) 10 rfl (by kernel_rfl))
    | apply s_nil
    | apply t_norm
    | apply k_norm
    | apply w_block
    | apply w_skip
    | (apply w_condT; exact rfl; exact rfl)
    | (apply w_condF; exact rfl; exact rfl)
    | (apply s_k (HC); exact rfl)
    | (apply s_c TY; exact rfl; (first | omega | exact ⟨by omega, by (first | with_reducible assumption | ((with_reducible apply actsF_ne); omega) | assumption)⟩))
    | (apply s_l TY; exact rfl; (first | exact rfl | with_reducible assumption | ((with_reducible apply actsF_f0); omega) | ((with_reducible apply actsF_f1); omega) | ((with_reducible apply actsF_f2); omega) | assumption))
    | (apply s_store TY; exact rfl; exact rfl; exact rfl; exact rfl; exact rfl; exact rfl))
        exact ⟨k + 1, by omega, by omega, gh_le ⟨le_upd rfl trivial (le_upd rfl rfl (le_upd rfl rfl (le_upd rfl trivial (le_upd rfl trivial (le_nil _))))), le_hupd hb (CLS _ _ _ _ _) (le_hupd rfl (CLZ) (le_h0 _ _))⟩⟩
      · by_cases h3 : l[k].kind = 3
        · have hyes : newV name l[k] = true := newV_iff.2 ⟨hn, .inr h3⟩
          have hno4 : ¬ (l[k].name = name ∧ l[k].kind = 4) := fun h => by omega
          have hb : some (Blk.box [.f (sv name), .f (iv (verK l name k + 1)), .f (.sl l[k].cells.length (intsF l[k].cells)), .f (bv (wdrK l name k)), .f (.v (.slice none 0 0))]) = some (Blk.box [.f (sv name), .f (iv (verK l name (k + 1))), .f (.sl (celK l name (k + 1)).length (intsF (celK l name (k + 1)))), .f (bv (wdrK l name (k + 1))), .f (.v (.slice none 0 0))]) := by rw [verK_at hkl, celK_at hkl, wdrK_at hkl, if_pos hyes, if_pos hyes, if_neg hno4]
          have HC := CopyInts_s l[k].cells (hcl k hkl)
          repeat (first
    | (apply s_bind; exact rfl; exact rfl; exact rfl; exact rfl; exact rfl; exact rfl; exact nes_f (by assumption))
    | (apply s_a TY; exact rfl)
    | (apply s_t; exact rfl; (first | assumption | omega))
    | (apply s_f; exact rfl; (first | assumption | omega))
    | apply w_seq
    | apply w_region
    | (apply w_draw (id := 9) 10 rfl (by kernel_rfl))
    | apply s_nil
    | apply t_norm
    | apply k_norm
    | apply w_block
    | apply w_skip
    | (apply w_condT; exact rfl; exact rfl)
    | (apply w_condF; exact rfl; exact rfl)
    | (apply s_k (HC); exact rfl)
    | (apply s_c TY; exact rfl; (first | omega | exact ⟨by omega, by (first | with_reducible assumption | ((with_reducible apply actsF_ne); omega) | assumption)⟩))
    | (apply s_l TY; exact rfl; (first | exact rfl | with_reducible assumption | ((with_reducible apply actsF_f0); omega) | ((with_reducible apply actsF_f1); omega) | ((with_reducible apply actsF_f2); omega) | assumption))
    | (apply s_store TY; exact rfl; exact rfl; exact rfl; exact rfl; exact rfl; exact rfl))
          exact ⟨k + 1, by omega, by omega, gh_le ⟨le_upd rfl trivial (le_upd rfl rfl (le_upd rfl rfl (le_upd rfl trivial (le_upd rfl trivial (le_nil _))))), le_hupd hb (CLS _ _ _ _ _) (le_hupd rfl (CLZ) (le_h0 _ _))⟩⟩
        · have hno : ¬ newV name l[k] = true := fun h => (newV_iff.1 h).2.elim h2 h3
          by_cases h4 : l[k].kind = 4
          · have hb : some (Blk.box [.f (sv name), .f (iv (verK l name k)), .f (.sl (celK l name k).length (intsF (celK l name k))), .f (bv true), .f (.v (.slice none 0 0))]) = some (Blk.box [.f (sv name), .f (iv (verK l name (k + 1))), .f (.sl (celK l name (k + 1)).length (intsF (celK l name (k + 1)))), .f (bv (wdrK l name (k + 1))), .f (.v (.slice none 0 0))]) := by rw [verK_at hkl, celK_at hkl, wdrK_at hkl, if_neg hno, if_neg hno, if_pos ⟨hn, h4⟩]
            repeat (first
    | (apply s_bind; exact rfl; exact rfl; exact rfl; exact rfl; exact rfl; exact rfl; exact nes_f (by assumption))
    | (apply s_a TY; exact rfl)
    | (apply s_t; exact rfl; (first | assumption | omega))
    | (apply s_f; exact rfl; (first | assumption | omega))
    | apply w_seq
    | apply w_region
    | apply s_nil
    | apply t_norm
    | apply k_norm
    | apply w_block
    | apply w_skip
    | (apply w_condT; exact rfl; exact rfl)
    | (apply w_condF; exact rfl; exact rfl)
    | (apply s_c TY; exact rfl; (first | omega | exact ⟨by omega, by (first | with_reducible assumption | ((with_reducible apply actsF_ne); omega) | assumption)⟩))
    | (apply s_l TY; exact rfl; (first | exact rfl | with_reducible assumption | ((with_reducible apply actsF_f0); omega) | ((with_reducible apply actsF_f1); omega) | ((with_reducible apply actsF_f2); omega) | assumption))
    | (apply s_store TY; exact rfl; exact rfl; exact rfl; exact rfl; exact rfl; exact rfl))
            exact ⟨k + 1, by omega, by omega, gh_le ⟨le_upd rfl trivial (le_upd rfl rfl (le_upd rfl rfl (le_upd rfl trivial (le_upd rfl trivial (le_nil _))))), le_hupd hb (CLS _ _ _ _ _) (le_hupd rfl (CLZ) (le_h0 _ _))⟩⟩
          · have hno4 : ¬ (l[k].name = name ∧ l[k].kind = 4) := fun h => h4 h.2
            have hb : some (Blk.box [.f (sv name), .f (iv (verK l name k)), .f (.sl (celK l name k).length (intsF (celK l name k))), .f (bv (wdrK l name k)), .f (.v (.slice none 0 0))]) = some (Blk.box [.f (sv name), .f (iv (verK l name (k + 1))), .f (.sl (celK l name (k + 1)).length (intsF (celK l name (k + 1)))), .f (bv (wdrK l name (k + 1))), .f (.v (.slice none 0 0))]) := by rw [verK_at hkl, celK_at hkl, wdrK_at hkl, if_neg hno, if_neg hno, if_neg hno4]
            repeat (first
    | (apply s_bind; exact rfl; exact rfl; exact rfl; exact rfl; exact rfl; exact rfl; exact nes_f (by assumption))
    | (apply s_a TY; exact rfl)
    | (apply s_t; exact rfl; (first | assumption | omega))
    | (apply s_f; exact rfl; (first | assumption | omega))
    | apply w_seq
    | apply w_region
    | apply s_nil
    | apply t_norm
    | apply k_norm
    | apply w_block
    | apply w_skip
    | (apply w_condT; exact rfl; exact rfl)
    | (apply w_condF; exact rfl; exact rfl)
    | (apply s_c TY; exact rfl; (first | omega | exact ⟨by omega, by (first | with_reducible assumption | ((with_reducible apply actsF_ne); omega) | assumption)⟩))
    | (apply s_l TY; exact rfl; (first | exact rfl | with_reducible assumption | ((with_reducible apply actsF_f0); omega) | ((with_reducible apply actsF_f1); omega) | ((with_reducible apply actsF_f2); omega) | assumption)))
            exact ⟨k + 1, by omega, by omega, gh_le ⟨le_upd rfl trivial (le_upd rfl rfl (le_upd rfl rfl (le_upd rfl trivial (le_upd rfl trivial (le_nil _))))), le_hupd hb (CLS _ _ _ _ _) (le_hupd rfl (CLZ) (le_h0 _ _))⟩⟩
    · have hno : ¬ newV name l[k] = true := fun h => hn (newV_iff.1 h).1
      have hno4 : ¬ (l[k].name = name ∧ l[k].kind = 4) := fun h => hn h.1
      have hb : some (Blk.box [.f (sv name), .f (iv (verK l name k)), .f (.sl (celK l name k).length (intsF (celK l name k))), .f (bv (wdrK l name k)), .f (.v (.slice none 0 0))]) = some (Blk.box [.f (sv name), .f (iv (verK l name (k + 1))), .f (.sl (celK l name (k + 1)).length (intsF (celK l name (k + 1)))), .f (bv (wdrK l name (k + 1))), .f (.v (.slice none 0 0))]) := by rw [verK_at hkl, celK_at hkl, wdrK_at hkl, if_neg hno, if_neg hno, if_neg hno4]
      repeat (first
    | (apply s_bind; exact rfl; exact rfl; exact rfl; exact rfl; exact rfl; exact rfl; exact nes_t (by assumption))
    | (apply s_a TY; exact rfl)
    | (apply s_t; exact rfl; (first | assumption | omega))
    | apply w_seq
    | apply w_region
    | apply s_nil
    | apply t_norm
    | apply t_exit
    | apply k_hit
    | apply w_block
    | apply w_exit
    | apply w_skip
    | (apply w_condT; exact rfl; exact rfl)
    | (apply s_c TY; exact rfl; (first | omega | exact ⟨by omega, by (first | with_reducible assumption | ((with_reducible apply actsF_ne); omega) | assumption)⟩))
    | (apply s_l TY; exact rfl; (first | exact rfl | with_reducible assumption | ((with_reducible apply actsF_f0); omega) | ((with_reducible apply actsF_f1); omega) | ((with_reducible apply actsF_f2); omega) | assumption)))
      exact ⟨k + 1, by omega, by omega, gh_le ⟨le_upd rfl trivial (le_upd rfl rfl (le_upd rfl rfl (le_upd rfl trivial (le_upd rfl trivial (le_nil _))))), le_hupd hb (CLS _ _ _ _ _) (le_hupd rfl (CLZ) (le_h0 _ _))⟩⟩
  · have hke : k = l.length := by omega
    subst hke
    have HH := Had_s l name hl
    by_cases hv : 0 < verK l name l.length
    · rw [decide_eq_true hv]
      repeat (first
    | (apply s_a TY; exact rfl)
    | (apply s_f; exact rfl; (first | assumption | omega))
    | apply w_seq
    | apply w_region
    | apply s_nil
    | apply t_norm
    | apply t_exit
    | apply k_hit
    | apply w_exit
    | (apply w_condF; exact rfl; exact rfl)
    | (apply s_k (HH); exact rfl)
    | (apply s_store TY; exact rfl; exact rfl; exact rfl; exact rfl; exact rfl; exact rfl))
      apply w_gh (gh_box 1 (cs := [sv name, iv (verK l name l.length), .sl (celK l name l.length).length (intsF (celK l name l.length)), bv (wdrK l name l.length), .sl (hadS ltS l name l.length).length (strsF (hadS ltS l name l.length))]) rfl rfl)
      repeat (first
    | (apply s_a TY; exact rfl)
    | (apply s_t; exact rfl; (first | assumption | omega))
    | (apply w_draw1 (id := 13) 4 rfl (by kernel_rfl); exact rfl; kernel_rfl)
    | (apply s_sto TY; exact rfl; exact rfl; exact rfl; exact rfl; exact rfl; exact rfl; exact rfl)
    | apply s_nil
    | apply t_norm
    | apply w_ret)
      exact lv_ret (ret2 rfl (res_bxs (sub := [sv name, iv (verK l name l.length), .sl (celK l name l.length).length (intsF (celK l name l.length)), bv (wdrK l name l.length), .sl (hadS ltS l name l.length).length (strsF (hadS ltS l name l.length))]) TY rfl rfl rfl rfl rfl) (res_tmp rfl))
    · rw [decide_eq_false hv]
      repeat (first
    | (apply s_a TY; exact rfl)
    | (apply s_f; exact rfl; (first | assumption | omega))
    | apply w_seq
    | apply w_region
    | apply s_nil
    | apply t_norm
    | apply t_exit
    | apply k_hit
    | apply w_exit
    | (apply w_condF; exact rfl; exact rfl)
    | (apply s_k (HH); exact rfl)
    | (apply s_store TY; exact rfl; exact rfl; exact rfl; exact rfl; exact rfl; exact rfl))
      apply w_gh (gh_box 1 (cs := [sv name, iv (verK l name l.length), .sl (celK l name l.length).length (intsF (celK l name l.length)), bv (wdrK l name l.length), .sl (hadS ltS l name l.length).length (strsF (hadS ltS l name l.length))]) rfl rfl)
      repeat (first
    | (apply s_a TY; exact rfl)
    | (apply s_f; exact rfl; (first | assumption | omega))
    | (apply w_draw1 (id := 13) 4 rfl (by kernel_rfl); exact rfl; kernel_rfl)
    | (apply s_sto TY; exact rfl; exact rfl; exact rfl; exact rfl; exact rfl; exact rfl; exact rfl)
    | apply s_nil
    | apply t_norm
    | apply w_ret)
      exact lv_ret (ret2 rfl (res_bxs (sub := [sv name, iv (verK l name l.length), .sl (celK l name l.length).length (intsF (celK l name l.length)), bv (wdrK l name l.length), .sl (hadS ltS l name l.length).length (strsF (hadS ltS l name l.length))]) TY rfl rfl rfl rfl rfl) (res_tmp rfl))
end Go.Proofs.YtbkdjlahhcofmaaGreatDoor
namespace Go.Proofs.YtbkdjlahhcofmaaGreatDoor
open Go Go.RowKit Go.Proofs Go.Shelf Go.Ab
def refE (c : Int) (l : List Act) (k : Nat) (x : Act) : Int := if chkE c x ≠ 0 then chkE c x else
  if (x.kind = 0 ∧ x.name ∈ sortedN ltS (pplK l k)) ∨ (x.kind = 2 ∧ 0 < verK l x.name k) then 5
  else if x.kind = 0 ∧ (sortedN ltS (pplK l k)).length = 8 then 16
  else if (x.kind = 1 ∧ x.name ∉ sortedN ltS (pplK l k)) ∨ (3 ≤ x.kind ∧ ¬ 0 < verK l x.name k) then 6
  else if 3 ≤ x.kind ∧ wdrK l x.name k = true then 20 else 0
theorem chkE_kind {c : Int} {x : Act} (h : ¬ (0 ≤ x.kind ∧ x.kind ≤ 4)) : chkE c x = 15 := if_pos h
theorem chkE_name {c : Int} {x : Act} (hk : 0 ≤ x.kind ∧ x.kind ≤ 4) (h : ¬ nameB x.name = true) : chkE c x = 4 := by
  unfold chkE; rw [if_neg (fun h => h hk), if_pos h]
theorem chkE_cel {c : Int} {x : Act} (hk : 0 ≤ x.kind ∧ x.kind ≤ 4) (hn : nameB x.name = true) (h : celsE c x.cells ≠ 0) : chkE c x = celsE c x.cells := by
  unfold chkE; rw [if_neg (fun h => h hk), if_neg (fun h => h hn), if_pos h]
theorem chkE_form {c : Int} {x : Act} (hk : 0 ≤ x.kind ∧ x.kind ≤ 4) (hn : nameB x.name = true) (hc : celsE c x.cells = 0) (h : ¬ hasCB x.kind = decide (0 < x.cells.length)) : chkE c x = 3 := by
  unfold chkE; rw [if_neg (fun h => h hk), if_neg (fun h => h hn), if_neg (fun h => h hc), if_neg h]
theorem chkE_ok {c : Int} {x : Act} (hk : 0 ≤ x.kind ∧ x.kind ≤ 4) (hn : nameB x.name = true) (hc : celsE c x.cells = 0) (h : hasCB x.kind = decide (0 < x.cells.length)) : chkE c x = 0 := by
  unfold chkE; rw [if_neg (fun h => h hk), if_neg (fun h => h hn), if_neg (fun h => h hc), if_pos h]
theorem refE_chk {c : Int} {l : List Act} {k : Nat} {x : Act} {e : Int} (h : chkE c x = e) (he : e ≠ 0) : refE c l k x = e := by
  unfold refE; rw [h, if_pos he]
theorem refE_take (c : Int) (l : List Act) (k : Nat) (x : Act) : refE c (l.take k) k x = refE c l k x := by
  unfold refE; rw [pplK_take l k k (Nat.le_refl _), verK_take l x.name k k (Nat.le_refl _), wdrK_take l x.name k k (Nat.le_refl _)]
theorem hasCB_0 {k : Int} (h : k = 0 ∨ k = 1 ∨ k = 4) : hasCB k = false := by
  rcases h with rfl | rfl | rfl <;> rfl
theorem hasCB_1 {k : Int} (h : k = 2 ∨ k = 3) : hasCB k = true := by
  rcases h with rfl | rfl <;> rfl
theorem neb_run (x y : Operand) (a b : Bool) (w : World) : (do eqGuard .neq 4 x y (.bool a) (.bool b); binOp .neq 4 (.bool a) (.bool b) : Sem Value).run Tryz.prog w = .ok (.bool (a != b)) w := by
  have h := run_neq_bool w 4 a b Tryz.underlying4
  cases a <;> cases b <;> simpa [eqGuard] using h
theorem neb_t {x y : Operand} {a b c : Bool} (h : (a != b) = c) (w : World) : (do eqGuard .neq 4 x y (.bool a) (.bool b); binOp .neq 4 (.bool a) (.bool b) : Sem Value).run Tryz.prog w = .ok (.bool c) w := by rw [neb_run, h]
set_option maxRecDepth 100000 in
set_option maxHeartbeats 12800000 in
theorem actErr_s (rs : List Int) (o : SkyOk rs) (l : List Act) (x : Act) (hl : l.length ≤ 1000) (hcl : ∀ i (hi : i < l.length), l[i].cells.length ≤ 1000000) (hxc : x.cells.length ≤ 9223372036854775807) : Summ Tryz.prog GG 233 [skF rs, .sl l.length (actsF l), .agg (actF x)] (iv (refE (befK rs rs.length) l l.length x)) := by
  have HN := IsName_s x.name
  have HC := rCellsErr_s rs x.cells o hxc
  have HP := People_s l hl
  have hpl := pplK_len l l.length
  have hps := sortedN_len (pplK l l.length)
  have HX := HasText_s (sortedN ltS (pplK l l.length)) x.name (by omega)
  have HS := State_s l x.name hl hcl
  by_cases hk : 0 ≤ x.kind ∧ x.kind ≤ 4
  · by_cases hn : nameB x.name = true
    · by_cases hc : celsE (befK rs rs.length) x.cells = 0
      · by_cases k0 : x.kind = 0
        · by_cases hz : 0 < x.cells.length
          · rw [hn] at HN
            rw [hc] at HC
            rw [refE_chk (chkE_form hk hn hc (by rw [hasCB_0 (.inl k0), decide_eq_true hz]; decide)) (by decide)]
            refine summW Tryz.func233 rfl rfl 99 rfl (by simp) (fun M0 => ?_)
            repeat (first
    | (apply s_bind; exact rfl; exact rfl; exact rfl; exact rfl; exact rfl; exact rfl; exact neb_t (by first | rfl | assumption | decide))
    | (apply s_a TY; exact rfl)
    | (apply s_t; exact rfl; (first | assumption | omega))
    | (apply s_f; exact rfl; (first | assumption | omega))
    | apply w_seq
    | apply w_region
    | apply s_nil
    | apply t_norm
    | apply t_ret
    | apply w_ret
    | apply w_skip
    | (apply w_condT; exact rfl; exact rfl)
    | (apply w_condF; exact rfl; exact rfl)
    | (apply s_k (HN); exact rfl)
    | (apply s_k (HC); exact rfl)
    | (apply s_k1 (bwithin_T _ _ _); exact rfl; (first | assumption | omega | decide)))
            exact lv_ret (ret1 rfl (res_tmp rfl))
          · by_cases hin : x.name ∈ (sortedN ltS (pplK l l.length))
            · rw [hn] at HN
              rw [hc] at HC
              have hch : chkE (befK rs rs.length) x = 0 := chkE_ok hk hn hc (by rw [hasCB_0 (.inl k0), decide_eq_false hz])
              rw [show (sortedN ltS (pplK l l.length)).contains x.name = true by simpa using hin] at HX
              have hval : refE (befK rs rs.length) l l.length x = 5 := by
                unfold refE
                rw [hch]
                simp [k0, hin]
              rw [hval]
              refine summW Tryz.func233 rfl rfl 99 rfl (by simp) (fun M0 => ?_)
              repeat (first
    | (apply s_bind; exact rfl; exact rfl; exact rfl; exact rfl; exact rfl; exact rfl; exact neb_t (by first | rfl | assumption | decide))
    | (apply s_a TY; exact rfl)
    | (apply s_t; exact rfl; (first | assumption | omega))
    | (apply s_f; exact rfl; (first | assumption | omega))
    | apply w_seq
    | apply w_region
    | apply s_nil
    | apply t_norm
    | apply t_ret
    | apply k_ret
    | apply w_block
    | apply w_ret
    | apply w_skip
    | (apply w_condT; exact rfl; exact rfl)
    | (apply w_condF; exact rfl; exact rfl)
    | (apply s_k (HN); exact rfl)
    | (apply s_k (HC); exact rfl)
    | (apply s_k (HP); exact rfl)
    | (apply s_k (HX); exact rfl)
    | (apply s_k (HS); exact rfl)
    | (apply s_k1 (bwithin_T _ _ _); exact rfl; (first | assumption | omega | decide))
    | (apply s_alloc TY; exact rfl; exact rfl; exact rfl)
    | (apply s_store TY; exact rfl; exact rfl; exact rfl; exact rfl; exact rfl; exact rfl))
              exact lv_ret (ret1 rfl (res_tmp rfl))
            · by_cases h8 : (sortedN ltS (pplK l l.length)).length = 8
              · rw [hn] at HN
                rw [hc] at HC
                have hch : chkE (befK rs rs.length) x = 0 := chkE_ok hk hn hc (by rw [hasCB_0 (.inl k0), decide_eq_false hz])
                rw [show (sortedN ltS (pplK l l.length)).contains x.name = false by simpa using hin] at HX
                have hval : refE (befK rs rs.length) l l.length x = 16 := by
                  unfold refE
                  rw [hch]
                  simp [k0, hin, h8]
                rw [hval]
                refine summW Tryz.func233 rfl rfl 99 rfl (by simp) (fun M0 => ?_)
                repeat (first
    | (apply s_bind; exact rfl; exact rfl; exact rfl; exact rfl; exact rfl; exact rfl; exact neb_t (by first | rfl | assumption | decide))
    | (apply s_a TY; exact rfl)
    | (apply s_t; exact rfl; (first | assumption | omega))
    | (apply s_f; exact rfl; (first | assumption | omega))
    | apply w_seq
    | apply w_region
    | apply s_nil
    | apply t_norm
    | apply t_ret
    | apply k_ret
    | apply w_block
    | apply w_ret
    | apply w_skip
    | (apply w_condT; exact rfl; exact rfl)
    | (apply w_condF; exact rfl; exact rfl)
    | (apply s_k (HN); exact rfl)
    | (apply s_k (HC); exact rfl)
    | (apply s_k (HP); exact rfl)
    | (apply s_k (HX); exact rfl)
    | (apply s_k (HS); exact rfl)
    | (apply s_k1 (bwithin_T _ _ _); exact rfl; (first | assumption | omega | decide))
    | (apply s_s; exact rfl)
    | (apply s_alloc TY; exact rfl; exact rfl; exact rfl)
    | (apply s_store TY; exact rfl; exact rfl; exact rfl; exact rfl; exact rfl; exact rfl))
                exact lv_ret (ret1 rfl (res_tmp rfl))
              · rw [hn] at HN
                rw [hc] at HC
                have hch : chkE (befK rs rs.length) x = 0 := chkE_ok hk hn hc (by rw [hasCB_0 (.inl k0), decide_eq_false hz])
                rw [show (sortedN ltS (pplK l l.length)).contains x.name = false by simpa using hin] at HX
                have hval : refE (befK rs rs.length) l l.length x = 0 := by
                  unfold refE
                  rw [hch]
                  simp [k0, hin, h8]
                rw [hval]
                refine summW Tryz.func233 rfl rfl 99 rfl (by simp) (fun M0 => ?_)
                repeat (first
    | (apply s_bind; exact rfl; exact rfl; exact rfl; exact rfl; exact rfl; exact rfl; exact neb_t (by first | rfl | assumption | decide))
    | (apply s_a TY; exact rfl)
    | (apply s_t; exact rfl; (first | assumption | omega))
    | (apply s_f; exact rfl; (first | assumption | omega))
    | apply w_seq
    | apply w_region
    | apply s_nil
    | apply t_norm
    | apply k_norm
    | apply w_block
    | apply w_ret
    | apply w_skip
    | (apply w_condF; exact rfl; exact rfl)
    | (apply s_k (HN); exact rfl)
    | (apply s_k (HC); exact rfl)
    | (apply s_k (HP); exact rfl)
    | (apply s_k (HX); exact rfl)
    | (apply s_k (HS); exact rfl)
    | (apply s_k1 (bwithin_T _ _ _); exact rfl; (first | assumption | omega | decide))
    | (apply s_s; exact rfl)
    | (apply s_alloc TY; exact rfl; exact rfl; exact rfl)
    | (apply s_store TY; exact rfl; exact rfl; exact rfl; exact rfl; exact rfl; exact rfl))
                exact lv_ret (ret1 rfl (res_tmp rfl))
        · by_cases k1 : x.kind = 1
          · by_cases hz : 0 < x.cells.length
            · rw [hn] at HN
              rw [hc] at HC
              rw [refE_chk (chkE_form hk hn hc (by rw [hasCB_0 (.inr (.inl k1)), decide_eq_true hz]; decide)) (by decide)]
              refine summW Tryz.func233 rfl rfl 99 rfl (by simp) (fun M0 => ?_)
              repeat (first
    | (apply s_bind; exact rfl; exact rfl; exact rfl; exact rfl; exact rfl; exact rfl; exact neb_t (by first | rfl | assumption | decide))
    | (apply s_a TY; exact rfl)
    | (apply s_t; exact rfl; (first | assumption | omega))
    | (apply s_f; exact rfl; (first | assumption | omega))
    | apply w_seq
    | apply w_region
    | apply s_nil
    | apply t_norm
    | apply t_ret
    | apply w_ret
    | apply w_skip
    | (apply w_condT; exact rfl; exact rfl)
    | (apply w_condF; exact rfl; exact rfl)
    | (apply s_k (HN); exact rfl)
    | (apply s_k (HC); exact rfl)
    | (apply s_k1 (bwithin_T _ _ _); exact rfl; (first | assumption | omega | decide)))
              exact lv_ret (ret1 rfl (res_tmp rfl))
            · by_cases hin : x.name ∈ (sortedN ltS (pplK l l.length))
              · rw [hn] at HN
                rw [hc] at HC
                have hch : chkE (befK rs rs.length) x = 0 := chkE_ok hk hn hc (by rw [hasCB_0 (.inr (.inl k1)), decide_eq_false hz])
                rw [show (sortedN ltS (pplK l l.length)).contains x.name = true by simpa using hin] at HX
                have hval : refE (befK rs rs.length) l l.length x = 0 := by
                  unfold refE
                  rw [hch]
                  simp [k1, hin]
                rw [hval]
                refine summW Tryz.func233 rfl rfl 99 rfl (by simp) (fun M0 => ?_)
                repeat (first
    | (apply s_bind; exact rfl; exact rfl; exact rfl; exact rfl; exact rfl; exact rfl; exact neb_t (by first | rfl | assumption | decide))
    | (apply s_a TY; exact rfl)
    | (apply s_t; exact rfl; (first | assumption | omega))
    | (apply s_f; exact rfl; (first | assumption | omega))
    | apply w_seq
    | apply w_region
    | apply s_nil
    | apply t_norm
    | apply k_norm
    | apply w_block
    | apply w_ret
    | apply w_skip
    | (apply w_condF; exact rfl; exact rfl)
    | (apply s_k (HN); exact rfl)
    | (apply s_k (HC); exact rfl)
    | (apply s_k (HP); exact rfl)
    | (apply s_k (HX); exact rfl)
    | (apply s_k (HS); exact rfl)
    | (apply s_k1 (bwithin_T _ _ _); exact rfl; (first | assumption | omega | decide))
    | (apply s_s; exact rfl)
    | (apply s_alloc TY; exact rfl; exact rfl; exact rfl)
    | (apply s_store TY; exact rfl; exact rfl; exact rfl; exact rfl; exact rfl; exact rfl))
                exact lv_ret (ret1 rfl (res_tmp rfl))
              · rw [hn] at HN
                rw [hc] at HC
                have hch : chkE (befK rs rs.length) x = 0 := chkE_ok hk hn hc (by rw [hasCB_0 (.inr (.inl k1)), decide_eq_false hz])
                rw [show (sortedN ltS (pplK l l.length)).contains x.name = false by simpa using hin] at HX
                have hval : refE (befK rs rs.length) l l.length x = 6 := by
                  unfold refE
                  rw [hch]
                  simp [k1, hin]
                rw [hval]
                refine summW Tryz.func233 rfl rfl 99 rfl (by simp) (fun M0 => ?_)
                repeat (first
    | (apply s_bind; exact rfl; exact rfl; exact rfl; exact rfl; exact rfl; exact rfl; exact neb_t (by first | rfl | assumption | decide))
    | (apply s_a TY; exact rfl)
    | (apply s_t; exact rfl; (first | assumption | omega))
    | (apply s_f; exact rfl; (first | assumption | omega))
    | apply w_seq
    | apply w_region
    | apply s_nil
    | apply t_norm
    | apply t_ret
    | apply k_ret
    | apply w_block
    | apply w_ret
    | apply w_skip
    | (apply w_condT; exact rfl; exact rfl)
    | (apply w_condF; exact rfl; exact rfl)
    | (apply s_k (HN); exact rfl)
    | (apply s_k (HC); exact rfl)
    | (apply s_k (HP); exact rfl)
    | (apply s_k (HX); exact rfl)
    | (apply s_k (HS); exact rfl)
    | (apply s_k1 (bwithin_T _ _ _); exact rfl; (first | assumption | omega | decide))
    | (apply s_s; exact rfl)
    | (apply s_alloc TY; exact rfl; exact rfl; exact rfl)
    | (apply s_store TY; exact rfl; exact rfl; exact rfl; exact rfl; exact rfl; exact rfl))
                exact lv_ret (ret1 rfl (res_tmp rfl))
          · by_cases k2 : x.kind = 2
            · by_cases hz : 0 < x.cells.length
              · by_cases hv : 0 < verK l x.name l.length
                · rw [hn] at HN
                  rw [hc] at HC
                  have hch : chkE (befK rs rs.length) x = 0 := chkE_ok hk hn hc (by rw [hasCB_1 (.inl k2), decide_eq_true hz])
                  rw [decide_eq_true hv] at HS
                  have hval : refE (befK rs rs.length) l l.length x = 5 := by
                    unfold refE
                    rw [hch]
                    simp [k2, hv]
                  rw [hval]
                  refine summW Tryz.func233 rfl rfl 99 rfl (by simp) (fun M0 => ?_)
                  repeat (first
    | (apply s_bind; exact rfl; exact rfl; exact rfl; exact rfl; exact rfl; exact rfl; exact neb_t (by first | rfl | assumption | decide))
    | (apply s_a TY; exact rfl)
    | (apply s_t; exact rfl; (first | assumption | omega))
    | (apply s_f; exact rfl; (first | assumption | omega))
    | apply w_seq
    | apply w_region
    | apply s_nil
    | apply t_norm
    | apply t_ret
    | apply k_ret
    | apply w_block
    | apply w_ret
    | apply w_skip
    | (apply w_condT; exact rfl; exact rfl)
    | (apply w_condF; exact rfl; exact rfl)
    | (apply s_k (HN); exact rfl)
    | (apply s_k (HC); exact rfl)
    | (apply s_k (HP); exact rfl)
    | (apply s_k (HS); exact rfl)
    | (apply s_k1 (bwithin_T _ _ _); exact rfl; (first | assumption | omega | decide))
    | (apply s_s; exact rfl)
    | (apply s_alloc TY; exact rfl; exact rfl; exact rfl)
    | (apply s_store TY; exact rfl; exact rfl; exact rfl; exact rfl; exact rfl; exact rfl))
                  exact lv_ret (ret1 rfl (res_tmp rfl))
                · rw [hn] at HN
                  rw [hc] at HC
                  have hch : chkE (befK rs rs.length) x = 0 := chkE_ok hk hn hc (by rw [hasCB_1 (.inl k2), decide_eq_true hz])
                  rw [decide_eq_false hv] at HS
                  have hval : refE (befK rs rs.length) l l.length x = 0 := by
                    unfold refE
                    rw [hch]
                    simp [k2, hv]
                  rw [hval]
                  refine summW Tryz.func233 rfl rfl 99 rfl (by simp) (fun M0 => ?_)
                  repeat (first
    | (apply s_bind; exact rfl; exact rfl; exact rfl; exact rfl; exact rfl; exact rfl; exact neb_t (by first | rfl | assumption | decide))
    | (apply s_a TY; exact rfl)
    | (apply s_t; exact rfl; (first | assumption | omega))
    | (apply s_f; exact rfl; (first | assumption | omega))
    | apply w_seq
    | apply w_region
    | apply s_nil
    | apply t_norm
    | apply k_norm
    | apply w_block
    | apply w_ret
    | apply w_skip
    | (apply w_condF; exact rfl; exact rfl)
    | (apply s_k (HN); exact rfl)
    | (apply s_k (HC); exact rfl)
    | (apply s_k (HP); exact rfl)
    | (apply s_k (HS); exact rfl)
    | (apply s_k1 (bwithin_T _ _ _); exact rfl; (first | assumption | omega | decide))
    | (apply s_s; exact rfl)
    | (apply s_alloc TY; exact rfl; exact rfl; exact rfl)
    | (apply s_store TY; exact rfl; exact rfl; exact rfl; exact rfl; exact rfl; exact rfl))
                  exact lv_ret (ret1 rfl (res_tmp rfl))
              · rw [hn] at HN
                rw [hc] at HC
                rw [refE_chk (chkE_form hk hn hc (by rw [hasCB_1 (.inl k2), decide_eq_false hz]; decide)) (by decide)]
                refine summW Tryz.func233 rfl rfl 99 rfl (by simp) (fun M0 => ?_)
                repeat (first
    | (apply s_bind; exact rfl; exact rfl; exact rfl; exact rfl; exact rfl; exact rfl; exact neb_t (by first | rfl | assumption | decide))
    | (apply s_a TY; exact rfl)
    | (apply s_t; exact rfl; (first | assumption | omega))
    | (apply s_f; exact rfl; (first | assumption | omega))
    | apply w_seq
    | apply w_region
    | apply s_nil
    | apply t_norm
    | apply t_ret
    | apply w_ret
    | apply w_skip
    | (apply w_condT; exact rfl; exact rfl)
    | (apply w_condF; exact rfl; exact rfl)
    | (apply s_k (HN); exact rfl)
    | (apply s_k (HC); exact rfl)
    | (apply s_k1 (bwithin_T _ _ _); exact rfl; (first | assumption | omega | decide))
    | (apply s_s; exact rfl))
                exact lv_ret (ret1 rfl (res_tmp rfl))
            · by_cases k3 : x.kind = 3
              · by_cases hz : 0 < x.cells.length
                · by_cases hv : 0 < verK l x.name l.length
                  · by_cases hw : wdrK l x.name l.length = true
                    · rw [hn] at HN
                      rw [hc] at HC
                      have hch : chkE (befK rs rs.length) x = 0 := chkE_ok hk hn hc (by rw [hasCB_1 (.inr k3), decide_eq_true hz])
                      rw [decide_eq_true hv] at HS
                      rw [show wdrK l x.name l.length = true by simpa using hw] at HS
                      have hval : refE (befK rs rs.length) l l.length x = 20 := by
                        unfold refE
                        rw [hch]
                        simp [k3, hv, hw]
                      rw [hval]
                      refine summW Tryz.func233 rfl rfl 99 rfl (by simp) (fun M0 => ?_)
                      repeat (first
    | (apply s_bind; exact rfl; exact rfl; exact rfl; exact rfl; exact rfl; exact rfl; exact neb_t (by first | rfl | assumption | decide))
    | (apply s_a TY; exact rfl)
    | (apply s_t; exact rfl; (first | assumption | omega))
    | (apply s_f; exact rfl; (first | assumption | omega))
    | apply w_seq
    | apply w_region
    | apply s_nil
    | apply t_norm
    | apply t_ret
    | apply k_ret
    | apply w_block
    | apply w_ret
    | apply w_skip
    | (apply w_condT; exact rfl; exact rfl)
    | (apply w_condF; exact rfl; exact rfl)
    | (apply s_k (HN); exact rfl)
    | (apply s_k (HC); exact rfl)
    | (apply s_k (HP); exact rfl)
    | (apply s_k (HS); exact rfl)
    | (apply s_k1 (bwithin_T _ _ _); exact rfl; (first | assumption | omega | decide))
    | (apply s_s; exact rfl)
    | (apply s_alloc TY; exact rfl; exact rfl; exact rfl)
    | (apply s_store TY; exact rfl; exact rfl; exact rfl; exact rfl; exact rfl; exact rfl))
                      exact lv_ret (ret1 rfl (res_tmp rfl))
                    · rw [hn] at HN
                      rw [hc] at HC
                      have hch : chkE (befK rs rs.length) x = 0 := chkE_ok hk hn hc (by rw [hasCB_1 (.inr k3), decide_eq_true hz])
                      rw [decide_eq_true hv] at HS
                      rw [show wdrK l x.name l.length = false by simpa using hw] at HS
                      have hval : refE (befK rs rs.length) l l.length x = 0 := by
                        unfold refE
                        rw [hch]
                        simp [k3, hv, hw]
                      rw [hval]
                      refine summW Tryz.func233 rfl rfl 99 rfl (by simp) (fun M0 => ?_)
                      repeat (first
    | (apply s_bind; exact rfl; exact rfl; exact rfl; exact rfl; exact rfl; exact rfl; exact neb_t (by first | rfl | assumption | decide))
    | (apply s_a TY; exact rfl)
    | (apply s_t; exact rfl; (first | assumption | omega))
    | (apply s_f; exact rfl; (first | assumption | omega))
    | apply w_seq
    | apply w_region
    | apply s_nil
    | apply t_norm
    | apply k_norm
    | apply w_block
    | apply w_ret
    | apply w_skip
    | (apply w_condF; exact rfl; exact rfl)
    | (apply s_k (HN); exact rfl)
    | (apply s_k (HC); exact rfl)
    | (apply s_k (HP); exact rfl)
    | (apply s_k (HS); exact rfl)
    | (apply s_k1 (bwithin_T _ _ _); exact rfl; (first | assumption | omega | decide))
    | (apply s_s; exact rfl)
    | (apply s_alloc TY; exact rfl; exact rfl; exact rfl)
    | (apply s_store TY; exact rfl; exact rfl; exact rfl; exact rfl; exact rfl; exact rfl))
                      exact lv_ret (ret1 rfl (res_tmp rfl))
                  · rw [hn] at HN
                    rw [hc] at HC
                    have hch : chkE (befK rs rs.length) x = 0 := chkE_ok hk hn hc (by rw [hasCB_1 (.inr k3), decide_eq_true hz])
                    rw [decide_eq_false hv] at HS
                    have hval : refE (befK rs rs.length) l l.length x = 6 := by
                      unfold refE
                      rw [hch]
                      simp [k3, hv]
                    rw [hval]
                    refine summW Tryz.func233 rfl rfl 99 rfl (by simp) (fun M0 => ?_)
                    repeat (first
    | (apply s_bind; exact rfl; exact rfl; exact rfl; exact rfl; exact rfl; exact rfl; exact neb_t (by first | rfl | assumption | decide))
    | (apply s_a TY; exact rfl)
    | (apply s_t; exact rfl; (first | assumption | omega))
    | (apply s_f; exact rfl; (first | assumption | omega))
    | apply w_seq
    | apply w_region
    | apply s_nil
    | apply t_norm
    | apply t_ret
    | apply k_ret
    | apply w_block
    | apply w_ret
    | apply w_skip
    | (apply w_condT; exact rfl; exact rfl)
    | (apply w_condF; exact rfl; exact rfl)
    | (apply s_k (HN); exact rfl)
    | (apply s_k (HC); exact rfl)
    | (apply s_k (HP); exact rfl)
    | (apply s_k (HS); exact rfl)
    | (apply s_k1 (bwithin_T _ _ _); exact rfl; (first | assumption | omega | decide))
    | (apply s_s; exact rfl)
    | (apply s_alloc TY; exact rfl; exact rfl; exact rfl)
    | (apply s_store TY; exact rfl; exact rfl; exact rfl; exact rfl; exact rfl; exact rfl))
                    exact lv_ret (ret1 rfl (res_tmp rfl))
                · rw [hn] at HN
                  rw [hc] at HC
                  rw [refE_chk (chkE_form hk hn hc (by rw [hasCB_1 (.inr k3), decide_eq_false hz]; decide)) (by decide)]
                  refine summW Tryz.func233 rfl rfl 99 rfl (by simp) (fun M0 => ?_)
                  repeat (first
    | (apply s_bind; exact rfl; exact rfl; exact rfl; exact rfl; exact rfl; exact rfl; exact neb_t (by first | rfl | assumption | decide))
    | (apply s_a TY; exact rfl)
    | (apply s_t; exact rfl; (first | assumption | omega))
    | (apply s_f; exact rfl; (first | assumption | omega))
    | apply w_seq
    | apply w_region
    | apply s_nil
    | apply t_norm
    | apply t_ret
    | apply w_ret
    | apply w_skip
    | (apply w_condT; exact rfl; exact rfl)
    | (apply w_condF; exact rfl; exact rfl)
    | (apply s_k (HN); exact rfl)
    | (apply s_k (HC); exact rfl)
    | (apply s_k1 (bwithin_T _ _ _); exact rfl; (first | assumption | omega | decide)))
                  exact lv_ret (ret1 rfl (res_tmp rfl))
              · by_cases hz : 0 < x.cells.length
                · rw [hn] at HN
                  rw [hc] at HC
                  have k4 : x.kind = 4 := by omega
                  rw [refE_chk (chkE_form hk hn hc (by rw [hasCB_0 (.inr (.inr k4)), decide_eq_true hz]; decide)) (by decide)]
                  refine summW Tryz.func233 rfl rfl 99 rfl (by simp) (fun M0 => ?_)
                  repeat (first
    | (apply s_bind; exact rfl; exact rfl; exact rfl; exact rfl; exact rfl; exact rfl; exact neb_t (by first | rfl | assumption | decide))
    | (apply s_a TY; exact rfl)
    | (apply s_t; exact rfl; (first | assumption | omega))
    | (apply s_f; exact rfl; (first | assumption | omega))
    | apply w_seq
    | apply w_region
    | apply s_nil
    | apply t_norm
    | apply t_ret
    | apply w_ret
    | apply w_skip
    | (apply w_condT; exact rfl; exact rfl)
    | (apply w_condF; exact rfl; exact rfl)
    | (apply s_k (HN); exact rfl)
    | (apply s_k (HC); exact rfl)
    | (apply s_k1 (bwithin_T _ _ _); exact rfl; (first | assumption | omega | decide)))
                  exact lv_ret (ret1 rfl (res_tmp rfl))
                · by_cases hv : 0 < verK l x.name l.length
                  · by_cases hw : wdrK l x.name l.length = true
                    · rw [hn] at HN
                      rw [hc] at HC
                      have k4 : x.kind = 4 := by omega
                      have hch : chkE (befK rs rs.length) x = 0 := chkE_ok hk hn hc (by rw [hasCB_0 (.inr (.inr k4)), decide_eq_false hz])
                      rw [decide_eq_true hv] at HS
                      rw [show wdrK l x.name l.length = true by simpa using hw] at HS
                      have hval : refE (befK rs rs.length) l l.length x = 20 := by
                        unfold refE
                        rw [hch]
                        simp [k4, hv, hw]
                      rw [hval]
                      refine summW Tryz.func233 rfl rfl 99 rfl (by simp) (fun M0 => ?_)
                      repeat (first
    | (apply s_bind; exact rfl; exact rfl; exact rfl; exact rfl; exact rfl; exact rfl; exact neb_t (by first | rfl | assumption | decide))
    | (apply s_a TY; exact rfl)
    | (apply s_t; exact rfl; (first | assumption | omega))
    | (apply s_f; exact rfl; (first | assumption | omega))
    | apply w_seq
    | apply w_region
    | apply s_nil
    | apply t_norm
    | apply t_ret
    | apply k_ret
    | apply w_block
    | apply w_ret
    | apply w_skip
    | (apply w_condT; exact rfl; exact rfl)
    | (apply w_condF; exact rfl; exact rfl)
    | (apply s_k (HN); exact rfl)
    | (apply s_k (HC); exact rfl)
    | (apply s_k (HP); exact rfl)
    | (apply s_k (HS); exact rfl)
    | (apply s_k1 (bwithin_T _ _ _); exact rfl; (first | assumption | omega | decide))
    | (apply s_s; exact rfl)
    | (apply s_alloc TY; exact rfl; exact rfl; exact rfl)
    | (apply s_store TY; exact rfl; exact rfl; exact rfl; exact rfl; exact rfl; exact rfl))
                      exact lv_ret (ret1 rfl (res_tmp rfl))
                    · rw [hn] at HN
                      rw [hc] at HC
                      have k4 : x.kind = 4 := by omega
                      have hch : chkE (befK rs rs.length) x = 0 := chkE_ok hk hn hc (by rw [hasCB_0 (.inr (.inr k4)), decide_eq_false hz])
                      rw [decide_eq_true hv] at HS
                      rw [show wdrK l x.name l.length = false by simpa using hw] at HS
                      have hval : refE (befK rs rs.length) l l.length x = 0 := by
                        unfold refE
                        rw [hch]
                        simp [k4, hv, hw]
                      rw [hval]
                      refine summW Tryz.func233 rfl rfl 99 rfl (by simp) (fun M0 => ?_)
                      repeat (first
    | (apply s_bind; exact rfl; exact rfl; exact rfl; exact rfl; exact rfl; exact rfl; exact neb_t (by first | rfl | assumption | decide))
    | (apply s_a TY; exact rfl)
    | (apply s_t; exact rfl; (first | assumption | omega))
    | (apply s_f; exact rfl; (first | assumption | omega))
    | apply w_seq
    | apply w_region
    | apply s_nil
    | apply t_norm
    | apply k_norm
    | apply w_block
    | apply w_ret
    | apply w_skip
    | (apply w_condF; exact rfl; exact rfl)
    | (apply s_k (HN); exact rfl)
    | (apply s_k (HC); exact rfl)
    | (apply s_k (HP); exact rfl)
    | (apply s_k (HS); exact rfl)
    | (apply s_k1 (bwithin_T _ _ _); exact rfl; (first | assumption | omega | decide))
    | (apply s_s; exact rfl)
    | (apply s_alloc TY; exact rfl; exact rfl; exact rfl)
    | (apply s_store TY; exact rfl; exact rfl; exact rfl; exact rfl; exact rfl; exact rfl))
                      exact lv_ret (ret1 rfl (res_tmp rfl))
                  · rw [hn] at HN
                    rw [hc] at HC
                    have k4 : x.kind = 4 := by omega
                    have hch : chkE (befK rs rs.length) x = 0 := chkE_ok hk hn hc (by rw [hasCB_0 (.inr (.inr k4)), decide_eq_false hz])
                    rw [decide_eq_false hv] at HS
                    have hval : refE (befK rs rs.length) l l.length x = 6 := by
                      unfold refE
                      rw [hch]
                      simp [k4, hv]
                    rw [hval]
                    refine summW Tryz.func233 rfl rfl 99 rfl (by simp) (fun M0 => ?_)
                    repeat (first
    | (apply s_bind; exact rfl; exact rfl; exact rfl; exact rfl; exact rfl; exact rfl; exact neb_t (by first | rfl | assumption | decide))
    | (apply s_a TY; exact rfl)
    | (apply s_t; exact rfl; (first | assumption | omega))
    | (apply s_f; exact rfl; (first | assumption | omega))
    | apply w_seq
    | apply w_region
    | apply s_nil
    | apply t_norm
    | apply t_ret
    | apply k_ret
    | apply w_block
    | apply w_ret
    | apply w_skip
    | (apply w_condT; exact rfl; exact rfl)
    | (apply w_condF; exact rfl; exact rfl)
    | (apply s_k (HN); exact rfl)
    | (apply s_k (HC); exact rfl)
    | (apply s_k (HP); exact rfl)
    | (apply s_k (HS); exact rfl)
    | (apply s_k1 (bwithin_T _ _ _); exact rfl; (first | assumption | omega | decide))
    | (apply s_s; exact rfl)
    | (apply s_alloc TY; exact rfl; exact rfl; exact rfl)
    | (apply s_store TY; exact rfl; exact rfl; exact rfl; exact rfl; exact rfl; exact rfl))
                    exact lv_ret (ret1 rfl (res_tmp rfl))
      · rw [hn] at HN
        rw [refE_chk (chkE_cel hk hn hc) hc]
        refine summW Tryz.func233 rfl rfl 99 rfl (by simp) (fun M0 => ?_)
        repeat (first
    | (apply s_a TY; exact rfl)
    | (apply s_f; exact rfl; (first | assumption | omega))
    | apply w_seq
    | apply w_region
    | apply s_nil
    | apply t_norm
    | apply t_ret
    | apply w_ret
    | apply w_skip
    | (apply w_condT; exact rfl; exact rfl)
    | (apply w_condF; exact rfl; exact rfl)
    | (apply s_k (HN); exact rfl)
    | (apply s_k (HC); exact rfl)
    | (apply s_k1 (bwithin_T _ _ _); exact rfl; (first | assumption | omega | decide)))
        exact lv_ret (ret1 rfl (res_tmp rfl))
    · rw [refE_chk (chkE_name hk hn) (by decide)]
      rw [show nameB x.name = false by simpa using hn] at HN
      refine summW Tryz.func233 rfl rfl 99 rfl (by simp) (fun M0 => ?_)
      repeat (first
    | (apply s_a TY; exact rfl)
    | apply w_seq
    | apply w_region
    | apply s_nil
    | apply t_norm
    | apply t_ret
    | apply w_ret
    | apply w_skip
    | (apply w_condT; exact rfl; exact rfl)
    | (apply w_condF; exact rfl; exact rfl)
    | (apply s_k (HN); exact rfl)
    | (apply s_k1 (bwithin_T _ _ _); exact rfl; (first | assumption | omega | decide)))
      exact lv_ret (ret1 rfl (res_tmp rfl))
  · rw [refE_chk (chkE_kind hk) (by decide)]
    refine summW Tryz.func233 rfl rfl 99 rfl (by simp) (fun M0 => ?_)
    repeat (first
    | (apply s_a TY; exact rfl)
    | apply w_seq
    | apply w_region
    | apply s_nil
    | apply t_norm
    | apply t_ret
    | apply w_ret
    | (apply w_condT; exact rfl; exact rfl)
    | (apply s_k1 (bwithin_F _ _ _); exact rfl; (first | assumption | omega | decide)))
    exact lv_ret (ret1 rfl (res_tmp rfl))
theorem actErrK_s (rs : List Int) (o : SkyOk rs) (l : List Act) (k : Nat) (x : Act) (hk : k ≤ l.length) (hl : l.length ≤ 1000) (hcl : ∀ i (hi : i < l.length), i < k → l[i].cells.length ≤ 1000000) (hxc : x.cells.length ≤ 9223372036854775807) : Summ Tryz.prog GG 233 [skF rs, .sl k (actsF (l.take k)), .agg (actF x)] (iv (refE (befK rs rs.length) l k x)) := by
  have hlk : (l.take k).length = k := by rw [List.length_take]; omega
  have h := actErr_s rs o (l.take k) x (by omega) (fun i hi => by rw [List.getElem_take]; exact hcl i (by omega) (by omega)) hxc
  rw [hlk, refE_take] at h
  exact h
def actsChk (c : Int) (l : List Act) : Nat × Int := if 40 < l.length then (0, 8) else eachE l.length fun i => refE c l i (l.getD i default)
theorem cels_few {c : Int} {l : List Int} (h : celsE c l = 0) : l.length = 0 ∨ (l.length : Int) ≤ c := by
  have h2 := celsE_iff.1 h
  have hi : ∀ i, i < l.length → (i : Int) ≤ l.getD i default ∧ l.getD i default ≤ c - 1 := fun i => by
    induction i with
    | zero =>
      intro hi
      have h3 := h2 0 hi
      unfold celsX at h3
      by_cases e : 0 ≤ l.getD 0 default ∧ l.getD 0 default ≤ c - 1
      · exact ⟨by have := e.1; omega, e.2⟩
      · rw [if_pos e] at h3; cases h3
    | succ i ih =>
      intro hi
      have h0 := ih (by omega)
      have h3 := h2 (i + 1) hi
      unfold celsX at h3
      by_cases e : 0 ≤ l.getD (i + 1) default ∧ l.getD (i + 1) default ≤ c - 1
      · rw [if_neg (fun h => h e)] at h3
        by_cases e2 : i + 1 ≠ 0 ∧ l.getD (i + 1) default ≤ l.getD (i + 1 - 1) default
        · rw [if_pos e2] at h3; cases h3
        · have e3 : ¬ l.getD (i + 1) default ≤ l.getD (i + 1 - 1) default := fun h => e2 ⟨by omega, h⟩
          rw [show i + 1 - 1 = i by omega] at e3
          exact ⟨by omega, e.2⟩
      · rw [if_pos e] at h3; cases h3
  by_cases e : l.length = 0
  · exact .inl e
  · have := hi (l.length - 1) (by omega)
    exact .inr (by omega)
theorem ref_cels {c : Int} {l : List Act} {k : Nat} {x : Act} (h : refE c l k x = 0) : celsE c x.cells = 0 := by
  unfold refE at h
  by_cases e : chkE c x ≠ 0
  · rw [if_pos e] at h; exact absurd h e
  · exact (chkE_0 (by simpa using e)).2.2.1
set_option maxRecDepth 100000 in
set_option maxHeartbeats 3200000 in
theorem rCheckActs_b (rs : List Int) (o : SkyOk rs) (l : List Act) (hl : l.length ≤ 1000) (hcl : ∀ i (hi : i < l.length), l[i].cells.length ≤ 9223372036854775807) : Summ Tryz.prog GG 137 [skF rs, .sl l.length (actsF l)] (.tup [iv (actsChk (befK rs rs.length) l).1, iv (actsChk (befK rs rs.length) l).2]) := by
  by_cases h40 : 40 < l.length
  · rw [show actsChk (befK rs rs.length) l = (0, 8) from if_pos h40]
    refine summW Tryz.func137 rfl rfl 30 rfl (by simp) (fun M0 => ?_)
    repeat (first
    | (apply s_a TY; exact rfl)
    | (apply s_t; exact rfl; (first | assumption | omega))
    | apply w_seq
    | apply w_region
    | apply s_nil
    | apply t_norm
    | apply t_ret
    | apply w_ret
    | (apply w_condT; exact rfl; exact rfl))
    exact lv_ret (ret2 rfl (res_tmp rfl) (res_tmp rfl))
  rw [show actsChk (befK rs rs.length) l = eachE l.length fun i => refE (befK rs rs.length) l i (l.getD i default) from if_neg h40]
  refine summW Tryz.func137 rfl rfl 30 rfl (by simp) (fun M0 => ?_)
  repeat (first
    | (apply s_a TY; exact rfl)
    | (apply s_f; exact rfl; (first | assumption | omega))
    | apply w_seq
    | apply w_region
    | apply s_nil
    | apply t_norm
    | apply w_block
    | apply w_skip
    | (apply w_condF; exact rfl; exact rfl))
  apply w_loop (fun k : Nat => ⟨(Ab.upd (Ab.upd (Ab.upd (fun _ => .bot) 1 (.f (.sl l.length (actsF l)))) 2 (.f (.pt [.sl rs.length (intsF rs)] 0))) 6 (.f (iv ((k : Nat) : Int)))), (fun _ => none), 0⟩) (fun k => k ≤ l.length ∧ ∀ i, i < k → refE (befK rs rs.length) l i (l.getD i default) = 0) (fun k => l.length - k) 0 (⟨Nat.zero_le _, fun i h => absurd h (Nat.not_lt_zero i)⟩) (gh_le ⟨le_upd rfl trivial (le_upd rfl trivial (le_upd rfl trivial (le_nil _))), le_h0 _ _⟩)
  intro k ⟨hk, hz⟩
  by_cases hkl : k < l.length
  · have hg := getD_at hkl
    have HE := actErrK_s rs o l k l[k] hk hl (fun i hi hik => by
      have h := hz i hik
      rw [getD_at hi] at h
      have hb := befK_bd o (Nat.le_refl rs.length)
      have hlr := o.len
      have h3 := cels_few (ref_cels h)
      omega) (hcl k hkl)
    have htk : (actsF l).take (k * 3) = actsF (l.take k) := actsF_take l k
    by_cases he : refE (befK rs rs.length) l k l[k] = 0
    · repeat (first
    | (apply s_sliceTo TY; exact rfl; exact rfl; exact rfl; exact rfl; exact rfl; omega; exact htk)
    | (apply s_a TY; exact rfl)
    | (apply s_t; exact rfl; (first | assumption | omega))
    | apply w_seq
    | apply w_region
    | (apply w_draw (id := 6) 8 rfl (by kernel_rfl))
    | apply s_nil
    | apply t_norm
    | apply k_norm
    | apply w_block
    | apply w_skip
    | (apply w_condT; exact rfl; exact rfl)
    | (apply w_condF; exact rfl; exact rfl)
    | (apply s_k (HE); exact rfl)
    | (apply s_c TY; exact rfl; (first | omega | exact ⟨by omega, by (first | with_reducible assumption | ((with_reducible apply actsF_ne); omega) | assumption)⟩))
    | (apply s_m TY; exact rfl; (first | with_reducible assumption | ((with_reducible apply actsF_sub); omega) | exact rfl); exact rfl))
      exact ⟨k + 1, ⟨by omega, fun i hi => by
        by_cases e : i = k
        · subst e; rw [hg]; exact he
        · exact hz i (by omega)⟩, by omega, gh_le ⟨le_upd rfl trivial (le_upd rfl trivial (le_upd rfl trivial (le_nil _))), le_h0 _ _⟩⟩
    · rw [eachE_at hkl hz (by rw [hg]; exact he), hg]
      repeat (first
    | (apply s_sliceTo TY; exact rfl; exact rfl; exact rfl; exact rfl; exact rfl; omega; exact htk)
    | (apply s_a TY; exact rfl)
    | (apply s_t; exact rfl; (first | assumption | omega))
    | (apply s_f; exact rfl; (first | assumption | omega))
    | apply w_seq
    | apply w_region
    | (apply w_draw (id := 6) 8 rfl (by kernel_rfl))
    | apply s_nil
    | apply t_norm
    | apply t_ret
    | apply k_ret
    | apply w_block
    | apply w_ret
    | apply w_skip
    | (apply w_condT; exact rfl; exact rfl)
    | (apply s_k (HE); exact rfl)
    | (apply s_c TY; exact rfl; (first | omega | exact ⟨by omega, by (first | with_reducible assumption | ((with_reducible apply actsF_ne); omega) | assumption)⟩))
    | (apply s_m TY; exact rfl; (first | with_reducible assumption | ((with_reducible apply actsF_sub); omega) | exact rfl); exact rfl))
      exact lv_ret (ret2 rfl (res_tmp rfl) (res_tmp rfl))
  · rw [eachE_ok fun i hi => hz i (by omega)]
    repeat (first
    | (apply s_a TY; exact rfl)
    | (apply s_f; exact rfl; (first | assumption | omega))
    | apply w_seq
    | apply w_region
    | apply s_nil
    | apply t_norm
    | apply t_exit
    | apply k_hit
    | apply w_exit
    | apply w_ret
    | (apply w_condF; exact rfl; exact rfl))
    exact lv_ret (ret2 rfl (res_tmp rfl) (res_tmp rfl))
set_option maxRecDepth 100000 in
theorem ActsErr_b (rs : List Int) (o : SkyOk rs) (l : List Act) (hl : l.length ≤ 1000) (hcl : ∀ i (hi : i < l.length), l[i].cells.length ≤ 9223372036854775807) : Summ Tryz.prog GG 35 [skF rs, .sl l.length (actsF l)] (iv (actsChk (befK rs rs.length) l).2) := by
  have HC := rCheckActs_b rs o l hl hcl
  refine summW Tryz.func35 rfl rfl 14 rfl (by simp) (fun M0 => ?_)
  repeat (first
    | (apply s_a TY; exact rfl)
    | apply w_seq
    | apply w_region
    | apply s_nil
    | apply t_norm
    | apply w_ret
    | (apply s_k (HC); exact rfl))
  exact lv_ret (ret1 rfl (res_tmp rfl))
def stsK (l : List Act) : Nat → List Ast
  | 0 => []
  | k + 1 => match l[k]? with
    | none => stsK l k
    | some a => if a.kind = 2 then stsK l k ++ [stA l a.name l.length] else stsK l k
theorem stsK_at {l : List Act} {k : Nat} (h : k < l.length) : stsK l (k + 1) = if l[k].kind = 2 then stsK l k ++ [stA l l[k].name l.length] else stsK l k := by rw [stsK, List.getElem?_eq_getElem h]
theorem stsK_len (l : List Act) : ∀ k, (stsK l k).length ≤ k
  | 0 => Nat.le_refl _
  | k + 1 => by
    have ih := stsK_len l k
    by_cases h : k < l.length
    · rw [stsK_at h]; split
      · rw [List.length_append]; show _ + 1 ≤ _; omega
      · omega
    · rw [stsK, List.getElem?_eq_none (by omega)]
      show (stsK l k).length ≤ _
      omega
set_option maxRecDepth 100000 in
set_option maxHeartbeats 3200000 in
theorem CopyActs_s (l : List Act) (hl : l.length ≤ 1000) (hcl : ∀ i (hi : i < l.length), l[i].cells.length ≤ 1000000) : Summ Tryz.prog GG 38 [.sl l.length (actsF l)] (.sl l.length (actsF l)) := by
  refine summW Tryz.func38 rfl rfl 32 rfl (by simp) (fun M0 => ?_)
  repeat (first
    | (apply s_a TY; exact rfl)
    | apply w_seq
    | apply w_region
    | apply s_nil
    | apply t_norm
    | apply w_block)
  apply w_gh (gh_own 3 85 3 rfl rfl)
  apply w_loop (fun k : Nat => ⟨(Ab.upd (Ab.upd (Ab.upd (fun _ => .bot) 0 (.f (.sl l.length (actsF l)))) 3 (.ow 0)) 4 (.f (iv ((k : Nat) : Int)))), (Ab.upd (fun _ => none) 0 (some (.row 85 3 (l.take k).length (actsF (l.take k))))), 1⟩) (fun k => k ≤ l.length) (fun k => l.length - k) 0 (Nat.zero_le _) (gh_le ⟨le_upd rfl trivial (le_upd rfl rfl (le_upd rfl trivial (le_nil _))), le_hupd rfl trivial (le_h0 _ _)⟩)
  intro k hk
  have htk : (l.take k).length = k := by rw [List.length_take]; omega
  by_cases hkl : k < l.length
  · have HC := CopyInts_s l[k].cells (hcl k hkl)
    have hrow : some (Blk.row 85 3 ((l.take k).length + 1) (actsF (l.take k) ++ [iv l[k].kind, sv l[k].name, .sl l[k].cells.length (intsF l[k].cells)])) = some (Blk.row 85 3 (l.take (k + 1)).length (actsF (l.take (k + 1)))) := by rw [actsF_tk hkl, List.take_succ_eq_append_getElem hkl, List.length_append]; rfl
    repeat (first
    | (apply s_append TY; exact rfl; exact rfl; exact rfl; exact rfl; exact rfl; exact rfl; exact rfl; exact rfl; exact rfl; (unfold maxLen; omega); omega)
    | (apply s_a TY; exact rfl)
    | (apply s_t; exact rfl; (first | assumption | omega))
    | apply w_seq
    | apply w_region
    | (apply w_draw (id := 5) 19 rfl (by kernel_rfl))
    | apply s_nil
    | apply t_norm
    | apply k_norm
    | apply w_block
    | apply w_skip
    | (apply w_condT; exact rfl; exact rfl)
    | (apply s_k (HC); exact rfl)
    | (apply s_c TY; exact rfl; (first | omega | exact ⟨by omega, by (first | with_reducible assumption | ((with_reducible apply actsF_ne); omega) | assumption)⟩))
    | (apply s_l TY; exact rfl; (first | exact rfl | with_reducible assumption | ((with_reducible apply actsF_f0); omega) | ((with_reducible apply actsF_f1); omega) | ((with_reducible apply actsF_f2); omega) | assumption)))
    exact ⟨k + 1, by omega, by omega, gh_le ⟨le_upd rfl trivial (le_upd rfl rfl (le_upd rfl trivial (le_nil _))), le_hupd hrow trivial (le_h0 _ _)⟩⟩
  · have hke : k = l.length := by omega
    subst hke
    have e : l.take l.length = l := List.take_length
    have HR : (.sl (l.take l.length).length (actsF (l.take l.length)) : FV) = .sl l.length (actsF l) := by rw [e]
    rw [← HR]
    repeat (first
    | (apply s_a TY; exact rfl)
    | (apply s_f; exact rfl; (first | assumption | omega))
    | apply w_seq
    | apply w_region
    | apply s_nil
    | apply t_norm
    | apply t_exit
    | apply k_hit
    | apply w_exit
    | apply w_ret
    | (apply w_condF; exact rfl; exact rfl))
    exact lv_ret (ret1 rfl (res_sees rfl (sees_row rfl)))
end Go.Proofs.YtbkdjlahhcofmaaGreatDoor
namespace Go.Proofs.YtbkdjlahhcofmaaGreatDoor
open Go Go.RowKit Go.Proofs Go.Shelf Go.Ab
theorem hadK_at {l : List Act} {name who : Nm} {k : Nat} (h : k < l.length) : hadK l name who (k + 1) = if newV name l[k] ∧ who ∈ pplK l k then some (verK l name k + 1) else hadK l name who k := by
  rw [hadK, List.getElem?_eq_getElem h]
  by_cases hn : newV name l[k] = true ∧ who ∈ pplK l k
  · simp [hn]
  · simp only [hn, if_false]
def sentN (l : List Act) : Nat → List Nm
  | 0 => []
  | k + 1 => match l[k]? with
    | none => sentN l k
    | some a => if a.kind = 2 then sentN l k ++ [a.name] else sentN l k
theorem sentN_at {l : List Act} {k : Nat} (h : k < l.length) : sentN l (k + 1) = if l[k].kind = 2 then sentN l k ++ [l[k].name] else sentN l k := by rw [sentN, List.getElem?_eq_getElem h]
theorem stsK_map (l : List Act) : ∀ k, stsK l k = (sentN l k).map fun n => stA l n l.length
  | 0 => rfl
  | k + 1 => by
    have ih := stsK_map l k
    rw [stsK, sentN]
    cases l[k]? with
    | none => exact ih
    | some a =>
      simp only
      split
      · rw [ih, List.map_append]; rfl
      · exact ih
structure RunR (l : List Act) (k : Nat) (s : Lst) : Prop where
  ppl : s.1 = pplK l k
  nms : s.2.map (·.nm) = sentN l k
  nd : (s.2.map (·.nm)).Nodup
  alt : ∀ a, a ∈ s.2 → a.ver = verK l a.nm k ∧ a.cells = celK l a.nm k ∧ a.gone = wdrK l a.nm k ∧ (∀ n, a.had n = hadK l a.nm n k) ∧ 0 < a.ver
  ver : ∀ n, 0 < verK l n k → n ∈ s.2.map (·.nm)
  wdr : ∀ n, wdrK l n k = true → 0 < verK l n k
theorem run0 (l : List Act) : RunR l 0 ([], []) := ⟨rfl, rfl, List.nodup_nil, fun a h => (nomatch h), fun n h => absurd h (by show ¬ (0 : Int) < 0; omega), fun n h => (nomatch h)⟩
theorem idxN_iff {P : List Nm} {n : Nm} : 0 ≤ idxN P n ↔ n ∈ P := by
  unfold idxN
  rw [idxP_pos, anyS_has, List.contains_iff_mem]
theorem idxA_iff {al : List Alt} {n : Nm} : 0 ≤ idxA al n ↔ n ∈ al.map (·.nm) := by
  unfold idxA
  rw [idxP_pos, anyP_iff, List.mem_map]
  unfold nmA
  constructor
  · rintro ⟨i, hi, h⟩
    rw [getD_at hi, decide_eq_true_eq] at h
    exact ⟨al[i], List.getElem_mem hi, h⟩
  · rintro ⟨a, ha, h⟩
    obtain ⟨i, hi, rfl⟩ := List.getElem_of_mem ha
    exact ⟨i, hi, by rw [getD_at hi, decide_eq_true_eq]; exact h⟩
theorem altA_at {al : List Alt} {n : Nm} (h : 0 ≤ idxA al n) : ∃ i, ∃ hi : i < al.length, (idxA al n).toNat = i ∧ altA al n = al[i] ∧ al[i].nm = n := by
  rcases idxP_cases al.length (nmA al n) with ⟨e, _⟩ | ⟨k, hk, _, hp, e⟩
  · unfold idxA at h; omega
  · have hi : (idxA al n).toNat = k := by unfold idxA; rw [e, Int.toNat_natCast]
    refine ⟨k, hk, hi, by unfold altA; rw [hi, getD_at hk], ?_⟩
    unfold nmA at hp
    rwa [getD_at hk, decide_eq_true_eq] at hp
theorem pplDel_filter {P : List Nm} {n : Nm} (hd : P.Nodup) (h : 0 ≤ idxN P n) : pplDel P (idxN P n).toNat = P.filter fun y => !decide (y = n) := by
  rcases idxP_cases P.length (hasS P n) with ⟨e, _⟩ | ⟨k, hk, _, hp, e⟩
  · unfold idxN at h; omega
  · have hi : (idxN P n).toNat = k := by unfold idxN; rw [e, Int.toNat_natCast]
    unfold hasS at hp
    rw [getD_at hk, decide_eq_true_eq] at hp
    rw [hi]
    have hsp : P = P.take k ++ P[k] :: P.drop (k + 1) := by rw [← List.drop_eq_getElem_cons hk, List.take_append_drop]
    have hd2 := hd
    rw [hsp, List.nodup_append] at hd2
    obtain ⟨d1, d2, d3⟩ := hd2
    have f1 : (P.take k).filter (fun y => !decide (y = n)) = P.take k := List.filter_eq_self.2 fun y hy => by
      have : y ≠ n := fun e => d3 y hy P[k] (List.mem_cons_self ..) (e.trans hp.symm)
      simp [this]
    have f2 : (P.drop (k + 1)).filter (fun y => !decide (y = n)) = P.drop (k + 1) := List.filter_eq_self.2 fun y hy => by
      have : y ≠ n := fun e => (List.nodup_cons.1 d2).1 (by rw [hp, ← e]; exact hy)
      simp [this]
    unfold pplDel
    conv => rhs; rw [hsp]
    rw [List.filter_append, List.filter_cons_of_neg (by simp [hp]), f1, f2]
theorem map_set_nm {al : List Alt} {i : Nat} {b : Alt} (hi : i < al.length) (h : b.nm = al[i].nm) : (al.set i b).map (·.nm) = al.map (·.nm) := by
  rw [List.map_set, h]
  have : al[i].nm = (al.map (·.nm))[i]'(by rw [List.length_map]; exact hi) := by rw [List.getElem_map]
  rw [this]
  exact List.set_getElem_self ..
theorem mem_set_nm {al : List Alt} {i : Nat} {b a : Alt} (hi : i < al.length) (hd : (al.map (·.nm)).Nodup) (h : a ∈ al.set i b) : a = b ∨ (a ∈ al ∧ a.nm ≠ al[i].nm) := by
  obtain ⟨j, hj, rfl⟩ := List.getElem_of_mem h
  rw [List.length_set] at hj
  by_cases e : i = j
  · subst e; exact .inl (List.getElem_set_self ..)
  · right
    rw [List.getElem_set_ne e]
    refine ⟨List.getElem_mem _, fun h2 => e ?_⟩
    have h3 : (al.map (·.nm))[j]'(by rw [List.length_map]; exact hj) = (al.map (·.nm))[i]'(by rw [List.length_map]; exact hi) := by rw [List.getElem_map, List.getElem_map]; exact h2
    exact ((List.getElem_inj hd).1 h3).symm
theorem newV_no {n : Nm} {x : Act} (h : ¬ (x.name = n ∧ (x.kind = 2 ∨ x.kind = 3))) : ¬ newV n x = true := fun e => h (newV_iff.1 e)
theorem same_step {l : List Act} {k : Nat} (hk : k < l.length) {n : Nm} (h : ¬ (l[k].name = n ∧ 2 ≤ l[k].kind)) : verK l n (k + 1) = verK l n k ∧ celK l n (k + 1) = celK l n k ∧ wdrK l n (k + 1) = wdrK l n k ∧ ∀ w, hadK l n w (k + 1) = hadK l n w k := by
  have h1 := newV_no (n := n) (x := l[k]) (fun e => h ⟨e.1, by have := e.2; omega⟩)
  exact ⟨by rw [verK_at hk, if_neg h1], by rw [celK_at hk, if_neg h1], by rw [wdrK_at hk, if_neg (fun e => h ⟨e.1, by omega⟩)], fun w => by rw [hadK_at hk, if_neg (fun e => h1 e.1)]⟩
theorem new_step {l : List Act} {k : Nat} (hk : k < l.length) (h : l[k].kind = 2 ∨ l[k].kind = 3) : verK l l[k].name (k + 1) = verK l l[k].name k + 1 ∧ celK l l[k].name (k + 1) = l[k].cells ∧ wdrK l l[k].name (k + 1) = wdrK l l[k].name k ∧ ∀ w, hadK l l[k].name w (k + 1) = if w ∈ pplK l k then some (verK l l[k].name k + 1) else hadK l l[k].name w k := by
  have h1 : newV l[k].name l[k] = true := newV_iff.2 ⟨rfl, h⟩
  refine ⟨by rw [verK_at hk, if_pos h1], by rw [celK_at hk, if_pos h1], by rw [wdrK_at hk, if_neg (fun e => by omega)], fun w => ?_⟩
  rw [hadK_at hk]
  by_cases hw : w ∈ pplK l k
  · rw [if_pos ⟨h1, hw⟩, if_pos hw]
  · rw [if_neg (fun e => hw e.2), if_neg hw]
theorem wd_step {l : List Act} {k : Nat} (hk : k < l.length) (h : l[k].kind = 4) : verK l l[k].name (k + 1) = verK l l[k].name k ∧ celK l l[k].name (k + 1) = celK l l[k].name k ∧ wdrK l l[k].name (k + 1) = true ∧ ∀ w, hadK l l[k].name w (k + 1) = hadK l l[k].name w k := by
  have h1 := newV_no (n := l[k].name) (x := l[k]) (fun e => by have := e.2; omega)
  exact ⟨by rw [verK_at hk, if_neg h1], by rw [celK_at hk, if_neg h1], by rw [wdrK_at hk, if_pos ⟨rfl, h⟩], fun w => by rw [hadK_at hk, if_neg (fun e => h1 e.1)]⟩
theorem had_none {l : List Act} {n w : Nm} {k : Nat} (h : ¬ 0 < verK l n k) : hadK l n w k = none := by
  cases hh : hadK l n w k with
  | none => rfl
  | some v => have := hadK_bd l n w k v hh; omega
theorem wd_mono {l : List Act} {n : Nm} {k : Nat} (hk : k < l.length) (h : ¬ (l[k].name = n ∧ l[k].kind = 4)) (hw : wdrK l n (k + 1) = true) : wdrK l n k = true := by rwa [wdrK_at hk, if_neg h] at hw
theorem ver_mono {l : List Act} {n : Nm} {k : Nat} (hk : k < l.length) : verK l n k ≤ verK l n (k + 1) := by rw [verK_at hk]; split <;> omega
set_option maxHeartbeats 1600000 in
theorem run_step {l : List Act} {k m : Nat} {s : Lst} {c : Int} (hk : k < l.length) (r : RunR l k s) (inv : Inv m s) (h : stpE c s l[k] = 0) : RunR l (k + 1) (stpS s l[k]) := by
  obtain ⟨ppl, al⟩ := s
  obtain ⟨hc, hr⟩ := stpE_0 h
  have r1 := r.ppl; have r2 := r.nms; have r3 := r.nd; have r4 := r.alt; have r5 := r.ver; have r6 := r.wdr
  have i3 := inv.nd
  simp only at hr r1 r2 r3 r4 r5 i3
  have hvm : ∀ n, verK l n k ≤ verK l n (k + 1) := fun n => ver_mono hk
  rcases hr with ⟨h0, hi, h8⟩ | ⟨h0, hi⟩ | ⟨h0, hi⟩ | ⟨h0, hi, hg⟩
  · have hst : stpS (ppl, al) l[k] = (ppl ++ [l[k].name], al) := by unfold stpS; rw [if_pos h0]
    rw [hst]
    have hs : ∀ n, ¬ (l[k].name = n ∧ 2 ≤ l[k].kind) := fun n e => by omega
    refine ⟨by rw [pplK_at hk, if_pos h0, r1], by rw [sentN_at hk, if_neg (by omega)]; exact r2, r3, fun a ha => ?_, fun n hn => ?_, fun n hn => ?_⟩
    · obtain ⟨e1, e2, e3, e4⟩ := same_step hk (hs a.nm)
      obtain ⟨q1, q2, q3, q4, q5⟩ := r4 a ha
      exact ⟨q1.trans e1.symm, q2.trans e2.symm, q3.trans e3.symm, fun n => (q4 n).trans (e4 n).symm, q5⟩
    · rw [(same_step hk (hs n)).1] at hn; exact r5 n hn
    · obtain ⟨e1, _, e3, _⟩ := same_step hk (hs n)
      rw [e1]; rw [e3] at hn; exact r6 n hn
  · have hst : stpS (ppl, al) l[k] = (pplDel ppl (idxN ppl l[k].name).toNat, al) := by unfold stpS; rw [if_neg (by omega), if_pos h0]
    rw [hst]
    have hs : ∀ n, ¬ (l[k].name = n ∧ 2 ≤ l[k].kind) := fun n e => by omega
    refine ⟨by rw [pplK_at hk, if_neg (by omega), if_pos h0, ← r1]; exact pplDel_filter i3 hi, by rw [sentN_at hk, if_neg (by omega)]; exact r2, r3, fun a ha => ?_, fun n hn => ?_, fun n hn => ?_⟩
    · obtain ⟨e1, e2, e3, e4⟩ := same_step hk (hs a.nm)
      obtain ⟨q1, q2, q3, q4, q5⟩ := r4 a ha
      exact ⟨q1.trans e1.symm, q2.trans e2.symm, q3.trans e3.symm, fun n => (q4 n).trans (e4 n).symm, q5⟩
    · rw [(same_step hk (hs n)).1] at hn; exact r5 n hn
    · obtain ⟨e1, _, e3, _⟩ := same_step hk (hs n)
      rw [e1]; rw [e3] at hn; exact r6 n hn
  · have hst : stpS (ppl, al) l[k] = (ppl, al ++ [sent (newA l[k].name) l[k].cells ppl]) := by unfold stpS; rw [if_neg (by omega), if_neg (by omega), if_pos h0]
    rw [hst]
    have hnm : l[k].name ∉ al.map (·.nm) := fun e => by have := idxA_iff.2 e; omega
    have hv0 : ¬ 0 < verK l l[k].name k := fun e => hnm (r5 _ e)
    have hvn := (verK_nn l l[k].name k).1
    have hw0 : wdrK l l[k].name k = false := Bool.eq_false_iff.2 fun e => hv0 (r6 _ e)
    obtain ⟨n1, n2, n3, n4⟩ := new_step hk (.inl h0)
    refine ⟨by rw [pplK_at hk, if_neg (by omega), if_neg (by omega)]; exact r1, ?_, ?_, fun a ha => ?_, fun n hn => ?_, fun n hn => ?_⟩
    · rw [sentN_at hk, if_pos h0, ← r2, List.map_append]; rfl
    · rw [List.map_append, List.nodup_append]
      refine ⟨r3, by simp, fun x hx y hy e => ?_⟩
      simp only [List.map_cons, List.map_nil, List.mem_singleton] at hy
      subst e; rw [hy] at hx; exact hnm hx
    · rcases List.mem_append.1 ha with ha | ha
      · have hne : l[k].name ≠ a.nm := fun e => hnm (by rw [e]; exact List.mem_map_of_mem ha)
        obtain ⟨e1, e2, e3, e4⟩ := same_step hk (n := a.nm) (fun e => hne e.1)
        obtain ⟨q1, q2, q3, q4, q5⟩ := r4 a ha
        exact ⟨q1.trans e1.symm, q2.trans e2.symm, q3.trans e3.symm, fun n => (q4 n).trans (e4 n).symm, q5⟩
      · rw [List.mem_singleton.1 ha]
        refine ⟨?_, n2.symm, (n3.trans hw0).symm, fun w => ?_, by show (0 : Int) < 0 + 1; omega⟩
        · show (0 : Int) + 1 = verK l l[k].name (k + 1)
          rw [n1]; omega
        · show updAll (fun _ => none) ppl (0 + 1) w = hadK l l[k].name w (k + 1)
          rw [n4 w, had_none hv0, ← r1, show verK l l[k].name k = 0 by omega]; rfl
    · rw [List.map_append, List.mem_append]
      by_cases e : l[k].name = n
      · exact .inr (by simp only [List.map_cons, List.map_nil, List.mem_singleton]; exact e.symm)
      · rw [(same_step hk (fun h => e h.1)).1] at hn
        exact .inl (r5 n hn)
    · have := r6 n (wd_mono hk (fun e => by omega) hn)
      have := hvm n
      omega
  · obtain ⟨i, hi2, hix, hax, hnm⟩ := altA_at hi
    have hal := List.getElem_mem hi2
    obtain ⟨q1, q2, q3, q4, q5⟩ := r4 al[i] hal
    rw [hnm] at q1 q2 q3 q4
    rcases h0 with h0 | h0
    · have hst : stpS (ppl, al) l[k] = (ppl, al.set i (sent al[i] l[k].cells ppl)) := by
        unfold stpS
        rw [if_neg (by omega), if_neg (by omega), if_neg (by omega), if_pos h0]
        simp only
        rw [hix, hax]
      rw [hst]
      obtain ⟨n1, n2, n3, n4⟩ := new_step hk (.inr h0)
      have hmp := map_set_nm (b := sent al[i] l[k].cells ppl) hi2 rfl
      refine ⟨by rw [pplK_at hk, if_neg (by omega), if_neg (by omega)]; exact r1, by rw [sentN_at hk, if_neg (by omega)]; exact hmp.trans r2, by show ((al.set i _).map _).Nodup; rw [hmp]; exact r3, fun a ha => ?_, fun n hn => ?_, fun n hn => ?_⟩
      · rcases mem_set_nm hi2 r3 ha with rfl | ⟨ha, hne⟩
        · have e0 : (sent al[i] l[k].cells ppl).nm = l[k].name := hnm
          rw [e0]
          refine ⟨?_, n2.symm, ?_, fun w => ?_, ?_⟩
          · show al[i].ver + 1 = _; rw [n1, q1]
          · show al[i].gone = _; rw [n3]; exact q3
          · show updAll al[i].had ppl (al[i].ver + 1) w = _
            rw [n4 w, ← r1, q1]
            unfold updAll
            by_cases hw : w ∈ ppl
            · rw [if_pos hw, if_pos hw]
            · rw [if_neg hw, if_neg hw]; exact q4 w
          · show 0 < al[i].ver + 1; omega
        · obtain ⟨e1, e2, e3, e4⟩ := same_step hk (n := a.nm) (fun e => hne (by rw [hnm]; exact e.1.symm))
          obtain ⟨q1, q2, q3, q4, q5⟩ := r4 a ha
          exact ⟨q1.trans e1.symm, q2.trans e2.symm, q3.trans e3.symm, fun n => (q4 n).trans (e4 n).symm, q5⟩
      · show n ∈ (al.set i _).map _
        rw [hmp]
        by_cases e : l[k].name = n
        · rw [← e, ← hnm]; exact List.mem_map_of_mem hal
        · rw [(same_step hk (fun h => e h.1)).1] at hn
          exact r5 n hn
      · have := r6 n (wd_mono hk (fun e => by omega) hn)
        have := hvm n
        omega
    · have hst : stpS (ppl, al) l[k] = (ppl, al.set i (goneA al[i])) := by
        unfold stpS
        rw [if_neg (by omega), if_neg (by omega), if_neg (by omega), if_neg (by omega)]
        simp only
        rw [hix, hax]
      rw [hst]
      obtain ⟨n1, n2, n3, n4⟩ := wd_step hk h0
      have hmp := map_set_nm (b := goneA al[i]) hi2 rfl
      refine ⟨by rw [pplK_at hk, if_neg (by omega), if_neg (by omega)]; exact r1, by rw [sentN_at hk, if_neg (by omega)]; exact hmp.trans r2, by show ((al.set i _).map _).Nodup; rw [hmp]; exact r3, fun a ha => ?_, fun n hn => ?_, fun n hn => ?_⟩
      · rcases mem_set_nm hi2 r3 ha with rfl | ⟨ha, hne⟩
        · have e0 : (goneA al[i]).nm = l[k].name := hnm
          rw [e0]
          refine ⟨?_, ?_, n3.symm, fun w => ?_, q5⟩
          · show al[i].ver = _; rw [n1, q1]
          · show al[i].cells = _; rw [n2, q2]
          · show al[i].had w = _; rw [n4 w]; exact q4 w
        · obtain ⟨e1, e2, e3, e4⟩ := same_step hk (n := a.nm) (fun e => hne (by rw [hnm]; exact e.1.symm))
          obtain ⟨q1, q2, q3, q4, q5⟩ := r4 a ha
          exact ⟨q1.trans e1.symm, q2.trans e2.symm, q3.trans e3.symm, fun n => (q4 n).trans (e4 n).symm, q5⟩
      · show n ∈ (al.set i _).map _
        rw [hmp]
        by_cases e : l[k].name = n
        · rw [← e, ← hnm]; exact List.mem_map_of_mem hal
        · rw [(same_step hk (fun h => e h.1)).1] at hn
          exact r5 n hn
      · by_cases e : l[k].name = n
        · rw [← e, n1, ← q1]; exact q5
        · rw [(same_step hk (n := n) (fun h => e h.1)).1]
          exact r6 n (wd_mono hk (fun h => e h.1) hn)
theorem run_all {c : Int} {l : List Act} : ∀ {k : Nat}, k ≤ l.length → (∀ i, i < k → runE c l i = 0) → RunR l k (runS l k)
  | 0, _, _ => run0 l
  | k + 1, hk, h => by
    have hkl : k < l.length := by omega
    have hE := h k (by omega)
    unfold runE at hE
    rw [getD_at hkl] at hE
    rw [runS, getD_at hkl]
    exact run_step hkl (run_all (by omega) fun i hi => h i (by omega)) (inv_run fun i hi => h i (by omega)) hE
theorem sortedN_nd {L : List Nm} (h : L.Nodup) : (sortedN ltS L).length = L.length := by
  have h1 := sortedN_len L
  have h2 := sub_len h (o := sortedN ltS L) fun x hx => ((sortedN_spec ltSOk L).2 x).2 hx
  omega
theorem stp_ref {c : Int} {l : List Act} {k m : Nat} {s : Lst} (r : RunR l k s) (inv : Inv m s) (x : Act) : stpE c s x = refE c l k x := by
  obtain ⟨ppl, al⟩ := s
  have r1 := r.ppl; have r3 := r.nd; have r4 := r.alt; have r5 := r.ver
  have i2 := inv.pl; have i3 := inv.nd
  simp only at r1 r3 r4 r5 i2 i3
  unfold stpE refE
  by_cases hc : chkE c x ≠ 0
  · rw [if_pos hc, if_pos hc]
  rw [if_neg hc, if_neg hc]
  have hk := (chkE_0 (show chkE c x = 0 by simpa using hc)).1
  have hmem : ∀ n, n ∈ sortedN ltS (pplK l k) ↔ 0 ≤ idxN ppl n := fun n => by rw [(sortedN_spec ltSOk _).2, ← r1, idxN_iff]
  have hln : (sortedN ltS (pplK l k)).length = ppl.length := by rw [← r1]; exact sortedN_nd i3
  have hver : ∀ n, 0 < verK l n k ↔ 0 ≤ idxA al n := fun n => by
    rw [idxA_iff]
    refine ⟨r5 n, fun h => ?_⟩
    obtain ⟨a, ha, rfl⟩ := List.mem_map.1 h
    obtain ⟨q1, _, _, _, q5⟩ := r4 a ha
    rw [← q1]; exact q5
  simp only [hmem, hver, hln]
  by_cases h0 : x.kind = 0
  · by_cases hi : 0 ≤ idxN ppl x.name
    · rw [if_pos h0, if_pos hi, if_pos (.inl ⟨h0, hi⟩)]
    · have hA : ¬ ((x.kind = 0 ∧ 0 ≤ idxN ppl x.name) ∨ (x.kind = 2 ∧ 0 ≤ idxA al x.name)) := by omega
      by_cases h8 : ppl.length < 8
      · have hB : ¬ (x.kind = 0 ∧ ppl.length = 8) := by omega
        have hC : ¬ ((x.kind = 1 ∧ ¬ 0 ≤ idxN ppl x.name) ∨ (3 ≤ x.kind ∧ ¬ 0 ≤ idxA al x.name)) := by omega
        have hD : ¬ (3 ≤ x.kind ∧ wdrK l x.name k = true) := fun h => by omega
        rw [if_pos h0, if_neg hi, if_pos h8, if_neg hA, if_neg hB, if_neg hC, if_neg hD]
      · rw [if_pos h0, if_neg hi, if_neg h8, if_neg hA, if_pos ⟨h0, by omega⟩]
  have hB : ¬ (x.kind = 0 ∧ ppl.length = 8) := by omega
  by_cases h1 : x.kind = 1
  · have hA : ¬ ((x.kind = 0 ∧ 0 ≤ idxN ppl x.name) ∨ (x.kind = 2 ∧ 0 ≤ idxA al x.name)) := by omega
    by_cases hi : idxN ppl x.name < 0
    · rw [if_neg h0, if_pos h1, if_pos hi, if_neg hA, if_neg hB, if_pos (.inl ⟨h1, by omega⟩)]
    · have hC : ¬ ((x.kind = 1 ∧ ¬ 0 ≤ idxN ppl x.name) ∨ (3 ≤ x.kind ∧ ¬ 0 ≤ idxA al x.name)) := by omega
      have hD : ¬ (3 ≤ x.kind ∧ wdrK l x.name k = true) := fun h => by omega
      rw [if_neg h0, if_pos h1, if_neg hi, if_neg hA, if_neg hB, if_neg hC, if_neg hD]
  by_cases h2 : x.kind = 2
  · by_cases hi : 0 ≤ idxA al x.name
    · rw [if_neg h0, if_neg h1, if_pos h2, if_pos hi, if_pos (.inr ⟨h2, hi⟩)]
    · have hA : ¬ ((x.kind = 0 ∧ 0 ≤ idxN ppl x.name) ∨ (x.kind = 2 ∧ 0 ≤ idxA al x.name)) := by omega
      have hC : ¬ ((x.kind = 1 ∧ ¬ 0 ≤ idxN ppl x.name) ∨ (3 ≤ x.kind ∧ ¬ 0 ≤ idxA al x.name)) := by omega
      have hD : ¬ (3 ≤ x.kind ∧ wdrK l x.name k = true) := fun h => by omega
      rw [if_neg h0, if_neg h1, if_pos h2, if_neg hi, if_neg hA, if_neg hB, if_neg hC, if_neg hD]
  have hA : ¬ ((x.kind = 0 ∧ 0 ≤ idxN ppl x.name) ∨ (x.kind = 2 ∧ 0 ≤ idxA al x.name)) := by omega
  by_cases hi : idxA al x.name < 0
  · rw [if_neg h0, if_neg h1, if_neg h2, if_pos hi, if_neg hA, if_neg hB, if_pos (.inr ⟨by omega, by omega⟩)]
  have hC : ¬ ((x.kind = 1 ∧ ¬ 0 ≤ idxN ppl x.name) ∨ (3 ≤ x.kind ∧ ¬ 0 ≤ idxA al x.name)) := by omega
  obtain ⟨i, hi2, hix, hax, hnm⟩ := altA_at (al := al) (n := x.name) (by omega)
  obtain ⟨_, _, q3, _, _⟩ := r4 al[i] (List.getElem_mem hi2)
  rw [hnm] at q3
  rw [if_neg h0, if_neg h1, if_neg h2, if_neg hi, if_neg hA, if_neg hB, if_neg hC, hax, q3]
  by_cases hw : wdrK l x.name k = true
  · rw [if_pos hw, if_pos ⟨by omega, hw⟩]
  · rw [if_neg hw, if_neg (fun h => hw h.2)]
theorem chk_ref {c : Int} {l : List Act} (h40 : ¬ 40 < l.length) : ((∀ i, i < l.length → runE c l i = 0) ∧ actsChk c l = (0, 0)) ∨ ∃ q, q < l.length ∧ (∀ i, i < q → runE c l i = 0) ∧ runE c l q ≠ 0 ∧ actsChk c l = (q, runE c l q) := by
  have hac : actsChk c l = eachE l.length fun i => refE c l i (l.getD i default) := if_neg h40
  have hre : ∀ q, q ≤ l.length → (∀ i, i < q → runE c l i = 0) → runE c l q = refE c l q (l.getD q default) := fun q hq h => stp_ref (run_all hq h) (inv_run h) _
  have hall : ∀ q, q ≤ l.length → (∀ i, i < q → refE c l i (l.getD i default) = 0) → ∀ i, i < q → runE c l i = 0 := fun q => by
    induction q with
    | zero => exact fun _ _ i h => absurd h (Nat.not_lt_zero i)
    | succ q ih =>
      intro hq h i hi
      have ih' := ih (by omega) fun i hi => h i (by omega)
      by_cases e : i = q
      · subst e; rw [hre i (by omega) ih']; exact h i (by omega)
      · exact ih' i (by omega)
  rcases eachE_cases l.length (fun i => refE c l i (l.getD i default)) with ⟨e, hz⟩ | ⟨q, hq, hz, hne, e⟩
  · exact .inl ⟨hall l.length (Nat.le_refl _) hz, hac.trans e⟩
  · have h1 := hall q (by omega) hz
    have h2 := hre q (by omega) h1
    exact .inr ⟨q, hq, h1, by rw [h2]; exact hne, by rw [hac, e, h2]⟩
theorem runW_ix {l : List Act} : ∀ {n k : Nat} (h : k < n), (runW l n)[k]'(by rw [runW_len]; exact h) = stpW (runS l k) (l.getD k default)
  | n + 1, k, h => by
    simp only [runW]
    by_cases e : k < n
    · rw [List.getElem_append_left (by rw [runW_len]; exact e)]
      exact runW_ix e
    · have hk : k = n := by omega
      subst hk
      rw [List.getElem_append_right (by rw [runW_len]; exact Nat.le_refl _)]
      simp [runW_len]
theorem told_ref {c : Int} {l : List Act} {k : Nat} (hk : k < l.length) (h : ∀ i, i < l.length → runE c l i = 0) (h2 : 2 ≤ l[k].kind) : stpW (runS l k) l[k] = toldS ltS l k := by
  have r := run_all (c := c) (l := l) (k := k) (by omega) fun i hi => h i (by omega)
  have inv := inv_run (c := c) (l := l) (k := k) fun i hi => h i (by omega)
  have hE := h k hk
  unfold runE at hE
  rw [getD_at hk] at hE
  obtain ⟨hc, hr⟩ := stpE_0 hE
  have hkd := (chkE_0 hc).1
  rw [toldS_at hk]
  unfold stpW
  by_cases h4 : l[k].kind = 4
  · rw [if_neg (by omega), if_pos h4, if_pos h4]
    rcases hr with ⟨h0, _⟩ | ⟨h0, _⟩ | ⟨h0, _⟩ | ⟨_, hi, _⟩
    · omega
    · omega
    · omega
    obtain ⟨i, hi2, hix, hax, hnm⟩ := altA_at hi
    rw [hax]
    obtain ⟨_, _, _, q4, _⟩ := r.alt _ (List.getElem_mem hi2)
    obtain ⟨hks, _, _⟩ := inv.kys _ (List.getElem_mem hi2)
    refine hadS_eq ltSOk (ascN_asc hks.nd) fun w => ?_
    rw [ascN_mem, hks.mem, q4 w, hnm]
  · rw [if_pos (by omega), if_neg h4, ← r.ppl]
    exact ascN_sorted inv.nd
def altS (a : Alt) : Ast := ⟨a.nm, a.ver, a.cells, a.gone, ascN a.kys⟩
theorem states_ref {c : Int} {l : List Act} (h : ∀ i, i < l.length → runE c l i = 0) : (runS l l.length).2.map altS = stsK l l.length := by
  have r := run_all (c := c) (l := l) (k := l.length) (Nat.le_refl _) fun i hi => h i hi
  have inv := inv_run (c := c) (l := l) (k := l.length) fun i hi => h i hi
  rw [stsK_map, ← r.nms, List.map_map]
  refine List.map_congr_left fun a ha => ?_
  obtain ⟨q1, q2, q3, q4, _⟩ := r.alt a ha
  obtain ⟨hks, _, _⟩ := inv.kys a ha
  have e : ascN a.kys = hadS ltS l a.nm l.length := hadS_eq ltSOk (ascN_asc hks.nd) fun w => by rw [ascN_mem, hks.mem, q4 w]
  show altS a = stA l a.nm l.length
  unfold altS stA
  rw [q1, q2, q3, e]
end Go.Proofs.YtbkdjlahhcofmaaGreatDoor
namespace Go.Proofs.YtbkdjlahhcofmaaGreatDoor
open Go Go.RowKit Go.Proofs Go.Shelf Go.Ab
end Go.Proofs.YtbkdjlahhcofmaaGreatDoor
namespace Go.Proofs.YtbkdjlahhcofmaaGreatDoor
open Go Go.RowKit Go.Proofs Go.Shelf Go.Ab
set_option maxRecDepth 100000 in
theorem findF_at (cs : List Cel) (s : Lst) (n : Nm) (hl : s.2.length ≤ 1000000) (k : Nat) (hk : k < s.2.length) (hz : ∀ i, i < k → nmA s.2 n i = false) (hm : nmA s.2 n k = true) : Summ Tryz.prog GG 150 [.pt (lsC cs s) 0, sv n] (.pt (altC s.2[k]) 0) := by
  have HI := idxAlt_s s.2 n hl
  rw [idxP_at hk hz hm] at HI
  have hat : (altsF s.2)[k * 1]? = some (.pt (altC s.2[k]) 0) := altsF_at hk
  have hne : altsF s.2 ≠ [] := altsF_ne hk
  refine summW Tryz.func150 rfl rfl 21 rfl (by simp) (fun M0 => ?_)
  repeat (first
    | (apply s_nilCheckF; exact rfl; exact rfl; exact rfl)
    | (apply s_makefn; exact rfl; exact rfl)
    | (apply s_a TY; exact rfl)
    | (apply s_f; exact rfl; (first | assumption | omega))
    | apply w_seq
    | apply w_region
    | apply s_nil
    | apply t_norm
    | apply w_ret
    | apply w_skip
    | (apply w_condF; exact rfl; exact rfl)
    | (apply s_k (HI); exact rfl)
    | (apply s_c TY; exact rfl; (first | omega | exact ⟨by omega, by (first | with_reducible assumption | ((with_reducible apply altsF_ne); omega) | assumption)⟩))
    | (apply s_l TY; exact rfl; (first | exact rfl | with_reducible assumption | ((with_reducible apply altsF_at); omega) | assumption)))
  exact lv_ret (ret1 rfl (res_tmp rfl))
theorem rep_tupIB (z : Int) (b : Bool) (w : World) (M : Nat → Prop) : RepF w M (.tuple #[.int .i64 z, .bool b]) (.tup [iv z, bv b]) := by
  refine RepF.tup _ [.int .i64 z, .bool b] rfl (fun k u x h1 h2 => ?_)
  match k with
  | 0 => simp at h1 h2; subst h1; subst h2; exact RepF.v _
  | 1 => simp at h1 h2; subst h1; subst h2; exact RepF.v _
  | k + 2 => simp at h1
set_option maxRecDepth 100000 in
theorem KnownBy_ok (rs : List Int) (l : List Act) (cs : List Cel) (s : Lst) (b : FV) (i : Int) (who name : Nm) (a : Alt) (H : Summ Tryz.prog GG 138 [skF rs, .sl l.length (actsF l)] (.tup [.pt (lsC cs s) 0, b, iv i, iv 0])) (HF : Summ Tryz.prog GG 150 [.pt (lsC cs s) 0, sv name] (.pt (altC a) 0)) : Summ Tryz.prog GG 48 [skF rs, .sl l.length (actsF l), sv who, sv name] (.tup [iv ((a.had who).getD 0), bv ((a.had who).isSome && a.gone), iv 0]) := by
  cases hh : (a.had who).isSome with
  | true =>
    have hM : ∀ ob r w, mpG a.had ob → w.heap[r]? = some ob → (Instr.lookup 242 (.map (some r)) (encS who) true).run Tryz.prog w = .ok (.tuple #[.int .i64 ((a.had who).getD 0), .bool true]) w := fun ob r w h1 h2 => by
      have := mp_look (f := a.had) (c := who) ob r w h1 h2
      rwa [hh] at this
    refine summW Tryz.func48 rfl rfl 52 rfl (by simp) (fun M0 => ?_)
    repeat (first
    | (apply s_ptrEqF (by first | exact rfl | kernel_rfl); exact rfl; exact rfl; exact rfl)
    | (apply s_nilCheckF; exact rfl; exact rfl; exact rfl)
    | (apply s_assign_f; exact rfl; exact rfl)
    | (apply s_lookupF hM; exact rfl; exact rfl; exact rfl; exact rfl; exact rfl; exact rep_tupIB _ _)
    | (apply s_a TY; exact rfl)
    | (apply s_t; exact rfl; (first | assumption | omega))
    | apply w_seq
    | apply w_region
    | (apply w_draw (id := 8) 10 rfl (by kernel_rfl))
    | apply s_nil
    | apply t_norm
    | apply w_ret
    | apply w_skip
    | (apply w_condF; exact rfl; exact rfl)
    | (apply s_k (H); exact rfl)
    | (apply s_k (HF); exact rfl))
    exact lv_ret (ret3 rfl (res_tmp rfl) (res_tmp rfl) (res_tmp rfl))
  | false =>
    have hM : ∀ ob r w, mpG a.had ob → w.heap[r]? = some ob → (Instr.lookup 242 (.map (some r)) (encS who) true).run Tryz.prog w = .ok (.tuple #[.int .i64 ((a.had who).getD 0), .bool false]) w := fun ob r w h1 h2 => by
      have := mp_look (f := a.had) (c := who) ob r w h1 h2
      rwa [hh] at this
    refine summW Tryz.func48 rfl rfl 52 rfl (by simp) (fun M0 => ?_)
    repeat (first
    | (apply s_ptrEqF (by first | exact rfl | kernel_rfl); exact rfl; exact rfl; exact rfl)
    | (apply s_nilCheckF; exact rfl; exact rfl; exact rfl)
    | (apply s_assign_f; exact rfl; exact rfl)
    | (apply s_lookupF hM; exact rfl; exact rfl; exact rfl; exact rfl; exact rfl; exact rep_tupIB _ _)
    | (apply s_a TY; exact rfl)
    | (apply s_t; exact rfl; (first | assumption | omega))
    | apply w_seq
    | apply w_region
    | (apply w_draw (id := 8) 10 rfl (by kernel_rfl))
    | apply s_nil
    | apply t_norm
    | apply w_ret
    | apply w_skip
    | (apply w_condF; exact rfl; exact rfl)
    | (apply s_k (H); exact rfl)
    | (apply s_k (HF); exact rfl)
    | (apply s_s; exact rfl))
    exact lv_ret (ret3 rfl (res_tmp rfl) (res_tmp rfl) (res_tmp rfl))
set_option maxRecDepth 100000 in
theorem keysF_g (f : Nm → Option Int) : SummG Tryz.prog GG 143 [] [.f (.mp (mpG f))] (.fb 237 [.bx 0 0]) [.box [.f (.mp (mpG f))]] := by
  refine summG_of Tryz.func143 rfl rfl 4 rfl (by simp) (by simp) (fun i B B' h1 h2 => by simp at h1) (fun M X J => ?_)
  repeat (first
    | (apply s_boxA; exact rfl; exact rfl; exact rfl; exact rfl)
    | (apply s_a TY; exact rfl)
    | (apply s_makefbC; exact rfl; exact rfl; exact rfl)
    | apply w_seq
    | apply w_region
    | apply s_nil
    | apply t_norm
    | apply w_ret)
  refine lvG_ret (s := Ab.upd (fun _ => .bot) 2 (.fb 237 [.bx 0 0])) (nx := 1) (L' := [.box [.f (.mp (mpG f))]]) ?_ ?_
  · exact gh_le ⟨le_upd rfl rfl (le_nil _), fun i => by
      match i with
      | 0 => exact .inr ⟨_, rfl, rfl, fun x hx => by simp only [List.mem_singleton] at hx; subst hx; trivial⟩
      | _ + 1 => exact .inl rfl⟩
  · exact rg1 rfl (rv_tmp rfl)
theorem sortedK_f {C : Ctx} {N : Nat} {st : St} {f : Nm → Option Int} {ks : List Nm} {j : Nat} (hP : C.P = Tryz.prog) (hk : KeysAre f ks) (hl : ks.length ≤ 1000) (hb : ∀ c, c ∈ ks → c.length ≤ 1000) (hj : st.h j = some (.box [.f (.mp (mpG f))])) : ∀ st', Hp st st' → ∀ w0 a w J, Sim C w0 N st' a w J → ∀ us, RepAs C w st'.h J us [.fb 237 [.bx j 0]] → Calls C.P 142 us.toArray w fun en w' => ∃ v, en = .returned v ∧ w'.ownsRow w.heap.size 9 1 v ks.length ((ascN ks).map encStr) ∧ Ext w w' := by
  intro st' H w0 a w J S us R
  obtain ⟨u, rfl⟩ : ∃ u, us = [u] := by
    match us, R.1 with
    | [u], _ => exact ⟨u, rfl⟩
  obtain ⟨vs, rfl, h1, h2⟩ := R.2 0 u _ rfl rfl
  obtain ⟨v, rfl⟩ : ∃ v, vs = [v] := by
    match vs, h1 with
    | [v], _ => exact ⟨v, rfl⟩
  obtain ⟨lj, b, hbj, rfl⟩ := h2 0 v _ rfl rfl
  obtain ⟨b', T, us, e1, _, e2, e3, _, e4⟩ := H.blk S hj lj
  have hbb : b' = b := by rw [e1] at hbj; simpa [bk] using hbj
  subst hbb
  obtain ⟨u0, hu⟩ : ∃ u0, us = #[u0] := Array.size_eq_one_iff.1 e3
  subst hu
  have q := e4 0 u0 _ rfl rfl
  cases q with
  | mp r G hL =>
    obtain ⟨ob, e6, e7, e8⟩ := hL.at_
    rw [hP]
    refine sortedK_w hk hl hb e7 e6 (B := b') ?_
    simp [World.cell?, e2]
set_option maxRecDepth 100000 in
set_option maxHeartbeats 3200000 in
theorem StatesOf_ok (rs : List Int) (l : List Act) (cs : List Cel) (s : Lst) (b : FV) (i : Int) (hl : s.2.length ≤ 1000) (hin : ∀ a, a ∈ s.2 → KeysAre a.had a.kys ∧ a.kys.length ≤ 1000 ∧ ∀ c, c ∈ a.kys → c.length ≤ 1000) (H : Summ Tryz.prog GG 138 [skF rs, .sl l.length (actsF l)] (.tup [.pt (lsC cs s) 0, b, iv i, iv 0])) : Summ Tryz.prog GG 39 [skF rs, .sl l.length (actsF l)] (.tup [.sl (s.2.map altS).length (astsF (s.2.map altS)), iv 0]) := by
  refine summW Tryz.func39 rfl rfl 51 rfl (by simp) (fun M0 => ?_)
  repeat (first
    | (apply s_nilCheckF; exact rfl; exact rfl; exact rfl)
    | (apply s_assign_f; exact rfl; exact rfl)
    | (apply s_a TY; exact rfl)
    | (apply s_t; exact rfl; (first | assumption | omega))
    | apply w_seq
    | apply w_region
    | apply s_nil
    | apply t_norm
    | apply w_block
    | apply w_skip
    | (apply w_condF; exact rfl; exact rfl)
    | (apply s_k (H); exact rfl))
  apply w_gh (gh_own 10 95 5 rfl rfl)
  apply w_loop (fun k : Nat => ⟨(Ab.upd (Ab.upd (Ab.upd (Ab.upd (fun _ => .bot) 10 (.ow 0)) 28 (.f (.sl s.2.length (altsF s.2)))) 29 (.f (iv s.2.length))) 30 (.f (iv ((k : Nat) : Int)))), (Ab.upd (fun _ => none) 0 (some (.row 95 5 ((s.2.take k).map altS).length (astsF ((s.2.take k).map altS))))), 1⟩) (fun k => k ≤ s.2.length) (fun k => s.2.length - k) 0 (Nat.zero_le _) (gh_le ⟨le_upd rfl trivial (le_upd rfl trivial (le_upd rfl trivial (le_upd rfl rfl (le_nil _)))), le_hupd rfl trivial (le_h0 _ _)⟩)
  intro k hk
  have htl : ((s.2.take k).map altS).length = k := by rw [List.length_map, List.length_take]; omega
  by_cases hkl : k < s.2.length
  · obtain ⟨hks, hkl2, hkb⟩ := hin s.2[k] (List.getElem_mem hkl)
    have hat : (altsF s.2)[k * 1]? = some (.pt (altC s.2[k]) 0) := altsF_at hkl
    have hne : altsF s.2 ≠ [] := altsF_ne hkl
    have hrow : some (Blk.row 95 5 (((s.2.take k).map altS).length + 1) (astsF ((s.2.take k).map altS) ++ [sv s.2[k].nm, iv s.2[k].ver, .sl s.2[k].cells.length (intsF s.2[k].cells), bv s.2[k].gone, .sl s.2[k].kys.length (((ascN s.2[k].kys).map encStr).map FV.v)])) = some (Blk.row 95 5 ((s.2.take (k + 1)).map altS).length (astsF ((s.2.take (k + 1)).map altS))) := by
      rw [List.take_succ_eq_append_getElem hkl, List.map_append, astsF_app, List.length_append, strsF_enc]
      show some (Blk.row 95 5 _ (astsF _ ++ [sv s.2[k].nm, iv s.2[k].ver, .sl s.2[k].cells.length (intsF s.2[k].cells), bv s.2[k].gone, .sl s.2[k].kys.length (strsF (ascN s.2[k].kys))])) = some (Blk.row 95 5 _ (astsF _ ++ [sv s.2[k].nm, iv s.2[k].ver, .sl s.2[k].cells.length (intsF s.2[k].cells), bv s.2[k].gone, .sl (ascN s.2[k].kys).length (strsF (ascN s.2[k].kys))]))
      rw [ascN_len]; rfl
    repeat (first
    | (apply s_nilCheckF; exact rfl; exact rfl; exact rfl)
    | (apply s_callG [] (keysF_g s.2[k].had); exact rfl; exact rfl; exact rfl; exact trivial; exact rfl; (first | exact ⟨rfl, rfl⟩ | exact ⟨⟨rfl, rfl⟩, ⟨rfl, rfl⟩⟩))
    | (refine s_callWF (g := 142) (e := 9) (sz := 1) (n := s.2[k].kys.length) (ags := [.fb 237 [.bx 2 0]]) (vs := (ascN s.2[k].kys).map encStr) (enters_of Tryz.func142 (by kernel_rfl) rfl) (fun v hv => by obtain ⟨y, _, rfl⟩ := List.mem_map.1 hv; rfl) rfl rfl rfl rfl (sortedK_f (f := s.2[k].had) (j := 2) rfl hks hkl2 hkb rfl) ?_)
    | (apply s_append TY; exact rfl; exact rfl; exact rfl; exact rfl; exact rfl; exact rfl; exact rfl; exact rfl; exact rfl; (unfold maxLen; omega); omega)
    | (apply s_a TY; exact rfl)
    | (apply s_t; exact rfl; (first | assumption | omega))
    | apply w_seq
    | apply w_region
    | apply s_nil
    | apply t_norm
    | apply k_norm
    | apply w_block
    | apply w_skip
    | (apply w_condT; exact rfl; exact rfl)
    | (apply s_c TY; exact rfl; (first | omega | exact ⟨by omega, by (first | with_reducible assumption | ((with_reducible apply altsF_ne); omega) | assumption)⟩))
    | (apply s_l TY; exact rfl; (first | exact rfl | with_reducible assumption | ((with_reducible apply altsF_at); omega) | assumption))
    | (apply s_alloc TY; exact rfl; exact rfl; exact rfl)
    | (apply s_store TY; exact rfl; exact rfl; exact rfl; exact rfl; exact rfl; exact rfl))
    exact ⟨k + 1, by omega, by omega, gh_le ⟨le_upd rfl trivial (le_upd rfl trivial (le_upd rfl trivial (le_upd rfl rfl (le_nil _)))), le_hupd hrow trivial (le_h0 _ _)⟩⟩
  · have hke : k = s.2.length := by omega
    subst hke
    have e : s.2.take s.2.length = s.2 := List.take_length
    have HR : (.sl ((s.2.take s.2.length).map altS).length (astsF ((s.2.take s.2.length).map altS)) : FV) = .sl (s.2.map altS).length (astsF (s.2.map altS)) := by rw [e]
    rw [← HR]
    repeat (first
    | (apply s_a TY; exact rfl)
    | (apply s_f; exact rfl; (first | assumption | omega))
    | apply w_seq
    | apply w_region
    | apply s_nil
    | apply t_norm
    | apply t_exit
    | apply k_hit
    | apply w_exit
    | apply w_ret
    | (apply w_condF; exact rfl; exact rfl))
    exact lv_ret (ret2 rfl (res_sees rfl (sees_row rfl)) (res_tmp rfl))
end Go.Proofs.YtbkdjlahhcofmaaGreatDoor
namespace Go.Proofs.YtbkdjlahhcofmaaGreatDoor
open Go Go.RowKit Go.Proofs Go.Shelf Go.Ab
theorem inv_in {m : Nat} {s : Lst} (i : Inv m s) (hm : m ≤ 100) : ∀ a, a ∈ s.2 → KeysAre a.had a.kys ∧ a.kys.length ≤ 1000 ∧ ∀ c, c ∈ a.kys → c.length ≤ 1000 := fun a ha => by
  obtain ⟨h1, h2, h3⟩ := i.kys a ha
  exact ⟨h1, by omega, fun c hc => by have := h3 c hc; omega⟩
end Go.Proofs.YtbkdjlahhcofmaaGreatDoor
namespace Go.Proofs.YtbkdjlahhcofmaaGreatDoor
open Go Go.RowKit Go.Proofs Go.Shelf Go.Ab
theorem OrdOk.len {l : List Job} {o : List Int} (q : OrdOk l o) : o.length ≤ l.length := by
  have h := pig (n := l.length) (o := o.map Int.toNat) (List.pairwise_map.2 (q.nd.imp_of_mem fun {a b} ha hb hne e => hne (by
    have h1 := q.mem a ha; have h2 := q.mem b hb; omega))) (fun z hz => by
    obtain ⟨y, hy, rfl⟩ := List.mem_map.1 hz
    have := q.mem y hy; omega)
  simpa using h
end Go.Proofs.YtbkdjlahhcofmaaGreatDoor
namespace Go.Proofs.YtbkdjlahhcofmaaGreatDoor
open Go Go.RowKit Go.Proofs Go.Shelf Go.Ab
theorem told_asc {l : List Act} {k : Nat} (hk : k < l.length) : AscN ltS (toldS ltS l k) := by
  rw [toldS_at hk]; split
  · exact (sortedN_spec ltSOk _).1
  · exact (sortedN_spec ltSOk _).1
theorem ppl_in {l : List Act} {n : Nm} : ∀ k, k ≤ l.length → n ∈ pplK l k → n ∈ l.map (·.name)
  | 0, _, h => nomatch h
  | k + 1, hk, h => by
    have hkl : k < l.length := by omega
    rw [pplK_at hkl] at h
    split at h
    · rcases List.mem_append.1 h with h | h
      · exact ppl_in k (by omega) h
      · rw [List.mem_singleton.1 h]; exact List.mem_map_of_mem (List.getElem_mem hkl)
    · split at h
      · exact ppl_in k (by omega) (List.mem_filter.1 h).1
      · exact ppl_in k (by omega) h
theorem told_few {l : List Act} {k : Nat} (hk : k < l.length) : (toldS ltS l k).length ≤ l.length := by
  rw [toldS_at hk]
  split
  · have hnd : (hadS ltS l l[k].name k).Nodup := ((sortedN_spec ltSOk _).1).nodup ltSOk
    have h := sub_len hnd (o := l.map (·.name)) fun x hx => by
      obtain ⟨i, a, h1, h2, _, h3⟩ := (hadK_iff l l[k].name x k).1 ((hadS_mem ltSOk).1 hx)
      exact ppl_in i (by omega) h3
    rwa [List.length_map] at h
  · have h1 := sortedN_len (pplK l k)
    have h2 := pplK_len l k
    omega
theorem valid_at {c : Int} {l : List Act} {N : Nm} {k : Nat} (hk : k < l.length) (h : ∀ i, i < l.length → runE c l i = 0) (hn : l[k].name = N) (h2 : 2 ≤ l[k].kind) : wdrK l N k = false ∧ l[k].kind ≤ 4 := by
  have r := run_all (c := c) (l := l) (k := k) (by omega) fun i hi => h i (by omega)
  have hE := h k hk
  unfold runE at hE
  rw [getD_at hk] at hE
  obtain ⟨hc, hr⟩ := stpE_0 hE
  refine ⟨?_, (chkE_0 hc).1.2⟩
  rcases hr with ⟨h0, _⟩ | ⟨h0, _⟩ | ⟨h0, hi⟩ | ⟨h0, hi, hg⟩
  · omega
  · omega
  · refine Bool.eq_false_iff.2 fun e => ?_
    have := idxA_iff.2 (r.ver _ (r.wdr _ e))
    rw [← hn] at this; omega
  · obtain ⟨i, hi2, hix, hax, hnm⟩ := altA_at hi
    obtain ⟨_, _, q3, _, _⟩ := r.alt _ (List.getElem_mem hi2)
    rw [hax, q3, hnm, hn] at hg; exact hg
theorem KnownBy_all (rs : List Int) (o : SkyOk rs) (l : List Act) (hl : l.length ≤ 40) (hcd : ∀ i, i < l.length → (l.getD i default).cells.length ≤ 1000000) (hall : ∀ i, i < l.length → runE ((skyC rs).length : Nat) l i = 0) (who N : Nm) (hN : N ∈ sentN l l.length) : Summ Tryz.prog GG 48 [skF rs, .sl l.length (actsF l), sv who, sv N] (.tup [iv ((hadK l N who l.length).getD 0), bv ((hadK l N who l.length).isSome && wdrK l N l.length), iv 0]) := by
  have HR := replay_ok rs o l hl hcd hall
  have inv := inv_run (c := ((skyC rs).length : Nat)) (l := l) (k := l.length) fun i hi => hall i hi
  have r := run_all (c := ((skyC rs).length : Nat)) (l := l) (k := l.length) (Nat.le_refl _) fun i hi => hall i hi
  have hal := inv.al
  have hi := idxA_iff.2 (by rw [r.nms]; exact hN : N ∈ (runS l l.length).2.map (·.nm))
  rcases idxP_cases (runS l l.length).2.length (nmA (runS l l.length).2 N) with ⟨e, hz⟩ | ⟨k, hk, hz, hp, e⟩
  · unfold idxA at hi; omega
  · have hnm : (runS l l.length).2[k].nm = N := by
      unfold nmA at hp
      rwa [getD_at hk, decide_eq_true_eq] at hp
    obtain ⟨_, _, q3, q4, _⟩ := r.alt _ (List.getElem_mem hk)
    have H1 := KnownBy_ok rs l _ _ _ _ who N _ HR (findF_at _ _ N (by omega) k hk hz hp)
    rw [q4 who, q3, hnm] at H1
    exact H1
end Go.Proofs.YtbkdjlahhcofmaaGreatDoor
namespace Go.Proofs.YtbkdjlahhcofmaaGreatDoor
open Go Go.RowKit Go.Proofs Go.Shelf Go.Ab
theorem flat_set1 {α : Type} {f : α → List FV} {s : Nat} (hs : ∀ x, (f x).length = s) {j : Nat} (hj : j < s) {v : FV} : ∀ {l : List α} {q : Nat} (_ : q < l.length) {y : α}, f y = (f (l[q])).set j v → (l.flatMap f).set (q * s + j) v = (l.set q y).flatMap f
  | x :: t, 0, _, y, h => by
    have h2 : f y = (f x).set j v := h
    rw [List.flatMap_cons, List.set_cons_zero, List.flatMap_cons, Nat.zero_mul, Nat.zero_add, List.set_append_left _ _ (by rw [hs]; exact hj), h2]
  | x :: t, q + 1, hq, y, h => by
    have hq2 : q < t.length := by simpa using hq
    have h2 : f y = (f t[q]).set j v := h
    have h3 : (q + 1) * s = q * s + s := Nat.succ_mul q s
    rw [List.flatMap_cons, List.set_cons_succ, List.flatMap_cons, List.set_append_right _ _ (by rw [hs]; omega), hs, show (q + 1) * s + j - s = q * s + j by omega, flat_set1 hs hj hq2 h2]
structure Mb where
  who : Nm
  alert : Nm
  ver : Int
  wd : Bool
instance : Inhabited Mb := ⟨⟨[], [], 0, false⟩⟩
def mbF (x : Mb) : List FV := [sv x.who, sv x.alert, iv x.ver, bv x.wd]
def mbsF (l : List Mb) : List FV := l.flatMap mbF
theorem mbsF_len (l : List Mb) : (mbsF l).length = l.length * 4 := flat_len (f := mbF) (fun _ => rfl) l
theorem mbsF_ne {l : List Mb} {k : Nat} (h : k < l.length) : mbsF l ≠ [] := flat_ne (f := mbF) (fun _ => rfl) (by decide : 0 < 4) h
theorem mbsF_f0 {l : List Mb} {k : Nat} (h : k < l.length) : (mbsF l)[k * 4 + 0]? = some (sv l[k].who) := (flat_at (f := mbF) (fun _ => rfl) h (by decide : 0 < 4)).trans rfl
theorem mbsF_f1 {l : List Mb} {k : Nat} (h : k < l.length) : (mbsF l)[k * 4 + 1]? = some (sv l[k].alert) := (flat_at (f := mbF) (fun _ => rfl) h (by decide : 1 < 4)).trans rfl
theorem mbsF_f2 {l : List Mb} {k : Nat} (h : k < l.length) : (mbsF l)[k * 4 + 2]? = some (iv l[k].ver) := (flat_at (f := mbF) (fun _ => rfl) h (by decide : 2 < 4)).trans rfl
theorem mbsF_f3 {l : List Mb} {k : Nat} (h : k < l.length) : (mbsF l)[k * 4 + 3]? = some (bv l[k].wd) := (flat_at (f := mbF) (fun _ => rfl) h (by decide : 3 < 4)).trans rfl
theorem mbsF_snoc (l : List Mb) (x : Mb) : mbsF (l ++ [x]) = mbsF l ++ mbF x := by unfold mbsF; rw [List.flatMap_append]; simp
theorem mbs_ver {l : List Mb} {q : Nat} (h : q < l.length) (z : Int) : setAt (mbsF l) (q * 4 + 2) [iv z] = mbsF (l.set q ⟨l[q].who, l[q].alert, z, l[q].wd⟩) := flat_set1 (f := mbF) (s := 4) (fun _ => rfl) (by decide) h rfl
theorem mbs_wd {l : List Mb} {q : Nat} (h : q < l.length) (b : Bool) : setAt (mbsF l) (q * 4 + 3) [bv b] = mbsF (l.set q ⟨l[q].who, l[q].alert, l[q].ver, b⟩) := flat_set1 (f := mbF) (s := 4) (fun _ => rfl) (by decide) h rfl
abbrev Ky := Nm × Nm
def keyO (l : List Act) : Nat → List Ky
  | 0 => []
  | k + 1 => match l[k]? with
    | none => keyO l k
    | some a => if newV a.name a then keyO l k ++ ((sortedN ltS (pplK l k)).filter fun n => !(keyO l k).contains (n, a.name)).map fun n => (n, a.name) else keyO l k
theorem keyO_at {l : List Act} {k : Nat} (h : k < l.length) : keyO l (k + 1) = if newV l[k].name l[k] then keyO l k ++ ((sortedN ltS (pplK l k)).filter fun n => !(keyO l k).contains (n, l[k].name)).map fun n => (n, l[k].name) else keyO l k := by rw [keyO, List.getElem?_eq_getElem h]
theorem keyO_mem (l : List Act) (n N : Nm) : ∀ k, k ≤ l.length → ((n, N) ∈ keyO l k ↔ (hadK l N n k).isSome = true)
  | 0, _ => by simp [keyO, hadK]
  | k + 1, hk => by
    have ih := keyO_mem l n N k (by omega)
    have hkl : k < l.length := by omega
    rw [keyO_at hkl, hadK_at hkl]
    by_cases hn : newV l[k].name l[k] = true
    · rw [if_pos hn, List.mem_append, ih, List.mem_map]
      by_cases hN : l[k].name = N
      · subst hN
        by_cases hp : n ∈ pplK l k
        · rw [if_pos ⟨hn, hp⟩]
          by_cases hh : (n, l[k].name) ∈ keyO l k
          · simp [ih.1 hh]
          · simp only [Option.isSome_some, iff_true]
            exact .inr ⟨n, List.mem_filter.2 ⟨((sortedN_spec ltSOk _).2 n).2 hp, by simp [hh]⟩, rfl⟩
        · rw [if_neg (fun e => hp e.2)]
          constructor
          · rintro (h | ⟨m, hm, e⟩)
            · exact h
            · have e1 : m = n := congrArg Prod.fst e
              subst e1
              exact absurd (((sortedN_spec ltSOk _).2 m).1 (List.mem_filter.1 hm).1) hp
          · exact .inl
      · have hnv : ¬ (newV N l[k] = true ∧ n ∈ pplK l k) := fun e => hN (newV_iff.1 e.1).1
        rw [if_neg hnv]
        constructor
        · rintro (h | ⟨m, hm, e⟩)
          · exact h
          · exact absurd (congrArg Prod.snd e) hN
        · exact .inl
    · have hnv : ¬ (newV N l[k] = true ∧ n ∈ pplK l k) := fun e => hn (newV_iff.2 ⟨rfl, (newV_iff.1 e.1).2⟩)
      rw [if_neg hn, if_neg hnv, ih]
theorem pair_nd {w : List Nm} (N : Nm) (h : w.Nodup) : (w.map fun n => (n, N)).Nodup := List.pairwise_map.2 (List.Pairwise.imp (fun hne e => hne (congrArg Prod.fst e)) h)
section
variable (K : List Ky) (N : Nm) (w : List Nm) (f g : Ky → Mb)
def midK : List Ky := K ++ (w.filter fun n => !K.contains (n, N)).map fun n => (n, N)
def midM : List Mb := (midK K N w).map fun q => if q.2 = N ∧ q.1 ∈ w then g q else f q
theorem midK_nil : midK K N [] = K := by unfold midK; simp
theorem midM_nil : midM K N [] f g = K.map f := by
  unfold midM; rw [midK_nil]; exact List.map_congr_left fun q _ => if_neg (by simp)
theorem midM_len : (midM K N w f g).length = (midK K N w).length := by unfold midM; rw [List.length_map]
theorem midK_len : (midK K N w).length ≤ K.length + w.length := by
  unfold midK; rw [List.length_append, List.length_map]
  have := List.length_filter_le (fun n => !K.contains (n, N)) w
  omega
end
section
variable {K : List Ky} {N n : Nm} {w : List Nm} {f g : Ky → Mb}
theorem midK_nd (hK : K.Nodup) (hw : w.Nodup) : (midK K N w).Nodup := by
  unfold midK
  refine List.nodup_append.2 ⟨hK, pair_nd N (hw.sublist List.filter_sublist), fun x hx y hy e => ?_⟩
  subst e
  obtain ⟨m, hm, rfl⟩ := List.mem_map.1 hy
  have := (List.mem_filter.1 hm).2
  simp [hx] at this
theorem midM_at {j : Nat} (h : j < (midK K N w).length) : (midM K N w f g)[j]'(by rw [midM_len]; exact h) = if (midK K N w)[j].2 = N ∧ (midK K N w)[j].1 ∈ w then g (midK K N w)[j] else f (midK K N w)[j] := by
  unfold midM; simp only [List.getElem_map]
theorem midM_key (hf : ∀ q, (f q).who = q.1 ∧ (f q).alert = q.2) (hg : ∀ q, (g q).who = q.1 ∧ (g q).alert = q.2) {j : Nat} (h : j < (midK K N w).length) : ((midM K N w f g)[j]'(by rw [midM_len]; exact h)).who = (midK K N w)[j].1 ∧ ((midM K N w f g)[j]'(by rw [midM_len]; exact h)).alert = (midK K N w)[j].2 := by
  rw [midM_at h]
  split
  · exact hg _
  · exact hf _
theorem midB_old (hK : K.Nodup) (hw : (w ++ [n]).Nodup) (hin : (n, N) ∈ K) {q : Nat} (hq : q < (midK K N w).length) (he : (midK K N w)[q] = (n, N)) : midK K N (w ++ [n]) = midK K N w ∧ (midM K N w f g).set q (g (n, N)) = midM K N (w ++ [n]) f g ∧ (midM K N w f g)[q]'(by rw [midM_len]; exact hq) = f (n, N) := by
  have e : midK K N (w ++ [n]) = midK K N w := by
    unfold midK; rw [List.filter_append, List.filter_cons_of_neg (by simp [hin])]; simp
  have hnw : n ∉ w := fun h => (List.nodup_append.1 hw).2.2 n h n (by simp) rfl
  have hnd := midK_nd (N := N) hK (w := w) (hw.sublist (List.sublist_append_left _ _))
  refine ⟨e, ?_, ?_⟩
  · refine List.ext_getElem (by rw [List.length_set, midM_len, midM_len, e]) fun j h1 h2 => ?_
    rw [List.length_set, midM_len] at h1
    have e2 : (midM K N (w ++ [n]) f g)[j] = if (midK K N w)[j].2 = N ∧ (midK K N w)[j].1 ∈ w ++ [n] then g (midK K N w)[j] else f (midK K N w)[j] := by
      unfold midM; simp only [List.getElem_map, e]
    rw [e2]
    by_cases ej : q = j
    · subst ej
      rw [List.getElem_set_self, he, if_pos (by simp)]
    · rw [List.getElem_set_ne ej, midM_at h1]
      have hne : (midK K N w)[j] ≠ (n, N) := fun e4 => ej ((List.getElem_inj hnd).1 (he.trans e4.symm))
      by_cases h2 : (midK K N w)[j].2 = N
      · have h3 : (midK K N w)[j].1 ≠ n := fun e5 => hne (Prod.ext e5 h2)
        by_cases hm : (midK K N w)[j].1 ∈ w
        · rw [if_pos ⟨h2, hm⟩, if_pos ⟨h2, by simp [hm]⟩]
        · rw [if_neg (fun e => hm e.2), if_neg (fun e => by simp [hm, h3] at e)]
      · rw [if_neg (fun e => h2 e.1), if_neg (fun e => h2 e.1)]
  · rw [midM_at hq, he, if_neg (fun e => hnw e.2)]
theorem midB_new (hw : (w ++ [n]).Nodup) (hin : (n, N) ∉ K) : (n, N) ∉ midK K N w ∧ midK K N (w ++ [n]) = midK K N w ++ [(n, N)] ∧ midM K N w f g ++ [g (n, N)] = midM K N (w ++ [n]) f g := by
  have hnw : n ∉ w := fun h => (List.nodup_append.1 hw).2.2 n h n (by simp) rfl
  have e : midK K N (w ++ [n]) = midK K N w ++ [(n, N)] := by
    unfold midK; rw [List.filter_append, List.filter_cons_of_pos (by simp [hin]), List.map_append, List.append_assoc]; rfl
  have hno : (n, N) ∉ midK K N w := fun h => by
    unfold midK at h
    rcases List.mem_append.1 h with h | h
    · exact hin h
    · obtain ⟨m, hm, e⟩ := List.mem_map.1 h
      have e1 : m = n := congrArg Prod.fst e
      subst e1
      exact hnw (List.mem_filter.1 hm).1
  refine ⟨hno, e, ?_⟩
  unfold midM
  rw [e, List.map_append, List.map_cons, List.map_nil, if_pos (by simp)]
  congr 1
  refine List.map_congr_left fun x hx => ?_
  have hne : x ≠ (n, N) := fun e => hno (by rw [← e]; exact hx)
  by_cases h2 : x.2 = N
  · have h3 : x.1 ≠ n := fun e5 => hne (Prod.ext e5 h2)
    by_cases hm : x.1 ∈ w
    · rw [if_pos ⟨h2, hm⟩, if_pos ⟨h2, by simp [hm]⟩]
    · rw [if_neg (fun e => hm e.2), if_neg (fun e => by simp [hm, h3] at e)]
  · rw [if_neg (fun e => h2 e.1), if_neg (fun e => h2 e.1)]
end
theorem keyO_nd (l : List Act) : ∀ k, (keyO l k).Nodup
  | 0 => List.nodup_nil
  | k + 1 => by
    have ih := keyO_nd l k
    rw [keyO]
    cases l[k]? with
    | none => exact ih
    | some a =>
      simp only
      split
      · exact midK_nd (N := a.name) ih ((sortedN_spec ltSOk (pplK l k)).1.nodup ltSOk)
      · exact ih
def mbAt (l : List Act) (k : Nat) (q : Ky) : Mb := ⟨q.1, q.2, (hadK l q.2 q.1 k).getD 0, wdrK l q.2 k⟩
def mailO (l : List Act) (k : Nat) : List Mb := (keyO l k).map (mbAt l k)
def mbTo (l : List Act) (k : Nat) (q : Ky) : Mb := if (l.getD k default).kind = 4 then ⟨q.1, q.2, (hadK l q.2 q.1 k).getD 0, true⟩ else ⟨q.1, q.2, verK l q.2 k + 1, wdrK l q.2 k⟩
theorem mbAt_key (l : List Act) (k : Nat) (q : Ky) : (mbAt l k q).who = q.1 ∧ (mbAt l k q).alert = q.2 := ⟨rfl, rfl⟩
theorem mbTo_key (l : List Act) (k : Nat) (q : Ky) : (mbTo l k q).who = q.1 ∧ (mbTo l k q).alert = q.2 := by
  unfold mbTo; split <;> exact ⟨rfl, rfl⟩
theorem mail_skip {l : List Act} {k : Nat} (h : k < l.length) (h2 : l[k].kind < 2) : keyO l (k + 1) = keyO l k ∧ mailO l (k + 1) = mailO l k := by
  have e : keyO l (k + 1) = keyO l k := by rw [keyO_at h, if_neg (fun e => by have := (newV_iff.1 e).2; omega)]
  refine ⟨e, ?_⟩
  unfold mailO
  rw [e]
  refine List.map_congr_left fun q _ => ?_
  obtain ⟨_, _, h3, h4⟩ := same_step h (n := q.2) (fun e => by omega)
  unfold mbAt
  rw [h3, h4]
theorem mail_end {l : List Act} {k : Nat} (h : k < l.length) (h2 : 2 ≤ l[k].kind) (h4 : l[k].kind ≤ 4) : midK (keyO l k) l[k].name (toldS ltS l k) = keyO l (k + 1) ∧ midM (keyO l k) l[k].name (toldS ltS l k) (mbAt l k) (mbTo l k) = mailO l (k + 1) := by
  by_cases e4 : l[k].kind = 4
  · obtain ⟨_, _, w3, w4⟩ := wd_step h e4
    have ht : toldS ltS l k = hadS ltS l l[k].name k := by rw [toldS_at h, if_pos e4]
    have e1 : keyO l (k + 1) = keyO l k := by rw [keyO_at h, if_neg (fun e => by have := (newV_iff.1 e).2; omega)]
    have e : midK (keyO l k) l[k].name (toldS ltS l k) = keyO l (k + 1) := by
      rw [e1, ht]
      unfold midK
      rw [List.filter_eq_nil_iff.2 (fun n hn => by
        have := (keyO_mem l n l[k].name k (by omega)).2 ((hadS_mem ltSOk).1 hn)
        simp [this]), List.map_nil, List.append_nil]
    refine ⟨e, ?_⟩
    unfold midM mailO
    rw [e, e1]
    refine List.map_congr_left fun q hq => ?_
    by_cases hN : q.2 = l[k].name
    · have hs : q.1 ∈ toldS ltS l k := by
        rw [ht]
        refine (hadS_mem ltSOk).2 ((keyO_mem l q.1 l[k].name k (by omega)).1 ?_)
        rw [← hN]; exact hq
      rw [if_pos ⟨hN, hs⟩]
      unfold mbTo mbAt
      rw [if_pos (by rw [getD_at h]; exact e4), hN, w3, w4]
    · rw [if_neg (fun e => hN e.1)]
      obtain ⟨_, _, h5, h6⟩ := same_step h (n := q.2) (fun e => hN e.1.symm)
      unfold mbAt
      rw [h5, h6]
  · obtain ⟨_, _, w3, w4⟩ := new_step h (by omega : l[k].kind = 2 ∨ l[k].kind = 3)
    have ht : toldS ltS l k = sortedN ltS (pplK l k) := by rw [toldS_at h, if_neg e4]
    have e : midK (keyO l k) l[k].name (toldS ltS l k) = keyO l (k + 1) := by
      rw [keyO_at h, if_pos (newV_iff.2 ⟨rfl, by omega⟩), ht]; rfl
    refine ⟨e, ?_⟩
    unfold midM mailO
    rw [e]
    refine List.map_congr_left fun q hq => ?_
    by_cases hN : q.2 = l[k].name
    · by_cases hp : q.1 ∈ pplK l k
      · rw [if_pos ⟨hN, by rw [ht]; exact ((sortedN_spec ltSOk _).2 _).2 hp⟩]
        unfold mbTo mbAt
        rw [if_neg (by rw [getD_at h]; exact e4), hN, w3, w4, if_pos hp]; rfl
      · rw [if_neg (fun e => hp (((sortedN_spec ltSOk _).2 _).1 (ht ▸ e.2)))]
        unfold mbAt
        rw [hN, w3, w4, if_neg hp]
    · rw [if_neg (fun e => hN e.1)]
      obtain ⟨_, _, h5, h6⟩ := same_step h (n := q.2) (fun e => hN e.1.symm)
      unfold mbAt
      rw [h5, h6]
theorem mail_len {l : List Act} {k : Nat} (h : k < l.length) (h2 : 2 ≤ l[k].kind) (h4 : l[k].kind ≤ 4) : (keyO l (k + 1)).length ≤ (keyO l k).length + (toldS ltS l k).length := by
  rw [← (mail_end h h2 h4).1]; exact midK_len _ _ _
theorem mailO_len (l : List Act) (k : Nat) : (mailO l k).length = (keyO l k).length := by unfold mailO; rw [List.length_map]
theorem mailO_at {l : List Act} {k j : Nat} (h : j < (keyO l k).length) : (mailO l k)[j]'(by rw [mailO_len]; exact h) = mbAt l k (keyO l k)[j] := by
  unfold mailO; rw [List.getElem_map]
theorem had_le (l : List Act) (N n : Nm) (k : Nat) : 0 ≤ (hadK l N n k).getD 0 ∧ (hadK l N n k).getD 0 ≤ verK l N k := by
  have hv := verK_nn l N k
  cases e : hadK l N n k with
  | none => show 0 ≤ (0 : Int) ∧ (0 : Int) ≤ _; omega
  | some v => have := hadK_bd l N n k v e; show 0 ≤ v ∧ v ≤ _; omega
end Go.Proofs.YtbkdjlahhcofmaaGreatDoor
namespace Go.Proofs.YtbkdjlahhcofmaaGreatDoor
open Go Go.RowKit Go.Proofs Go.Shelf Go.Ab
theorem runS_take (l : List Act) (k : Nat) : ∀ j, j ≤ k → runS (l.take k) j = runS l j
  | 0, _ => rfl
  | j + 1, h => by
    rw [runS, runS, runS_take l k j (by omega), List.getD_eq_getElem?_getD, List.getD_eq_getElem?_getD, take_at (show j < k by omega)]
theorem runE_take (c : Int) (l : List Act) {k j : Nat} (h : j < k) : runE c (l.take k) j = runE c l j := by
  unfold runE
  rw [runS_take l k j (by omega), List.getD_eq_getElem?_getD, List.getD_eq_getElem?_getD, take_at h]
theorem sentN_take (l : List Act) (k : Nat) : ∀ j, j ≤ k → sentN (l.take k) j = sentN l j
  | 0, _ => rfl
  | j + 1, h => by
    rw [sentN, sentN, sentN_take l k j (by omega), take_at (show j < k by omega)]
theorem act_facts {c : Int} {l : List Act} (hall : ∀ i, i < l.length → runE c l i = 0) {i : Nat} (hi : i < l.length) : (0 ≤ l[i].kind ∧ l[i].kind ≤ 4) ∧ nameB l[i].name = true ∧ celsE c l[i].cells = 0 := by
  have h := hall i hi
  unfold runE at h
  rw [getD_at hi] at h
  have h2 := chkE_0 (stpE_0 h).1
  exact ⟨h2.1, h2.2.1, h2.2.2.1⟩
theorem cel_ok {c : Int} {l : List Act} (hall : ∀ i, i < l.length → runE c l i = 0) (n : Nm) : ∀ k, k ≤ l.length → celsE c (celK l n k) = 0
  | 0, _ => rfl
  | k + 1, h => by
    rw [celK_at (show k < l.length by omega)]
    split
    · exact (act_facts hall (show k < l.length by omega)).2.2
    · exact cel_ok hall n k (by omega)
theorem sent_in {c : Int} {l : List Act} (hall : ∀ i, i < l.length → runE c l i = 0) {k : Nat} (hk : k ≤ l.length) {n : Nm} (h : 0 < verK l n k) : n ∈ sentN l k := by
  have r := run_all (c := c) hk fun i hi => hall i (by omega)
  rw [← r.nms]
  exact r.ver n h
theorem ver_in {c : Int} {l : List Act} (hall : ∀ i, i < l.length → runE c l i = 0) {i : Nat} (hi : i < l.length) (h2 : 2 ≤ l[i].kind) : l[i].name ∈ sentN l (i + 1) ∧ 1 ≤ verK l l[i].name (i + 1) ∧ verK l l[i].name (i + 1) ≤ (i : Int) + 1 := by
  have hv := verK_nn l l[i].name (i + 1)
  have hp : 0 < verK l l[i].name (i + 1) := by
    have h4 := (act_facts hall hi).1
    by_cases e : l[i].kind = 4
    · have r := run_all (c := c) (show i + 1 ≤ l.length by omega) fun j hj => hall j (by omega)
      exact r.wdr _ (wd_step hi e).2.2.1
    · rw [(new_step hi (by omega)).1]
      have := verK_nn l l[i].name i
      omega
  exact ⟨sent_in hall (by omega) hp, by omega, by omega⟩
theorem sts_at (l : List Act) {k : Nat} (hk : k ≤ l.length) : (∀ a (ha : a < (stsK (l.take k) (l.take k).length).length), (stsK (l.take k) (l.take k).length)[a].version = verK l (stsK (l.take k) (l.take k).length)[a].name k ∧ (stsK (l.take k) (l.take k).length)[a].cells = celK l (stsK (l.take k) (l.take k).length)[a].name k) ∧ ∀ n, n ∈ sentN l k → ∃ a, ∃ ha : a < (stsK (l.take k) (l.take k).length).length, (stsK (l.take k) (l.take k).length)[a].name = n := by
  have hl : (l.take k).length = k := by rw [List.length_take]; omega
  have e : stsK (l.take k) (l.take k).length = (sentN l k).map fun n => stA (l.take k) n k := by
    rw [stsK_map, hl, sentN_take l k k (Nat.le_refl _)]
  generalize stsK (l.take k) (l.take k).length = X at e ⊢
  subst e
  refine ⟨fun a ha => ?_, fun n hn => ?_⟩
  · have hm := List.getElem_mem ha
    generalize ((sentN l k).map fun n => stA (l.take k) n k)[a] = y at hm ⊢
    obtain ⟨n, _, rfl⟩ := List.mem_map.1 hm
    exact ⟨verK_take l n k k (Nat.le_refl _), celK_take l n k k (Nat.le_refl _)⟩
  · obtain ⟨a, ha, e⟩ := List.getElem_of_mem hn
    exact ⟨a, by rw [List.length_map]; exact ha, by rw [List.getElem_map, e]; rfl⟩
theorem key_sent {c : Int} {l : List Act} (hall : ∀ i, i < l.length → runE c l i = 0) {k : Nat} (hk : k ≤ l.length) {q : Ky} (h : q ∈ keyO l k) : q.2 ∈ sentN l k ∧ (hadK l q.2 q.1 k).isSome = true := by
  have h1 := (keyO_mem l q.1 q.2 k hk).1 h
  refine ⟨sent_in hall hk ?_, h1⟩
  obtain ⟨v, hv⟩ := Option.isSome_iff_exists.1 h1
  have := hadK_bd l q.2 q.1 k v hv
  omega
theorem key_told {c : Int} {l : List Act} (_hall : ∀ i, i < l.length → runE c l i = 0) {i : Nat} (hi : i < l.length) (h4 : l[i].kind = 4) {n : Nm} (h : n ∈ toldS ltS l i) : (n, l[i].name) ∈ keyO l i := by
  rw [toldS_at hi, if_pos h4] at h
  exact (keyO_mem l n l[i].name i (by omega)).2 ((hadS_mem ltSOk).1 h)
theorem mbTo_4 {l : List Act} {i : Nat} (hi : i < l.length) (h4 : l[i].kind = 4) (q : Ky) : mbTo l i q = ⟨q.1, q.2, (hadK l q.2 q.1 i).getD 0, true⟩ := by
  unfold mbTo; rw [if_pos (by rw [getD_at hi]; exact h4)]
theorem mbTo_n {l : List Act} {i : Nat} (hi : i < l.length) (h4 : ¬ l[i].kind = 4) (q : Ky) : mbTo l i q = ⟨q.1, q.2, verK l q.2 i + 1, wdrK l q.2 i⟩ := by
  unfold mbTo; rw [if_neg (by rw [getD_at hi]; exact h4)]
end Go.Proofs.YtbkdjlahhcofmaaGreatDoor
namespace Go.Proofs.YtbkdjlahhcofmaaGreatDoor
open Go Go.RowKit Go.Proofs Go.Shelf Go.Ab
structure Mrg (w : Int → Int) (D : Nat → Int) (a m b : Nat) : Prop where
  L : SrtI w D a m
  R : SrtI w D m b
  X : ∀ i j, a ≤ i → i < m → m ≤ j → j < b → D i < D j
structure Res (w : Int → Int) (D E : Nat → Int) (a b : Nat) : Prop where
  srt : SrtI w E a b
  out : ∀ p, p < a ∨ b ≤ p → E p = D p
  ins : ∀ z, InI E a b z ↔ InI D a b z
structure CutAt (w : Int → Int) (D : Nat → Int) (a m b mid s e : Nat) : Prop where
  hs : a ≤ s ∧ s ≤ m ∧ s ≤ mid
  he : m ≤ e ∧ e ≤ b ∧ mid ≤ e
  sum : s + e = mid + m
  r1 : SrtI w (rotI D s m e) a s
  r2 : SrtI w (rotI D s m e) s mid
  r3 : SrtI w (rotI D s m e) mid e
  r4 : SrtI w (rotI D s m e) e b
  x : ∀ x y, a ≤ x → x < mid → mid ≤ y → y < b → befW w (rotI D s m e x) (rotI D s m e y)
theorem CutAt.m1 {w : Int → Int} {D : Nat → Int} {a m b mid s e : Nat} (c : CutAt w D a m b mid s e) (h : Mrg w D a m b) : Mrg w (rotI D s m e) a s mid := by
  have hs := c.hs; have he := c.he; have hu := c.sum
  refine ⟨c.r1, c.r2, fun i j h1 h2 h3 h4 => ?_⟩
  have e1 : rotI D s m e i = D i := by unfold rotI; rw [if_neg (by omega), if_neg (by omega)]
  have e2 : rotI D s m e j = D (j + (m - s)) := by unfold rotI; rw [if_pos (by omega)]
  rw [e1, e2]; exact h.X _ _ h1 (by omega) (by omega) (by omega)
theorem CutAt.m2 {w : Int → Int} {D E : Nat → Int} {a m b mid s e : Nat} (c : CutAt w D a m b mid s e) (h : Mrg w D a m b) (hE : ∀ p, mid ≤ p → E p = rotI D s m e p) : Mrg w E mid e b := by
  have hs := c.hs; have he := c.he; have hu := c.sum
  refine ⟨fun i j p q r => ?_, fun i j p q r => ?_, fun i j h1 h2 h3 h4 => ?_⟩
  · rw [hE i p, hE j (by omega)]; exact c.r3 i j p q r
  · rw [hE i (by omega), hE j (by omega)]; exact c.r4 i j p q r
  · have e1 : rotI D s m e i = D (i - (e - m)) := by unfold rotI; rw [if_neg (by omega), if_pos (by omega)]
    have e2 : rotI D s m e j = D j := by unfold rotI; rw [if_neg (by omega), if_neg (by omega)]
    rw [hE i h1, hE j (by omega), e1, e2]; exact h.X _ _ (by omega) (by omega) (by omega) h4
theorem Res.rng {w : Int → Int} {D E : Nat → Int} {a b : Nat} (r : Res w D E a b) {Q : Int → Prop} (h : ∀ p, a ≤ p → p < b → Q (D p)) : ∀ p, a ≤ p → p < b → Q (E p) := fun p h1 h2 => by
  obtain ⟨q, q1, q2, q3⟩ := (r.ins _).1 ⟨p, h1, h2, rfl⟩
  rw [← q3]; exact h q q1 q2
end Go.Proofs.YtbkdjlahhcofmaaGreatDoor
namespace Go.Proofs.YtbkdjlahhcofmaaGreatDoor
open Go Go.RowKit Go.Proofs Go.Shelf Go.Ab
def lst (D : Nat → Int) (n : Nat) : List Int := (List.range n).map D
end Go.Proofs.YtbkdjlahhcofmaaGreatDoor
namespace Go.Proofs.YtbkdjlahhcofmaaGreatDoor
open Go Go.RowKit Go.Proofs Go.Shelf Go.Ab
end Go.Proofs.YtbkdjlahhcofmaaGreatDoor
namespace Go.Proofs.YtbkdjlahhcofmaaGreatDoor
open Go Go.RowKit Go.Proofs Go.Shelf Go.Ab
end Go.Proofs.YtbkdjlahhcofmaaGreatDoor
namespace Go.Proofs.YtbkdjlahhcofmaaGreatDoor
open Go Go.RowKit Go.Proofs Go.Shelf Go.Ab
def Same (D E : Nat → Int) (n : Nat) : Prop := ∀ z, InI E 0 n z ↔ InI D 0 n z
theorem Same.refl (D : Nat → Int) (n : Nat) : Same D D n := fun _ => Iff.rfl
theorem Same.step {w : Int → Int} {D E F : Nat → Int} {n a b : Nat} (s : Same D E n) (r : Res w E F a b) (hb : b ≤ n) : Same D F n := fun z => by
  rw [← s z]
  constructor
  · rintro ⟨p, _, p2, rfl⟩
    by_cases h : a ≤ p ∧ p < b
    · obtain ⟨q, q1, q2, q3⟩ := (r.ins _).1 ⟨p, h.1, h.2, rfl⟩
      exact ⟨q, Nat.zero_le _, by omega, q3⟩
    · exact ⟨p, Nat.zero_le _, p2, (r.out p (by omega)).symm⟩
  · rintro ⟨p, _, p2, rfl⟩
    by_cases h : a ≤ p ∧ p < b
    · obtain ⟨q, q1, q2, q3⟩ := (r.ins _).2 ⟨p, h.1, h.2, rfl⟩
      exact ⟨q, Nat.zero_le _, by omega, q3⟩
    · exact ⟨p, Nat.zero_le _, p2, r.out p (by omega)⟩
theorem Res.at_ {w : Int → Int} {D E : Nat → Int} {a b : Nat} (r : Res w D E a b) {p : Nat} (h1 : a ≤ p) (h2 : p < b) : ∃ q, a ≤ q ∧ q < b ∧ E p = D q := by
  obtain ⟨q, q1, q2, q3⟩ := (r.ins _).1 ⟨p, h1, h2, rfl⟩
  exact ⟨q, q1, q2, q3.symm⟩
structure PSt (w : Int → Int) (E : Nat → Int) (n B : Nat) : Prop where
  x : ∀ i j, i < j → j < n → i / B ≠ j / B → E i < E j
  s : ∀ i j, i < j → j < n → i / B = j / B → befW w (E i) (E j)
structure Pass (w : Int → Int) (E : Nat → Int) (n B C a : Nat) : Prop where
  al : a % C = 0
  X : ∀ i j, i < j → j < n → i / C ≠ j / C → E i < E j
  lo : ∀ i j, i < j → j < n → j < a → i / C = j / C → befW w (E i) (E j)
  hs : ∀ i j, a ≤ i → i < j → j < n → i / B = j / B → befW w (E i) (E j)
  hx : ∀ i j, a ≤ i → i < j → j < n → i / B ≠ j / B → E i < E j
end Go.Proofs.YtbkdjlahhcofmaaGreatDoor
namespace Go.Proofs.YtbkdjlahhcofmaaGreatDoor
open Go Go.RowKit Go.Proofs Go.Shelf Go.Ab
end Go.Proofs.YtbkdjlahhcofmaaGreatDoor
namespace Go.Proofs.YtbkdjlahhcofmaaGreatDoor
open Go Go.RowKit Go.Proofs Go.Shelf Go.Ab
set_option maxRecDepth 100000 in
set_option maxHeartbeats 1600000 in
theorem shown_s : Summ Tryz.prog GG 33 [] (.v (.bool true)) := by
  have H1 := Sky_s
  have H3 := Map_s
  have H4 := RegionOf_of exRs exM 90 exSky exMap (by decide) (stab_few (by decide))
  rw [exReg] at H4
  have H6 := Acts_s
  have H7 := RecipientsOf_ok exRs exSky exActs (by decide) (by decide) exRun 5 (by decide) (by decide) (by decide)
  have hw : (runW exActs exActs.length)[5]'(by rw [runW_len]; decide) = [nAnn, nBob] := by
    have := exRec
    rw [List.getElem?_eq_getElem (by rw [runW_len]; decide)] at this
    exact Option.some.inj this
  rw [hw] at H7
  have HA := Ints_s [1, 2, 5] [1, 2, 5] (by decide) (by decide)
  rw [decide_eq_true rfl] at HA
  have HC := Texts_s [nAnn, nBob] [nAnn, nBob] (by decide) (by decide)
  rw [decide_eq_true rfl] at HC
  refine summW Tryz.func33 rfl rfl 33 rfl (by simp) (fun M0 => ?_)
  repeat (first
    | (apply s_a TY; exact rfl)
    | (apply s_t; exact rfl; (first | assumption | omega))
    | apply w_seq
    | apply w_region
    | apply s_nil
    | apply t_norm
    | apply w_ret
    | (apply s_k (H1); exact rfl)
    | (apply s_k (H3); exact rfl)
    | (apply s_k (H4); exact rfl)
    | (apply s_k (H6); exact rfl)
    | (apply s_k (H7); exact rfl)
    | (apply s_k (HA); exact rfl)
    | (apply s_k (HC); exact rfl))
  exact lv_ret (ret1 rfl (res_tmp rfl))
end Go.Proofs.YtbkdjlahhcofmaaGreatDoor
