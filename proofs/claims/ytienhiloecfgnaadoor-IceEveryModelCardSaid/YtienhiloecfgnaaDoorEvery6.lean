/- Laws on which the proofs of this seat stand. No condition. -/
import Derived.Test.YtienhiloecfgnaaDoorEvery5
namespace Go.Proofs.YtienhiloecfgnaaDoor
open Go Go.RowKit Go.Proofs Go.Shelf Go.Ab
theorem timesM_shape {x : Grid} (v : Valid x) (fr : Cel) : ShapeOk x (timesM x fr) := by
  have := v.r1
  constructor
  · simp only [timesM, List.length_map, List.length_range]; omega
  · intro r hr
    simp only [timesM, List.mem_map, List.mem_range] at hr
    obtain ⟨q, _, rfl⟩ := hr
    simp
theorem tab_timesM {x : Grid} {fr c : Cel} (hc : InG x c) : tab (timesM x fr) c = distOf x fr c := by
  obtain ⟨⟨c0, c1⟩, r0, r1⟩ := hc
  have h1 : c.row.toNat < x.rows.toNat := by omega
  have h2 : c.col.toNat < x.tilt.length := by omega
  have e : (⟨((c.col.toNat : Nat) : Int), ((c.row.toNat : Nat) : Int)⟩ : Cel) = c := by
    cases c
    simp only [Cel.mk.injEq] at *
    omega
  unfold tab timesM
  simp only [List.getD_eq_getElem?_getD, List.getElem?_map, List.getElem?_range h1, List.getElem?_range h2, Option.map_some, Option.getD_some, e]
theorem shape_ext {x : Grid} {T T' : List (List Int)} (sh : ShapeOk x T) (sh' : ShapeOk x T') (h : ∀ c, InG x c → tab T c = tab T' c) : T = T' := by
  have l1 := sh.len
  have l2 := sh'.len
  refine List.ext_getElem (by omega) fun r h1 h2 => ?_
  have e1 := sh.row _ (List.getElem_mem h1)
  have e2 := sh'.row _ (List.getElem_mem h2)
  refine List.ext_getElem (by omega) fun c g1 g2 => ?_
  have := h ⟨(c : Nat), (r : Nat)⟩ ⟨⟨Int.natCast_nonneg _, by simp only; omega⟩, Int.natCast_nonneg _, by simp only; omega⟩
  simpa [tab, List.getD_eq_getElem?_getD, List.getElem?_eq_getElem h1, List.getElem?_eq_getElem h2, List.getElem?_eq_getElem g1, List.getElem?_eq_getElem g2] using this
end Go.Proofs.YtienhiloecfgnaaDoor
namespace Go.Proofs.YtienhiloecfgnaaDoor
open Go Go.RowKit Go.Proofs Go.Shelf Go.Ab
def setT (M : List (List Int)) (c : Cel) (t : Int) : List (List Int) := M.set c.row.toNat ((M.getD c.row.toNat []).set c.col.toNat t)
theorem setT_len (M : List (List Int)) (c : Cel) (t : Int) : (setT M c t).length = M.length := by simp [setT]
theorem setT_shape {x : Grid} {M : List (List Int)} (sh : ShapeOk x M) (c : Cel) (t : Int) (hc : InG x c) : ShapeOk x (setT M c t) := by
  have h1 : c.row.toNat < M.length := by have := sh.len; obtain ⟨_, a, b⟩ := hc; omega
  refine ⟨by rw [setT_len]; exact sh.len, fun r hr => ?_⟩
  rcases List.mem_or_eq_of_mem_set hr with h | h
  · exact sh.row r h
  · rw [h, List.length_set, List.getD_eq_getElem?_getD, List.getElem?_eq_getElem h1, Option.getD_some]
    exact sh.row _ (List.getElem_mem h1)
theorem setT_tab {x : Grid} {M : List (List Int)} (sh : ShapeOk x M) {c c' : Cel} {t : Int} (hc : InG x c) (hc' : InG x c') : tab (setT M c t) c' = if c' = c then t else tab M c' := by
  have hl := sh.len
  obtain ⟨⟨a0, a1⟩, a2, a3⟩ := hc
  obtain ⟨⟨b0, b1⟩, b2, b3⟩ := hc'
  have h1 : c.row.toNat < M.length := by omega
  have h2 : c'.row.toNat < M.length := by omega
  have hr := sh.row _ (List.getElem_mem h1)
  unfold tab setT
  simp only [List.getD_eq_getElem?_getD, List.getElem?_set, List.getElem?_eq_getElem h1, Option.getD_some]
  by_cases e : c.row.toNat = c'.row.toNat
  · rw [if_pos e, if_pos h1, Option.getD_some, List.getElem?_set]
    by_cases e2 : c.col.toNat = c'.col.toNat
    · have : c' = c := by cases c; cases c'; simp at *; omega
      rw [if_pos e2, if_pos (by omega), if_pos this, Option.getD_some]
    · have : c' ≠ c := fun h => e2 (by rw [h])
      rw [if_neg e2, if_neg this]
      simp only [← e, List.getElem?_eq_getElem h1, Option.getD_some]
  · have : c' ≠ c := fun h => e (by rw [h])
    rw [if_neg e, if_neg this]
def sumL (l : List Int) : Nat := (l.map Int.toNat).sum
def sumT (M : List (List Int)) : Nat := (M.map sumL).sum
theorem sumN_set : ∀ (l : List Nat) (k a : Nat) (h : k < l.length), (l.set k a).sum + l[k] = l.sum + a
  | x :: l, 0, a, _ => by simp; omega
  | x :: l, k + 1, a, h => by
    have := sumN_set l k a (by simpa using h)
    simp
    omega
theorem sumT_set {x : Grid} {M : List (List Int)} (sh : ShapeOk x M) {c : Cel} {t : Int} (hc : InG x c) : sumT (setT M c t) + (tab M c).toNat = sumT M + t.toNat := by
  have hl := sh.len
  obtain ⟨⟨a0, a1⟩, a2, a3⟩ := hc
  have h1 : c.row.toNat < M.length := by omega
  have hr := sh.row _ (List.getElem_mem h1)
  have h2 : c.col.toNat < M[c.row.toNat].length := by omega
  have e1 : M.getD c.row.toNat [] = M[c.row.toNat] := by rw [List.getD_eq_getElem?_getD, List.getElem?_eq_getElem h1, Option.getD_some]
  have e2 : tab M c = M[c.row.toNat][c.col.toNat] := by unfold tab; rw [e1, List.getD_eq_getElem?_getD, List.getElem?_eq_getElem h2, Option.getD_some]
  unfold setT sumT
  rw [e1, e2, List.map_set]
  have s1 := sumN_set (M.map sumL) c.row.toNat (sumL (M[c.row.toNat].set c.col.toNat t)) (by simpa using h1)
  have s2 := sumN_set (M[c.row.toNat].map Int.toNat) c.col.toNat t.toNat (by simpa using h2)
  rw [List.getElem_map] at s1 s2
  have s3 : sumL (M[c.row.toNat].set c.col.toNat t) = ((M[c.row.toNat].map Int.toNat).set c.col.toNat t.toNat).sum := by unfold sumL; rw [List.map_set]
  have s4 : sumL M[c.row.toNat] = (M[c.row.toNat].map Int.toNat).sum := rfl
  omega
structure Low (x : Grid) (fr : Cel) (M : List (List Int)) : Prop where
  sh : ShapeOk x M
  bd : ∀ c, InG x c → distOf x fr c ≤ tab M c ∧ tab M c ≤ 1000000
  zero : tab M fr = 0
theorem low_step {x : Grid} (v : Valid x) {fr c n : Cel} (hf : InG x fr) {M : List (List Int)} (h : Low x fr M) (hc : InG x c) (hn : n ∈ nbrs x c) (hlt : tab M n + stepI x c n < tab M c) : Low x fr (setT M c (tab M n + stepI x c n)) ∧ sumT (setT M c (tab M n + stepI x c n)) < sumT M := by
  obtain ⟨d, dm⟩ := distOf_all v hf
  have hnn := nbrs_in v hn
  have b1 := h.bd n hnn
  have b2 := h.bd c hc
  have b3 := d.nonneg n hnn
  have b4 := stepI_bd v c n
  have b5 := d.le n c hnn (nbrs_symm v hc hn)
  rw [stepI_symm x n c] at b5
  have hs := sumT_set h.sh (t := tab M n + stepI x c n) hc
  refine ⟨⟨setT_shape h.sh c _ hc, fun c' hc' => ?_, ?_⟩, by omega⟩
  · rw [setT_tab h.sh hc hc']
    by_cases e : c' = c
    · subst e; rw [if_pos rfl]; omega
    · rw [if_neg e]; exact h.bd c' hc'
  · rw [setT_tab h.sh hc hf]
    by_cases e : fr = c
    · subst e; have := h.zero; omega
    · rw [if_neg e]; exact h.zero
theorem low_end {x : Grid} (v : Valid x) {fr : Cel} (hf : InG x fr) {M : List (List Int)} (h : Low x fr M) (hfix : ∀ c n, InG x c → n ∈ nbrs x c → tab M c ≤ tab M n + stepI x c n) : M = timesM x fr := by
  obtain ⟨d, dm⟩ := distOf_all v hf
  have up : ∀ (k : Nat) (c : Cel), InG x c → (distOf x fr c).toNat ≤ k → tab M c ≤ distOf x fr c := by
    intro k
    induction k with
    | zero =>
      intro c hc hk
      by_cases e : c = fr
      · subst e; rw [h.zero, d.zero]; exact Int.le_refl _
      · obtain ⟨n, hn, e2⟩ := d.tight c hc e
        have := d.nonneg n (nbrs_in v hn)
        have := stepI_bd v n c
        have := stepI_bd v c n
        omega
    | succ k ih =>
      intro c hc hk
      by_cases e : c = fr
      · subst e; rw [h.zero, d.zero]; exact Int.le_refl _
      · obtain ⟨n, hn, e2⟩ := d.tight c hc e
        have h0 := d.nonneg n (nbrs_in v hn)
        have h1 := stepI_bd v n c
        have h2 := ih n (nbrs_in v hn) (by omega)
        have h3 := hfix c n hc hn
        rw [stepI_symm x c n] at h3
        omega
  refine shape_ext h.sh (timesM_shape v fr) fun c hc => ?_
  rw [tab_timesM hc]
  have := up _ c hc (Nat.le_refl _)
  have := (h.bd c hc).1
  omega
theorem rep_shape {x : Grid} (v : Valid x) : ShapeOk x (List.replicate x.rows.toNat (List.replicate x.tilt.length 1000000)) := by
  have := v.r1
  exact ⟨by simp; omega, fun r hr => by rw [List.eq_of_mem_replicate hr]; simp⟩
theorem low_start {x : Grid} (v : Valid x) {fr : Cel} (hf : InG x fr) : Low x fr (setT (List.replicate x.rows.toNat (List.replicate x.tilt.length 1000000)) fr 0) := by
  obtain ⟨d, dm⟩ := distOf_all v hf
  have r1 := v.r1
  have sh : ShapeOk x (List.replicate x.rows.toNat (List.replicate x.tilt.length 1000000)) := ⟨by simp; omega, fun r hr => by rw [List.eq_of_mem_replicate hr]; simp⟩
  have ht : ∀ c, InG x c → tab (List.replicate x.rows.toNat (List.replicate x.tilt.length 1000000)) c = 1000000 := fun c hc => by
    obtain ⟨⟨a0, a1⟩, a2, a3⟩ := hc
    unfold tab
    rw [List.getD_eq_getElem?_getD, List.getD_eq_getElem?_getD, List.getElem?_replicate, if_pos (by omega), Option.getD_some, List.getElem?_replicate, if_pos (by omega)]
    rfl
  refine ⟨setT_shape sh fr 0 hf, fun c hc => ?_, by rw [setT_tab sh hf hf, if_pos rfl]⟩
  rw [setT_tab sh hf hc]
  by_cases e : c = fr
  · subst e; rw [if_pos rfl, d.zero]; omega
  · rw [if_neg e, ht c hc]; have := dm c hc; omega
structure Pass (x : Grid) (fr : Cel) (M0 : List (List Int)) (D : Cel → Cel → Prop) (M : List (List Int)) (b : Bool) : Prop where
  low : Low x fr M
  le : sumT M ≤ sumT M0
  lt : b = true → sumT M < sumT M0
  st : b = false → M = M0 ∧ ∀ c n, InG x c → n ∈ nbrs x c → D c n → tab M0 c ≤ tab M0 n + stepI x c n
def seen (x : Grid) (r c k : Nat) (a n : Cel) : Prop := a.row < r ∨ (a.row = r ∧ a.col < c) ∨ (a = ⟨c, r⟩ ∧ n ∈ (nbrs x ⟨c, r⟩).take k)
theorem Pass.begin {x : Grid} {fr : Cel} {M : List (List Int)} (h : Low x fr M) : Pass x fr M (seen x 0 0 0) M false :=
  ⟨h, Nat.le_refl _, fun e => (by cases e), fun _ => ⟨rfl, fun c n hc _ hD => by
    obtain ⟨⟨a0, a1⟩, a2, a3⟩ := hc
    rcases hD with h | ⟨h1, h2⟩ | ⟨_, h⟩
    · omega
    · omega
    · simp at h⟩⟩
theorem Pass.mono {x : Grid} {fr : Cel} {M0 M : List (List Int)} {D D' : Cel → Cel → Prop} {b : Bool} (h : Pass x fr M0 D M b) (hD : ∀ c n, InG x c → n ∈ nbrs x c → D' c n → D c n) : Pass x fr M0 D' M b :=
  ⟨h.low, h.le, h.lt, fun e => ⟨(h.st e).1, fun c n hc hn hd => (h.st e).2 c n hc hn (hD c n hc hn hd)⟩⟩
theorem Pass.col {x : Grid} {fr : Cel} {M0 M : List (List Int)} {r c : Nat} {b : Bool} (h : Pass x fr M0 (seen x r c (nbrs x ⟨c, r⟩).length) M b) : Pass x fr M0 (seen x r (c + 1) 0) M b := h.mono fun a n ha hn hD => by
  rcases hD with h | ⟨h1, h2⟩ | ⟨_, h⟩
  · exact .inl h
  · by_cases e : a.col < c
    · exact .inr (.inl ⟨h1, e⟩)
    · have : a = ⟨c, r⟩ := by cases a; simp at *; omega
      subst this
      exact .inr (.inr ⟨rfl, by rw [List.take_length]; exact hn⟩)
  · simp at h
theorem Pass.row {x : Grid} {fr : Cel} {M0 M : List (List Int)} {r : Nat} {b : Bool} (h : Pass x fr M0 (seen x r x.tilt.length 0) M b) : Pass x fr M0 (seen x (r + 1) 0 0) M b := h.mono fun a n ha hn hD => by
  obtain ⟨⟨a0, a1⟩, a2, a3⟩ := ha
  rcases hD with h | ⟨h1, h2⟩ | ⟨_, h⟩
  · by_cases e : a.row < r
    · exact .inl e
    · exact .inr (.inl ⟨by omega, a1⟩)
  · omega
  · simp at h
theorem Pass.keep {x : Grid} {fr : Cel} {M0 M : List (List Int)} {r c k : Nat} {b : Bool} (h : Pass x fr M0 (seen x r c k) M b) (hk : k < (nbrs x ⟨c, r⟩).length) (hge : ¬ tab M (nbrs x ⟨c, r⟩)[k] + stepI x ⟨c, r⟩ (nbrs x ⟨c, r⟩)[k] < tab M ⟨c, r⟩) : Pass x fr M0 (seen x r c (k + 1)) M b :=
  ⟨h.low, h.le, h.lt, fun e => by
    obtain ⟨e1, e2⟩ := h.st e
    refine ⟨e1, fun a n ha hn hD => ?_⟩
    rcases hD with hh | hh | ⟨rfl, hh⟩
    · exact e2 a n ha hn (.inl hh)
    · exact e2 a n ha hn (.inr (.inl hh))
    · rw [List.take_succ_eq_append_getElem hk] at hh
      rcases List.mem_append.1 hh with h1 | h1
      · exact e2 _ n ha hn (.inr (.inr ⟨rfl, h1⟩))
      · rw [List.mem_singleton.1 h1, ← e1]; omega⟩
theorem Pass.low' {x : Grid} (v : Valid x) {fr : Cel} (hf : InG x fr) {M0 M : List (List Int)} {r c k : Nat} {b : Bool} (h : Pass x fr M0 (seen x r c k) M b) (hc : InG x ⟨c, r⟩) (hk : k < (nbrs x ⟨c, r⟩).length) (hlt : tab M (nbrs x ⟨c, r⟩)[k] + stepI x ⟨c, r⟩ (nbrs x ⟨c, r⟩)[k] < tab M ⟨c, r⟩) : Pass x fr M0 (seen x r c (k + 1)) (setT M ⟨c, r⟩ (tab M (nbrs x ⟨c, r⟩)[k] + stepI x ⟨c, r⟩ (nbrs x ⟨c, r⟩)[k])) true := by
  obtain ⟨h1, h2⟩ := low_step v hf h.low hc (List.getElem_mem hk) hlt
  have := h.le
  exact ⟨h1, by omega, fun _ => by omega, fun e => (by cases e)⟩
theorem Pass.fixed {x : Grid} (v : Valid x) {fr : Cel} (hf : InG x fr) {M0 M : List (List Int)} (h : Pass x fr M0 (seen x x.rows.toNat 0 0) M false) : M = timesM x fr := by
  obtain ⟨e1, e2⟩ := h.st rfl
  refine low_end v hf h.low fun c n hc hn => ?_
  rw [e1]
  exact e2 c n hc hn (.inl (by obtain ⟨_, a, b⟩ := hc; omega))
end Go.Proofs.YtienhiloecfgnaaDoor
namespace Go.Proofs.YtienhiloecfgnaaDoor
open Go Go.RowKit Go.Proofs Go.Shelf Go.Ab
theorem matFacts {x : Grid} {M : List (List Int)} (sh : ShapeOk x M) {c : Cel} (hc : InG x c) : ∃ h : c.row.toNat < (M.map intsF).length, (M.map intsF)[c.row.toNat].length = x.tilt.length ∧ ((List.range (M.map intsF).length).map fun r => AV.ow (r + 100))[c.row.toNat * 1]? = some (.ow (c.row.toNat + 100)) ∧ (M.map intsF)[c.row.toNat][c.col.toNat * 1]? = some (iv (tab M c)) := by
  obtain ⟨h1, h2, h3⟩ := tab_at sh hc
  have h : c.row.toNat < (M.map intsF).length := by simpa using h1
  refine ⟨h, ?_, mOut_at h, ?_⟩
  · rw [List.getElem_map]; simpa [intsF] using sh.row _ (List.getElem_mem h1)
  · rw [List.getElem_map]; exact h3
theorem mLen {x : Grid} {M : List (List Int)} (sh : ShapeOk x M) : ((M.map intsF).length : Int) = x.rows := by rw [List.length_map]; exact sh.len
theorem setT_map {M : List (List Int)} {c : Cel} {t : Int} (h : c.row.toNat < (M.map intsF).length) : (setT M c t).map intsF = (M.map intsF).set c.row.toNat (Ab.setAt (M.map intsF)[c.row.toNat] (c.col.toNat * 1) [iv t]) := by
  have h1 : c.row.toNat < M.length := by simpa using h
  unfold setT
  rw [List.map_set, List.getD_eq_getElem?_getD, List.getElem?_eq_getElem h1, Option.getD_some, List.getElem_map, Nat.mul_one]
  congr 1
  show intsF (M[c.row.toNat].set c.col.toNat t) = (intsF M[c.row.toNat]).set c.col.toNat (iv t)
  unfold intsF; rw [List.map_set]
theorem matF_rows (M : List (List Int)) : FV.sl (M.map intsF).length (rowsF (M.map intsF)) = .sl M.length (matF M) := by
  unfold rowsF matF
  rw [List.length_map, List.map_map]
  congr 1
  refine List.map_congr_left fun r _ => ?_
  show FV.sl (intsF r).length (intsF r) = rowF r
  simp [rowF, intsF]
def rowB (_x : Grid) (j : Nat) : List FV := intsF (List.replicate j 1000000)
def rsB (x : Grid) (k : Nat) : List (List FV) := List.replicate k (rowB x x.tilt.length)
theorem rsB_succ (x : Grid) (k : Nat) : rsB x (k + 1) = rsB x k ++ [rowB x x.tilt.length] := List.replicate_succ'
theorem rsB_len (x : Grid) (k : Nat) : (rsB x k).length = k := by simp [rsB]
theorem rowB_len (x : Grid) (k : Nat) : (rowB x k).length = k := by simp [rowB, intsF]
theorem rowB_succ (x : Grid) (k : Nat) : rowB x (k + 1) = rowB x k ++ [iv 1000000] := by unfold rowB intsF; rw [List.replicate_succ', List.map_append]; rfl
theorem rsB_all (x : Grid) : rsB x x.rows.toNat = (List.replicate x.rows.toNat (List.replicate x.tilt.length (1000000 : Int))).map intsF := by unfold rsB rowB; rw [List.map_replicate]
theorem celsF_row {l : List Cel} {k : Nat} (h : k < l.length) : (celsF l)[k * 2 + 1]? = some (iv l[k].row) := by
  have := congrArg (fun z => z[1]?) (celsF_sub h)
  simpa [List.getElem?_take, List.getElem?_drop, celF] using this
theorem celsF_col {l : List Cel} {k : Nat} (h : k < l.length) : (celsF l)[k * 2 + 0]? = some (iv l[k].col) := by
  have := congrArg (fun z => z[0]?) (celsF_sub h)
  simpa [List.getElem?_take, List.getElem?_drop, celF] using this
set_option maxRecDepth 100000 in
set_option maxHeartbeats 4000000 in
theorem Times_s (x : Grid) (fr : Cel) (v : Valid x) (hf : InG x fr) : Summ Tryd.prog GG 62 [gridF x, .agg (celF fr)] (.sl (timesM x fr).length (matF (timesM x fr))) := by
  have r1 := v.r1
  have r12 := v.r12
  have t8 := v.t8
  refine summW Tryd.func62 rfl rfl 110 rfl (by simp) (fun M0 => ?_)
  repeat (first
    | (apply s_a TY; exact rfl)
    | apply w_seq
    | apply w_region
    | apply s_nil
    | apply t_norm
    | apply w_block)
  apply w_gh (gh_own 5 23 1 rfl rfl)
  apply w_gh (gh_rowA 0 rfl)
  apply w_loop (fun k : Nat => ⟨(Ab.upd (Ab.upd (Ab.upd (Ab.upd (fun _ => .bot) 2 (.f (.pt (gridL x) 0))) 3 (.f (.pt (celF fr) 0))) 5 (.ow 0)) 6 (.f (iv (k : Nat)))), (Ab.upd (mR 3 (rsB x k)) 0 (some (mOut 23 (rsB x k)))), 1⟩) (fun k => k ≤ x.rows.toNat) (fun k => x.rows.toNat - k) 0 (Nat.zero_le _) (gh_le ⟨le_upd rfl trivial (le_upd rfl rfl (le_upd rfl trivial (le_upd rfl trivial (le_nil _)))), le_hupd rfl mOut_cl0 (le_mR (fun r hr => absurd hr (Nat.not_lt_zero r)))⟩)
  intro k hk
  have hn := rsB_len x k
  by_cases hkc : k < x.rows.toNat
  · repeat (first
    | (apply s_a TY; exact rfl)
    | (apply s_t; exact rfl; (first | assumption | omega))
    | apply w_seq
    | apply w_region
    | apply s_nil
    | apply t_norm
    | apply w_block
    | apply w_skip
    | (apply w_condT; exact rfl; exact rfl))
    apply w_gh (gh_own 7 3 1 rfl rfl)
    apply w_loop (fun j : Nat => ⟨(Ab.upd (Ab.upd (Ab.upd (Ab.upd (Ab.upd (Ab.upd (fun _ => .bot) 2 (.f (.pt (gridL x) 0))) 3 (.f (.pt (celF fr) 0))) 5 (.ow 0)) 6 (.f (iv (k : Nat)))) 7 (.ow 1)) 8 (.f (iv (j : Nat)))), (Ab.upd (Ab.upd (mR 3 (rsB x k)) 0 (some (mOut 23 (rsB x k)))) 1 (some (.row 3 1 j (rowB x j)))), 2⟩) (fun j => j ≤ x.tilt.length) (fun j => x.tilt.length - j) 0 (Nat.zero_le _) (gh_le ⟨le_upd rfl trivial (le_upd rfl rfl (le_upd rfl trivial (le_upd rfl rfl (le_upd rfl trivial (le_upd rfl trivial (le_nil _)))))), le_hupd rfl trivial (le_hupd rfl mOut_cl1 (le_mR (fun r hr => by repeat (first | exact rfl | refine (upd_other _ _ (by omega)).trans ?_))))⟩)
    intro j hj
    by_cases hjc : j < x.tilt.length
    · repeat (first
    | (apply s_append TY; exact rfl; exact rfl; exact rfl; exact rfl; exact rfl; exact rfl; exact rfl; exact rfl; exact rfl; (unfold maxLen; omega); omega)
    | (apply s_a TY; exact rfl)
    | (apply s_t; exact rfl; (first | assumption | omega))
    | apply w_seq
    | apply w_region
    | apply s_nil
    | apply t_norm
    | apply k_norm
    | apply w_block
    | apply w_skip
    | (apply w_condT; exact rfl; exact rfl)
    | (apply s_c TY; exact rfl; (first | omega | exact ⟨by omega, by (first | with_reducible assumption | ((with_reducible apply intsF_ne); omega) | ((with_reducible apply matF_ne); omega) | ((with_reducible apply celsF_ne); omega))⟩)))
      exact ⟨j + 1, by omega, by omega, gh_le ⟨le_upd rfl trivial (le_upd rfl rfl (le_upd rfl trivial (le_upd rfl rfl (le_upd rfl trivial (le_upd rfl trivial (le_nil _)))))), le_hupd (congrArg (fun l => some (Blk.row 3 1 (j + 1) l)) (rowB_succ x j).symm) trivial (le_hupd (congrArg some (kill_out (by decide))) mOut_cl1 (le_mR (fun r hr => by show Option.map (killB 1) _ = _; refine kill_hi' hr ?_; repeat (first | exact rfl | refine (upd_other _ _ (by omega)).trans ?_))))⟩⟩
    · have hje : j = x.tilt.length := by omega
      subst hje
      repeat (first
    | (apply s_bsliceA TY; exact rfl; exact rfl; exact rfl; exact rfl; exact rfl; exact rfl)
    | (apply s_appendA TY; exact rfl; exact rfl; exact rfl; exact rfl; exact rfl; exact rfl; exact rfl; exact rfl; (unfold maxLen; omega); omega)
    | (apply s_a TY; exact rfl)
    | (apply s_f; exact rfl; (first | assumption | omega))
    | apply w_seq
    | apply w_region
    | apply s_nil
    | apply t_norm
    | apply t_exit
    | apply k_hit
    | apply k_norm
    | apply w_exit
    | (apply w_condF; exact rfl; exact rfl)
    | (apply s_c TY; exact rfl; (first | omega | exact ⟨by omega, by (first | with_reducible assumption | ((with_reducible apply intsF_ne); omega) | ((with_reducible apply matF_ne); omega) | ((with_reducible apply celsF_ne); omega))⟩)))
      refine ⟨k + 1, by omega, by omega, ?_⟩
      rw [rsB_succ]
      refine gh_trans (b := (⟨(Ab.upd (Ab.upd (Ab.upd (Ab.upd (fun _ => .bot) 2 (.f (.pt (gridL x) 0))) 3 (.f (.pt (celF fr) 0))) 5 (.ow 0)) 6 (.f (iv ((k + 1 : Nat) : Int)))), Ab.upd (Ab.upd (mR 3 (rsB x k)) 0 (some (.rowA 23 1 ((rsB x k).length + 1) ((List.range (rsB x k).length).map (fun r => AV.ow (r + 100)) ++ [AV.ow 1])))) 1 (some (.row 3 1 (rowB x x.tilt.length).length (rowB x x.tilt.length))), 1⟩ : Ab.St)) (gh_le ⟨le_upd rfl trivial (le_upd rfl rfl (le_upd rfl trivial (le_upd rfl trivial (le_nil _)))), le_hupd (congrArg (fun n => some (Blk.row 3 1 n (rowB x x.tilt.length))) (rowB_len x _).symm) trivial (le_hupd (congrArg (fun l => some (Blk.rowA 23 1 ((rsB x k).length + 1) l)) (kill_cells _)) mAdd_cl (le_mR (fun r hr => by show Option.map (killB 0) _ = _; refine kill_hi' hr ?_; repeat (first | exact rfl | refine (upd_other _ _ (by omega)).trans ?_))))⟩) (gh_addrow ((mv_upd rfl ((mv_upd rfl ((mv_upd rfl ((mv_upd rfl (mv_bot))))))))) (fun _ => rfl))
  · have hke : k = x.rows.toNat := by omega
    subst hke
    clear hn
    rw [rsB_all]
    have shM := rep_shape v
    have L0 := low_start v hf
    generalize List.replicate x.rows.toNat (List.replicate x.tilt.length (1000000 : Int)) = M at *
    obtain ⟨m1, ln1, oa1, ca1⟩ := matFacts shM hf
    have ra1 : (Ab.upd (mR 3 (M.map intsF)) 0 (some (mOut 23 (M.map intsF)))) (fr.row.toNat + 100) = some (.row 3 1 (M.map intsF)[fr.row.toNat].length (M.map intsF)[fr.row.toNat]) := (upd_other _ _ (by omega)).trans (mR_at m1)
    obtain ⟨⟨f0, f1⟩, f2, f3⟩ := id hf
    have hlen := mLen shM
    repeat (first
    | (apply s_ldA TY; exact rfl; exact rfl; exact rfl; exact rfl; exact rfl; exact oa1)
    | (apply s_idxR TY (i := (fr.row.toNat + 100)); exact rfl; exact rfl; exact rfl; exact rfl; exact ra1; exact rfl; omega; omega)
    | (apply s_storeR TY (i := (fr.row.toNat + 100)); exact rfl; exact ra1; exact rfl; exact rfl; exact rfl; (show _ + 1 ≤ _; omega))
    | (apply s_idxOA TY; exact rfl; exact rfl; exact rfl; exact rfl; exact rfl; exact rfl; omega; omega)
    | (apply s_a TY; exact rfl)
    | (apply s_f; exact rfl; (first | assumption | omega))
    | apply w_seq
    | apply w_region
    | (apply w_draw (id := 11) 7 rfl (by kernel_rfl))
    | apply s_nil
    | apply t_norm
    | apply t_exit
    | apply k_hit
    | apply w_block
    | apply w_exit
    | (apply w_condF; exact rfl; exact rfl))
    apply w_loop (fun p : List (List Int) × Bool => ⟨(Ab.upd (Ab.upd (Ab.upd (fun _ => .bot) 2 (.f (.pt (gridL x) 0))) 5 (.ow 0)) 9 (.f (bv p.2))), (Ab.upd (mR 3 (p.1.map intsF)) 0 (some (mOut 23 (p.1.map intsF)))), 1⟩) (fun p => Low x fr p.1 ∧ (p.2 = false → p.1 = timesM x fr)) (fun p => sumT p.1 * 2 + (if p.2 = true then 1 else 0)) (setT M fr 0, true) (⟨L0, fun e => by cases e⟩) ((by
            show Gh _ _ _ ⟨(Ab.upd (Ab.upd (Ab.upd (fun _ => .bot) 2 (.f (.pt (gridL x) 0))) 5 (.ow 0)) 9 (.f (bv true))), (Ab.upd (mR 3 ((setT M fr 0).map intsF)) 0 (some (mOut 23 ((setT M fr 0).map intsF)))), 1⟩
            rw [setT_map m1]
            exact gh_le ⟨le_upd rfl trivial (le_upd rfl rfl (le_upd rfl trivial (le_nil _))), le_hupd (by rw [mOut_set]; rfl) mOut_cl0 (le_mR (mR_set m1 (setAt_length _ _ _).symm (fun r hr => by repeat (first | exact rfl | refine (upd_other _ _ (by omega)).trans ?_))))⟩))
    clear L0 oa1 ra1 ca1 ln1 m1 hlen shM M
    rintro ⟨M, b⟩ ⟨hlow, hfix⟩
    show W _ _ _ _ ⟨(Ab.upd (Ab.upd (Ab.upd (fun _ => .bot) 2 (.f (.pt (gridL x) 0))) 5 (.ow 0)) 9 (.f (bv b))), (Ab.upd (mR 3 (M.map intsF)) 0 (some (mOut 23 (M.map intsF)))), 1⟩
    cases b
    · have e := hfix rfl
      simp only at e
      subst e
      repeat (first
    | (apply s_a TY; exact rfl)
    | apply w_seq
    | apply w_region
    | apply s_nil
    | apply t_norm
    | apply t_exit
    | apply k_hit
    | apply w_exit
    | apply w_ret
    | (apply w_condF; exact rfl; exact rfl))
      refine lv_ret (ret_gh (gh_trans (gh_toF (e := 3) (E := 23) (t := 4) (rs := (timesM x fr).map intsF) rfl rfl (fun r hr => by repeat (first | exact rfl | refine (upd_other _ _ (by omega)).trans ?_))) gh_mfrz) ?_)
      exact ret1 rfl (res_tmp (congrArg AV.f (matF_rows _)))
    repeat (first
    | (apply s_a TY; exact rfl)
    | apply w_seq
    | apply w_region
    | apply s_nil
    | apply t_norm
    | apply w_block
    | apply w_skip
    | (apply w_condT; exact rfl; exact rfl))
    apply w_loop (fun p : Nat × List (List Int) × Bool => ⟨(Ab.upd (Ab.upd (Ab.upd (Ab.upd (fun _ => .bot) 2 (.f (.pt (gridL x) 0))) 5 (.ow 0)) 9 (.f (bv p.2.2))) 10 (.f (iv (p.1 : Nat)))), (Ab.upd (mR 3 (p.2.1.map intsF)) 0 (some (mOut 23 (p.2.1.map intsF)))), 1⟩) (fun p => p.1 ≤ x.rows.toNat ∧ Pass x fr M (seen x p.1 0 0) p.2.1 p.2.2) (fun p => x.rows.toNat - p.1) (0, M, false) (⟨Nat.zero_le _, Pass.begin hlow⟩) (gh_le ⟨le_upd rfl trivial (le_upd rfl trivial (le_upd rfl rfl (le_upd rfl trivial (le_nil _)))), le_hupd rfl mOut_cl0 (le_mR (fun r hr => by repeat (first | exact rfl | refine (upd_other _ _ (by omega)).trans ?_)))⟩)
    rintro ⟨r, M1, b1⟩ ⟨hr, hp1⟩
    show W _ _ _ _ ⟨(Ab.upd (Ab.upd (Ab.upd (Ab.upd (fun _ => .bot) 2 (.f (.pt (gridL x) 0))) 5 (.ow 0)) 9 (.f (bv b1))) 10 (.f (iv (r : Nat)))), (Ab.upd (mR 3 (M1.map intsF)) 0 (some (mOut 23 (M1.map intsF)))), 1⟩
    simp only at hr hp1
    by_cases hrc : r < x.rows.toNat
    · repeat (first
    | (apply s_a TY; exact rfl)
    | (apply s_t; exact rfl; (first | assumption | omega))
    | apply w_seq
    | apply w_region
    | apply s_nil
    | apply t_norm
    | apply w_block
    | apply w_skip
    | (apply w_condT; exact rfl; exact rfl))
      apply w_loop (fun p : Nat × List (List Int) × Bool => ⟨(Ab.upd (Ab.upd (Ab.upd (Ab.upd (Ab.upd (fun _ => .bot) 2 (.f (.pt (gridL x) 0))) 5 (.ow 0)) 9 (.f (bv p.2.2))) 10 (.f (iv (r : Nat)))) 11 (.f (iv (p.1 : Nat)))), (Ab.upd (mR 3 (p.2.1.map intsF)) 0 (some (mOut 23 (p.2.1.map intsF)))), 1⟩) (fun p => p.1 ≤ x.tilt.length ∧ Pass x fr M (seen x r p.1 0) p.2.1 p.2.2) (fun p => x.tilt.length - p.1) (0, M1, b1) (⟨Nat.zero_le _, hp1⟩) (gh_le ⟨le_upd rfl trivial (le_upd rfl trivial (le_upd rfl trivial (le_upd rfl rfl (le_upd rfl trivial (le_nil _))))), le_hupd rfl mOut_cl0 (le_mR (fun r hr => by repeat (first | exact rfl | refine (upd_other _ _ (by omega)).trans ?_)))⟩)
      clear hp1
      rintro ⟨c, M2, b2⟩ ⟨hc, hp2⟩
      show W _ _ _ _ ⟨(Ab.upd (Ab.upd (Ab.upd (Ab.upd (Ab.upd (fun _ => .bot) 2 (.f (.pt (gridL x) 0))) 5 (.ow 0)) 9 (.f (bv b2))) 10 (.f (iv (r : Nat)))) 11 (.f (iv (c : Nat)))), (Ab.upd (mR 3 (M2.map intsF)) 0 (some (mOut 23 (M2.map intsF)))), 1⟩
      simp only at hc hp2
      by_cases hcc : c < x.tilt.length
      · have hin : InG x ⟨(c : Nat), (r : Nat)⟩ := ⟨⟨Int.natCast_nonneg _, by simp only; omega⟩, Int.natCast_nonneg _, by simp only; omega⟩
        have AR := around_s x ⟨(c : Nat), (r : Nat)⟩ v hin
        repeat (first
    | (apply s_a TY; exact rfl)
    | (apply s_t; exact rfl; (first | assumption | omega))
    | apply w_seq
    | apply w_region
    | apply s_nil
    | apply t_norm
    | apply w_block
    | apply w_skip
    | (apply w_condT; exact rfl; exact rfl)
    | (apply s_k (AR); exact rfl)
    | (apply s_alloc TY; exact rfl; exact rfl; exact rfl)
    | (apply s_store TY; exact rfl; exact rfl; exact rfl; exact rfl; exact rfl; exact rfl))
        apply w_loop (fun p : Nat × List (List Int) × Bool => ⟨(Ab.upd (Ab.upd (Ab.upd (Ab.upd (Ab.upd (Ab.upd (Ab.upd (Ab.upd (fun _ => .bot) 2 (.f (.pt (gridL x) 0))) 5 (.ow 0)) 9 (.f (bv p.2.2))) 10 (.f (iv (r : Nat)))) 11 (.f (iv (c : Nat)))) 12 (.bx 1 0)) 13 (.f (.sl (nbrs x ⟨(c : Nat), (r : Nat)⟩).length (celsF (nbrs x ⟨(c : Nat), (r : Nat)⟩))))) 14 (.f (iv (p.1 : Nat)))), (Ab.upd (Ab.upd (mR 3 (p.2.1.map intsF)) 0 (some (mOut 23 (p.2.1.map intsF)))) 1 (some (.box [.f (iv (c : Nat)), .f (iv (r : Nat))]))), 2⟩) (fun p => p.1 ≤ (nbrs x ⟨(c : Nat), (r : Nat)⟩).length ∧ Pass x fr M (seen x r c p.1) p.2.1 p.2.2) (fun p => (nbrs x ⟨(c : Nat), (r : Nat)⟩).length - p.1) (0, M2, b2) (⟨Nat.zero_le _, hp2⟩) (gh_le ⟨le_upd rfl trivial (le_upd rfl trivial (le_upd rfl rfl (le_upd rfl trivial (le_upd rfl trivial (le_upd rfl trivial (le_upd rfl rfl (le_upd rfl trivial (le_nil _)))))))), le_hupd rfl (fun y hy => by simp at hy; rcases hy with rfl | rfl <;> first | trivial | rfl) (le_hupd rfl mOut_cl1 (le_mR (fun r hr => by repeat (first | exact rfl | refine (upd_other _ _ (by omega)).trans ?_))))⟩)
        clear hp2
        rintro ⟨i, M3, b3⟩ ⟨hi, hp3⟩
        show W _ _ _ _ ⟨(Ab.upd (Ab.upd (Ab.upd (Ab.upd (Ab.upd (Ab.upd (Ab.upd (Ab.upd (fun _ => .bot) 2 (.f (.pt (gridL x) 0))) 5 (.ow 0)) 9 (.f (bv b3))) 10 (.f (iv (r : Nat)))) 11 (.f (iv (c : Nat)))) 12 (.bx 1 0)) 13 (.f (.sl (nbrs x ⟨(c : Nat), (r : Nat)⟩).length (celsF (nbrs x ⟨(c : Nat), (r : Nat)⟩))))) 14 (.f (iv (i : Nat)))), (Ab.upd (Ab.upd (mR 3 (M3.map intsF)) 0 (some (mOut 23 (M3.map intsF)))) 1 (some (.box [.f (iv (c : Nat)), .f (iv (r : Nat))]))), 2⟩
        simp only at hi hp3
        by_cases hic : i < (nbrs x ⟨(c : Nat), (r : Nat)⟩).length
        · have nin : InG x (nbrs x ⟨(c : Nat), (r : Nat)⟩)[i] := nbrs_in v (List.getElem_mem hic)
          have shM := hp3.low.sh
          have hlen := mLen shM
          obtain ⟨m1, ln1, oa1, ca1⟩ := matFacts shM nin
          have ra1 : (Ab.upd (Ab.upd (mR 3 (M3.map intsF)) 0 (some (mOut 23 (M3.map intsF)))) 1 (some (.box [.f (iv (c : Nat)), .f (iv (r : Nat))]))) ((nbrs x ⟨(c : Nat), (r : Nat)⟩)[i].row.toNat + 100) = some (.row 3 1 (M3.map intsF)[(nbrs x ⟨(c : Nat), (r : Nat)⟩)[i].row.toNat].length (M3.map intsF)[(nbrs x ⟨(c : Nat), (r : Nat)⟩)[i].row.toNat]) := (upd_other _ _ (by omega)).trans ((upd_other _ _ (by omega)).trans (mR_at m1))
          obtain ⟨m2, ln2, oa2, ca2⟩ := matFacts shM hin
          have ra2 : (Ab.upd (Ab.upd (mR 3 (M3.map intsF)) 0 (some (mOut 23 (M3.map intsF)))) 1 (some (.box [.f (iv (c : Nat)), .f (iv (r : Nat))]))) ((⟨(c : Nat), (r : Nat)⟩ : Cel).row.toNat + 100) = some (.row 3 1 (M3.map intsF)[(⟨(c : Nat), (r : Nat)⟩ : Cel).row.toNat].length (M3.map intsF)[(⟨(c : Nat), (r : Nat)⟩ : Cel).row.toNat]) := (upd_other _ _ (by omega)).trans ((upd_other _ _ (by omega)).trans (mR_at m2))
          have hnl := keepS_len x ⟨(c : Nat), (r : Nat)⟩ 4
          rw [keepS_all] at hnl
          have fc := celsF_col hic
          have fr' := celsF_row hic
          have SS := Step_s x ⟨(c : Nat), (r : Nat)⟩ (nbrs x ⟨(c : Nat), (r : Nat)⟩)[i] v hin nin
          have bd1 := hp3.low.bd _ nin
          have bd2 := hp3.low.bd _ hin
          have bd3 := stepI_bd v ⟨(c : Nat), (r : Nat)⟩ (nbrs x ⟨(c : Nat), (r : Nat)⟩)[i]
          have bd4 := (distOf_all v hf).1.nonneg _ nin
          obtain ⟨⟨g0, g1⟩, g2, g3⟩ := id nin
          by_cases hlt : tab M3 (nbrs x ⟨(c : Nat), (r : Nat)⟩)[i] + stepI x ⟨(c : Nat), (r : Nat)⟩ (nbrs x ⟨(c : Nat), (r : Nat)⟩)[i] < tab M3 ⟨(c : Nat), (r : Nat)⟩
          · repeat (first
    | (apply s_ldA TY; exact rfl; exact rfl; exact rfl; exact rfl; exact rfl; exact oa1)
    | (apply s_ldR TY (i := ((nbrs x ⟨(c : Nat), (r : Nat)⟩)[i].row.toNat + 100)); exact rfl; exact rfl; exact rfl; exact rfl; exact ra1; exact ca1)
    | (apply s_idxR TY (i := ((nbrs x ⟨(c : Nat), (r : Nat)⟩)[i].row.toNat + 100)); exact rfl; exact rfl; exact rfl; exact rfl; exact ra1; exact rfl; omega; omega)
    | (apply s_ldA TY; exact rfl; exact rfl; exact rfl; exact rfl; exact rfl; exact oa2)
    | (apply s_ldR TY (i := ((⟨(c : Nat), (r : Nat)⟩ : Cel).row.toNat + 100)); exact rfl; exact rfl; exact rfl; exact rfl; exact ra2; exact ca2)
    | (apply s_idxR TY (i := ((⟨(c : Nat), (r : Nat)⟩ : Cel).row.toNat + 100)); exact rfl; exact rfl; exact rfl; exact rfl; exact ra2; exact rfl; omega; omega)
    | (apply s_storeR TY (i := ((⟨(c : Nat), (r : Nat)⟩ : Cel).row.toNat + 100)); exact rfl; exact ra2; exact rfl; exact rfl; exact rfl; (show _ + 1 ≤ _; omega))
    | (apply s_idxOA TY; exact rfl; exact rfl; exact rfl; exact rfl; exact rfl; exact rfl; omega; omega)
    | (apply s_a TY; exact rfl)
    | (apply s_t; exact rfl; (first | assumption | omega))
    | apply w_seq
    | apply w_region
    | (apply w_draw (id := 26) 22 rfl (by kernel_rfl))
    | apply s_nil
    | apply t_norm
    | apply k_norm
    | apply w_block
    | apply w_skip
    | (apply w_condT; exact rfl; exact rfl)
    | (apply s_k (SS); exact rfl)
    | (apply s_c TY; exact rfl; (first | omega | exact ⟨by omega, by (first | with_reducible assumption | ((with_reducible apply intsF_ne); omega) | ((with_reducible apply matF_ne); omega) | ((with_reducible apply celsF_ne); omega))⟩))
    | (apply s_l TY; exact rfl; (first | exact rfl | with_reducible assumption | ((with_reducible apply intsF_at); omega) | ((with_reducible apply matF_at); omega) | assumption))
    | (apply s_m TY; exact rfl; (first | with_reducible assumption | ((with_reducible apply celsF_sub); omega) | exact rfl); exact rfl))
            exact ⟨(i + 1, setT M3 ⟨(c : Nat), (r : Nat)⟩ (tab M3 (nbrs x ⟨(c : Nat), (r : Nat)⟩)[i] + stepI x ⟨(c : Nat), (r : Nat)⟩ (nbrs x ⟨(c : Nat), (r : Nat)⟩)[i]), true), ⟨by simp only; omega, hp3.low' v hf hin hic hlt⟩, by simp only; omega, (by
            show Gh _ _ _ ⟨(Ab.upd (Ab.upd (Ab.upd (Ab.upd (Ab.upd (Ab.upd (Ab.upd (Ab.upd (fun _ => .bot) 2 (.f (.pt (gridL x) 0))) 5 (.ow 0)) 9 (.f (bv true))) 10 (.f (iv (r : Nat)))) 11 (.f (iv (c : Nat)))) 12 (.bx 1 0)) 13 (.f (.sl (nbrs x ⟨(c : Nat), (r : Nat)⟩).length (celsF (nbrs x ⟨(c : Nat), (r : Nat)⟩))))) 14 (.f (iv ((i + 1) : Nat)))), (Ab.upd (Ab.upd (mR 3 ((setT M3 ⟨(c : Nat), (r : Nat)⟩ (tab M3 (nbrs x ⟨(c : Nat), (r : Nat)⟩)[i] + stepI x ⟨(c : Nat), (r : Nat)⟩ (nbrs x ⟨(c : Nat), (r : Nat)⟩)[i])).map intsF)) 0 (some (mOut 23 ((setT M3 ⟨(c : Nat), (r : Nat)⟩ (tab M3 (nbrs x ⟨(c : Nat), (r : Nat)⟩)[i] + stepI x ⟨(c : Nat), (r : Nat)⟩ (nbrs x ⟨(c : Nat), (r : Nat)⟩)[i])).map intsF)))) 1 (some (.box [.f (iv (c : Nat)), .f (iv (r : Nat))]))), 2⟩
            rw [setT_map m2]
            exact gh_le ⟨le_upd rfl trivial (le_upd rfl trivial (le_upd rfl rfl (le_upd rfl trivial (le_upd rfl trivial (le_upd rfl trivial (le_upd rfl rfl (le_upd rfl trivial (le_nil _)))))))), le_hupd rfl (fun y hy => by simp at hy; rcases hy with rfl | rfl <;> first | trivial | rfl) (le_hupd (by rw [mOut_set]; rfl) mOut_cl1 (le_mR (mR_set m2 (setAt_length _ _ _).symm (fun r hr => by repeat (first | exact rfl | refine (upd_other _ _ (by omega)).trans ?_)))))⟩)⟩
          · repeat (first
    | (apply s_ldA TY; exact rfl; exact rfl; exact rfl; exact rfl; exact rfl; exact oa1)
    | (apply s_ldR TY (i := ((nbrs x ⟨(c : Nat), (r : Nat)⟩)[i].row.toNat + 100)); exact rfl; exact rfl; exact rfl; exact rfl; exact ra1; exact ca1)
    | (apply s_idxR TY (i := ((nbrs x ⟨(c : Nat), (r : Nat)⟩)[i].row.toNat + 100)); exact rfl; exact rfl; exact rfl; exact rfl; exact ra1; exact rfl; omega; omega)
    | (apply s_ldA TY; exact rfl; exact rfl; exact rfl; exact rfl; exact rfl; exact oa2)
    | (apply s_ldR TY (i := ((⟨(c : Nat), (r : Nat)⟩ : Cel).row.toNat + 100)); exact rfl; exact rfl; exact rfl; exact rfl; exact ra2; exact ca2)
    | (apply s_idxR TY (i := ((⟨(c : Nat), (r : Nat)⟩ : Cel).row.toNat + 100)); exact rfl; exact rfl; exact rfl; exact rfl; exact ra2; exact rfl; omega; omega)
    | (apply s_idxOA TY; exact rfl; exact rfl; exact rfl; exact rfl; exact rfl; exact rfl; omega; omega)
    | (apply s_a TY; exact rfl)
    | (apply s_t; exact rfl; (first | assumption | omega))
    | (apply s_f; exact rfl; (first | assumption | omega))
    | apply w_seq
    | apply w_region
    | (apply w_draw (id := 26) 22 rfl (by kernel_rfl))
    | apply s_nil
    | apply t_norm
    | apply k_norm
    | apply w_block
    | apply w_skip
    | (apply w_condT; exact rfl; exact rfl)
    | (apply w_condF; exact rfl; exact rfl)
    | (apply s_k (SS); exact rfl)
    | (apply s_c TY; exact rfl; (first | omega | exact ⟨by omega, by (first | with_reducible assumption | ((with_reducible apply intsF_ne); omega) | ((with_reducible apply matF_ne); omega) | ((with_reducible apply celsF_ne); omega))⟩))
    | (apply s_l TY; exact rfl; (first | exact rfl | with_reducible assumption | ((with_reducible apply intsF_at); omega) | ((with_reducible apply matF_at); omega) | assumption))
    | (apply s_m TY; exact rfl; (first | with_reducible assumption | ((with_reducible apply celsF_sub); omega) | exact rfl); exact rfl))
            exact ⟨(i + 1, M3, b3), ⟨by simp only; omega, hp3.keep hic hlt⟩, by simp only; omega, gh_le ⟨le_upd rfl trivial (le_upd rfl trivial (le_upd rfl rfl (le_upd rfl trivial (le_upd rfl trivial (le_upd rfl trivial (le_upd rfl rfl (le_upd rfl trivial (le_nil _)))))))), le_hupd rfl (fun y hy => by simp at hy; rcases hy with rfl | rfl <;> first | trivial | rfl) (le_hupd rfl mOut_cl1 (le_mR (fun r hr => by repeat (first | exact rfl | refine (upd_other _ _ (by omega)).trans ?_))))⟩⟩
        · have hie : i = (nbrs x ⟨(c : Nat), (r : Nat)⟩).length := by omega
          subst hie
          repeat (first
    | (apply s_a TY; exact rfl)
    | (apply s_f; exact rfl; (first | assumption | omega))
    | apply w_seq
    | apply w_region
    | apply s_nil
    | apply t_norm
    | apply t_exit
    | apply k_hit
    | apply k_norm
    | apply w_exit
    | (apply w_condF; exact rfl; exact rfl)
    | (apply s_c TY; exact rfl; (first | omega | exact ⟨by omega, by (first | with_reducible assumption | ((with_reducible apply intsF_ne); omega) | ((with_reducible apply matF_ne); omega) | ((with_reducible apply celsF_ne); omega))⟩)))
          exact ⟨(c + 1, M3, b3), ⟨by simp only; omega, hp3.col⟩, by simp only; omega, gh_le ⟨le_upd rfl trivial (le_upd rfl trivial (le_upd rfl trivial (le_upd rfl rfl (le_upd rfl trivial (le_nil _))))), le_hupd rfl mOut_cl0 (le_mR (fun r hr => by repeat (first | exact rfl | refine (upd_other _ _ (by omega)).trans ?_)))⟩⟩
      · have hce : c = x.tilt.length := by omega
        subst hce
        repeat (first
    | (apply s_a TY; exact rfl)
    | (apply s_f; exact rfl; (first | assumption | omega))
    | apply w_seq
    | apply w_region
    | apply s_nil
    | apply t_norm
    | apply t_exit
    | apply k_hit
    | apply k_norm
    | apply w_exit
    | (apply w_condF; exact rfl; exact rfl)
    | (apply s_c TY; exact rfl; (first | omega | exact ⟨by omega, by (first | with_reducible assumption | ((with_reducible apply intsF_ne); omega) | ((with_reducible apply matF_ne); omega) | ((with_reducible apply celsF_ne); omega))⟩)))
        exact ⟨(r + 1, M2, b2), ⟨by simp only; omega, hp2.row⟩, by simp only; omega, gh_le ⟨le_upd rfl trivial (le_upd rfl trivial (le_upd rfl rfl (le_upd rfl trivial (le_nil _)))), le_hupd rfl mOut_cl0 (le_mR (fun r hr => by repeat (first | exact rfl | refine (upd_other _ _ (by omega)).trans ?_)))⟩⟩
    · have hre : r = x.rows.toNat := by omega
      subst hre
      repeat (first
    | (apply s_a TY; exact rfl)
    | (apply s_f; exact rfl; (first | assumption | omega))
    | apply w_seq
    | apply w_region
    | apply s_nil
    | apply t_norm
    | apply t_exit
    | apply k_hit
    | apply k_norm
    | apply w_exit
    | (apply w_condF; exact rfl; exact rfl))
      exact ⟨(M1, b1), ⟨hp1.low, fun e => by simp only at e; subst e; exact hp1.fixed v hf⟩, by
        have h1 := hp1.le
        cases b1
        · simp; omega
        · have h2 := hp1.lt rfl
          simp; omega, gh_le ⟨le_upd rfl trivial (le_upd rfl rfl (le_upd rfl trivial (le_nil _))), le_hupd rfl mOut_cl0 (le_mR (fun r hr => by repeat (first | exact rfl | refine (upd_other _ _ (by omega)).trans ?_)))⟩⟩
end Go.Proofs.YtienhiloecfgnaaDoor
namespace Go.Proofs.YtienhiloecfgnaaDoor
open Go Go.RowKit Go.Proofs Go.Shelf Go.Ab
set_option maxRecDepth 100000 in
set_option maxHeartbeats 1000000 in
theorem Explains_s (x : Grid) (rs : List Rng) (ds : List Int) (f : Flash) (v : Valid x) (hd : ds.length = x.layers.length) (vy : Valid (own x ds)) (hf : InG x f.frm) (ht : InG x f.to) : Summ Tryd.prog GG 99 [classF x rs, .sl ds.length (intsF ds), .agg (flaF f)] (bv (withinB (distOf (own x ds) f.frm f.to) f.time.lo f.time.hi)) := by
  have l1 := v.l1
  have l6 := v.l6
  have t8 := v.t8
  have WS := With_s x ds l1 (by omega) (by omega) hd
  have hf' : InG (own x ds) f.frm := hf
  have ht' : InG (own x ds) f.to := ht
  have TS := Times_s (own x ds) f.frm vy hf'
  have sh := timesM_shape vy f.frm
  have hl := sh.len
  obtain ⟨q1, q2, qa⟩ := tab_at sh ht'
  rw [tab_timesM ht'] at qa
  obtain ⟨⟨g0, g1⟩, g2, g3⟩ := id ht'
  have WI := Within_s (distOf (own x ds) f.frm f.to) f.time.lo f.time.hi
  refine summW Tryd.func99 rfl rfl 31 rfl (by simp) (fun M0 => ?_)
  repeat (first
    | (apply s_a TY; exact rfl)
    | apply w_seq
    | apply w_region
    | (apply w_draw (id := 1) 23 rfl (by kernel_rfl))
    | apply s_nil
    | apply t_norm
    | apply w_ret
    | (apply s_k (WS); exact rfl)
    | (apply s_k (TS); exact rfl)
    | (apply s_k (WI); exact rfl)
    | (apply s_z TY; exact rfl; (first | omega | exact ⟨by omega, by (first | with_reducible assumption | ((with_reducible apply intsF_ne); omega) | ((with_reducible apply matF_ne); omega) | assumption)⟩))
    | (apply s_l TY; exact rfl; (first | exact rfl | with_reducible assumption | ((with_reducible apply intsF_at); omega) | ((with_reducible apply matF_at); omega) | assumption)))
  exact lv_ret (ret1 rfl (res_tmp rfl))
end Go.Proofs.YtienhiloecfgnaaDoor
namespace Go.Proofs.YtienhiloecfgnaaDoor
open Go Go.RowKit Go.Proofs Go.Shelf Go.Ab
theorem assigns_snoc (r : Rng) : ∀ (rs : List Rng) (pre : List Int), assigns (rs ++ [r]) pre = (assigns rs pre).flatMap fun p => (upTo r.lo r.hi).map fun d => p ++ [d]
  | [], pre => by
    simp only [List.nil_append, assigns, List.flatMap_cons, List.flatMap_nil, List.append_nil]
    rw [← map_flat]
  | q :: rs, pre => by
    simp only [List.cons_append, assigns, List.flatMap_assoc]
    congr 1
    funext n
    exact assigns_snoc r rs _
theorem assigns_snoc_len (r : Rng) (rs : List Rng) (pre : List Int) : (assigns (rs ++ [r]) pre).length = (assigns rs pre).length * (r.hi + 1 - r.lo).toNat := by
  rw [assigns_snoc, List.length_flatMap]
  simp only [List.length_map, upTo_len]
  generalize assigns rs pre = A
  induction A with
  | nil => simp
  | cons x A ih => simp [ih, Nat.add_mul]; omega
def lev (rs : List Rng) (i : Nat) : List (List Int) := assigns (rs.take i) []
theorem lev_all (rs : List Rng) : lev rs rs.length = assigns rs [] := by unfold lev; rw [List.take_length]
theorem lev_succ {rs : List Rng} {i : Nat} (h : i < rs.length) : lev rs (i + 1) = (lev rs i).flatMap fun p => (upTo rs[i].lo rs[i].hi).map fun d => p ++ [d] := by
  unfold lev; rw [List.take_succ_eq_append_getElem h, assigns_snoc]
theorem lev_len {rs : List Rng} (hr : ∀ r ∈ rs, 1 ≤ r.lo ∧ r.lo ≤ r.hi ∧ r.hi ≤ 1000) {i : Nat} (h : i < rs.length) : (lev rs i).length ≤ (lev rs (i + 1)).length := by
  unfold lev; rw [List.take_succ_eq_append_getElem h, assigns_snoc_len]
  have := hr rs[i] (List.getElem_mem h)
  have h1 : 1 ≤ (rs[i].hi + 1 - rs[i].lo).toNat := by omega
  calc (assigns (rs.take i) []).length = (assigns (rs.take i) []).length * 1 := (Nat.mul_one _).symm
    _ ≤ _ := Nat.mul_le_mul_left _ h1
theorem lev_mono {rs : List Rng} (hr : ∀ r ∈ rs, 1 ≤ r.lo ∧ r.lo ≤ r.hi ∧ r.hi ≤ 1000) : ∀ (n i : Nat), i + n = rs.length → (lev rs i).length ≤ (assigns rs []).length
  | 0, i, h => by rw [← lev_all rs, ← h]; exact Nat.le_refl _
  | n + 1, i, h => Nat.le_trans (lev_len hr (by omega)) (lev_mono hr n (i + 1) (by omega))
theorem lev_row {rs : List Rng} : ∀ {i : Nat}, i ≤ rs.length → ∀ p ∈ lev rs i, p.length = i
  | 0, _, p, hp => by
    have : p = [] := by simpa [lev, assigns] using hp
    rw [this]; rfl
  | i + 1, h, p, hp => by
    rw [lev_succ (by omega)] at hp
    obtain ⟨q, hq, hp⟩ := List.mem_flatMap.1 hp
    obtain ⟨d, _, rfl⟩ := List.mem_map.1 hp
    rw [List.length_append, lev_row (by omega) q hq]; rfl
def mid (M : List (List Int)) (lo hi : Int) (k j : Nat) : List (List Int) := ((M.take k).flatMap fun p => (upTo lo hi).map fun d => p ++ [d]) ++ ((upTo lo hi).take j).map fun d => M.getD k [] ++ [d]
theorem mid_zero (M : List (List Int)) (lo hi : Int) : mid M lo hi 0 0 = [] := by simp [mid]
theorem mid_next {M : List (List Int)} {lo hi : Int} {k j : Nat} (hk : k < M.length) (hj : j < (hi + 1 - lo).toNat) : mid M lo hi k (j + 1) = mid M lo hi k j ++ [M[k] ++ [lo + j]] := by
  have h1 : j < (upTo lo hi).length := by rw [upTo_len]; exact hj
  unfold mid
  rw [List.take_succ_eq_append_getElem h1, List.map_append, ← List.append_assoc, List.getD_eq_getElem?_getD, List.getElem?_eq_getElem hk, Option.getD_some]
  simp [upTo]
theorem mid_row {M : List (List Int)} {lo hi : Int} {k : Nat} (hk : k < M.length) : mid M lo hi (k + 1) 0 = mid M lo hi k (hi + 1 - lo).toNat := by
  unfold mid
  rw [List.take_succ_eq_append_getElem hk, List.flatMap_append, List.take_zero, List.map_nil, List.append_nil, ← upTo_len lo hi, List.take_length, List.getD_eq_getElem?_getD, List.getElem?_eq_getElem hk, Option.getD_some]
  simp
theorem mid_all (M : List (List Int)) (lo hi : Int) : mid M lo hi M.length 0 = M.flatMap fun p => (upTo lo hi).map fun d => p ++ [d] := by simp [mid]
theorem mid_len (M : List (List Int)) (lo hi : Int) {k j : Nat} (hk : k ≤ M.length) (hj : j ≤ (hi + 1 - lo).toNat) : (mid M lo hi k j).length = k * (hi + 1 - lo).toNat + j := by
  unfold mid
  rw [List.length_append, List.length_flatMap, List.length_map, List.length_take, upTo_len, Nat.min_eq_left hj]
  simp only [List.length_map, upTo_len]
  have : ((M.take k).map fun _ : List Int => (hi + 1 - lo).toNat).sum = (M.take k).length * (hi + 1 - lo).toNat := by
    generalize M.take k = A
    induction A with
    | nil => simp
    | cons x A ih => simp [ih, Nat.add_mul]; omega
  rw [this, List.length_take, Nat.min_eq_left hk]
theorem gh_sub {C : Ctx} {n : Nat} {st : Ab.St} (t : Nat) {x y : FV} (ht : st.s t = .f x) (h : ∀ w M v, RepF w M v x → RepF w M v y) : Gh C n st { st with s := Ab.upd st.s t (.f y) } := fun w0 a w ⟨J, S⟩ => ⟨J, S.ext, S.size, S.defs, fun u => by
    by_cases e : u = t
    · subst e; have := S.slot u; rw [ht] at this; simp only [upd_same]; exact h _ _ _ this
    · simp only [upd_other _ _ e]; exact S.slot u, S.blk, S.apart, S.old, S.glob, S.fix⟩
theorem rep_one_nil {w : World} {M : Nat → Prop} {v : Value} (h : RepF w M v (.sl 1 [.v (.slice none 0 0)])) : RepF w M v (.sl 1 (matF [[]])) := by
  cases h with
  | sl a _ c _ us h1 h2 h3 h4 h5 => exact RepF.sl a 1 c _ us h1 h2 h3 h4 (fun k u x a b => by
      cases k with
      | zero => simp [matF, rowF, intsF] at b; subst b; exact rep_nil (h5 0 u _ a rfl)
      | succ k => simp [matF] at b)
theorem rngsF_lo {l : List Rng} {k : Nat} (h : k < l.length) : (rngsF l)[k * 2 + 0]? = some (iv l[k].lo) := by
  have := congrArg (fun z => z[0]?) (flat_sub (f := rngF) (s := 2) (fun _ => rfl) h)
  simpa [List.getElem?_take, List.getElem?_drop, rngF, rngsF] using this
theorem rngsF_hi {l : List Rng} {k : Nat} (h : k < l.length) : (rngsF l)[k * 2 + 1]? = some (iv l[k].hi) := by
  have := congrArg (fun z => z[1]?) (flat_sub (f := rngF) (s := 2) (fun _ => rfl) h)
  simpa [List.getElem?_take, List.getElem?_drop, rngF, rngsF] using this
set_option maxRecDepth 100000 in
set_option maxHeartbeats 2000000 in
theorem All_s (x : Grid) (rs : List Rng) (h8 : rs.length ≤ 8) (hr : ∀ r ∈ rs, 1 ≤ r.lo ∧ r.lo ≤ r.hi ∧ r.hi ≤ 1000) (hc : (assigns rs []).length ≤ 300) : Summ Tryd.prog GG 88 [classF x rs] (.sl (assigns rs []).length (matF (assigns rs []))) := by
  refine summW Tryd.func88 rfl rfl 51 rfl (by simp) (fun M0 => ?_)
  repeat (first
    | (apply s_a TY; exact rfl)
    | apply w_seq
    | apply w_region
    | apply s_nil
    | apply t_norm
    | apply w_block)
  apply w_gh (gh_sub 3 rfl (fun _ _ _ => rep_one_nil))
  apply w_loop (fun i : Nat => ⟨(Ab.upd (Ab.upd (Ab.upd (fun _ => .bot) 1 (.f (.pt (classL x rs) 0))) 3 (.f (.sl (lev rs i).length (matF (lev rs i))))) 4 (.f (iv (i : Nat)))), (fun _ => none), 0⟩) (fun i => i ≤ rs.length) (fun i => rs.length - i) 0 (Nat.zero_le _) (gh_le ⟨le_upd rfl trivial (le_upd rfl trivial (le_upd rfl trivial (le_nil _))), le_h0 _ _⟩)
  intro i hi
  by_cases hic : i < rs.length
  · have hb := hr rs[i] (List.getElem_mem hic)
    have hl1 := lev_mono hr (rs.length - (i + 1)) (i + 1) (by omega)
    have hl0 := lev_len hr hic
    have fl := rngsF_lo hic
    have fh := rngsF_hi hic
    have hmax : ∀ k j, k ≤ (lev rs i).length → j ≤ (rs[i].hi + 1 - rs[i].lo).toNat → k < (lev rs i).length ∨ j = 0 → (mid (lev rs i) rs[i].lo rs[i].hi k j).length ≤ 300 := fun k j hk hj hkj => by
      rw [mid_len _ _ _ hk hj]
      have h1 : (lev rs (i + 1)).length = (lev rs i).length * (rs[i].hi + 1 - rs[i].lo).toNat := by rw [lev_succ hic, ← mid_all, mid_len _ _ _ (Nat.le_refl _) (Nat.zero_le _)]; omega
      have h2 : k * (rs[i].hi + 1 - rs[i].lo).toNat + j ≤ (lev rs i).length * (rs[i].hi + 1 - rs[i].lo).toNat := by
        rcases hkj with h | h
        · calc _ ≤ k * (rs[i].hi + 1 - rs[i].lo).toNat + (rs[i].hi + 1 - rs[i].lo).toNat := Nat.add_le_add_left hj _
            _ = (k + 1) * (rs[i].hi + 1 - rs[i].lo).toNat := by rw [Nat.add_mul, Nat.one_mul]
            _ ≤ _ := Nat.mul_le_mul_right _ h
        · rw [h, Nat.add_zero]; exact Nat.mul_le_mul_right _ hk
      omega
    repeat (first
    | (apply s_a TY; exact rfl)
    | (apply s_t; exact rfl; (first | assumption | omega))
    | apply w_seq
    | apply w_region
    | apply s_nil
    | apply t_norm
    | apply w_block
    | apply w_skip
    | (apply w_condT; exact rfl; exact rfl))
    apply w_gh (gh_own 5 23 1 rfl rfl)
    apply w_loop (fun k : Nat => ⟨(Ab.upd (Ab.upd (Ab.upd (Ab.upd (Ab.upd (fun _ => .bot) 1 (.f (.pt (classL x rs) 0))) 3 (.f (.sl (lev rs i).length (matF (lev rs i))))) 4 (.f (iv (i : Nat)))) 5 (.ow 0)) 6 (.f (iv (k : Nat)))), (Ab.upd (fun _ => none) 0 (some (.row 23 1 (mid (lev rs i) rs[i].lo rs[i].hi k 0).length (matF (mid (lev rs i) rs[i].lo rs[i].hi k 0))))), 1⟩) (fun k => k ≤ (lev rs i).length) (fun k => (lev rs i).length - k) 0 (Nat.zero_le _) (gh_le ⟨le_upd rfl trivial (le_upd rfl rfl (le_upd rfl trivial (le_upd rfl trivial (le_upd rfl trivial (le_nil _))))), le_hupd (by rw [mid_zero]; rfl) trivial (le_h0 _ _)⟩)
    intro k hk
    by_cases hkc : k < (lev rs i).length
    · repeat (first
    | (apply s_a TY; exact rfl)
    | (apply s_t; exact rfl; (first | assumption | omega))
    | apply w_seq
    | apply w_region
    | apply s_nil
    | apply t_norm
    | apply w_block
    | apply w_skip
    | (apply w_condT; exact rfl; exact rfl)
    | (apply s_c TY; exact rfl; (first | omega | exact ⟨by omega, by (first | with_reducible assumption | ((with_reducible apply matF_ne); omega) | ((with_reducible apply rngsF_ne); omega) | assumption)⟩))
    | (apply s_l TY; exact rfl; (first | exact rfl | with_reducible assumption | ((with_reducible apply matF_at); omega) | assumption)))
      apply w_loop (fun j : Nat => ⟨(Ab.upd (Ab.upd (Ab.upd (Ab.upd (Ab.upd (Ab.upd (fun _ => .bot) 1 (.f (.pt (classL x rs) 0))) 3 (.f (.sl (lev rs i).length (matF (lev rs i))))) 4 (.f (iv (i : Nat)))) 5 (.ow 0)) 6 (.f (iv (k : Nat)))) 7 (.f (iv (rs[i].lo + (j : Nat))))), (Ab.upd (fun _ => none) 0 (some (.row 23 1 (mid (lev rs i) rs[i].lo rs[i].hi k j).length (matF (mid (lev rs i) rs[i].lo rs[i].hi k j))))), 1⟩) (fun j => j ≤ (rs[i].hi + 1 - rs[i].lo).toNat) (fun j => (rs[i].hi + 1 - rs[i].lo).toNat - j) 0 (Nat.zero_le _) (gh_le ⟨le_upd (congrArg (fun z => AV.f (iv z)) (Int.add_zero _)) trivial (le_upd rfl trivial (le_upd rfl rfl (le_upd rfl trivial (le_upd rfl trivial (le_upd rfl trivial (le_nil _)))))), le_hupd rfl trivial (le_h0 _ _)⟩)
      intro j hj
      by_cases hjc : j < (rs[i].hi + 1 - rs[i].lo).toNat
      · have hrow := lev_row (Nat.le_of_lt hic) _ (List.getElem_mem hkc)
        have CN := CopyInts_n (lev rs i)[k] (by omega)
        have hm := hmax k j hk hj (.inl hkc)
        repeat (first
    | (apply s_callN CN; exact rfl; exact rfl; exact rfl; exact rfl; exact rfl)
    | (apply s_append TY; exact rfl; exact rfl; exact rfl; exact rfl; exact rfl; exact rfl; exact rfl; exact rfl; exact rfl; (unfold maxLen; omega); omega)
    | (apply s_a TY; exact rfl)
    | (apply s_t; exact rfl; (first | assumption | omega))
    | apply w_seq
    | apply w_region
    | apply s_nil
    | apply t_norm
    | apply w_block
    | apply w_skip
    | (apply w_condT; exact rfl; exact rfl)
    | (apply s_c TY; exact rfl; (first | omega | exact ⟨by omega, by (first | with_reducible assumption | ((with_reducible apply matF_ne); omega) | ((with_reducible apply rngsF_ne); omega) | assumption)⟩))
    | (apply s_l TY; exact rfl; (first | exact rfl | with_reducible assumption | ((with_reducible apply matF_at); omega) | assumption)))
        refine s_ghost rfl (gh_row 1 rfl) ?_
        repeat (first
    | (apply s_append TY; exact rfl; exact rfl; exact rfl; exact rfl; exact rfl; exact rfl; exact rfl; exact rfl; exact rfl; (unfold maxLen; omega); omega)
    | (apply s_a TY; exact rfl)
    | apply w_region
    | apply s_nil
    | apply t_norm
    | apply k_norm
    | (apply s_c TY; exact rfl; (first | omega | exact ⟨by omega, by (first | with_reducible assumption | ((with_reducible apply matF_ne); omega) | ((with_reducible apply rngsF_ne); omega) | assumption)⟩)))
        exact ⟨j + 1, by omega, by omega, gh_le ⟨le_upd (congrArg (fun z => AV.f (iv z)) (by omega)) trivial (le_upd rfl trivial (le_upd rfl rfl (le_upd rfl trivial (le_upd rfl trivial (le_upd rfl trivial (le_nil _)))))), le_hupd (by rw [mid_next hkc hjc]; simp [matF, rowF, intsF]; rfl) trivial (le_h0 _ _)⟩⟩
      · have hje : j = (rs[i].hi + 1 - rs[i].lo).toNat := by omega
        subst hje
        repeat (first
    | (apply s_a TY; exact rfl)
    | (apply s_f; exact rfl; (first | assumption | omega))
    | apply w_seq
    | apply w_region
    | apply s_nil
    | apply t_norm
    | apply t_exit
    | apply k_hit
    | apply k_norm
    | apply w_exit
    | (apply w_condF; exact rfl; exact rfl)
    | (apply s_c TY; exact rfl; (first | omega | exact ⟨by omega, by (first | with_reducible assumption | ((with_reducible apply matF_ne); omega) | ((with_reducible apply rngsF_ne); omega) | assumption)⟩))
    | (apply s_l TY; exact rfl; (first | exact rfl | with_reducible assumption | ((with_reducible apply matF_at); omega) | assumption)))
        exact ⟨k + 1, by omega, by omega, gh_le ⟨le_upd rfl trivial (le_upd rfl rfl (le_upd rfl trivial (le_upd rfl trivial (le_upd rfl trivial (le_nil _))))), le_hupd (congrArg (fun l : List (List Int) => some (Blk.row 23 1 l.length (matF l))) (mid_row hkc)).symm trivial (le_h0 _ _)⟩⟩
    · have hke : k = (lev rs i).length := by omega
      subst hke
      repeat (first
    | (apply s_a TY; exact rfl)
    | (apply s_f; exact rfl; (first | assumption | omega))
    | apply w_seq
    | apply w_region
    | apply s_nil
    | apply t_norm
    | apply t_exit
    | apply k_hit
    | apply k_norm
    | apply w_exit
    | (apply w_condF; exact rfl; exact rfl)
    | (apply s_c TY; exact rfl; (first | omega | exact ⟨by omega, by (first | with_reducible assumption | ((with_reducible apply matF_ne); omega) | ((with_reducible apply rngsF_ne); omega) | assumption)⟩)))
      exact ⟨i + 1, by omega, by omega, gh_trans (gh_row 0 rfl) (gh_le ⟨le_upd rfl trivial (le_upd (congrArg (fun l : List (List Int) => AV.f (.sl l.length (matF l))) ((lev_succ hic).trans (mid_all _ _ _).symm)) trivial (le_upd rfl trivial (le_nil _))), le_h0 _ _⟩)⟩
  · have hie : i = rs.length := by omega
    subst hie
    repeat (first
    | (apply s_a TY; exact rfl)
    | (apply s_f; exact rfl; (first | assumption | omega))
    | apply w_seq
    | apply w_region
    | apply s_nil
    | apply t_norm
    | apply t_exit
    | apply k_hit
    | apply w_exit
    | apply w_ret
    | (apply w_condF; exact rfl; exact rfl))
    exact lv_ret (ret1 rfl (res_tmp (congrArg (fun l : List (List Int) => AV.f (.sl l.length (matF l))) (lev_all rs))))
end Go.Proofs.YtienhiloecfgnaaDoor
namespace Go.Proofs.YtienhiloecfgnaaDoor
open Go Go.RowKit Go.Proofs Go.Shelf Go.Ab
noncomputable def expB (x : Grid) (ds : List Int) (f : Flash) : Bool := withinB (distOf (own x ds) f.frm f.to) f.time.lo f.time.hi
theorem models_eq (x : Grid) (rs : List Rng) (l : List Flash) : modelsM x rs l = (assigns rs []).filter fun ds => l.all (expB x ds) := by
  unfold modelsM fits allMo news
  rw [List.filter_map, List.map_map]
  have e1 : ((fun m : List Int × List Bool => !m.2.any fun b => false == b) ∘ mo x l) = fun ds => l.all (expB x ds) := by
    funext ds
    simp only [Function.comp, mo, explains, List.any_map]
    rw [Bool.eq_iff_iff]
    simp [expB, List.all_eq_true, List.any_eq_false]
  have e2 : ((fun m : List Int × List Bool => m.1) ∘ mo x l) = id := by funext ds; rfl
  rw [e1]
  show List.map ((fun m : List Int × List Bool => m.1) ∘ mo x l) _ = _
  rw [e2, List.map_id]
noncomputable def keepM (x : Grid) (rs : List Rng) (l : List Flash) (i : Nat) : List (List Int) := ((assigns rs []).take i).filter fun ds => l.all (expB x ds)
theorem keepM_succ {x : Grid} {rs : List Rng} {l : List Flash} {i : Nat} (h : i < (assigns rs []).length) : keepM x rs l (i + 1) = keepM x rs l i ++ (if l.all (expB x (assigns rs [])[i]) = true then [(assigns rs [])[i]] else []) := by
  unfold keepM
  rw [List.take_succ_eq_append_getElem h, List.filter_append]
  congr 1
  by_cases h2 : l.all (expB x (assigns rs [])[i]) = true
  · rw [if_pos h2]; simp only [List.filter, h2]
  · rw [if_neg h2]; simp only [List.filter, h2]
theorem keepM_all (x : Grid) (rs : List Rng) (l : List Flash) : keepM x rs l (assigns rs []).length = modelsM x rs l := by
  unfold keepM; rw [List.take_length, models_eq]
theorem keepM_len (x : Grid) (rs : List Rng) (l : List Flash) (i : Nat) : (keepM x rs l i).length ≤ (assigns rs []).length := by
  unfold keepM
  refine Nat.le_trans (List.length_filter_le _ _) ?_
  rw [List.length_take]; exact Nat.min_le_right _ _
theorem all_succ {α : Type} {p : α → Bool} {l : List α} {k : Nat} (h : k < l.length) : (l.take (k + 1)).all p = ((l.take k).all p && p l[k]) := by
  rw [List.take_succ_eq_append_getElem h, List.all_append]; simp
theorem row_app23 (M : List (List Int)) (r : List Int) : some (Blk.row 23 1 (M ++ [r]).length (matF (M ++ [r]))) = some (Blk.row 23 1 (M.length + 1) (matF M ++ [rowF r])) := by
  rw [matF_snoc, List.length_append]; rfl
set_option maxRecDepth 100000 in
set_option maxHeartbeats 2000000 in
theorem Models_s (x : Grid) (rs : List Rng) (l : List Flash) (K : FlashesOk x rs l) : Summ Tryd.prog GG 32 [classF x rs, .sl l.length (flasF l)] (.sl (modelsM x rs l).length (matF (modelsM x rs l))) := by
  have v := K.k.v
  have hl := K.k.len
  have h8 := K.l8
  have hcnt := K.k.cnt
  have l6 := v.l6
  have AL := All_s x rs (by omega) K.k.rng K.k.cnt
  refine summW Tryd.func32 rfl rfl 46 rfl (by simp) (fun M0 => ?_)
  repeat (first
    | (apply s_a TY; exact rfl)
    | apply w_seq
    | apply w_region
    | apply s_nil
    | apply t_norm
    | apply w_block
    | (apply s_k (AL); exact rfl))
  apply w_gh (gh_own 6 23 1 rfl rfl)
  apply w_loop (fun i : Nat => ⟨(Ab.upd (Ab.upd (Ab.upd (Ab.upd (Ab.upd (fun _ => .bot) 1 (.f (.sl l.length (flasF l)))) 2 (.f (.pt (classL x rs) 0))) 5 (.f (.sl (assigns rs []).length (matF (assigns rs []))))) 6 (.ow 0)) 7 (.f (iv (i : Nat)))), (Ab.upd (fun _ => none) 0 (some (.row 23 1 (keepM x rs l i).length (matF (keepM x rs l i))))), 1⟩) (fun i => i ≤ (assigns rs []).length) (fun i => (assigns rs []).length - i) 0 (Nat.zero_le _) (gh_le ⟨le_upd rfl trivial (le_upd rfl rfl (le_upd rfl trivial (le_upd rfl trivial (le_upd rfl trivial (le_nil _))))), le_hupd rfl trivial (le_h0 _ _)⟩)
  intro i hi
  have hkl := keepM_len x rs l i
  by_cases hic : i < (assigns rs []).length
  · have hmem := List.getElem_mem hic
    have hrow := assigns_rows rs [] _ hmem
    have hbd := assigns_bd rs [] _ K.k.rng (fun _ h => by cases h) hmem
    have vy : Valid (own x (assigns rs [])[i]) := own_valid v hbd
    have hd : (assigns rs [])[i].length = x.layers.length := by rw [hrow, ← hl]; simp
    repeat (first
    | (apply s_a TY; exact rfl)
    | (apply s_t; exact rfl; (first | assumption | omega))
    | apply w_seq
    | apply w_region
    | apply s_nil
    | apply t_norm
    | apply w_block
    | apply w_skip
    | (apply w_condT; exact rfl; exact rfl))
    apply w_loop (fun p : Nat × Bool => ⟨(Ab.upd (Ab.upd (Ab.upd (Ab.upd (Ab.upd (Ab.upd (Ab.upd (fun _ => .bot) 1 (.f (.sl l.length (flasF l)))) 2 (.f (.pt (classL x rs) 0))) 5 (.f (.sl (assigns rs []).length (matF (assigns rs []))))) 6 (.ow 0)) 7 (.f (iv (i : Nat)))) 8 (.f (bv p.2))) 9 (.f (iv (p.1 : Nat)))), (Ab.upd (fun _ => none) 0 (some (.row 23 1 (keepM x rs l i).length (matF (keepM x rs l i))))), 1⟩) (fun p => p.1 ≤ l.length ∧ (l.take p.1).all (expB x (assigns rs [])[i]) = p.2) (fun p => l.length - p.1) (0, true) (⟨Nat.zero_le _, rfl⟩) (gh_le ⟨le_upd rfl trivial (le_upd rfl trivial (le_upd rfl trivial (le_upd rfl rfl (le_upd rfl trivial (le_upd rfl trivial (le_upd rfl trivial (le_nil _))))))), le_hupd rfl trivial (le_h0 _ _)⟩)
    rintro ⟨k, b⟩ ⟨hk, hb⟩
    show W _ _ _ _ ⟨(Ab.upd (Ab.upd (Ab.upd (Ab.upd (Ab.upd (Ab.upd (Ab.upd (fun _ => .bot) 1 (.f (.sl l.length (flasF l)))) 2 (.f (.pt (classL x rs) 0))) 5 (.f (.sl (assigns rs []).length (matF (assigns rs []))))) 6 (.ow 0)) 7 (.f (iv (i : Nat)))) 8 (.f (bv b))) 9 (.f (iv (k : Nat)))), (Ab.upd (fun _ => none) 0 (some (.row 23 1 (keepM x rs l i).length (matF (keepM x rs l i))))), 1⟩
    simp only at hk hb
    by_cases hkc : k < l.length
    · obtain ⟨hf, ht⟩ := K.cells l[k] (List.getElem_mem hkc)
      have ES := Explains_s x rs (assigns rs [])[i] l[k] v hd vy hf ht
      have hs := all_succ (p := expB x (assigns rs [])[i]) hkc
      rw [hb] at hs
      cases b
      · repeat (first
    | (apply s_a TY; exact rfl)
    | (apply s_t; exact rfl; (first | assumption | omega))
    | apply w_seq
    | apply w_region
    | (apply w_draw (id := 10) 11 rfl (by kernel_rfl))
    | apply s_nil
    | apply t_norm
    | apply k_norm
    | apply w_block
    | apply w_skip
    | (apply w_condT; exact rfl; exact rfl)
    | (apply s_s; exact rfl)
    | (apply s_c TY; exact rfl; (first | omega | exact ⟨by omega, by (first | with_reducible assumption | ((with_reducible apply matF_ne); omega) | ((with_reducible apply flasF_ne); omega) | assumption)⟩)))
        exact ⟨(k + 1, false), ⟨by simp only; omega, hs⟩, by simp only; omega, gh_le ⟨le_upd rfl trivial (le_upd rfl trivial (le_upd rfl trivial (le_upd rfl rfl (le_upd rfl trivial (le_upd rfl trivial (le_upd rfl trivial (le_nil _))))))), le_hupd rfl trivial (le_h0 _ _)⟩⟩
      · repeat (first
    | (apply s_a TY; exact rfl)
    | (apply s_t; exact rfl; (first | assumption | omega))
    | apply w_seq
    | apply w_region
    | (apply w_draw (id := 10) 11 rfl (by kernel_rfl))
    | apply s_nil
    | apply t_norm
    | apply k_norm
    | apply w_block
    | apply w_skip
    | (apply w_condT; exact rfl; exact rfl)
    | (apply s_k (ES); exact rfl)
    | (apply s_c TY; exact rfl; (first | omega | exact ⟨by omega, by (first | with_reducible assumption | ((with_reducible apply matF_ne); omega) | ((with_reducible apply flasF_ne); omega) | assumption)⟩))
    | (apply s_l TY; exact rfl; (first | exact rfl | with_reducible assumption | ((with_reducible apply matF_at); omega) | assumption))
    | (apply s_m TY; exact rfl; (first | with_reducible assumption | ((with_reducible apply flasF_sub); omega) | exact rfl); exact rfl))
        exact ⟨(k + 1, expB x (assigns rs [])[i] l[k]), ⟨by simp only; omega, hs⟩, by simp only; omega, gh_le ⟨le_upd rfl trivial (le_upd rfl trivial (le_upd rfl trivial (le_upd rfl rfl (le_upd rfl trivial (le_upd rfl trivial (le_upd rfl trivial (le_nil _))))))), le_hupd rfl trivial (le_h0 _ _)⟩⟩
    · have hke : k = l.length := by omega
      subst hke
      rw [List.take_length] at hb
      have hs := keepM_succ (x := x) (l := l) hic
      rw [hb] at hs
      cases b
      · rw [if_neg (by decide), List.append_nil] at hs
        repeat (first
    | (apply s_a TY; exact rfl)
    | (apply s_f; exact rfl; (first | assumption | omega))
    | apply w_seq
    | apply w_region
    | apply s_nil
    | apply t_norm
    | apply t_exit
    | apply k_hit
    | apply k_norm
    | apply w_exit
    | apply w_skip
    | (apply w_condF; exact rfl; exact rfl)
    | (apply s_c TY; exact rfl; (first | omega | exact ⟨by omega, by (first | with_reducible assumption | ((with_reducible apply matF_ne); omega) | ((with_reducible apply flasF_ne); omega) | assumption)⟩)))
        exact ⟨i + 1, by omega, by omega, gh_le ⟨le_upd rfl trivial (le_upd rfl rfl (le_upd rfl trivial (le_upd rfl trivial (le_upd rfl trivial (le_nil _))))), le_hupd (congrArg (fun M : List (List Int) => some (Blk.row 23 1 M.length (matF M))) hs).symm trivial (le_h0 _ _)⟩⟩
      · rw [if_pos rfl] at hs
        repeat (first
    | (apply s_append TY; exact rfl; exact rfl; exact rfl; exact rfl; exact rfl; exact rfl; exact rfl; exact rfl; exact rfl; (unfold maxLen; omega); omega)
    | (apply s_a TY; exact rfl)
    | (apply s_f; exact rfl; (first | assumption | omega))
    | apply w_seq
    | apply w_region
    | apply s_nil
    | apply t_norm
    | apply t_exit
    | apply k_hit
    | apply k_norm
    | apply w_exit
    | (apply w_condT; exact rfl; exact rfl)
    | (apply w_condF; exact rfl; exact rfl)
    | (apply s_c TY; exact rfl; (first | omega | exact ⟨by omega, by (first | with_reducible assumption | ((with_reducible apply matF_ne); omega) | ((with_reducible apply flasF_ne); omega) | assumption)⟩))
    | (apply s_l TY; exact rfl; (first | exact rfl | with_reducible assumption | ((with_reducible apply matF_at); omega) | assumption)))
        exact ⟨i + 1, by omega, by omega, gh_le ⟨le_upd rfl trivial (le_upd rfl rfl (le_upd rfl trivial (le_upd rfl trivial (le_upd rfl trivial (le_nil _))))), le_hupd ((congrArg (fun M : List (List Int) => some (Blk.row 23 1 M.length (matF M))) hs).trans (row_app23 _ _)).symm trivial (le_h0 _ _)⟩⟩
  · have hie : i = (assigns rs []).length := by omega
    subst hie
    repeat (first
    | (apply s_a TY; exact rfl)
    | (apply s_f; exact rfl; (first | assumption | omega))
    | apply w_seq
    | apply w_region
    | apply s_nil
    | apply t_norm
    | apply t_exit
    | apply k_hit
    | apply w_exit
    | apply w_ret
    | (apply w_condF; exact rfl; exact rfl))
    refine lv_ret (ret_gh (gh_row 0 rfl) ?_)
    exact ret1 rfl (res_tmp (congrArg (fun M : List (List Int) => AV.f (.sl M.length (matF M))) (keepM_all x rs l)))
end Go.Proofs.YtienhiloecfgnaaDoor
namespace Go.Proofs.YtienhiloecfgnaaDoor
open Go Go.RowKit Go.Proofs Go.Shelf Go.Ab
theorem min_step {n k : Int} (hn : 1 ≤ n) (hk : 1 ≤ k) : min 301 (min 301 n * k) = min 301 (n * k) := by
  by_cases h : n ≤ 301
  · rw [show min 301 n = n by omega]
  · rw [show min 301 n = 301 by omega]
    have h1 : 301 * 1 ≤ 301 * k := Int.mul_le_mul_of_nonneg_left hk (by decide)
    have h2 : n * 1 ≤ n * k := Int.mul_le_mul_of_nonneg_left hk (by omega)
    omega
theorem scan_bad {rs : List Rng} {i : Nat} {n : Int} (h : i < rs.length) (hr : rngE rs[i] ≠ 0) : classScan rs (rs.length - i) i n = ((i : Int), rngE rs[i]) := by
  obtain ⟨f, hf⟩ : ∃ f, rs.length - i = f + 1 := ⟨rs.length - i - 1, by omega⟩
  rw [hf, classScan, getDR h, if_pos (by simpa using hr)]
theorem scan_ok {rs : List Rng} {i : Nat} {n : Int} (h : i < rs.length) (hr : rngE rs[i] = 0) : classScan rs (rs.length - i) i n = classScan rs (rs.length - (i + 1)) (i + 1) (n * (rs[i].hi - rs[i].lo + 1)) := by
  obtain ⟨f, hf⟩ : ∃ f, rs.length - i = f + 1 := ⟨rs.length - i - 1, by omega⟩
  rw [hf, classScan, getDR h, if_neg (by simp [hr]), show rs.length - (i + 1) = f by omega]
theorem rngE_two {r : Rng} (h : ¬ ((1 ≤ r.lo ∧ r.lo ≤ 1000) ∧ 1 ≤ r.hi ∧ r.hi ≤ 1000)) : rngE r = 2 := by
  have e : (withinB r.lo 1 1000 && withinB r.hi 1 1000) = false := by simp [withinB]; omega
  unfold rngE; rw [e]; rfl
theorem rngE_nine {r : Rng} (h : (1 ≤ r.lo ∧ r.lo ≤ 1000) ∧ 1 ≤ r.hi ∧ r.hi ≤ 1000) (h2 : r.hi < r.lo) : rngE r = 9 := by
  have e : (withinB r.lo 1 1000 && withinB r.hi 1 1000) = true := by simp [withinB]; omega
  unfold rngE; rw [e, decide_eq_false (by omega)]; rfl
theorem chk_ice {x : Grid} {rs : List Rng} (h : (checkIce x).2 ≠ 0) : checkClass x rs = checkIce x := if_pos (by simpa using h)
theorem chk_len {x : Grid} {rs : List Rng} (h : (checkIce x).2 = 0) (hl : ¬ rs.length = x.layers.length) : checkClass x rs = (0, 10) := by
  unfold checkClass; rw [if_neg (by simp [h]), if_pos (by simp; omega)]
theorem chk_scan {x : Grid} {rs : List Rng} (h : (checkIce x).2 = 0) (hl : rs.length = x.layers.length) : checkClass x rs = classScan rs (rs.length - 0) 0 1 := by
  unfold checkClass; rw [if_neg (by simp [h]), if_neg (by simp; omega), Nat.sub_zero]
theorem rngsF_ln (l : List Rng) : (rngsF l).length = l.length * 2 := by
  induction l with
  | nil => rfl
  | cons y l ih => simp only [rngsF, List.flatMap_cons, List.length_append, List.length_cons] at *; rw [ih]; simp [rngF]; omega
theorem flasF_ln (l : List Flash) : (flasF l).length = l.length * 7 := by
  induction l with
  | nil => rfl
  | cons y l ih => simp only [flasF, List.flatMap_cons, List.length_append, List.length_cons] at *; rw [ih]; simp [flaF]; omega
set_option maxRecDepth 100000 in
set_option maxHeartbeats 2000000 in
theorem RClass_s (x : Grid) (rs : List Rng) (hl : rs.length ≤ 1000000) : Summ Tryd.prog GG 29 [classF x rs] (.tup [iv (checkClass x rs).1, iv (checkClass x rs).2]) := by
  have RI := refCheckIce_s x
  refine summW Tryd.func29 rfl rfl 85 rfl (by simp) (fun M0 => ?_)
  by_cases h : (checkIce x).2 = 0
  case neg =>
    have e := chk_ice (rs := rs) h
    repeat (first
    | (apply s_a TY; exact rfl)
    | (apply s_f; exact rfl; (first | assumption | omega))
    | apply w_seq
    | apply w_region
    | apply s_nil
    | apply t_norm
    | apply t_ret
    | apply w_ret
    | (apply w_condT; exact rfl; exact rfl)
    | (apply s_k (RI); exact rfl))
    exact lv_ret (ret2 rfl (res_tmp (av1 e)) (res_tmp (av2 e)))
  by_cases h2 : rs.length = x.layers.length
  case neg =>
    have e := chk_len h h2
    repeat (first
    | (apply s_a TY; exact rfl)
    | (apply s_t; exact rfl; (first | assumption | omega))
    | (apply s_f; exact rfl; (first | assumption | omega))
    | apply w_seq
    | apply w_region
    | apply s_nil
    | apply t_norm
    | apply t_ret
    | apply w_ret
    | apply w_skip
    | (apply w_condT; exact rfl; exact rfl)
    | (apply w_condF; exact rfl; exact rfl)
    | (apply s_k (RI); exact rfl))
    exact lv_ret (ret2 rfl (res_tmp (av1 e)) (res_tmp (av2 e)))
  repeat (first
    | (apply s_a TY; exact rfl)
    | (apply s_t; exact rfl; (first | assumption | omega))
    | apply w_seq
    | apply w_region
    | apply s_nil
    | apply t_norm
    | apply w_block
    | apply w_skip
    | (apply w_condF; exact rfl; exact rfl)
    | (apply s_k (RI); exact rfl))
  apply w_loop (fun p : Nat × Int => ⟨(Ab.upd (Ab.upd (Ab.upd (fun _ => .bot) 1 (.f (.pt (classL x rs) 0))) 6 (.f (iv (min 301 p.2)))) 7 (.f (iv (p.1 : Nat)))), (fun _ => none), 0⟩) (fun p => p.1 ≤ rs.length ∧ 1 ≤ p.2 ∧ checkClass x rs = classScan rs (rs.length - p.1) p.1 p.2) (fun p => rs.length - p.1) (0, 1) (⟨Nat.zero_le _, by decide, chk_scan h h2⟩) (gh_le ⟨le_upd rfl trivial (le_upd rfl trivial (le_upd rfl trivial (le_nil _))), le_h0 _ _⟩)
  rintro ⟨i, n⟩ ⟨hi, hn, hs⟩
  show W _ _ _ _ ⟨(Ab.upd (Ab.upd (Ab.upd (fun _ => .bot) 1 (.f (.pt (classL x rs) 0))) 6 (.f (iv (min 301 n)))) 7 (.f (iv (i : Nat)))), (fun _ => none), 0⟩
  simp only at hi hn hs
  by_cases hic : i < rs.length
  · have fl := rngsF_lo hic
    have fh := rngsF_hi hic
    by_cases w1 : 1 ≤ rs[i].lo ∧ rs[i].lo ≤ 1000
    case neg =>
      have e := hs.trans (scan_bad hic (by rw [rngE_two (fun h => w1 h.1)]; decide))
      rw [rngE_two (fun h => w1 h.1)] at e
      repeat (first
    | (apply s_a TY; exact rfl)
    | (apply s_t; exact rfl; (first | assumption | omega))
    | apply w_seq
    | apply w_region
    | apply s_nil
    | apply t_norm
    | apply t_ret
    | apply k_ret
    | apply w_block
    | apply w_ret
    | apply w_skip
    | (apply w_condT; exact rfl; exact rfl)
    | (apply s_k1 (Within_f _ _ _); exact rfl; (first | assumption | omega | decide))
    | (apply s_s; exact rfl)
    | (apply s_c TY; exact rfl; (first | omega | exact ⟨by omega, by (first | with_reducible assumption | ((with_reducible apply rngsF_ne); omega) | assumption)⟩))
    | (apply s_l TY; exact rfl; (first | exact rfl | with_reducible assumption | assumption)))
      exact lv_ret (ret2 rfl (res_tmp (av1 e)) (res_tmp (av2 e)))
    by_cases w2 : 1 ≤ rs[i].hi ∧ rs[i].hi ≤ 1000
    case neg =>
      have e := hs.trans (scan_bad hic (by rw [rngE_two (fun h => w2 h.2)]; decide))
      rw [rngE_two (fun h => w2 h.2)] at e
      repeat (first
    | (apply s_a TY; exact rfl)
    | (apply s_t; exact rfl; (first | assumption | omega))
    | apply w_seq
    | apply w_region
    | apply s_nil
    | apply t_norm
    | apply t_ret
    | apply k_ret
    | apply w_block
    | apply w_ret
    | apply w_skip
    | (apply w_condT; exact rfl; exact rfl)
    | (apply s_k1 (Within_t _ _ _); exact rfl; (first | assumption | omega | decide))
    | (apply s_k1 (Within_f _ _ _); exact rfl; (first | assumption | omega | decide))
    | (apply s_c TY; exact rfl; (first | omega | exact ⟨by omega, by (first | with_reducible assumption | ((with_reducible apply rngsF_ne); omega) | assumption)⟩))
    | (apply s_l TY; exact rfl; (first | exact rfl | with_reducible assumption | assumption)))
      exact lv_ret (ret2 rfl (res_tmp (av1 e)) (res_tmp (av2 e)))
    by_cases w3 : rs[i].hi < rs[i].lo
    · have e := hs.trans (scan_bad hic (by rw [rngE_nine ⟨w1, w2⟩ w3]; decide))
      rw [rngE_nine ⟨w1, w2⟩ w3] at e
      repeat (first
    | (apply s_a TY; exact rfl)
    | (apply s_t; exact rfl; (first | assumption | omega))
    | apply w_seq
    | apply w_region
    | (apply w_draw (id := 12) 12 rfl (by kernel_rfl))
    | apply s_nil
    | apply t_norm
    | apply t_ret
    | apply k_ret
    | apply w_block
    | apply w_ret
    | apply w_skip
    | (apply w_condT; exact rfl; exact rfl)
    | (apply w_condF; exact rfl; exact rfl)
    | (apply s_k1 (Within_t _ _ _); exact rfl; (first | assumption | omega | decide))
    | (apply s_c TY; exact rfl; (first | omega | exact ⟨by omega, by (first | with_reducible assumption | ((with_reducible apply rngsF_ne); omega) | assumption)⟩))
    | (apply s_l TY; exact rfl; (first | exact rfl | with_reducible assumption | assumption)))
      exact lv_ret (ret2 rfl (res_tmp (av1 e)) (res_tmp (av2 e)))
    · have e := hs.trans (scan_ok hic (rngE_zero.2 ⟨w1.1, by omega, w2.2⟩))
      have m1 : 0 ≤ min 301 n * (rs[i].hi - rs[i].lo + 1) := Int.mul_nonneg (by omega) (by omega)
      have m2 : min 301 n * (rs[i].hi - rs[i].lo + 1) ≤ 301 * 1000 := Int.mul_le_mul (by omega) (by omega) (by omega) (by decide)
      have m3 : 1 * 1 ≤ n * (rs[i].hi - rs[i].lo + 1) := Int.mul_le_mul hn (by omega) (by decide) (by omega)
      repeat (first
    | (apply s_a TY; exact rfl)
    | (apply s_t; exact rfl; (first | assumption | omega))
    | (apply s_f; exact rfl; (first | assumption | omega))
    | apply w_seq
    | apply w_region
    | (apply w_draw (id := 12) 12 rfl (by kernel_rfl))
    | (apply w_draw (id := 14) 15 rfl (by kernel_rfl))
    | apply s_nil
    | apply t_norm
    | apply k_norm
    | apply w_block
    | apply w_skip
    | (apply w_condT; exact rfl; exact rfl)
    | (apply w_condF; exact rfl; exact rfl)
    | (apply s_k1 (Within_t _ _ _); exact rfl; (first | assumption | omega | decide))
    | (apply s_c TY; exact rfl; (first | omega | exact ⟨by omega, by (first | with_reducible assumption | ((with_reducible apply rngsF_ne); omega) | assumption)⟩))
    | (apply s_l TY; exact rfl; (first | exact rfl | with_reducible assumption | assumption)))
      exact ⟨(i + 1, n * (rs[i].hi - rs[i].lo + 1)), ⟨by simp only; omega, by simp only; omega, e⟩, by simp only; omega, gh_le ⟨le_upd rfl trivial (le_upd (congrArg (fun z => AV.f (iv z)) (min_step hn (by omega)).symm) trivial (le_upd rfl trivial (le_nil _))), le_h0 _ _⟩⟩
  · have hie : i = rs.length := by omega
    subst hie
    by_cases h3 : n ≤ 300
    · have e := hs.trans (show classScan rs (rs.length - rs.length) rs.length n = (0, 0) by rw [Nat.sub_self, classScan, decide_eq_true h3]; rfl)
      repeat (first
    | (apply s_a TY; exact rfl)
    | (apply s_f; exact rfl; (first | assumption | omega))
    | apply w_seq
    | apply w_region
    | apply s_nil
    | apply t_norm
    | apply t_exit
    | apply k_hit
    | apply w_exit
    | apply w_ret
    | apply w_skip
    | (apply w_condF; exact rfl; exact rfl))
      exact lv_ret (ret2 rfl (res_tmp (av1 e)) (res_tmp (av2 e)))
    · have e := hs.trans (show classScan rs (rs.length - rs.length) rs.length n = (0, 8) by rw [Nat.sub_self, classScan, decide_eq_false h3]; rfl)
      repeat (first
    | (apply s_a TY; exact rfl)
    | (apply s_t; exact rfl; (first | assumption | omega))
    | (apply s_f; exact rfl; (first | assumption | omega))
    | apply w_seq
    | apply w_region
    | apply s_nil
    | apply t_norm
    | apply t_exit
    | apply t_ret
    | apply k_hit
    | apply w_exit
    | apply w_ret
    | (apply w_condT; exact rfl; exact rfl)
    | (apply w_condF; exact rfl; exact rfl))
      exact lv_ret (ret2 rfl (res_tmp (av1 e)) (res_tmp (av2 e)))
set_option maxRecDepth 100000 in
theorem ClassErr_s (x : Grid) (rs : List Rng) (hl : rs.length ≤ 1000000) : Summ Tryd.prog GG 65 [classF x rs] (iv (checkClass x rs).2) := by
  have RC := RClass_s x rs hl
  refine summW Tryd.func65 rfl rfl 11 rfl (by simp) (fun M0 => ?_)
  repeat (first
    | (apply s_a TY; exact rfl)
    | apply w_seq
    | apply w_region
    | apply s_nil
    | apply t_norm
    | apply w_ret
    | (apply s_k (RC); exact rfl))
  exact lv_ret (ret1 rfl (res_tmp rfl))
set_option maxRecDepth 100000 in
theorem CopyClass_s (x : Grid) (rs : List Rng) (h1 : x.layers.length ≤ 1000000) (h2 : x.tilt.length ≤ 1000000) (h3 : rs.length ≤ 1000000) : Summ Tryd.prog GG 25 [classF x rs] (classF x rs) := by
  have hn := rngsF_ln rs
  have CI := CopyIce_s x h1 h2
  refine summW Tryd.func25 rfl rfl 11 rfl (by simp) (fun M0 => ?_)
  repeat (first
    | (apply s_bslice_clip TY; exact rfl; exact rfl; exact rfl; exact rfl; exact rfl; exact rfl)
    | (apply s_append_copy TY; exact rfl; exact rfl; exact rfl; exact rfl; exact rfl; exact rfl; exact rfl; assumption; (unfold maxLen; omega); omega)
    | (apply s_a TY; exact rfl)
    | apply w_seq
    | apply w_region
    | (apply w_draw (id := 1) 6 rfl (by kernel_rfl))
    | apply s_nil
    | apply t_norm
    | apply w_ret
    | (apply s_k (CI); exact rfl)
    | (apply s_alloc TY; exact rfl; exact rfl; exact rfl)
    | (apply s_store TY; exact rfl; exact rfl; exact rfl; exact rfl; exact rfl; exact rfl))
  exact lv_ret (ret1 rfl (res_bxs (sub := classL x rs) TY rfl rfl rfl rfl rfl))
set_option maxRecDepth 100000 in
theorem CopyFlashes_s (l : List Flash) (hl : l.length ≤ 1000000) : Summ Tryd.prog GG 27 [.sl l.length (flasF l)] (.sl l.length (flasF l)) := by
  have hn := flasF_ln l
  refine summW Tryd.func27 rfl rfl 6 rfl (by simp) (fun M0 => ?_)
  repeat (first
    | (apply s_bslice_clip TY; exact rfl; exact rfl; exact rfl; exact rfl; exact rfl; exact rfl)
    | (apply s_append_copy TY; exact rfl; exact rfl; exact rfl; exact rfl; exact rfl; exact rfl; exact rfl; assumption; (unfold maxLen; omega); omega)
    | (apply s_a TY; exact rfl)
    | apply w_seq
    | apply w_region
    | apply s_nil
    | apply t_norm
    | apply w_ret)
  exact lv_ret (ret1 rfl (res_tmp rfl))
def lightB (x : Grid) (rs : List Rng) : Bool := fewB x && decide (rs.length ≤ 8) && (decide ((checkClass x rs).2 ≠ 0) || (decide ((x.tilt.length : Int) * x.rows ≤ 24) && decide ((assigns rs []).length ≤ 40)))
set_option maxRecDepth 100000 in
set_option maxHeartbeats 1000000 in
theorem light_s (x : Grid) (rs : List Rng) : Summ Tryd.prog GG 23 [classF x rs] (bv (lightB x rs)) := by
  have F := Few_s x
  refine summW Tryd.func23 rfl rfl 33 rfl (by simp) (fun M0 => ?_)
  unfold lightB
  cases h : fewB x
  · rw [h] at F
    repeat (first
    | (apply s_a TY; exact rfl)
    | apply w_seq
    | apply w_region
    | apply s_nil
    | apply t_norm
    | apply t_ret
    | apply w_ret
    | (apply w_condT; exact rfl; exact rfl)
    | (apply s_k (F); exact rfl)
    | (apply s_s; exact rfl))
    exact lv_ret (ret1 rfl (res_tmp rfl))
  rw [h] at F
  by_cases h8 : rs.length ≤ 8
  case neg =>
    rw [decide_eq_false h8]
    repeat (first
    | (apply s_a TY; exact rfl)
    | (apply s_t; exact rfl; (first | assumption | omega))
    | apply w_seq
    | apply w_region
    | apply s_nil
    | apply t_norm
    | apply t_ret
    | apply w_ret
    | (apply w_condT; exact rfl; exact rfl)
    | (apply s_k (F); exact rfl))
    exact lv_ret (ret1 rfl (res_tmp rfl))
  rw [decide_eq_true h8]
  have CE := ClassErr_s x rs (by omega)
  by_cases hc : (checkClass x rs).2 = 0
  case neg =>
    rw [decide_eq_true hc]
    repeat (first
    | (apply s_a TY; exact rfl)
    | (apply s_f; exact rfl; (first | assumption | omega))
    | apply w_seq
    | apply w_region
    | apply s_nil
    | apply t_norm
    | apply w_ret
    | apply w_skip
    | (apply w_condF; exact rfl; exact rfl)
    | (apply s_k (F); exact rfl)
    | (apply s_k (CE); exact rfl)
    | (apply s_s; exact rfl))
    exact lv_ret (ret1 rfl (res_tmp rfl))
  rw [decide_eq_false (fun h => h hc)]
  have K := classOk hc
  have AL := All_s x rs h8 K.rng K.cnt
  have v := K.v
  have r1 := v.r1
  have r12 := v.r12
  have t8 := v.t8
  have m1 : 0 ≤ (x.tilt.length : Int) * x.rows := Int.mul_nonneg (by omega) (by omega)
  have m2 : (x.tilt.length : Int) * x.rows ≤ 8 * 12 := Int.mul_le_mul (by omega) r12 (by omega) (by decide)
  by_cases h24 : (x.tilt.length : Int) * x.rows ≤ 24
  case neg =>
    rw [decide_eq_false h24]
    repeat (first
    | (apply s_a TY; exact rfl)
    | (apply s_t; exact rfl; (first | assumption | omega))
    | (apply s_f; exact rfl; (first | assumption | omega))
    | apply w_seq
    | apply w_region
    | apply s_nil
    | apply t_norm
    | apply w_ret
    | apply w_skip
    | (apply w_condF; exact rfl; exact rfl)
    | (apply s_k (F); exact rfl)
    | (apply s_k (CE); exact rfl)
    | (apply s_s; exact rfl)
    | (apply s_c TY; exact rfl; omega))
    exact lv_ret (ret1 rfl (res_tmp rfl))
  rw [decide_eq_true h24]
  by_cases h40 : (assigns rs []).length ≤ 40
  · rw [decide_eq_true h40]
    repeat (first
    | (apply s_a TY; exact rfl)
    | (apply s_t; exact rfl; (first | assumption | omega))
    | (apply s_f; exact rfl; (first | assumption | omega))
    | apply w_seq
    | apply w_region
    | apply s_nil
    | apply t_norm
    | apply w_ret
    | apply w_skip
    | (apply w_condF; exact rfl; exact rfl)
    | (apply s_k (F); exact rfl)
    | (apply s_k (CE); exact rfl)
    | (apply s_k (AL); exact rfl)
    | (apply s_c TY; exact rfl; omega))
    exact lv_ret (ret1 rfl (res_tmp rfl))
  · rw [decide_eq_false h40]
    repeat (first
    | (apply s_a TY; exact rfl)
    | (apply s_t; exact rfl; (first | assumption | omega))
    | (apply s_f; exact rfl; (first | assumption | omega))
    | apply w_seq
    | apply w_region
    | apply s_nil
    | apply t_norm
    | apply w_ret
    | apply w_skip
    | (apply w_condF; exact rfl; exact rfl)
    | (apply s_k (F); exact rfl)
    | (apply s_k (CE); exact rfl)
    | (apply s_k (AL); exact rfl)
    | (apply s_c TY; exact rfl; omega))
    exact lv_ret (ret1 rfl (res_tmp rfl))
end Go.Proofs.YtienhiloecfgnaaDoor
namespace Go.Proofs.YtienhiloecfgnaaDoor
open Go Go.RowKit Go.Proofs Go.Shelf Go.Ab
theorem eqs_run (x y : Operand) (a b : ByteArray) (w : World) : (do eqGuard .eql 9 x y (.string a) (.string b); binOp .eql 9 (.string a) (.string b) : Sem Value).run Tryd.prog w = .ok (.bool (sameName a b)) w := by
  simp [eqGuard, binOp]
  rfl
theorem eqs_t {x y : Operand} {a b : ByteArray} (h : sameName a b = true) : ∀ w, (do eqGuard .eql 9 x y (.string a) (.string b); binOp .eql 9 (.string a) (.string b) : Sem Value).run Tryd.prog w = .ok (.bool true) w := fun w => by
  have := eqs_run x y a b w
  rwa [h] at this
theorem eqs_f {x y : Operand} {a b : ByteArray} (h : sameName a b = false) : ∀ w, (do eqGuard .eql 9 x y (.string a) (.string b); binOp .eql 9 (.string a) (.string b) : Sem Value).run Tryd.prog w = .ok (.bool false) w := fun w => by
  have := eqs_run x y a b w
  rwa [h] at this
theorem badB_iff {s : ByteArray} {i : Nat} : badB s i = true ↔ ¬ ((97 ≤ byteI s i ∧ byteI s i ≤ 122) ∨ (65 ≤ byteI s i ∧ byteI s i ≤ 90)) ∧ (i = 0 ∨ (byteI s i ≠ 45 ∧ ¬ (48 ≤ byteI s i ∧ byteI s i ≤ 57))) := by
  simp [badB, letterB, withinB]
  omega
theorem nameScan_iff {s : ByteArray} : ∀ (f i : Nat), i + f = s.size → (nameScan s f i = true ↔ (1 ≤ s.size ∧ s.size ≤ 12) ∧ ∀ j, i ≤ j → j < s.size → badB s j = false)
  | 0, i, h => by
    rw [nameScan]
    constructor
    · intro h1; simp [withinB] at h1; exact ⟨by omega, fun j _ _ => by omega⟩
    · rintro ⟨h1, _⟩; simp [withinB]; omega
  | f + 1, i, h => by
    rw [nameScan]
    by_cases hb : badB s i = true
    · rw [if_pos hb]
      constructor
      · intro h1; cases h1
      · rintro ⟨_, h1⟩; have := h1 i (Nat.le_refl _) (by omega); rw [hb] at this; cases this
    · rw [if_neg hb, nameScan_iff f (i + 1) (by omega)]
      constructor
      · rintro ⟨h1, h2⟩
        refine ⟨h1, fun j hj hjs => ?_⟩
        by_cases e : j = i
        · subst e; simpa using hb
        · exact h2 j (by omega) hjs
      · rintro ⟨h1, h2⟩; exact ⟨h1, fun j hj => h2 j (by omega)⟩
theorem nameB_iff {s : ByteArray} : nameB s = true ↔ (1 ≤ s.size ∧ s.size ≤ 12) ∧ ∀ j, j < s.size → badB s j = false := by
  unfold nameB
  rw [nameScan_iff s.size 0 (by omega)]
  simp
theorem nameB_f {s : ByteArray} (h : ¬ ((1 ≤ s.size ∧ s.size ≤ 12) ∧ ∀ j, j < s.size → badB s j = false)) : nameB s = false := by
  cases e : nameB s
  · rfl
  · exact absurd (nameB_iff.1 e) h
set_option maxRecDepth 100000 in
set_option maxHeartbeats 4000000 in
theorem IsName_s (s : ByteArray) : Summ Tryd.prog GG 98 [.v (.string s)] (bv (nameB s)) := by
  refine summW Tryd.func98 rfl rfl 55 rfl (by simp) (fun M0 => ?_)
  by_cases h1 : 1 ≤ s.size
  case neg =>
    rw [nameB_f (fun h => h1 h.1.1)]
    repeat (first
    | (apply s_a TY; exact rfl)
    | (apply s_t; exact rfl; (first | assumption | omega))
    | apply w_seq
    | apply w_region
    | apply s_nil
    | apply t_norm
    | apply t_ret
    | apply w_ret
    | (apply w_condT; exact rfl; exact rfl)
    | (apply s_s; exact rfl))
    exact lv_ret (ret1 rfl (res_tmp rfl))
  by_cases h2 : s.size ≤ 12
  case neg =>
    rw [nameB_f (fun h => h2 h.1.2)]
    repeat (first
    | (apply s_a TY; exact rfl)
    | (apply s_t; exact rfl; (first | assumption | omega))
    | (apply s_f; exact rfl; (first | assumption | omega))
    | apply w_seq
    | apply w_region
    | apply s_nil
    | apply t_norm
    | apply t_ret
    | apply w_ret
    | (apply w_condT; exact rfl; exact rfl))
    exact lv_ret (ret1 rfl (res_tmp rfl))
  repeat (first
    | (apply s_a TY; exact rfl)
    | (apply s_f; exact rfl; (first | assumption | omega))
    | apply w_seq
    | apply w_region
    | apply s_nil
    | apply t_norm
    | apply w_block
    | apply w_skip
    | (apply w_condF; exact rfl; exact rfl))
  apply w_loop (fun i : Nat => ⟨(Ab.upd (Ab.upd (fun _ => .bot) 0 (.f (.v (.string s)))) 3 (.f (iv (i : Nat)))), (fun _ => none), 0⟩) (fun i => i ≤ s.size ∧ ∀ j, j < i → badB s j = false) (fun i => s.size - i) 0 (⟨Nat.zero_le _, fun j h => absurd h (Nat.not_lt_zero j)⟩) (gh_le ⟨le_upd rfl trivial (le_upd rfl trivial (le_nil _)), le_h0 _ _⟩)
  intro i ⟨hi, hall⟩
  by_cases hic : i < s.size
  case neg =>
    have hie : i = s.size := by omega
    rw [nameB_iff.2 ⟨⟨h1, h2⟩, fun j hj => hall j (by omega)⟩]
    repeat (first
    | (apply s_a TY; exact rfl)
    | (apply s_f; exact rfl; (first | assumption | omega))
    | apply w_seq
    | apply w_region
    | apply s_nil
    | apply t_norm
    | apply t_exit
    | apply k_hit
    | apply w_exit
    | apply w_ret
    | (apply w_condF; exact rfl; exact rfl))
    exact lv_ret (ret1 rfl (res_tmp rfl))
  have hsz : i < s.data.size := hic
  have hb : s[((i : Nat) : Int).toNat]? = some s.data[i] := by
    show s[i]? = some s.data[i]
    rw [getElem?_pos s i hic]; rfl
  have hc : byteI s i = (s.data[i].toNat : Int) := by unfold byteI; rw [Array.getD_eq_getD_getElem?, Array.getElem?_eq_getElem hsz]; rfl
  have hlt : s.data[i].toNat < 256 := s.data[i].toNat_lt
  by_cases hbad : badB s i = true
  · have hq := badB_iff.1 hbad
    rw [hc] at hq
    rw [nameB_f (fun h => by have := h.2 i hic; rw [hbad] at this; cases this)]
    have hr : (s.data[i].toNat : Int) < 45 ∨ (s.data[i].toNat : Int) = 45 ∨ (46 ≤ (s.data[i].toNat : Int) ∧ (s.data[i].toNat : Int) ≤ 47) ∨ (48 ≤ (s.data[i].toNat : Int) ∧ (s.data[i].toNat : Int) ≤ 57) ∨ (58 ≤ (s.data[i].toNat : Int) ∧ (s.data[i].toNat : Int) ≤ 64) ∨ (91 ≤ (s.data[i].toNat : Int) ∧ (s.data[i].toNat : Int) ≤ 96) ∨ 123 ≤ (s.data[i].toNat : Int) := by omega
    clear hc hbad
    rcases hr with h | h | h | h | h | h | h <;> by_cases h0 : i = 0
    all_goals try (exfalso; omega)
    all_goals clear hq
    all_goals repeat (first
    | (apply s_index_str TY; exact rfl; exact rfl; exact rfl; exact rfl; omega; exact hb)
    | (apply s_a TY; exact rfl)
    | (apply s_t; exact rfl; (first | assumption | omega))
    | (apply s_f; exact rfl; (first | assumption | omega))
    | apply w_seq
    | apply w_region
    | apply s_nil
    | apply t_norm
    | apply t_ret
    | apply k_ret
    | apply w_block
    | apply w_ret
    | apply w_skip
    | (apply w_condT; exact rfl; exact rfl)
    | (apply s_s; exact rfl))
    all_goals exact lv_ret (ret1 rfl (res_tmp rfl))
  · have hq : ¬ _ := fun h => hbad (badB_iff.2 h)
    rw [hc] at hq
    have hr : (s.data[i].toNat : Int) < 45 ∨ (s.data[i].toNat : Int) = 45 ∨ (46 ≤ (s.data[i].toNat : Int) ∧ (s.data[i].toNat : Int) ≤ 47) ∨ (48 ≤ (s.data[i].toNat : Int) ∧ (s.data[i].toNat : Int) ≤ 57) ∨ (58 ≤ (s.data[i].toNat : Int) ∧ (s.data[i].toNat : Int) ≤ 64) ∨ (65 ≤ (s.data[i].toNat : Int) ∧ (s.data[i].toNat : Int) ≤ 90) ∨ (91 ≤ (s.data[i].toNat : Int) ∧ (s.data[i].toNat : Int) ≤ 96) ∨ (97 ≤ (s.data[i].toNat : Int) ∧ (s.data[i].toNat : Int) ≤ 122) ∨ 123 ≤ (s.data[i].toNat : Int) := by omega
    have hnb : ∀ j, j < i + 1 → badB s j = false := fun j hj => by
      by_cases e : j = i
      · subst e; simpa using hbad
      · exact hall j (by omega)
    clear hc hbad
    rcases hr with h | h | h | h | h | h | h | h | h <;> by_cases h0 : i = 0
    all_goals try (exfalso; omega)
    all_goals clear hq
    all_goals repeat (first
    | (apply s_index_str TY; exact rfl; exact rfl; exact rfl; exact rfl; omega; exact hb)
    | (apply s_a TY; exact rfl)
    | (apply s_t; exact rfl; (first | assumption | omega))
    | (apply s_f; exact rfl; (first | assumption | omega))
    | apply w_seq
    | apply w_region
    | apply s_nil
    | apply t_norm
    | apply k_norm
    | apply w_block
    | apply w_skip
    | (apply w_condT; exact rfl; exact rfl)
    | (apply w_condF; exact rfl; exact rfl)
    | (apply s_s; exact rfl)
    | (apply s_c TY; exact rfl; omega))
    all_goals exact ⟨i + 1, ⟨by omega, hnb⟩, by omega, gh_le ⟨le_upd rfl trivial (le_upd rfl trivial (le_nil _)), le_h0 _ _⟩⟩
end Go.Proofs.YtienhiloecfgnaaDoor
namespace Go.Proofs.YtienhiloecfgnaaDoor
open Go Go.RowKit Go.Proofs Go.Shelf Go.Ab
theorem flasF_el {l : List Flash} {k j : Nat} (h : k < l.length) (hj : j < 7) : (flasF l)[k * 7 + j]? = (flaF l[k])[j]? := by
  rw [← flat_sub (f := flaF) (s := 7) (fun _ => rfl) h]
  rw [List.getElem?_take, if_pos hj, List.getElem?_drop]; rfl
theorem flasF_two {l : List Flash} {k j : Nat} (h : k < l.length) (hj : j + 2 ≤ 7) : ((flasF l).drop (k * 7 + j)).take 2 = ((flaF l[k]).drop j).take 2 := by
  apply List.ext_getElem?
  intro m
  rw [List.getElem?_take, List.getElem?_take]
  by_cases hm : m < 2
  · rw [if_pos hm, if_pos hm, List.getElem?_drop, List.getElem?_drop, Nat.add_assoc, flasF_el h (by omega)]
  · rw [if_neg hm, if_neg hm]
theorem firstE_hdd {a : Int} {l : List Int} (h : a ≠ 0) : firstE (a :: l) = a := by unfold firstE; rw [if_neg h]
theorem firstE_tll {l : List Int} : firstE (0 :: l) = firstE l := by rw [firstE, if_pos rfl]
theorem fscan_bad {x : Grid} {l : List Flash} {i : Nat} (h : i < l.length) (hr : flashE x (l.take i) l[i] ≠ 0) : flashScan x l (l.length - i) i = ((i : Int), flashE x (l.take i) l[i]) := by
  obtain ⟨f, hf⟩ : ∃ f, l.length - i = f + 1 := ⟨l.length - i - 1, by omega⟩
  rw [hf, flashScan, getDF h, if_pos (by simpa using hr)]
theorem fscan_ok {x : Grid} {l : List Flash} {i : Nat} (h : i < l.length) (hr : flashE x (l.take i) l[i] = 0) : flashScan x l (l.length - i) i = flashScan x l (l.length - (i + 1)) (i + 1) := by
  obtain ⟨f, hf⟩ : ∃ f, l.length - i = f + 1 := ⟨l.length - i - 1, by omega⟩
  rw [hf, flashScan, getDF h, if_neg (by simp [hr]), show l.length - (i + 1) = f by omega]
theorem fchk_many {x : Grid} {rs : List Rng} {l : List Flash} (hc : (checkClass x rs).2 = 0) (h : ¬ l.length ≤ 8) : checkFlashes x rs l = (0, 8) := by
  have e : flashE0 x rs l = 8 := by unfold flashE0; rw [hc, decide_eq_false (by omega)]; rfl
  unfold checkFlashes; rw [e]; rfl
theorem fchk_scan {x : Grid} {rs : List Rng} {l : List Flash} (hc : (checkClass x rs).2 = 0) (h : l.length ≤ 8) : checkFlashes x rs l = flashScan x l (l.length - 0) 0 := by
  have e : flashE0 x rs l = 0 := by unfold flashE0; rw [hc, decide_eq_true (by omega)]; rfl
  unfold checkFlashes; rw [e]; rfl
theorem fE_cls {x : Grid} {rs : List Rng} {l : List Flash} (hc : (checkClass x rs).2 ≠ 0) : checkFlashes x rs l = (0, (checkClass x rs).2) := by
  have e : flashE0 x rs l = (checkClass x rs).2 := by unfold flashE0; exact firstE_hdd hc
  unfold checkFlashes; rw [e, if_pos (by simpa using hc)]
set_option maxRecDepth 100000 in
set_option maxHeartbeats 4000000 in
theorem RFlashes_s (x : Grid) (rs : List Rng) (l : List Flash) (hc : (checkClass x rs).2 = 0) (hl : l.length ≤ 1000) : Summ Tryd.prog GG 30 [classF x rs, .sl l.length (flasF l)] (.tup [iv (checkFlashes x rs l).1, iv (checkFlashes x rs l).2]) := by
  have v := (classOk hc).v
  refine summW Tryd.func30 rfl rfl 96 rfl (by simp) (fun M0 => ?_)
  by_cases h8 : l.length ≤ 8
  case neg =>
    have e := fchk_many (x := x) hc h8
    repeat (first
    | (apply s_a TY; exact rfl)
    | (apply s_t; exact rfl; (first | assumption | omega))
    | apply w_seq
    | apply w_region
    | apply s_nil
    | apply t_norm
    | apply t_ret
    | apply w_ret
    | (apply w_condT; exact rfl; exact rfl))
    exact lv_ret (ret2 rfl (res_tmp (av1 e)) (res_tmp (av2 e)))
  repeat (first
    | (apply s_a TY; exact rfl)
    | (apply s_f; exact rfl; (first | assumption | omega))
    | apply w_seq
    | apply w_region
    | apply s_nil
    | apply t_norm
    | apply w_block
    | apply w_skip
    | (apply w_condF; exact rfl; exact rfl))
  apply w_loop (fun i : Nat => ⟨(Ab.upd (Ab.upd (Ab.upd (fun _ => .bot) 1 (.f (.sl l.length (flasF l)))) 2 (.f (.pt (classL x rs) 0))) 6 (.f (iv (i : Nat)))), (fun _ => none), 0⟩) (fun i => i ≤ l.length ∧ checkFlashes x rs l = flashScan x l (l.length - i) i) (fun i => l.length - i) 0 (⟨Nat.zero_le _, fchk_scan hc h8⟩) (gh_le ⟨le_upd rfl trivial (le_upd rfl trivial (le_upd rfl trivial (le_nil _))), le_h0 _ _⟩)
  intro i ⟨hi, hs⟩
  by_cases hic : i < l.length
  case neg =>
    have hie : i = l.length := by omega
    have e := hs.trans (show flashScan x l (l.length - i) i = (0, 0) by rw [hie, Nat.sub_self]; rfl)
    subst hie
    repeat (first
    | (apply s_a TY; exact rfl)
    | (apply s_f; exact rfl; (first | assumption | omega))
    | apply w_seq
    | apply w_region
    | apply s_nil
    | apply t_norm
    | apply t_exit
    | apply k_hit
    | apply w_exit
    | apply w_ret
    | (apply w_condF; exact rfl; exact rfl))
    exact lv_ret (ret2 rfl (res_tmp (av1 e)) (res_tmp (av2 e)))
  have n0 : (flasF l)[i * 7 + 0]? = some (.v (.string l[i].name)) := flasF_el hic (by decide)
  have n5 : (flasF l)[i * 7 + 5 + 0]? = some (iv l[i].time.lo) := flasF_el hic (j := 5) (by decide)
  have n6 : (flasF l)[i * 7 + 5 + 1]? = some (iv l[i].time.hi) := flasF_el hic (j := 6) (by decide)
  have m1 : ((flasF l).drop (i * 7 + 1)).take 2 = celF l[i].frm := flasF_two hic (by decide)
  have m3 : ((flasF l).drop (i * 7 + 3)).take 2 = celF l[i].to := flasF_two hic (by decide)
  have C1 := CellErr_s x l[i].frm v
  have C2 := CellErr_s x l[i].to v
  cases hn : nameB l[i].name
  · have NB := IsName_s l[i].name
    rw [hn] at NB
    have hE : flashE x (l.take i) l[i] = 4 := by unfold flashE; rw [hn]; rfl
    have e := hs.trans (fscan_bad hic (by rw [hE]; decide))
    rw [hE] at e
    repeat (first
    | (apply s_a TY; exact rfl)
    | (apply s_t; exact rfl; (first | assumption | omega))
    | apply w_seq
    | apply w_region
    | apply s_nil
    | apply t_norm
    | apply t_ret
    | apply k_ret
    | apply w_block
    | apply w_ret
    | apply w_skip
    | (apply w_condT; exact rfl; exact rfl)
    | (apply s_k (NB); exact rfl)
    | (apply s_c TY; exact rfl; (first | omega | exact ⟨by omega, by (first | with_reducible assumption | ((with_reducible apply flasF_ne); omega) | assumption)⟩))
    | (apply s_l TY; exact rfl; (first | exact rfl | with_reducible assumption | assumption)))
    exact lv_ret (ret2 rfl (res_tmp (av1 e)) (res_tmp (av2 e)))
  have NB := IsName_s l[i].name
  rw [hn] at NB
  repeat (first
    | (apply s_a TY; exact rfl)
    | (apply s_t; exact rfl; (first | assumption | omega))
    | apply w_seq
    | apply w_region
    | apply s_nil
    | apply t_norm
    | apply w_block
    | apply w_skip
    | (apply w_condT; exact rfl; exact rfl)
    | (apply w_condF; exact rfl; exact rfl)
    | (apply s_k (NB); exact rfl)
    | (apply s_c TY; exact rfl; (first | omega | exact ⟨by omega, by (first | with_reducible assumption | ((with_reducible apply flasF_ne); omega) | assumption)⟩))
    | (apply s_l TY; exact rfl; (first | exact rfl | with_reducible assumption | assumption)))
  apply w_loop (fun k : Nat => ⟨(Ab.upd (Ab.upd (Ab.upd (Ab.upd (fun _ => .bot) 1 (.f (.sl l.length (flasF l)))) 2 (.f (.pt (classL x rs) 0))) 6 (.f (iv (i : Nat)))) 7 (.f (iv (k : Nat)))), (fun _ => none), 0⟩) (fun k => k ≤ i ∧ ∀ j (h : j < l.length), j < k → sameName l[j].name l[i].name = false) (fun k => i - k) 0 (⟨Nat.zero_le _, fun j _ h => absurd h (Nat.not_lt_zero j)⟩) (gh_le ⟨le_upd rfl trivial (le_upd rfl trivial (le_upd rfl trivial (le_upd rfl trivial (le_nil _)))), le_h0 _ _⟩)
  intro k ⟨hk, hall⟩
  by_cases hkc : k < i
  · have hkl : k < l.length := by omega
    have k0 : (flasF l)[k * 7 + 0]? = some (.v (.string l[k].name)) := flasF_el hkl (by decide)
    cases hsn : sameName l[k].name l[i].name
    · repeat (first
    | (apply s_bind; exact rfl; exact rfl; exact rfl; exact rfl; exact rfl; exact rfl; exact eqs_f (by assumption))
    | (apply s_a TY; exact rfl)
    | (apply s_t; exact rfl; (first | assumption | omega))
    | apply w_seq
    | apply w_region
    | (apply w_draw (id := 11) 10 rfl (by kernel_rfl))
    | apply s_nil
    | apply t_norm
    | apply k_norm
    | apply w_block
    | apply w_skip
    | (apply w_condT; exact rfl; exact rfl)
    | (apply w_condF; exact rfl; exact rfl)
    | (apply s_c TY; exact rfl; (first | omega | exact ⟨by omega, by (first | with_reducible assumption | ((with_reducible apply flasF_ne); omega) | assumption)⟩))
    | (apply s_l TY; exact rfl; (first | exact rfl | with_reducible assumption | assumption)))
      exact ⟨k + 1, ⟨by omega, fun j h hj => by
        by_cases e : j = k
        · subst e; exact hsn
        · exact hall j h (by omega)⟩, by omega, gh_le ⟨le_upd rfl trivial (le_upd rfl trivial (le_upd rfl trivial (le_upd rfl trivial (le_nil _)))), le_h0 _ _⟩⟩
    · have ha : ((l.take i).any fun o => sameName o.name l[i].name) = true := List.any_eq_true.2 ⟨l[k], List.mem_take_iff_getElem.2 ⟨k, by omega, rfl⟩, hsn⟩
      have hE : flashE x (l.take i) l[i] = 5 := by unfold flashE; rw [hn, ha]; rfl
      have e := hs.trans (fscan_bad hic (by rw [hE]; decide))
      rw [hE] at e
      repeat (first
    | (apply s_bind; exact rfl; exact rfl; exact rfl; exact rfl; exact rfl; exact rfl; exact eqs_t (by assumption))
    | (apply s_a TY; exact rfl)
    | (apply s_t; exact rfl; (first | assumption | omega))
    | apply w_seq
    | apply w_region
    | (apply w_draw (id := 11) 10 rfl (by kernel_rfl))
    | apply s_nil
    | apply t_norm
    | apply t_ret
    | apply k_ret
    | apply w_block
    | apply w_ret
    | apply w_skip
    | (apply w_condT; exact rfl; exact rfl)
    | (apply s_c TY; exact rfl; (first | omega | exact ⟨by omega, by (first | with_reducible assumption | ((with_reducible apply flasF_ne); omega) | assumption)⟩))
    | (apply s_l TY; exact rfl; (first | exact rfl | with_reducible assumption | assumption)))
      exact lv_ret (ret2 rfl (res_tmp (av1 e)) (res_tmp (av2 e)))
  have hke : k = i := by omega
  subst hke
  have ha : ((l.take k).any fun o => sameName o.name l[k].name) = false := List.any_eq_false.2 fun o ho => by
    obtain ⟨j, hj, rfl⟩ := List.mem_take_iff_getElem.1 ho
    rw [hall j (by omega) (by omega)]; decide
  have f0 : flashE x (l.take k) l[k] = firstE [cellErrE x l[k].frm, cellErrE x l[k].to, unlessE (withinB l[k].time.lo 0 1000000 && withinB l[k].time.hi 0 1000000) 2, unlessE (decide (l[k].time.lo ≤ l[k].time.hi)) 9] := by unfold flashE; rw [hn, ha]; rfl
  by_cases c1 : cellErrE x l[k].frm = 0
  case neg =>
    have hE : flashE x (l.take k) l[k] = 6 := by rw [f0, firstE_hdd c1, cellE_six c1]
    have e := hs.trans (fscan_bad hic (by rw [hE]; decide))
    rw [hE] at e
    repeat (first
    | (apply s_a TY; exact rfl)
    | (apply s_f; exact rfl; (first | assumption | omega))
    | apply w_seq
    | apply w_region
    | (apply w_draw (id := 13) 17 rfl (by kernel_rfl))
    | apply s_nil
    | apply t_norm
    | apply t_exit
    | apply t_ret
    | apply k_hit
    | apply k_ret
    | apply w_exit
    | apply w_ret
    | (apply w_condT; exact rfl; exact rfl)
    | (apply w_condF; exact rfl; exact rfl)
    | (apply s_k (C1); exact rfl)
    | (apply s_s; exact rfl)
    | (apply s_c TY; exact rfl; (first | omega | exact ⟨by omega, by (first | with_reducible assumption | ((with_reducible apply flasF_ne); omega) | assumption)⟩))
    | (apply s_m TY; exact rfl; (first | with_reducible assumption | ((with_reducible apply flasF_sub); omega) | exact rfl); exact rfl))
    exact lv_ret (ret2 rfl (res_tmp (av1 e)) (res_tmp (av2 e)))
  by_cases c2 : cellErrE x l[k].to = 0
  case neg =>
    have hE : flashE x (l.take k) l[k] = 6 := by rw [f0, c1, firstE_tll, firstE_hdd c2, cellE_six c2]
    have e := hs.trans (fscan_bad hic (by rw [hE]; decide))
    rw [hE] at e
    repeat (first
    | (apply s_a TY; exact rfl)
    | (apply s_t; exact rfl; (first | assumption | omega))
    | (apply s_f; exact rfl; (first | assumption | omega))
    | apply w_seq
    | apply w_region
    | (apply w_draw (id := 13) 17 rfl (by kernel_rfl))
    | apply s_nil
    | apply t_norm
    | apply t_exit
    | apply t_ret
    | apply k_hit
    | apply k_ret
    | apply w_exit
    | apply w_ret
    | (apply w_condT; exact rfl; exact rfl)
    | (apply w_condF; exact rfl; exact rfl)
    | (apply s_k (C1); exact rfl)
    | (apply s_k (C2); exact rfl)
    | (apply s_c TY; exact rfl; (first | omega | exact ⟨by omega, by (first | with_reducible assumption | ((with_reducible apply flasF_ne); omega) | assumption)⟩))
    | (apply s_m TY; exact rfl; (first | with_reducible assumption | ((with_reducible apply flasF_sub); omega) | exact rfl); exact rfl))
    exact lv_ret (ret2 rfl (res_tmp (av1 e)) (res_tmp (av2 e)))
  rw [c1, firstE_tll, c2, firstE_tll] at f0
  by_cases w1 : 0 ≤ l[k].time.lo ∧ l[k].time.lo ≤ 1000000
  case neg =>
    have hE : flashE x (l.take k) l[k] = 2 := by rw [f0, show (withinB l[k].time.lo 0 1000000 && withinB l[k].time.hi 0 1000000) = false by simp [withinB]; omega]; rfl
    have e := hs.trans (fscan_bad hic (by rw [hE]; decide))
    rw [hE] at e
    repeat (first
    | (apply s_a TY; exact rfl)
    | (apply s_t; exact rfl; (first | assumption | omega))
    | (apply s_f; exact rfl; (first | assumption | omega))
    | apply w_seq
    | apply w_region
    | (apply w_draw (id := 13) 17 rfl (by kernel_rfl))
    | apply s_nil
    | apply t_norm
    | apply t_exit
    | apply t_ret
    | apply k_hit
    | apply k_ret
    | apply w_exit
    | apply w_ret
    | apply w_skip
    | (apply w_condT; exact rfl; exact rfl)
    | (apply w_condF; exact rfl; exact rfl)
    | (apply s_k (C1); exact rfl)
    | (apply s_k (C2); exact rfl)
    | (apply s_k1 (Within_f _ _ _); exact rfl; (first | assumption | omega | decide))
    | (apply s_s; exact rfl)
    | (apply s_c TY; exact rfl; (first | omega | exact ⟨by omega, by (first | with_reducible assumption | ((with_reducible apply flasF_ne); omega) | assumption)⟩))
    | (apply s_l TY; exact rfl; (first | exact rfl | with_reducible assumption | assumption))
    | (apply s_m TY; exact rfl; (first | with_reducible assumption | ((with_reducible apply flasF_sub); omega) | exact rfl); exact rfl))
    exact lv_ret (ret2 rfl (res_tmp (av1 e)) (res_tmp (av2 e)))
  by_cases w2 : 0 ≤ l[k].time.hi ∧ l[k].time.hi ≤ 1000000
  case neg =>
    have hE : flashE x (l.take k) l[k] = 2 := by rw [f0, show (withinB l[k].time.lo 0 1000000 && withinB l[k].time.hi 0 1000000) = false by simp [withinB]; omega]; rfl
    have e := hs.trans (fscan_bad hic (by rw [hE]; decide))
    rw [hE] at e
    repeat (first
    | (apply s_a TY; exact rfl)
    | (apply s_t; exact rfl; (first | assumption | omega))
    | (apply s_f; exact rfl; (first | assumption | omega))
    | apply w_seq
    | apply w_region
    | (apply w_draw (id := 13) 17 rfl (by kernel_rfl))
    | apply s_nil
    | apply t_norm
    | apply t_exit
    | apply t_ret
    | apply k_hit
    | apply k_ret
    | apply w_exit
    | apply w_ret
    | apply w_skip
    | (apply w_condT; exact rfl; exact rfl)
    | (apply w_condF; exact rfl; exact rfl)
    | (apply s_k (C1); exact rfl)
    | (apply s_k (C2); exact rfl)
    | (apply s_k1 (Within_t _ _ _); exact rfl; (first | assumption | omega | decide))
    | (apply s_k1 (Within_f _ _ _); exact rfl; (first | assumption | omega | decide))
    | (apply s_c TY; exact rfl; (first | omega | exact ⟨by omega, by (first | with_reducible assumption | ((with_reducible apply flasF_ne); omega) | assumption)⟩))
    | (apply s_l TY; exact rfl; (first | exact rfl | with_reducible assumption | assumption))
    | (apply s_m TY; exact rfl; (first | with_reducible assumption | ((with_reducible apply flasF_sub); omega) | exact rfl); exact rfl))
    exact lv_ret (ret2 rfl (res_tmp (av1 e)) (res_tmp (av2 e)))
  rw [show (withinB l[k].time.lo 0 1000000 && withinB l[k].time.hi 0 1000000) = true by simp [withinB]; omega] at f0
  by_cases w3 : l[k].time.hi < l[k].time.lo
  · have hE : flashE x (l.take k) l[k] = 9 := by rw [f0, decide_eq_false (by omega)]; rfl
    have e := hs.trans (fscan_bad hic (by rw [hE]; decide))
    rw [hE] at e
    repeat (first
    | (apply s_a TY; exact rfl)
    | (apply s_t; exact rfl; (first | assumption | omega))
    | (apply s_f; exact rfl; (first | assumption | omega))
    | apply w_seq
    | apply w_region
    | (apply w_draw (id := 13) 17 rfl (by kernel_rfl))
    | (apply w_draw (id := 17) 12 rfl (by kernel_rfl))
    | apply s_nil
    | apply t_norm
    | apply t_exit
    | apply t_ret
    | apply k_hit
    | apply k_ret
    | apply w_exit
    | apply w_ret
    | apply w_skip
    | (apply w_condT; exact rfl; exact rfl)
    | (apply w_condF; exact rfl; exact rfl)
    | (apply s_k (C1); exact rfl)
    | (apply s_k (C2); exact rfl)
    | (apply s_k1 (Within_t _ _ _); exact rfl; (first | assumption | omega | decide))
    | (apply s_c TY; exact rfl; (first | omega | exact ⟨by omega, by (first | with_reducible assumption | ((with_reducible apply flasF_ne); omega) | assumption)⟩))
    | (apply s_l TY; exact rfl; (first | exact rfl | with_reducible assumption | assumption))
    | (apply s_m TY; exact rfl; (first | with_reducible assumption | ((with_reducible apply flasF_sub); omega) | exact rfl); exact rfl))
    exact lv_ret (ret2 rfl (res_tmp (av1 e)) (res_tmp (av2 e)))
  · have hE : flashE x (l.take k) l[k] = 0 := by rw [f0, decide_eq_true (by omega)]; rfl
    have e := hs.trans (fscan_ok hic hE)
    repeat (first
    | (apply s_a TY; exact rfl)
    | (apply s_t; exact rfl; (first | assumption | omega))
    | (apply s_f; exact rfl; (first | assumption | omega))
    | apply w_seq
    | apply w_region
    | (apply w_draw (id := 13) 17 rfl (by kernel_rfl))
    | (apply w_draw (id := 17) 12 rfl (by kernel_rfl))
    | apply s_nil
    | apply t_norm
    | apply t_exit
    | apply k_hit
    | apply k_norm
    | apply w_exit
    | apply w_skip
    | (apply w_condF; exact rfl; exact rfl)
    | (apply s_k (C1); exact rfl)
    | (apply s_k (C2); exact rfl)
    | (apply s_k1 (Within_t _ _ _); exact rfl; (first | assumption | omega | decide))
    | (apply s_c TY; exact rfl; (first | omega | exact ⟨by omega, by (first | with_reducible assumption | ((with_reducible apply flasF_ne); omega) | assumption)⟩))
    | (apply s_l TY; exact rfl; (first | exact rfl | with_reducible assumption | assumption))
    | (apply s_m TY; exact rfl; (first | with_reducible assumption | ((with_reducible apply flasF_sub); omega) | exact rfl); exact rfl))
    exact ⟨k + 1, ⟨by omega, e⟩, by omega, gh_le ⟨le_upd rfl trivial (le_upd rfl trivial (le_upd rfl trivial (le_nil _))), le_h0 _ _⟩⟩
end Go.Proofs.YtienhiloecfgnaaDoor
namespace Go.Proofs.YtienhiloecfgnaaDoor
open Go Go.RowKit Go.Proofs Go.Shelf Go.Ab
theorem mem_upTo {lo hi d : Int} (h1 : lo ≤ d) (h2 : d ≤ hi) : d ∈ upTo lo hi := by
  unfold upTo
  exact List.mem_map.2 ⟨(d - lo).toNat, List.mem_range.2 (by omega), by omega⟩
theorem mem_assigns : ∀ (rs : List Rng) (pre t : List Int) (_ : t.length = rs.length) (_ : ∀ i (h : i < rs.length) (h2 : i < t.length), rs[i].lo ≤ t[i] ∧ t[i] ≤ rs[i].hi), pre ++ t ∈ assigns rs pre
  | [], pre, t, hl, _ => by
    have : t = [] := List.eq_nil_of_length_eq_zero hl
    subst this; simp [assigns]
  | r :: rs, pre, t, hl, hb => by
    cases t with
    | nil => simp at hl
    | cons d t =>
      have h0 := hb 0 (by simp) (by simp)
      simp only [assigns]
      refine List.mem_flatMap.2 ⟨d, mem_upTo h0.1 h0.2, ?_⟩
      have := mem_assigns rs (pre ++ [d]) t (by simpa using hl) (fun i h h2 => hb (i + 1) (by simpa using h) (by simpa using h2))
      rwa [List.append_assoc] at this
theorem loK_le {M : List (List Int)} {i : Nat} : ∀ {n k : Nat}, k < n → loK M i n ≤ atI M k i
  | n + 1, k, h => by
    rw [loK]
    by_cases e : k = n
    · subst e; omega
    · have := loK_le (M := M) (i := i) (show k < n by omega); omega
theorem hiK_ge {M : List (List Int)} {i : Nat} : ∀ {n k : Nat}, k < n → atI M k i ≤ hiK M i n
  | n + 1, k, h => by
    rw [hiK]
    by_cases e : k = n
    · subst e; omega
    · have := hiK_ge (M := M) (i := i) (show k < n by omega); omega
theorem setsL_out {n : Nat} : ∀ {d : Nat} {begun s : List Int} {fr : Nat}, s ∈ setsL n d begun fr → ∃ t, s = begun ++ t ∧ t.length = d ∧ (∀ z ∈ t, (fr : Int) ≤ z ∧ z < n) ∧ t.Pairwise (· < ·)
  | 0, begun, s, fr, h => ⟨[], by simpa [setsL] using h, rfl, by simp, List.Pairwise.nil⟩
  | d + 1, begun, s, fr, h => by
    rw [setsL] at h
    obtain ⟨i, hi, h⟩ := List.mem_flatMap.1 h
    rw [List.mem_range'_1] at hi
    obtain ⟨t, e, hl, hb, hp⟩ := setsL_out h
    refine ⟨(i : Int) :: t, by rw [e]; simp, by simp [hl], fun z hz => ?_, List.pairwise_cons.2 ⟨fun z hz => by have := (hb z hz).1; omega, hp⟩⟩
    rcases List.mem_cons.1 hz with rfl | hz
    · omega
    · have := hb z hz; omega
theorem setsL_in {n : Nat} : ∀ {d : Nat} {begun t : List Int} {fr : Nat}, t.length = d → (∀ z ∈ t, (fr : Int) ≤ z ∧ z < n) → t.Pairwise (· < ·) → begun ++ t ∈ setsL n d begun fr
  | 0, begun, t, fr, hl, _, _ => by
    have : t = [] := List.eq_nil_of_length_eq_zero hl
    subst this; simp [setsL]
  | d + 1, begun, t, fr, hl, hb, hp => by
    cases t with
    | nil => simp at hl
    | cons z t =>
      have h0 := hb z (by simp)
      obtain ⟨p1, p2⟩ := List.pairwise_cons.1 hp
      rw [setsL]
      refine List.mem_flatMap.2 ⟨z.toNat, List.mem_range'_1.2 ⟨by omega, by omega⟩, ?_⟩
      have e : ((z.toNat : Nat) : Int) = z := by omega
      rw [e]
      have := setsL_in (n := n) (d := d) (begun := begun ++ [z]) (t := t) (fr := z.toNat + 1) (by simpa using hl) (fun y hy => by have := p1 y hy; have := (hb y (by simp [hy])).2; omega) p2
      rwa [List.append_assoc] at this
def subL (l : List Flash) (s : List Int) : List Flash := s.map fun i => l.getD i.toNat flash0
theorem cov_sub {x : Grid} {l : List Flash} {ds : List Int} {s : List Int} (hs : ∀ i ∈ s, 0 ≤ i ∧ i < (l.length : Int)) : covB s (mo x l ds) = (subL l s).all (expB x ds) := by
  rw [Bool.eq_iff_iff]
  unfold covB explAll
  rw [Bool.not_eq_true', List.any_eq_false, List.all_eq_true]
  have key : ∀ i ∈ s, (missB (mo x l ds) i = true ↔ ¬ expB x ds (l.getD i.toNat flash0) = true) := fun i hi => by
    have hl : i.toNat < l.length := by have := hs i hi; omega
    unfold missB mo explains
    simp only [List.getD_eq_getElem?_getD, List.getElem?_map, List.getElem?_eq_getElem hl, Option.map_some, Option.getD_some]
    rw [Bool.not_eq_true', ← Bool.not_eq_true]; rfl
  constructor
  · intro h f hf
    obtain ⟨i, hi, rfl⟩ := List.mem_map.1 hf
    have h1 := h i hi
    rw [key i hi] at h1
    exact Classical.not_not.1 h1
  · intro h i hi
    rw [key i hi]
    exact fun h1 => h1 (h _ (List.mem_map.2 ⟨i, hi, rfl⟩))
theorem any_cov {x : Grid} {rs : List Rng} {l : List Flash} {s : List Int} (hs : ∀ i ∈ s, 0 ≤ i ∧ i < (l.length : Int)) : (allMo x rs l).any (covB s) = true ↔ 0 < (modelsM x rs (subL l s)).length := by
  rw [models_eq, List.any_eq_true, List.length_pos_iff_exists_mem]
  unfold allMo news
  constructor
  · rintro ⟨m, hm, hc⟩
    obtain ⟨ds, hds, rfl⟩ := List.mem_map.1 hm
    rw [cov_sub hs] at hc
    exact ⟨ds, List.mem_filter.2 ⟨hds, hc⟩⟩
  · rintro ⟨ds, hds⟩
    obtain ⟨h1, h2⟩ := List.mem_filter.1 hds
    exact ⟨mo x l ds, List.mem_map.2 ⟨ds, h1, rfl⟩, by rw [cov_sub hs]; exact h2⟩
structure SetOk (n : Nat) (s : List Int) : Prop where
  rng : ∀ z ∈ s, 0 ≤ z ∧ z < (n : Int)
  inc : s.Pairwise (· < ·)
theorem conK_some {x : Grid} {rs : List Rng} {l : List Flash} {k : Nat} {s : List Int} (h : conK x rs l k = some s) : SetOk l.length s ∧ s.length = k ∧ (modelsM x rs (subL l s)).length = 0 := by
  unfold conK openOf at h
  have h1 := List.find?_some h
  obtain ⟨t, e, hl, hb, hp⟩ := setsL_out (List.mem_of_find?_eq_some h)
  have e : s = t := by simpa using e
  subst e
  have hr : ∀ z ∈ s, 0 ≤ z ∧ z < (l.length : Int) := fun z hz => by have := hb z hz; omega
  refine ⟨⟨hr, hp⟩, hl, ?_⟩
  refine Nat.eq_zero_of_not_pos fun h2 => ?_
  rw [(any_cov hr).2 h2] at h1; cases h1
theorem conK_none {x : Grid} {rs : List Rng} {l : List Flash} {s : List Int} (h : conK x rs l s.length = none) (ok : SetOk l.length s) : 0 < (modelsM x rs (subL l s)).length := by
  unfold conK openOf at h
  have h1 := List.find?_eq_none.1 h s (by
    have := setsL_in (n := l.length) (begun := []) (t := s) (fr := 0) rfl (fun z hz => by have := ok.rng z hz; omega) ok.inc
    simpa using this)
  refine (any_cov ok.rng).1 ?_
  simpa using h1
theorem models_part {x : Grid} {rs : List Rng} {l : List Flash} {s : List Int} (ok : SetOk l.length s) (h : (modelsM x rs (subL l s)).length = 0) : (modelsM x rs l).length = 0 := by
  refine Nat.eq_zero_of_not_pos fun h2 => ?_
  rw [models_eq, List.length_pos_iff_exists_mem] at h2
  obtain ⟨ds, hds⟩ := h2
  obtain ⟨h3, h4⟩ := List.mem_filter.1 hds
  have : ds ∈ modelsM x rs (subL l s) := by
    rw [models_eq]
    refine List.mem_filter.2 ⟨h3, List.all_eq_true.2 fun f hf => ?_⟩
    obtain ⟨i, hi, rfl⟩ := List.mem_map.1 hf
    have hl : i.toNat < l.length := by have := ok.rng i hi; omega
    rw [List.getD_eq_getElem?_getD, List.getElem?_eq_getElem hl, Option.getD_some]
    exact List.all_eq_true.1 h4 _ (List.getElem_mem hl)
  rw [List.eq_nil_of_length_eq_zero h] at this; cases this
def fullS (n : Nat) : List Int := (List.range n).map fun (k : Nat) => (k : Int)
theorem full_ok (n : Nat) : SetOk n (fullS n) ∧ (fullS n).length = n := by
  refine ⟨⟨fun z hz => ?_, ?_⟩, by simp [fullS]⟩
  · obtain ⟨k, hk, rfl⟩ := List.mem_map.1 hz
    have := List.mem_range.1 hk; omega
  · unfold fullS
    rw [List.pairwise_map]
    exact List.pairwise_lt_range.imp fun h => by omega
theorem sub_full (l : List Flash) : subL l (fullS l.length) = l := by
  unfold subL fullS
  rw [List.map_map]
  refine List.ext_getElem (by simp) fun i h1 h2 => ?_
  simp [List.getD_eq_getElem?_getD, h2]
def dropI (s : List Int) (i : Int) (k : Nat) : List Int := ((List.range k).filter fun (j : Nat) => decide ((j : Int) ≠ i)).map fun j => s.getD j 0
theorem dropI_zero (s : List Int) (i : Int) : dropI s i 0 = [] := rfl
theorem dropI_succ {s : List Int} {i : Int} {k : Nat} (h : k < s.length) : dropI s i (k + 1) = dropI s i k ++ (if (k : Int) = i then [] else [s[k]]) := by
  unfold dropI
  rw [List.range_succ, List.filter_append, List.map_append]
  congr 1
  by_cases e : (k : Int) = i
  · rw [if_pos e]; simp [e]
  · rw [if_neg e]; simp [e, List.getD_eq_getElem?_getD, List.getElem?_eq_getElem h]
theorem dropI_ok {n : Nat} {s : List Int} (ok : SetOk n s) (i : Int) {k : Nat} (hk : k ≤ s.length) : SetOk n (dropI s i k) := by
  have hg : ∀ j, j < s.length → s.getD j 0 = s[j]! := fun j hj => by simp [List.getD_eq_getElem?_getD, hj]
  refine ⟨fun z hz => ?_, ?_⟩
  · obtain ⟨j, hj, rfl⟩ := List.mem_map.1 hz
    have hj := List.mem_range.1 (List.mem_filter.1 hj).1
    have hjs : j < s.length := by omega
    rw [List.getD_eq_getElem?_getD, List.getElem?_eq_getElem hjs, Option.getD_some]
    exact ok.rng _ (List.getElem_mem hjs)
  · unfold dropI
    rw [List.pairwise_map]
    have hp := List.pairwise_iff_getElem.1 ok.inc
    have h1 : ((List.range k).filter fun (j : Nat) => decide ((j : Int) ≠ i)).Pairwise (· < ·) := List.pairwise_lt_range.filter _
    refine List.Pairwise.imp_of_mem (fun {a b} ha hb hab => ?_) h1
    have ha := List.mem_range.1 (List.mem_filter.1 ha).1
    have hb := List.mem_range.1 (List.mem_filter.1 hb).1
    rw [List.getD_eq_getElem?_getD, List.getD_eq_getElem?_getD, List.getElem?_eq_getElem (show a < s.length by omega), List.getElem?_eq_getElem (show b < s.length by omega), Option.getD_some, Option.getD_some]
    exact hp a b (by omega) (by omega) hab
theorem filt_len (i : Nat) : ∀ n, i < n → ((List.range n).filter fun (j : Nat) => decide ((j : Int) ≠ (i : Int))).length = n - 1
  | n + 1, h => by
    rw [List.range_succ, List.filter_append, List.length_append]
    by_cases e : i = n
    · subst e
      have : ((List.range i).filter fun (j : Nat) => decide ((j : Int) ≠ (i : Int))) = List.range i := List.filter_eq_self.2 fun j hj => by have := List.mem_range.1 hj; simp; omega
      rw [this]; simp
    · rw [filt_len i n (by omega)]
      have : ([n].filter fun (j : Nat) => decide ((j : Int) ≠ (i : Int))) = [n] := by simp [show ¬ (n : Int) = (i : Int) by omega]
      rw [this]; simp; omega
theorem dropI_len {s : List Int} {i : Nat} (h : i < s.length) : (dropI s i s.length).length = s.length - 1 := by
  unfold dropI; rw [List.length_map, filt_len i s.length h]
theorem dropI_neg (s : List Int) : dropI s (-1) s.length = s := by
  unfold dropI
  rw [List.filter_eq_self.2 (fun j _ => by simp)]
  refine List.ext_getElem (by simp) fun i h1 h2 => ?_
  simp [List.getD_eq_getElem?_getD, h2]
theorem dropI_le (s : List Int) (i : Int) (k : Nat) : (dropI s i k).length ≤ k := by
  unfold dropI; rw [List.length_map]; exact Nat.le_trans (List.length_filter_le _ _) (by simp)
theorem sub_len (l : List Flash) (s : List Int) : (subL l s).length = s.length := by simp [subL]
theorem sub_app (l : List Flash) (s t : List Int) : subL l (s ++ t) = subL l s ++ subL l t := by simp [subL]
theorem flashE_all {x : Grid} {pre : List Flash} {f : Flash} (h : flashE x pre f = 0) : nameB f.name = true ∧ (pre.any fun o => sameName o.name f.name) = false ∧ cellErrE x f.frm = 0 ∧ cellErrE x f.to = 0 ∧ (withinB f.time.lo 0 1000000 && withinB f.time.hi 0 1000000) = true ∧ f.time.lo ≤ f.time.hi := by
  unfold flashE at h
  rw [firstE_zero] at h
  have a1 := (unlessE_zero (by decide)).1 (h (unlessE (nameB f.name) 4) (by simp))
  have a2 := (unlessE_zero (by decide)).1 (h (unlessE (!pre.any fun o => sameName o.name f.name) 5) (by simp))
  have a3 := h (cellErrE x f.frm) (by simp)
  have a4 := h (cellErrE x f.to) (by simp)
  have a5 := (unlessE_zero (by decide)).1 (h (unlessE (withinB f.time.lo 0 1000000 && withinB f.time.hi 0 1000000) 2) (by simp))
  have a6 := (unlessE_zero (by decide)).1 (h (unlessE (decide (f.time.lo ≤ f.time.hi)) 9) (by simp))
  exact ⟨a1, by simpa using a2, a3, a4, a5, by simpa using a6⟩
theorem flashE_of {x : Grid} {pre : List Flash} {f : Flash} (h1 : nameB f.name = true) (h2 : (pre.any fun o => sameName o.name f.name) = false) (h3 : cellErrE x f.frm = 0) (h4 : cellErrE x f.to = 0) (h5 : (withinB f.time.lo 0 1000000 && withinB f.time.hi 0 1000000) = true) (h6 : f.time.lo ≤ f.time.hi) : flashE x pre f = 0 := by
  unfold flashE
  rw [h1, h2, h3, h4, h5, decide_eq_true h6]; rfl
theorem fscan_all {x : Grid} {l : List Flash} (h : ∀ j (hj : j < l.length), flashE x (l.take j) l[j] = 0) : ∀ (f i : Nat), i + f = l.length → flashScan x l f i = (0, 0)
  | 0, _, _ => rfl
  | f + 1, i, hf => by
    have hi : i < l.length := by omega
    rw [flashScan, getDF hi, if_neg (by simp [h i hi])]
    exact fscan_all h f (i + 1) (by omega)
theorem sub_valid {x : Grid} {rs : List Rng} {l : List Flash} (hc : (checkClass x rs).2 = 0) (h : (checkFlashes x rs l).2 = 0) {s : List Int} (ok : SetOk l.length s) (hl : s.length ≤ 8) : (checkFlashes x rs (subL l s)).2 = 0 := by
  have K := flashesOk h
  rw [fchk_scan hc K.l8] at h
  have hz := flashScan_zero (x := x) (l.length - 0) 0 (by omega) h
  rw [fchk_scan hc (by rw [sub_len]; exact hl)]
  have hp := List.pairwise_iff_getElem.1 ok.inc
  have hat : ∀ j (hj : j < s.length), ∃ hi : s[j].toNat < l.length, (subL l s)[j]'(by rw [sub_len]; exact hj) = l[s[j].toNat] := fun j hj => by
    have := ok.rng _ (List.getElem_mem hj)
    have hi : s[j].toNat < l.length := by omega
    exact ⟨hi, by simp [subL, List.getD_eq_getElem?_getD, List.getElem?_eq_getElem hi]⟩
  have ha : ∀ j (hj : j < (subL l s).length), flashE x ((subL l s).take j) (subL l s)[j] = 0 := fun j hj => by
    have hj' : j < s.length := by rwa [sub_len] at hj
    obtain ⟨hi, e⟩ := hat j hj'
    obtain ⟨q1, q2, q3, q4, q5, q6⟩ := flashE_all (hz s[j].toNat (Nat.zero_le _) hi)
    rw [e]
    refine flashE_of q1 (List.any_eq_false.2 fun o ho => ?_) q3 q4 q5 q6
    obtain ⟨m, hm, rfl⟩ := List.mem_take_iff_getElem.1 ho
    have hms : m < s.length := by rw [sub_len] at hm; omega
    obtain ⟨hi2, e2⟩ := hat m hms
    have hlt := hp m j hms hj' (by rw [sub_len] at hm; omega)
    have r1 := ok.rng _ (List.getElem_mem hms)
    rw [e2]
    exact List.any_eq_false.1 q2 _ (List.mem_take_iff_getElem.2 ⟨s[m].toNat, by omega, rfl⟩)
  rw [fscan_all ha _ 0 (by simp)]
end Go.Proofs.YtienhiloecfgnaaDoor
namespace Go.Proofs.YtienhiloecfgnaaDoor
open Go Go.RowKit Go.Proofs Go.Shelf Go.Ab
set_option maxRecDepth 100000 in
theorem isShaped_s (x : Grid) (T : List (List Int)) (h1 : (T.length : Int) = x.rows) (h2 : ∀ r ∈ T, r.length = x.tilt.length) (h3 : x.rows ≤ 12) : Summ Tryd.prog GG 21 [gridF x, .sl T.length (matF T)] (bv true) := by
  refine summW Tryd.func21 rfl rfl 26 rfl (by simp) (fun M0 => ?_)
  repeat (first
    | (apply s_a TY; exact rfl)
    | (apply s_t; exact rfl; (first | assumption | omega))
    | apply w_seq
    | apply w_region
    | apply s_nil
    | apply t_norm
    | apply w_block
    | apply w_skip
    | (apply w_condF; exact rfl; exact rfl))
  apply w_loop (fun k : Nat => ⟨(Ab.upd (Ab.upd (Ab.upd (fun _ => .bot) 1 (.f (.sl T.length (matF T)))) 2 (.f (.pt (gridL x) 0))) 5 (.f (iv (k : Nat)))), (fun _ => none), 0⟩) (fun k => k ≤ T.length) (fun k => T.length - k) 0 (Nat.zero_le _) (gh_le ⟨le_upd rfl trivial (le_upd rfl trivial (le_upd rfl trivial (le_nil _))), le_h0 _ _⟩)
  intro k hk
  by_cases hkc : k < T.length
  · have hrk := h2 T[k] (List.getElem_mem hkc)
    repeat (first
    | (apply s_a TY; exact rfl)
    | (apply s_t; exact rfl; (first | assumption | omega))
    | apply w_seq
    | apply w_region
    | (apply w_draw (id := 6) 8 rfl (by kernel_rfl))
    | apply s_nil
    | apply t_norm
    | apply k_norm
    | apply w_block
    | apply w_skip
    | (apply w_condT; exact rfl; exact rfl)
    | (apply w_condF; exact rfl; exact rfl)
    | (apply s_c TY; exact rfl; (first | omega | exact ⟨by omega, by (first | with_reducible assumption | ((with_reducible apply matF_ne); omega) | assumption)⟩))
    | (apply s_l TY; exact rfl; (first | exact rfl | with_reducible assumption | ((with_reducible apply matF_at); omega) | assumption)))
    exact ⟨k + 1, by omega, by omega, gh_le ⟨le_upd rfl trivial (le_upd rfl trivial (le_upd rfl trivial (le_nil _))), le_h0 _ _⟩⟩
  · repeat (first
    | (apply s_a TY; exact rfl)
    | (apply s_f; exact rfl; (first | assumption | omega))
    | apply w_seq
    | apply w_region
    | apply s_nil
    | apply t_norm
    | apply t_exit
    | apply k_hit
    | apply w_exit
    | apply w_ret
    | (apply w_condF; exact rfl; exact rfl))
    exact lv_ret (ret1 rfl (res_tmp rfl))
end Go.Proofs.YtienhiloecfgnaaDoor
namespace Go.Proofs.YtienhiloecfgnaaDoor
open Go Go.RowKit Go.Proofs Go.Shelf Go.Ab
theorem remT {T : TypeId} {x y : Operand} (a b : Int) (h : 1 ≤ b) : ∀ w, (do eqGuard .rem T x y (.int .i64 a) (.int .i64 b); binOp .rem T (.int .i64 a) (.int .i64 b) : Sem Value).run Tryd.prog w = .ok (.int .i64 (a.tmod b)) w := fun w => by
  have hb : ¬ b = 0 := by omega
  simp [eqGuard, binOp, Op.intDiv, hb]
def modI (n b : Int) : Int := if n.tmod b < 0 then n.tmod b + b else n.tmod b
theorem modI_bd (n b : Int) (h : 1 ≤ b) : 0 ≤ modI n b ∧ modI n b < b := by
  have h1 := Int.tmod_lt_of_pos n (show 0 < b by omega)
  have h2 := Int.lt_tmod_of_pos n (show 0 < b by omega)
  unfold modI
  split <;> omega
def slowD (y : Grid) : List Int := y.layers.map fun l => min 1000 (l.delay + 1)
theorem slowD_len (y : Grid) : (slowD y).length = y.layers.length := by simp [slowD]
theorem slowD_bd {y : Grid} (v : Valid y) : ∀ d ∈ slowD y, 1 ≤ d ∧ d ≤ 1000 := fun d hd => by
  obtain ⟨l, hl, rfl⟩ := List.mem_map.1 hd
  have := (v.lay l hl).1
  omega
theorem slow_valid {y : Grid} (v : Valid y) : Valid (own y (slowD y)) := own_valid v (slowD_bd v)
theorem slow_delay {y : Grid} (v : Valid y) (c : Cel) : delayAt y c ≤ delayAt (own y (slowD y)) c := by
  have e : layerI (own y (slowD y)) c = layerI y c := by unfold layerI; rw [own_layers]; rfl
  unfold delayAt
  rw [e]
  obtain ⟨h1, h2⟩ := layerI_bd v c
  have h3 : (layerI y c).toNat < y.layers.length := by omega
  have hd := (v.lay _ (List.getElem_mem h3)).1
  rw [List.getD_eq_getElem?_getD, List.getD_eq_getElem?_getD, List.getElem?_eq_getElem h3, List.getElem?_eq_getElem (by rw [own_layers]; exact h3)]
  simp only [Option.getD_some, own, List.getElem_mapIdx]
  rw [List.getD_eq_getElem?_getD, List.getElem?_eq_getElem (by rw [slowD_len]; exact h3)]
  simp only [Option.getD_some, slowD, List.getElem_map]
  omega
theorem slow_dist {y : Grid} (v : Valid y) {a : Cel} (ha : InG y a) : ∀ (k : Nat) (c : Cel), InG y c → (distOf (own y (slowD y)) a c).toNat ≤ k → distOf y a c ≤ distOf (own y (slowD y)) a c := by
  obtain ⟨d, _⟩ := distOf_all v ha
  obtain ⟨d', _⟩ := distOf_all (slow_valid v) (fr := a) ha
  have en : ∀ c, nbrs (own y (slowD y)) c = nbrs y c := fun c => by
    unfold nbrs
    refine List.filter_congr fun n _ => ?_
    rw [Bool.eq_iff_iff, cellB_in v, cellB_in (slow_valid v)]; rfl
  intro k
  induction k with
  | zero =>
    intro c hc hk
    by_cases e : c = a
    · subst e; rw [d.zero, d'.zero]; exact Int.le_refl _
    · obtain ⟨n, hn, e2⟩ := d'.tight c hc e
      have := d'.nonneg n (nbrs_in (slow_valid v) hn)
      have := stepI_bd (slow_valid v) n c
      omega
  | succ k ih =>
    intro c hc hk
    by_cases e : c = a
    · subst e; rw [d.zero, d'.zero]; exact Int.le_refl _
    · obtain ⟨n, hn, e2⟩ := d'.tight c hc e
      have h0 := d'.nonneg n (nbrs_in (slow_valid v) hn)
      have h1 := stepI_bd (slow_valid v) n c
      have hn' : n ∈ nbrs y c := by rw [← en]; exact hn
      have hnn := nbrs_in v hn'
      have h2 := ih n hnn (by omega)
      have h3 := d.le n c hnn (nbrs_symm v hc hn')
      have h4 : stepI y n c ≤ stepI (own y (slowD y)) n c := by
        have := slow_delay v n; have := slow_delay v c; unfold stepI; omega
      omega
theorem ownL_cur (y : Grid) (ds : List Int) {k : Nat} (hk : k < y.layers.length) : (laysF (ownL y ds k))[k * 3 + 0]? = some (iv y.layers[k].delay) := by
  have hl : k < (ownL y ds k).length := by rw [ownL_len]; exact hk
  have h1 : ((laysF (ownL y ds k)).drop (k * 3)).take 3 = layF (ownL y ds k)[k] := flat_sub (f := layF) (fun _ => rfl) hl
  have h2 := congrArg (fun z => z[0]?) h1
  have h3 : (ownL y ds k)[k].delay = y.layers[k].delay := by simp [ownL]
  rw [← h3]
  simpa [List.getElem?_take, List.getElem?_drop, layF] using h2
set_option maxRecDepth 100000 in
theorem Mod_s (n b : Int) (h : 1 ≤ b) (hb : b ≤ 1000000) : Summ Tryd.prog GG 67 [iv n, iv b] (iv (modI n b)) := by
  have h1 := Int.tmod_lt_of_pos n (show 0 < b by omega)
  have h2 := Int.lt_tmod_of_pos n (show 0 < b by omega)
  refine summW Tryd.func67 rfl rfl 14 rfl (by simp) (fun M0 => ?_)
  unfold modI
  by_cases hn : n.tmod b < 0
  · rw [if_pos hn]
    repeat (first
    | (apply s_bind; exact rfl; exact rfl; exact rfl; exact rfl; exact rfl; exact rfl; exact remT _ _ (by omega))
    | (apply s_a TY; exact rfl)
    | (apply s_t; exact rfl; (first | assumption | omega))
    | apply w_seq
    | apply w_region
    | apply s_nil
    | apply t_norm
    | apply w_ret
    | (apply w_condT; exact rfl; exact rfl)
    | (apply s_c TY; exact rfl; omega))
    exact lv_ret (ret1 rfl (res_tmp rfl))
  · rw [if_neg hn]
    repeat (first
    | (apply s_bind; exact rfl; exact rfl; exact rfl; exact rfl; exact rfl; exact rfl; exact remT _ _ (by omega))
    | (apply s_a TY; exact rfl)
    | (apply s_f; exact rfl; (first | assumption | omega))
    | apply w_seq
    | apply w_region
    | apply s_nil
    | apply t_norm
    | apply w_ret
    | apply w_skip
    | (apply w_condF; exact rfl; exact rfl))
    exact lv_ret (ret1 rfl (res_tmp rfl))
set_option maxRecDepth 100000 in
theorem FlashesErr_s (x : Grid) (rs : List Rng) (l : List Flash) (hc : (checkClass x rs).2 = 0) (hl : l.length ≤ 1000) : Summ Tryd.prog GG 66 [classF x rs, .sl l.length (flasF l)] (iv (checkFlashes x rs l).2) := by
  have RF := RFlashes_s x rs l hc hl
  refine summW Tryd.func66 rfl rfl 14 rfl (by simp) (fun M0 => ?_)
  repeat (first
    | (apply s_a TY; exact rfl)
    | apply w_seq
    | apply w_region
    | apply s_nil
    | apply t_norm
    | apply w_ret
    | (apply s_k (RF); exact rfl))
  exact lv_ret (ret1 rfl (res_tmp rfl))
set_option maxRecDepth 100000 in
set_option maxHeartbeats 4000000 in
theorem lawExpl_s (x : Grid) (rs : List Rng) (ds : List Int) (l : List Flash) (v : Valid x) (hd : ds.length = x.layers.length) (hbd : ∀ d ∈ ds, 1 ≤ d ∧ d ≤ 1000) (hl : l.length ≤ 1000) (hcl : ∀ f ∈ l, InG x f.frm ∧ InG x f.to) : Summ Tryd.prog GG 68 [classF x rs, .sl ds.length (intsF ds), .sl l.length (flasF l)] (bv (l.all (expB x ds))) := by
  have l1 := v.l1
  have l6 := v.l6
  have t8 := v.t8
  have r12 := v.r12
  have vy : Valid (own x ds) := own_valid v hbd
  have vz : Valid (own (own x ds) (slowD (own x ds))) := slow_valid vy
  have ly : (own x ds).layers.length = x.layers.length := own_layers x ds
  have ty : (own x ds).tilt.length = x.tilt.length := rfl
  have WS := With_s x ds l1 (by omega) (by omega) hd
  have CN := CopyIce_n (own x ds) (by omega) (by omega) (by omega)
  refine summW Tryd.func68 rfl rfl 172 rfl (by simp) (fun M0 => ?_)
  repeat (first
    | (apply s_a TY; exact rfl)
    | apply w_seq
    | apply w_region
    | apply s_nil
    | apply t_norm
    | apply w_block)
  apply w_loop (fun k : Nat => ⟨(Ab.upd (Ab.upd (Ab.upd (Ab.upd (fun _ => .bot) 1 (.f (.sl ds.length (intsF ds)))) 2 (.f (.sl l.length (flasF l)))) 3 (.f (.pt (classL x rs) 0))) 7 (.f (iv (k : Nat)))), (fun _ => none), 0⟩) (fun k => k ≤ ds.length) (fun k => ds.length - k) 0 (Nat.zero_le _) (gh_le ⟨le_upd rfl trivial (le_upd rfl trivial (le_upd rfl trivial (le_upd rfl trivial (le_nil _)))), le_h0 _ _⟩)
  intro k hk
  by_cases hkc : k < ds.length
  · have hb := hbd ds[k] (List.getElem_mem hkc)
    repeat (first
    | (apply s_a TY; exact rfl)
    | (apply s_t; exact rfl; (first | assumption | omega))
    | apply w_seq
    | apply w_region
    | apply s_nil
    | apply t_norm
    | apply k_norm
    | apply w_block
    | apply w_skip
    | (apply w_condT; exact rfl; exact rfl)
    | (apply w_condF; exact rfl; exact rfl)
    | (apply s_k1 (Within_t _ _ _); exact rfl; (first | assumption | omega | decide))
    | (apply s_c TY; exact rfl; (first | omega | exact ⟨by omega, by (first | with_reducible assumption | ((with_reducible apply laysF_ne); omega) | ((with_reducible apply intsF_ne); omega) | ((with_reducible apply matF_ne); omega) | ((with_reducible apply flasF_ne); omega) | assumption)⟩))
    | (apply s_l TY; exact rfl; (first | exact rfl | with_reducible assumption | ((with_reducible apply intsF_at); omega) | ((with_reducible apply matF_at); omega) | assumption)))
    exact ⟨k + 1, by omega, by omega, gh_le ⟨le_upd rfl trivial (le_upd rfl trivial (le_upd rfl trivial (le_upd rfl trivial (le_nil _)))), le_h0 _ _⟩⟩
  repeat (first
    | (apply s_callS CN; exact rfl; exact rfl; exact rfl; exact rfl; exact rfl)
    | (apply s_a TY; exact rfl)
    | (apply s_f; exact rfl; (first | assumption | omega))
    | apply w_seq
    | apply w_region
    | apply s_nil
    | apply t_norm
    | apply t_exit
    | apply k_hit
    | apply w_block
    | apply w_exit
    | (apply w_condF; exact rfl; exact rfl)
    | (apply s_k (WS); exact rfl)
    | (apply s_alloc TY; exact rfl; exact rfl; exact rfl)
    | (apply s_store TY; exact rfl; exact rfl; exact rfl; exact rfl; exact rfl; exact rfl))
  apply w_loop (fun k : Nat => ⟨(Ab.upd (Ab.upd (Ab.upd (Ab.upd (fun _ => .bot) 2 (.f (.sl l.length (flasF l)))) 8 (.bx 0 0)) 9 (.bx 2 0)) 10 (.f (iv (k : Nat)))), (Ab.upd (Ab.upd (Ab.upd (fun _ => none) 0 (some (.box ((gridL (own x ds)).map .f)))) 1 (some (.row 33 3 (own x ds).layers.length (laysF (ownL (own x ds) (slowD (own x ds)) k))))) 2 (some (.box [.ow 1, .f (iv (own x ds).rows), .f (.sl (own x ds).tilt.length (intsF (own x ds).tilt))]))), 3⟩) (fun k => k ≤ (own x ds).layers.length) (fun k => (own x ds).layers.length - k) 0 (Nat.zero_le _) (gh_le ⟨le_upd rfl trivial (le_upd rfl rfl (le_upd rfl rfl (le_upd rfl trivial (le_nil _)))), le_hupd rfl (fun y hy => by simp at hy; rcases hy with rfl | rfl | rfl <;> first | trivial | rfl) (le_hupd (congrArg (fun L => some (Blk.row 33 3 (own x ds).layers.length (laysF L))) (ownL_zero (own x ds) (slowD (own x ds))).symm) trivial (le_hupd rfl (fun y hy => by simp [gridL] at hy; rcases hy with rfl | rfl | rfl <;> trivial) (le_h0 _ _)))⟩)
  clear hkc hk k
  intro k hk
  by_cases hkc : k < (own x ds).layers.length
  · have hcur := ownL_cur (own x ds) (slowD (own x ds)) hkc
    have hsl : k < (slowD (own x ds)).length := by rw [slowD_len]; exact hkc
    have hs := ownL_succ (own x ds) (slowD (own x ds)) hsl (slowD_len (own x ds))
    rw [show (slowD (own x ds))[k] = min 1000 ((own x ds).layers[k].delay + 1) by simp [slowD]] at hs
    have hb := (vy.lay _ (List.getElem_mem hkc)).1
    have hll := ownL_len (own x ds) (slowD (own x ds)) k
    have hln := laysF_len (ownL (own x ds) (slowD (own x ds)) k)
    repeat (first
    | (apply s_storeR TY; exact rfl; exact rfl; exact rfl; exact rfl; exact rfl; (show _ + 1 ≤ _; omega))
    | (apply s_a TY; exact rfl)
    | (apply s_t; exact rfl; (first | assumption | omega))
    | apply w_seq
    | apply w_region
    | (apply w_draw (id := 11) 11 rfl (by kernel_rfl))
    | apply s_nil
    | apply t_norm
    | apply k_norm
    | apply w_block
    | apply w_skip
    | (apply w_condT; exact rfl; exact rfl)
    | (apply s_c TY; exact rfl; (first | omega | exact ⟨by omega, by (first | with_reducible assumption | ((with_reducible apply laysF_ne); omega) | ((with_reducible apply intsF_ne); omega) | ((with_reducible apply matF_ne); omega) | ((with_reducible apply flasF_ne); omega) | assumption)⟩))
    | (apply s_r TY; exact rfl; (first | exact rfl | with_reducible assumption | ((with_reducible apply intsF_at); omega) | ((with_reducible apply matF_at); omega) | assumption)))
    exact ⟨k + 1, by omega, by omega, gh_le ⟨le_upd rfl trivial (le_upd rfl rfl (le_upd rfl rfl (le_upd rfl trivial (le_nil _)))), le_hupd rfl (fun y hy => by simp at hy; rcases hy with rfl | rfl | rfl <;> first | trivial | rfl) (le_hupd (congrArg (fun L => some (Blk.row 33 3 (own x ds).layers.length L)) hs) trivial (le_hupd rfl (fun y hy => by simp [gridL] at hy; rcases hy with rfl | rfl | rfl <;> trivial) (le_h0 _ _)))⟩⟩
  have hke : k = (own x ds).layers.length := by omega
  subst hke
  have eL : ownL (own x ds) (slowD (own x ds)) (own x ds).layers.length = (own (own x ds) (slowD (own x ds))).layers := by
    have := ownL_end (own x ds) (slowD (own x ds))
    rwa [slowD_len] at this
  have eN : (own x ds).layers.length = (own (own x ds) (slowD (own x ds))).layers.length := (own_layers _ _).symm
  repeat (first
    | (apply s_a TY; exact rfl)
    | (apply s_f; exact rfl; (first | assumption | omega))
    | apply w_seq
    | apply w_region
    | apply s_nil
    | apply t_norm
    | apply t_exit
    | apply k_hit
    | apply w_block
    | apply w_exit
    | (apply w_condF; exact rfl; exact rfl))
  apply w_gh (gh_row 1 rfl)
  apply w_loop (fun p : Nat × Bool => ⟨(Ab.upd (Ab.upd (Ab.upd (Ab.upd (Ab.upd (fun _ => .bot) 2 (.f (.sl l.length (flasF l)))) 8 (.bx 0 0)) 9 (.bx 2 0)) 11 (.f (bv p.2))) 12 (.f (iv (p.1 : Nat)))), (Ab.upd (Ab.upd (fun _ => none) 0 (some (.box ((gridL (own x ds)).map .f)))) 2 (some (.box ((gridL (own (own x ds) (slowD (own x ds)))).map .f)))), 3⟩) (fun p => p.1 ≤ l.length ∧ (l.take p.1).all (expB x ds) = p.2) (fun p => l.length - p.1) (0, true) (⟨Nat.zero_le _, rfl⟩) (gh_le ⟨le_upd rfl trivial (le_upd rfl trivial (le_upd rfl rfl (le_upd rfl rfl (le_upd rfl trivial (le_nil _))))), le_hupd (congrArg some (congrArg Blk.box (by rw [eL, eN]; rfl))) (fun y hy => by simp [gridL] at hy; rcases hy with rfl | rfl | rfl <;> trivial) (le_hupd rfl (fun y hy => by simp [gridL] at hy; rcases hy with rfl | rfl | rfl <;> trivial) (le_h0 _ _))⟩)
  rintro ⟨i, b⟩ ⟨hi, hb⟩
  show W _ _ _ _ ⟨(Ab.upd (Ab.upd (Ab.upd (Ab.upd (Ab.upd (fun _ => .bot) 2 (.f (.sl l.length (flasF l)))) 8 (.bx 0 0)) 9 (.bx 2 0)) 11 (.f (bv b))) 12 (.f (iv (i : Nat)))), (Ab.upd (Ab.upd (fun _ => none) 0 (some (.box ((gridL (own x ds)).map .f)))) 2 (some (.box ((gridL (own (own x ds) (slowD (own x ds)))).map .f)))), 3⟩
  simp only at hi hb
  by_cases hic : i < l.length
  · obtain ⟨hf, ht⟩ := hcl l[i] (List.getElem_mem hic)
    have hty : InG (own x ds) l[i].to := ht
    have hfz : InG (own (own x ds) (slowD (own x ds))) l[i].frm := hf
    have htz : InG (own (own x ds) (slowD (own x ds))) l[i].to := ht
    have CY := CopyIce_s (own x ds) (by omega) (by omega)
    have CZ := CopyIce_s (own (own x ds) (slowD (own x ds))) (by omega) (by show (own x ds).tilt.length ≤ _; omega)
    have T1 : Summ Tryd.prog GG 19 [gridF (own x ds), .agg (celF l[i].frm)] (.tup [.sl (timesM (own x ds) l[i].frm).length (matF (timesM (own x ds) l[i].frm)), iv 0]) := by
      have := TimesFrom_s (own x ds) l[i].frm ⟨by omega, by omega⟩
      rwa [show timesR (own x ds) l[i].frm = (timesM (own x ds) l[i].frm, 0) by unfold timesR; rw [show fromE (own x ds) l[i].frm = 0 from fromE_zero.2 ⟨vy, hf⟩]; rfl] at this
    have T2 : Summ Tryd.prog GG 19 [gridF (own (own x ds) (slowD (own x ds))), .agg (celF l[i].frm)] (.tup [.sl (timesM (own (own x ds) (slowD (own x ds))) l[i].frm).length (matF (timesM (own (own x ds) (slowD (own x ds))) l[i].frm)), iv 0]) := by
      have := TimesFrom_s (own (own x ds) (slowD (own x ds))) l[i].frm ⟨by omega, by show (own x ds).tilt.length ≤ _; omega⟩
      rwa [show timesR (own (own x ds) (slowD (own x ds))) l[i].frm = (timesM (own (own x ds) (slowD (own x ds))) l[i].frm, 0) by unfold timesR; rw [show fromE (own (own x ds) (slowD (own x ds))) l[i].frm = 0 from fromE_zero.2 ⟨vz, hfz⟩]; rfl] at this
    have s1 := timesM_shape vy l[i].frm
    have s2 := timesM_shape vz l[i].frm
    have I1 := isShaped_s (own x ds) _ s1.len s1.row vy.r12
    have I2 := isShaped_s (own x ds) (timesM (own (own x ds) (slowD (own x ds))) l[i].frm) s2.len s2.row vy.r12
    have n1 := s1.len
    have n2 := s2.len
    obtain ⟨q1, q2, qa⟩ := tab_at s1 hty
    rw [tab_timesM hty] at qa
    obtain ⟨p1, p2, pa⟩ := tab_at s2 htz
    rw [tab_timesM htz] at pa
    have mono := slow_dist vy hf _ l[i].to ht (Nat.le_refl _)
    have m1 : ((flasF l).drop (i * 7 + 1)).take 2 = celF l[i].frm := flasF_two hic (by decide)
    have n3 : (flasF l)[i * 7 + 3 + 0]? = some (iv l[i].to.col) := flasF_el hic (j := 3) (by decide)
    have n4 : (flasF l)[i * 7 + 3 + 1]? = some (iv l[i].to.row) := flasF_el hic (j := 4) (by decide)
    have n5 : (flasF l)[i * 7 + 5 + 0]? = some (iv l[i].time.lo) := flasF_el hic (j := 5) (by decide)
    have n6 : (flasF l)[i * 7 + 5 + 1]? = some (iv l[i].time.hi) := flasF_el hic (j := 6) (by decide)
    have WI := Within_s (distOf (own x ds) l[i].frm l[i].to) l[i].time.lo l[i].time.hi
    have rz : (own (own x ds) (slowD (own x ds))).rows = (own x ds).rows := rfl
    obtain ⟨⟨g0, g1⟩, g2, g3⟩ := id ht
    have hs := all_succ (p := expB x ds) hic
    rw [hb] at hs
    cases b
    · repeat (first
    | (apply s_a TY; exact rfl)
    | (apply s_t; exact rfl; (first | assumption | omega))
    | (apply s_f; exact rfl; (first | assumption | omega))
    | apply w_seq
    | apply w_region
    | (apply w_draw (id := 16) 12 rfl (by kernel_rfl))
    | (apply w_draw (id := 17) 12 rfl (by kernel_rfl))
    | (apply w_draw (id := 18) 53 rfl (by kernel_rfl))
    | (apply w_draw (id := 20) 31 rfl (by kernel_rfl))
    | apply s_nil
    | apply t_norm
    | apply k_norm
    | apply w_block
    | apply w_skip
    | (apply w_condT; exact rfl; exact rfl)
    | (apply w_condF; exact rfl; exact rfl)
    | (apply s_k (CY); exact rfl)
    | (apply s_k (CZ); exact rfl)
    | (apply s_k (T1); exact rfl)
    | (apply s_k (T2); exact rfl)
    | (apply s_k (I1); exact rfl)
    | (apply s_k (I2); exact rfl)
    | (apply s_s; exact rfl)
    | (apply s_c TY; exact rfl; (first | omega | exact ⟨by omega, by (first | with_reducible assumption | ((with_reducible apply laysF_ne); omega) | ((with_reducible apply intsF_ne); omega) | ((with_reducible apply matF_ne); omega) | ((with_reducible apply flasF_ne); omega) | assumption)⟩))
    | (apply s_z TY; exact rfl; (first | omega | exact ⟨by omega, by (first | with_reducible assumption | ((with_reducible apply laysF_ne); omega) | ((with_reducible apply intsF_ne); omega) | ((with_reducible apply matF_ne); omega) | ((with_reducible apply flasF_ne); omega) | assumption)⟩))
    | (apply s_l TY; exact rfl; (first | exact rfl | with_reducible assumption | ((with_reducible apply intsF_at); omega) | ((with_reducible apply matF_at); omega) | assumption))
    | (apply s_m TY; exact rfl; (first | with_reducible assumption | ((with_reducible apply laysF_sub); omega) | ((with_reducible apply flasF_sub); omega) | exact rfl); exact rfl))
      exact ⟨(i + 1, false), ⟨by simp only; omega, hs⟩, by simp only; omega, gh_le ⟨le_upd rfl trivial (le_upd rfl trivial (le_upd rfl rfl (le_upd rfl rfl (le_upd rfl trivial (le_nil _))))), le_hupd rfl (fun y hy => by simp [gridL] at hy; rcases hy with rfl | rfl | rfl <;> trivial) (le_hupd rfl (fun y hy => by simp [gridL] at hy; rcases hy with rfl | rfl | rfl <;> trivial) (le_h0 _ _))⟩⟩
    · repeat (first
    | (apply s_a TY; exact rfl)
    | (apply s_t; exact rfl; (first | assumption | omega))
    | (apply s_f; exact rfl; (first | assumption | omega))
    | apply w_seq
    | apply w_region
    | (apply w_draw (id := 16) 12 rfl (by kernel_rfl))
    | (apply w_draw (id := 17) 12 rfl (by kernel_rfl))
    | (apply w_draw (id := 18) 53 rfl (by kernel_rfl))
    | (apply w_draw (id := 20) 31 rfl (by kernel_rfl))
    | apply s_nil
    | apply t_norm
    | apply k_norm
    | apply w_block
    | apply w_skip
    | (apply w_condT; exact rfl; exact rfl)
    | (apply w_condF; exact rfl; exact rfl)
    | (apply s_k (CY); exact rfl)
    | (apply s_k (CZ); exact rfl)
    | (apply s_k (T1); exact rfl)
    | (apply s_k (T2); exact rfl)
    | (apply s_k (I1); exact rfl)
    | (apply s_k (I2); exact rfl)
    | (apply s_k (WI); exact rfl)
    | (apply s_c TY; exact rfl; (first | omega | exact ⟨by omega, by (first | with_reducible assumption | ((with_reducible apply laysF_ne); omega) | ((with_reducible apply intsF_ne); omega) | ((with_reducible apply matF_ne); omega) | ((with_reducible apply flasF_ne); omega) | assumption)⟩))
    | (apply s_z TY; exact rfl; (first | omega | exact ⟨by omega, by (first | with_reducible assumption | ((with_reducible apply laysF_ne); omega) | ((with_reducible apply intsF_ne); omega) | ((with_reducible apply matF_ne); omega) | ((with_reducible apply flasF_ne); omega) | assumption)⟩))
    | (apply s_l TY; exact rfl; (first | exact rfl | with_reducible assumption | ((with_reducible apply intsF_at); omega) | ((with_reducible apply matF_at); omega) | assumption))
    | (apply s_m TY; exact rfl; (first | with_reducible assumption | ((with_reducible apply laysF_sub); omega) | ((with_reducible apply flasF_sub); omega) | exact rfl); exact rfl))
      exact ⟨(i + 1, expB x ds l[i]), ⟨by simp only; omega, hs⟩, by simp only; omega, gh_le ⟨le_upd rfl trivial (le_upd rfl trivial (le_upd rfl rfl (le_upd rfl rfl (le_upd rfl trivial (le_nil _))))), le_hupd rfl (fun y hy => by simp [gridL] at hy; rcases hy with rfl | rfl | rfl <;> trivial) (le_hupd rfl (fun y hy => by simp [gridL] at hy; rcases hy with rfl | rfl | rfl <;> trivial) (le_h0 _ _))⟩⟩
  · have hie : i = l.length := by omega
    subst hie
    rw [List.take_length] at hb
    rw [hb]
    repeat (first
    | (apply s_a TY; exact rfl)
    | (apply s_f; exact rfl; (first | assumption | omega))
    | apply w_seq
    | apply w_region
    | apply s_nil
    | apply t_norm
    | apply t_exit
    | apply k_hit
    | apply w_exit
    | apply w_ret
    | (apply w_condF; exact rfl; exact rfl))
    exact lv_ret (ret1 rfl (res_tmp rfl))
end Go.Proofs.YtienhiloecfgnaaDoor
namespace Go.Proofs.YtienhiloecfgnaaDoor
open Go Go.RowKit Go.Proofs Go.Shelf Go.Ab
theorem light_few {x : Grid} {rs : List Rng} (h : lightB x rs = true) : (x.layers.length ≤ 8 ∧ x.tilt.length ≤ 10) ∧ rs.length ≤ 8 := by
  unfold lightB at h
  simp only [Bool.and_eq_true, decide_eq_true_eq] at h
  exact ⟨fewB_true h.1.1, h.1.2⟩
set_option maxRecDepth 100000 in
set_option maxHeartbeats 4000000 in
theorem IceModels_s (x : Grid) (rs : List Rng) (l : List Flash) (hname : ∀ f ∈ l, f.name.size ≤ 9223372036854775807) : Summ Tryd.prog GG 4 [classF x rs, .sl l.length (flasF l)] (bv true) := by
  have LT := light_s x rs
  refine summW Tryd.func4 rfl rfl 100 rfl (by simp) (fun M0 => ?_)
  cases h : lightB x rs
  · rw [h] at LT
    repeat (first
    | (apply s_a TY; exact rfl)
    | apply w_seq
    | apply w_region
    | apply s_nil
    | apply t_norm
    | apply t_ret
    | apply w_ret
    | apply w_skip
    | (apply w_condT; exact rfl; exact rfl)
    | (apply w_condF; exact rfl; exact rfl)
    | (apply s_k (LT); exact rfl)
    | (apply s_k (awake_s); exact rfl)
    | (apply s_s; exact rfl))
    exact lv_ret (ret1 rfl (res_tmp rfl))
  rw [h] at LT
  obtain ⟨⟨f1, f2⟩, h8⟩ := light_few h
  by_cases h10 : l.length ≤ 10
  case neg =>
    repeat (first
    | (apply s_a TY; exact rfl)
    | (apply s_t; exact rfl; (first | assumption | omega))
    | apply w_seq
    | apply w_region
    | apply s_nil
    | apply t_norm
    | apply t_ret
    | apply w_ret
    | apply w_skip
    | (apply w_condT; exact rfl; exact rfl)
    | (apply w_condF; exact rfl; exact rfl)
    | (apply s_k (LT); exact rfl)
    | (apply s_k (awake_s); exact rfl))
    exact lv_ret (ret1 rfl (res_tmp rfl))
  have b : Small x rs l := ⟨by omega, by omega, by omega, by omega, hname⟩
  have CC := CopyClass_s x rs (by omega) (by omega) (by omega)
  have CF := CopyFlashes_s l (by omega)
  have CK := CheckClass_s x rs ⟨by omega, by omega⟩ (by omega)
  have CFL := CheckFlashes_s x rs l b
  have RC := RClass_s x rs (by omega)
  by_cases hc : (checkClass x rs).2 = 0
  case neg =>
    have e := fE_cls (l := l) hc
    have MO := ModelsOf_err x rs l b (by rw [e]; exact hc)
    rw [e] at CFL MO
    repeat (first
    | (apply s_a TY; exact rfl)
    | (apply s_t; exact rfl; (first | assumption | omega))
    | (apply s_f; exact rfl; (first | assumption | omega))
    | apply w_seq
    | apply w_region
    | apply s_nil
    | apply t_norm
    | apply t_ret
    | apply w_ret
    | apply w_skip
    | (apply w_condT; exact rfl; exact rfl)
    | (apply w_condF; exact rfl; exact rfl)
    | (apply s_k (LT); exact rfl)
    | (apply s_k (CC); exact rfl)
    | (apply s_k (CF); exact rfl)
    | (apply s_k (CK); exact rfl)
    | (apply s_k (CFL); exact rfl)
    | (apply s_k (MO); exact rfl)
    | (apply s_k (RC); exact rfl)
    | (apply s_k (awake_s); exact rfl))
    exact lv_ret (ret1 rfl (res_tmp rfl))
  have RF := RFlashes_s x rs l hc (by omega)
  by_cases hf : (checkFlashes x rs l).2 = 0
  case neg =>
    have MO := ModelsOf_err x rs l b hf
    repeat (first
    | (apply s_a TY; exact rfl)
    | (apply s_t; exact rfl; (first | assumption | omega))
    | (apply s_f; exact rfl; (first | assumption | omega))
    | apply w_seq
    | apply w_region
    | apply s_nil
    | apply t_norm
    | apply t_ret
    | apply w_ret
    | apply w_skip
    | (apply w_condT; exact rfl; exact rfl)
    | (apply w_condF; exact rfl; exact rfl)
    | (apply s_k (LT); exact rfl)
    | (apply s_k (CC); exact rfl)
    | (apply s_k (CF); exact rfl)
    | (apply s_k (CK); exact rfl)
    | (apply s_k (CFL); exact rfl)
    | (apply s_k (MO); exact rfl)
    | (apply s_k (RC); exact rfl)
    | (apply s_k (RF); exact rfl)
    | (apply s_k (awake_s); exact rfl))
    exact lv_ret (ret1 rfl (res_tmp rfl))
  have K := flashesOk hf
  have MO := ModelsOf_ok x rs l b hf
  have MS := Models_s x rs l K
  have hm : (modelsM x rs l).length ≤ 300 := by rw [← keepM_all]; exact Nat.le_trans (keepM_len x rs l _) K.k.cnt
  have ST : Summ Tryd.prog GG 31 [.sl (modelsM x rs l).length (matF (modelsM x rs l)), .sl (modelsM x rs l).length (matF (modelsM x rs l))] (bv true) := by
    have := SameTimes_s (modelsM x rs l) (modelsM x rs l) (by omega) (fun r h => by have := modelsM_rows h; omega)
    rwa [decide_eq_true rfl] at this
  repeat (first
    | (apply s_a TY; exact rfl)
    | (apply s_t; exact rfl; (first | assumption | omega))
    | (apply s_f; exact rfl; (first | assumption | omega))
    | apply w_seq
    | apply w_region
    | apply s_nil
    | apply t_norm
    | apply w_ret
    | apply w_skip
    | (apply w_condT; exact rfl; exact rfl)
    | (apply w_condF; exact rfl; exact rfl)
    | (apply s_k (LT); exact rfl)
    | (apply s_k (CC); exact rfl)
    | (apply s_k (CF); exact rfl)
    | (apply s_k (CK); exact rfl)
    | (apply s_k (CFL); exact rfl)
    | (apply s_k (MO); exact rfl)
    | (apply s_k (RC); exact rfl)
    | (apply s_k (RF); exact rfl)
    | (apply s_k (MS); exact rfl)
    | (apply s_k (ST); exact rfl)
    | (apply s_k (awake_s); exact rfl))
  exact lv_ret (ret1 rfl (res_tmp rfl))
end Go.Proofs.YtienhiloecfgnaaDoor
namespace Go.Proofs.YtienhiloecfgnaaDoor
open Go Go.RowKit Go.Proofs Go.Shelf Go.Ab
def pickL (rs : List Rng) (picks : List Int) : List Int := List.zipWith (fun r p => r.lo + modI p (r.hi - r.lo + 1)) rs picks
theorem pickL_len {rs : List Rng} {picks : List Int} (h : rs.length ≤ picks.length) : (pickL rs picks).length = rs.length := by simp [pickL]; omega
theorem pickL_at {rs : List Rng} {picks : List Int} {k : Nat} (h : k < (pickL rs picks).length) (h1 : k < rs.length) (h2 : k < picks.length) : (pickL rs picks)[k] = rs[k].lo + modI picks[k] (rs[k].hi - rs[k].lo + 1) := by simp [pickL]
theorem pickL_bd {rs : List Rng} {picks : List Int} (hr : ∀ r ∈ rs, 1 ≤ r.lo ∧ r.lo ≤ r.hi ∧ r.hi ≤ 1000) {k : Nat} (h : k < (pickL rs picks).length) (h1 : k < rs.length) : rs[k].lo ≤ (pickL rs picks)[k] ∧ (pickL rs picks)[k] ≤ rs[k].hi := by
  have h2 : k < picks.length := by simp [pickL] at h; omega
  have b := hr _ (List.getElem_mem h1)
  have m := modI_bd picks[k] (rs[k].hi - rs[k].lo + 1) (by omega)
  rw [pickL_at h h1 h2]; omega
theorem pickL_in {rs : List Rng} {picks : List Int} (hr : ∀ r ∈ rs, 1 ≤ r.lo ∧ r.lo ≤ r.hi ∧ r.hi ≤ 1000) (h : rs.length ≤ picks.length) : pickL rs picks ∈ assigns rs [] :=
  mem_assigns rs [] _ (pickL_len h) (fun _ h1 h2 => pickL_bd hr h2 h1)
theorem intsF_take {l : List Int} {k : Nat} (h : k < l.length) : intsF (l.take (k + 1)) = intsF (l.take k) ++ [iv l[k]] := by
  rw [List.take_succ_eq_append_getElem h, intsF, List.map_append]; rfl
theorem con_cases (x : Grid) (rs : List Rng) (l : List Flash) : (∀ j, j ≤ l.length → conK x rs l j = none) ∨ ∃ n s, n ≤ l.length ∧ conK x rs l n = some s ∧ ∀ j, j < n → conK x rs l j = none := by
  by_cases h : ∀ j, j ≤ l.length → conK x rs l j = none
  · exact .inl h
  · right
    have hex : ∃ n, n ≤ l.length ∧ ∃ s, conK x rs l n = some s := by
      refine Classical.byContradiction fun hc => h fun j hj => ?_
      cases e : conK x rs l j with
      | none => rfl
      | some s => exact absurd ⟨j, hj, s, e⟩ hc
    obtain ⟨n, hn⟩ := hex
    induction n using Nat.strongRecOn with
    | _ n ih =>
      obtain ⟨h1, s, h2⟩ := hn
      by_cases hj : ∃ j, j < n ∧ ∃ s, conK x rs l j = some s
      · obtain ⟨j, hjn, hj⟩ := hj
        exact ih j hjn ⟨by omega, hj⟩
      · exact ⟨n, s, h1, h2, fun j hjn => by
          cases e : conK x rs l j with
          | none => rfl
          | some s => exact absurd ⟨j, hjn, s, e⟩ hj⟩
theorem flasF_snoc (L : List Flash) (f : Flash) : some (Blk.row 108 7 (L ++ [f]).length (flasF (L ++ [f]))) = some (Blk.row 108 7 (L.length + 1) (flasF L ++ flaF f)) := by
  simp [flasF, List.flatMap_append]
set_option maxRecDepth 100000 in
set_option maxHeartbeats 2000000 in
theorem IceEvery_early (x : Grid) (rs : List Rng) (l : List Flash) (picks : List Int) (h : lightB x rs = false ∨ (lightB x rs = true ∧ (5 < l.length ∨ (l.length ≤ 5 ∧ ((checkClass x rs).2 ≠ 0 ∨ ((checkClass x rs).2 = 0 ∧ ((checkFlashes x rs l).2 ≠ 0 ∨ ((checkFlashes x rs l).2 = 0 ∧ (picks.length < rs.length ∨ (rs.length ≤ picks.length ∧ 20 < picks.length)))))))))) : Summ Tryd.prog GG 11 [classF x rs, .sl l.length (flasF l), .sl picks.length (intsF picks)] (bv true) := by
  have LT := light_s x rs
  refine summW Tryd.func11 rfl rfl 266 rfl (by simp) (fun M0 => ?_)
  rcases h with h | ⟨h, h1⟩
  · rw [h] at LT
    repeat (first
    | (apply s_a TY; exact rfl)
    | apply w_seq
    | apply w_region
    | apply s_nil
    | apply t_norm
    | apply t_ret
    | apply w_ret
    | apply w_skip
    | (apply w_condT; exact rfl; exact rfl)
    | (apply w_condF; exact rfl; exact rfl)
    | (apply s_k (LT); exact rfl)
    | (apply s_k (awake_s); exact rfl)
    | (apply s_s; exact rfl))
    exact lv_ret (ret1 rfl (res_tmp rfl))
  rw [h] at LT
  obtain ⟨⟨f1, f2⟩, h8⟩ := light_few h
  rcases h1 with h1 | ⟨h1, h2⟩
  · repeat (first
    | (apply s_a TY; exact rfl)
    | (apply s_t; exact rfl; (first | assumption | omega))
    | apply w_seq
    | apply w_region
    | apply s_nil
    | apply t_norm
    | apply t_ret
    | apply w_ret
    | apply w_skip
    | (apply w_condT; exact rfl; exact rfl)
    | (apply w_condF; exact rfl; exact rfl)
    | (apply s_k (LT); exact rfl)
    | (apply s_k (awake_s); exact rfl)
    | (apply s_s; exact rfl))
    exact lv_ret (ret1 rfl (res_tmp rfl))
  have CE := ClassErr_s x rs (by omega)
  rcases h2 with h2 | ⟨h2, h3⟩
  · repeat (first
    | (apply s_a TY; exact rfl)
    | (apply s_f; exact rfl; (first | assumption | omega))
    | apply w_seq
    | apply w_region
    | apply s_nil
    | apply t_norm
    | apply t_ret
    | apply w_ret
    | apply w_skip
    | (apply w_condT; exact rfl; exact rfl)
    | (apply w_condF; exact rfl; exact rfl)
    | (apply s_k (LT); exact rfl)
    | (apply s_k (CE); exact rfl)
    | (apply s_k (awake_s); exact rfl)
    | (apply s_s; exact rfl))
    exact lv_ret (ret1 rfl (res_tmp rfl))
  have FE := FlashesErr_s x rs l h2 (by omega)
  rcases h3 with h3 | ⟨h3, h4⟩
  · repeat (first
    | (apply s_a TY; exact rfl)
    | (apply s_t; exact rfl; (first | assumption | omega))
    | (apply s_f; exact rfl; (first | assumption | omega))
    | apply w_seq
    | apply w_region
    | apply s_nil
    | apply t_norm
    | apply t_ret
    | apply w_ret
    | apply w_skip
    | (apply w_condT; exact rfl; exact rfl)
    | (apply w_condF; exact rfl; exact rfl)
    | (apply s_k (LT); exact rfl)
    | (apply s_k (CE); exact rfl)
    | (apply s_k (FE); exact rfl)
    | (apply s_k (awake_s); exact rfl)
    | (apply s_s; exact rfl))
    exact lv_ret (ret1 rfl (res_tmp rfl))
  rcases h4 with h4 | ⟨h4, h5⟩
  · repeat (first
    | (apply s_a TY; exact rfl)
    | (apply s_t; exact rfl; (first | assumption | omega))
    | (apply s_f; exact rfl; (first | assumption | omega))
    | apply w_seq
    | apply w_region
    | apply s_nil
    | apply t_norm
    | apply t_ret
    | apply w_ret
    | apply w_skip
    | (apply w_condT; exact rfl; exact rfl)
    | (apply w_condF; exact rfl; exact rfl)
    | (apply s_k (LT); exact rfl)
    | (apply s_k (CE); exact rfl)
    | (apply s_k (FE); exact rfl)
    | (apply s_k (awake_s); exact rfl)
    | (apply s_s; exact rfl))
    exact lv_ret (ret1 rfl (res_tmp rfl))
  · repeat (first
    | (apply s_a TY; exact rfl)
    | (apply s_t; exact rfl; (first | assumption | omega))
    | (apply s_f; exact rfl; (first | assumption | omega))
    | apply w_seq
    | apply w_region
    | apply s_nil
    | apply t_norm
    | apply t_ret
    | apply w_ret
    | apply w_skip
    | (apply w_condT; exact rfl; exact rfl)
    | (apply w_condF; exact rfl; exact rfl)
    | (apply s_k (LT); exact rfl)
    | (apply s_k (CE); exact rfl)
    | (apply s_k (FE); exact rfl)
    | (apply s_k (awake_s); exact rfl))
    exact lv_ret (ret1 rfl (res_tmp rfl))
set_option maxRecDepth 100000 in
set_option maxHeartbeats 8000000 in
theorem IceEvery_main (x : Grid) (rs : List Rng) (l : List Flash) (picks : List Int) (hname : ∀ f ∈ l, f.name.size ≤ 9223372036854775807) (h : lightB x rs = true) (h5 : l.length ≤ 5) (hc : (checkClass x rs).2 = 0) (hf : (checkFlashes x rs l).2 = 0) (hp : rs.length ≤ picks.length) (hp2 : picks.length ≤ 20) : Summ Tryd.prog GG 11 [classF x rs, .sl l.length (flasF l), .sl picks.length (intsF picks)] (bv true) := by
  have LT := light_s x rs
  rw [h] at LT
  obtain ⟨⟨f1, f2⟩, h8⟩ := light_few h
  have CE := ClassErr_s x rs (by omega)
  rw [hc] at CE
  have FE := FlashesErr_s x rs l hc (by omega)
  rw [hf] at FE
  have K := flashesOk hf
  have v := K.k.v
  have h40 : (assigns rs []).length ≤ 40 := by
    unfold lightB at h
    simp only [Bool.and_eq_true, Bool.or_eq_true, decide_eq_true_eq] at h
    rcases h.2 with h | h
    · exact absurd hc h
    · exact h.2
  have b : Small x rs l := ⟨by omega, by omega, by omega, by omega, hname⟩
  have CC := CopyClass_s x rs (by omega) (by omega) (by omega)
  have CF := CopyFlashes_s l (by omega)
  have MO := ModelsOf_ok x rs l b hf
  have hm : (modelsM x rs l).length ≤ 40 := by rw [← keepM_all]; exact Nat.le_trans (keepM_len x rs l _) h40
  have hol : (pickL rs picks).length = rs.length := pickL_len hp
  have hrl := K.k.len
  have hin := pickL_in K.k.rng hp
  refine summW Tryd.func11 rfl rfl 266 rfl (by simp) (fun M0 => ?_)
  repeat (first
    | (apply s_a TY; exact rfl)
    | (apply s_t; exact rfl; (first | assumption | omega))
    | (apply s_f; exact rfl; (first | assumption | omega))
    | apply w_seq
    | apply w_region
    | apply s_nil
    | apply t_norm
    | apply w_block
    | apply w_skip
    | (apply w_condF; exact rfl; exact rfl)
    | (apply s_k (LT); exact rfl)
    | (apply s_k (CE); exact rfl)
    | (apply s_k (FE); exact rfl)
    | (apply s_k (awake_s); exact rfl))
  apply w_gh (gh_own 7 3 1 rfl rfl)
  apply w_loop (fun k : Nat => ⟨(Ab.upd (Ab.upd (Ab.upd (Ab.upd (Ab.upd (Ab.upd (fun _ => .bot) 1 (.f (.sl l.length (flasF l)))) 2 (.f (.sl picks.length (intsF picks)))) 3 (.f (.pt (classL x rs) 0))) 6 (.f (bv false))) 7 (.ow 0)) 8 (.f (iv (k : Nat)))), (Ab.upd (fun _ => none) 0 (some (.row 3 1 k (intsF ((pickL rs picks).take k))))), 1⟩) (fun k => k ≤ rs.length) (fun k => rs.length - k) 0 (Nat.zero_le _) (gh_le ⟨le_upd rfl trivial (le_upd rfl rfl (le_upd rfl trivial (le_upd rfl trivial (le_upd rfl trivial (le_upd rfl trivial (le_nil _)))))), le_hupd rfl trivial (le_h0 _ _)⟩)
  intro k hk
  by_cases hkc : k < rs.length
  · have hkp : k < picks.length := by omega
    have hko : k < (pickL rs picks).length := by omega
    have hb := K.k.rng _ (List.getElem_mem hkc)
    have fl := rngsF_lo hkc
    have fh := rngsF_hi hkc
    have MD := Mod_s picks[k] (rs[k].hi - rs[k].lo + 1) (by omega) (by omega)
    have mb := modI_bd picks[k] (rs[k].hi - rs[k].lo + 1) (by omega)
    have htk := intsF_take hko
    rw [pickL_at hko hkc hkp] at htk
    repeat (first
    | (apply s_append TY; exact rfl; exact rfl; exact rfl; exact rfl; exact rfl; exact rfl; exact rfl; exact rfl; exact rfl; (unfold maxLen; omega); omega)
    | (apply s_a TY; exact rfl)
    | (apply s_t; exact rfl; (first | assumption | omega))
    | apply w_seq
    | apply w_region
    | (apply w_draw (id := 9) 28 rfl (by kernel_rfl))
    | apply s_nil
    | apply t_norm
    | apply k_norm
    | apply w_block
    | apply w_skip
    | (apply w_condT; exact rfl; exact rfl)
    | (apply s_k (MD); exact rfl)
    | (apply s_c TY; exact rfl; (first | omega | exact ⟨by omega, by (first | with_reducible assumption | ((with_reducible apply intsF_ne); omega) | ((with_reducible apply matF_ne); omega) | ((with_reducible apply rngsF_ne); omega) | ((with_reducible apply flasF_ne); omega) | assumption)⟩))
    | (apply s_l TY; exact rfl; (first | exact rfl | with_reducible assumption | ((with_reducible apply intsF_at); omega) | ((with_reducible apply matF_at); omega) | assumption)))
    exact ⟨k + 1, by omega, by omega, gh_le ⟨le_upd rfl trivial (le_upd rfl rfl (le_upd rfl trivial (le_upd rfl trivial (le_upd rfl trivial (le_upd rfl trivial (le_nil _)))))), le_hupd (congrArg (fun c => some (Blk.row 3 1 (k + 1) c)) htk).symm trivial (le_h0 _ _)⟩⟩
  have hke : k = rs.length := by omega
  subst hke
  apply w_gh (gh_row 0 rfl)
  have eT : (pickL rs picks).take rs.length = (pickL rs picks) := by rw [← hol, List.take_length]
  rw [eT]
  repeat (first
    | (apply s_a TY; exact rfl)
    | (apply s_t; exact rfl; (first | assumption | omega))
    | (apply s_f; exact rfl; (first | assumption | omega))
    | apply w_seq
    | apply w_region
    | apply s_nil
    | apply t_norm
    | apply t_exit
    | apply k_hit
    | apply w_block
    | apply w_exit
    | apply w_skip
    | (apply w_condF; exact rfl; exact rfl)
    | (apply s_k (CC); exact rfl)
    | (apply s_k (CF); exact rfl)
    | (apply s_k (MO); exact rfl))
  apply w_loop (fun p : Nat × Bool => ⟨(Ab.upd (Ab.upd (Ab.upd (Ab.upd (Ab.upd (Ab.upd (Ab.upd (fun _ => .bot) 1 (.f (.sl l.length (flasF l)))) 3 (.f (.pt (classL x rs) 0))) 6 (.f (bv false))) 7 (.f (.sl rs.length (intsF (pickL rs picks))))) 9 (.f (.sl (modelsM x rs l).length (matF (modelsM x rs l))))) 11 (.f (bv p.2))) 12 (.f (iv (p.1 : Nat)))), (fun _ => none), 0⟩) (fun p => p.1 ≤ (modelsM x rs l).length ∧ (((modelsM x rs l).take p.1).any fun m => decide (m = (pickL rs picks))) = p.2) (fun p => (modelsM x rs l).length - p.1) (0, false) (⟨Nat.zero_le _, rfl⟩) (gh_le ⟨le_upd rfl trivial (le_upd rfl trivial (le_upd rfl trivial (le_upd rfl trivial (le_upd rfl trivial (le_upd rfl trivial (le_upd rfl trivial (le_nil _))))))), le_h0 _ _⟩)
  rintro ⟨i, bb⟩ ⟨hi, hb⟩
  show W _ _ _ _ ⟨(Ab.upd (Ab.upd (Ab.upd (Ab.upd (Ab.upd (Ab.upd (Ab.upd (fun _ => .bot) 1 (.f (.sl l.length (flasF l)))) 3 (.f (.pt (classL x rs) 0))) 6 (.f (bv false))) 7 (.f (.sl rs.length (intsF (pickL rs picks))))) 9 (.f (.sl (modelsM x rs l).length (matF (modelsM x rs l))))) 11 (.f (bv bb))) 12 (.f (iv (i : Nat)))), (fun _ => none), 0⟩
  simp only at hi hb
  by_cases hic : i < (modelsM x rs l).length
  · have hmem := List.getElem_mem hic
    have hrow := modelsM_rows hmem
    have hbd := modelsM_bd K.k hmem
    have LE := lawExpl_s x rs (modelsM x rs l)[i] l v (by omega) hbd (by omega) K.cells
    have hall : l.all (expB x (modelsM x rs l)[i]) = true := by
      have h2 : (modelsM x rs l)[i] ∈ (assigns rs []).filter fun ds => l.all (expB x ds) := by rw [← models_eq]; exact hmem
      exact (List.mem_filter.1 h2).2
    rw [hall] at LE
    have IN := Ints_s (modelsM x rs l)[i] (pickL rs picks) (by omega)
    rw [hol] at IN
    have hs : (((modelsM x rs l).take (i + 1)).any fun m => decide (m = (pickL rs picks))) = (bb || decide ((modelsM x rs l)[i] = (pickL rs picks))) := by
      rw [List.take_succ_eq_append_getElem hic, List.any_append, hb]; simp
    by_cases he : (modelsM x rs l)[i] = (pickL rs picks)
    · rw [decide_eq_true he] at IN hs
      cases bb
      · repeat (first
    | (apply s_a TY; exact rfl)
    | (apply s_t; exact rfl; (first | assumption | omega))
    | apply w_seq
    | apply w_region
    | (apply w_draw (id := 17) 16 rfl (by kernel_rfl))
    | apply s_nil
    | apply t_norm
    | apply k_norm
    | apply w_block
    | apply w_skip
    | (apply w_condT; exact rfl; exact rfl)
    | (apply w_condF; exact rfl; exact rfl)
    | (apply s_k (LE); exact rfl)
    | (apply s_k (IN); exact rfl)
    | (apply s_c TY; exact rfl; (first | omega | exact ⟨by omega, by (first | with_reducible assumption | ((with_reducible apply intsF_ne); omega) | ((with_reducible apply matF_ne); omega) | ((with_reducible apply rngsF_ne); omega) | ((with_reducible apply flasF_ne); omega) | assumption)⟩))
    | (apply s_l TY; exact rfl; (first | exact rfl | with_reducible assumption | ((with_reducible apply intsF_at); omega) | ((with_reducible apply matF_at); omega) | assumption)))
        exact ⟨(i + 1, true), ⟨by simp only; omega, hs⟩, by simp only; omega, gh_le ⟨le_upd rfl trivial (le_upd rfl trivial (le_upd rfl trivial (le_upd rfl trivial (le_upd rfl trivial (le_upd rfl trivial (le_upd rfl trivial (le_nil _))))))), le_h0 _ _⟩⟩
      · repeat (first
    | (apply s_a TY; exact rfl)
    | (apply s_t; exact rfl; (first | assumption | omega))
    | apply w_seq
    | apply w_region
    | (apply w_draw (id := 17) 16 rfl (by kernel_rfl))
    | apply s_nil
    | apply t_norm
    | apply k_norm
    | apply w_block
    | apply w_skip
    | (apply w_condT; exact rfl; exact rfl)
    | (apply w_condF; exact rfl; exact rfl)
    | (apply s_k (LE); exact rfl)
    | (apply s_s; exact rfl)
    | (apply s_c TY; exact rfl; (first | omega | exact ⟨by omega, by (first | with_reducible assumption | ((with_reducible apply intsF_ne); omega) | ((with_reducible apply matF_ne); omega) | ((with_reducible apply rngsF_ne); omega) | ((with_reducible apply flasF_ne); omega) | assumption)⟩))
    | (apply s_l TY; exact rfl; (first | exact rfl | with_reducible assumption | ((with_reducible apply intsF_at); omega) | ((with_reducible apply matF_at); omega) | assumption)))
        exact ⟨(i + 1, true), ⟨by simp only; omega, hs⟩, by simp only; omega, gh_le ⟨le_upd rfl trivial (le_upd rfl trivial (le_upd rfl trivial (le_upd rfl trivial (le_upd rfl trivial (le_upd rfl trivial (le_upd rfl trivial (le_nil _))))))), le_h0 _ _⟩⟩
    · rw [decide_eq_false he] at IN hs
      cases bb
      · repeat (first
    | (apply s_a TY; exact rfl)
    | (apply s_t; exact rfl; (first | assumption | omega))
    | apply w_seq
    | apply w_region
    | (apply w_draw (id := 17) 16 rfl (by kernel_rfl))
    | apply s_nil
    | apply t_norm
    | apply k_norm
    | apply w_block
    | apply w_skip
    | (apply w_condT; exact rfl; exact rfl)
    | (apply w_condF; exact rfl; exact rfl)
    | (apply s_k (LE); exact rfl)
    | (apply s_k (IN); exact rfl)
    | (apply s_c TY; exact rfl; (first | omega | exact ⟨by omega, by (first | with_reducible assumption | ((with_reducible apply intsF_ne); omega) | ((with_reducible apply matF_ne); omega) | ((with_reducible apply rngsF_ne); omega) | ((with_reducible apply flasF_ne); omega) | assumption)⟩))
    | (apply s_l TY; exact rfl; (first | exact rfl | with_reducible assumption | ((with_reducible apply intsF_at); omega) | ((with_reducible apply matF_at); omega) | assumption)))
        exact ⟨(i + 1, false), ⟨by simp only; omega, hs⟩, by simp only; omega, gh_le ⟨le_upd rfl trivial (le_upd rfl trivial (le_upd rfl trivial (le_upd rfl trivial (le_upd rfl trivial (le_upd rfl trivial (le_upd rfl trivial (le_nil _))))))), le_h0 _ _⟩⟩
      · repeat (first
    | (apply s_a TY; exact rfl)
    | (apply s_t; exact rfl; (first | assumption | omega))
    | apply w_seq
    | apply w_region
    | (apply w_draw (id := 17) 16 rfl (by kernel_rfl))
    | apply s_nil
    | apply t_norm
    | apply k_norm
    | apply w_block
    | apply w_skip
    | (apply w_condT; exact rfl; exact rfl)
    | (apply w_condF; exact rfl; exact rfl)
    | (apply s_k (LE); exact rfl)
    | (apply s_s; exact rfl)
    | (apply s_c TY; exact rfl; (first | omega | exact ⟨by omega, by (first | with_reducible assumption | ((with_reducible apply intsF_ne); omega) | ((with_reducible apply matF_ne); omega) | ((with_reducible apply rngsF_ne); omega) | ((with_reducible apply flasF_ne); omega) | assumption)⟩))
    | (apply s_l TY; exact rfl; (first | exact rfl | with_reducible assumption | ((with_reducible apply intsF_at); omega) | ((with_reducible apply matF_at); omega) | assumption)))
        exact ⟨(i + 1, true), ⟨by simp only; omega, hs⟩, by simp only; omega, gh_le ⟨le_upd rfl trivial (le_upd rfl trivial (le_upd rfl trivial (le_upd rfl trivial (le_upd rfl trivial (le_upd rfl trivial (le_upd rfl trivial (le_nil _))))))), le_h0 _ _⟩⟩
  have hie : i = (modelsM x rs l).length := by omega
  subst hie
  rw [List.take_length] at hb
  have hob : ∀ d ∈ (pickL rs picks), 1 ≤ d ∧ d ≤ 1000 := fun d hd => by
    obtain ⟨j, hj, rfl⟩ := List.mem_iff_getElem.1 hd
    have := pickL_bd K.k.rng hj (by omega)
    have := K.k.rng _ (List.getElem_mem (show j < rs.length by omega))
    omega
  have LO := lawExpl_s x rs (pickL rs picks) l v (by omega) hob (by omega) K.cells
  rw [hol] at LO
  have heq : l.all (expB x (pickL rs picks)) = bb := by
    rw [← hb, Bool.eq_iff_iff, List.any_eq_true, models_eq]
    constructor
    · intro h1; exact ⟨_, List.mem_filter.2 ⟨hin, h1⟩, decide_eq_true rfl⟩
    · rintro ⟨m, hm, he⟩
      have he := of_decide_eq_true he
      rw [← he]; exact (List.mem_filter.1 hm).2
  rw [heq] at LO
  cases bb
  case true =>
    obtain ⟨m, hm1, he⟩ := List.any_eq_true.1 hb
    have he := of_decide_eq_true he
    subst he
    obtain ⟨jm, hjm, ejm⟩ := List.mem_iff_getElem.1 hm1
    have RO := RangesOf_ok x rs l b hf (by omega)
    have hrg : (rangesR (modelsM x rs l) rs.length).length = rs.length := rangesR_len _ _
    repeat (first
    | (apply s_neb Tryd.underlying4; exact rfl; exact rfl; exact rfl; exact rfl)
    | (apply s_a TY; exact rfl)
    | (apply s_t; exact rfl; (first | assumption | omega))
    | (apply s_f; exact rfl; (first | assumption | omega))
    | apply w_seq
    | apply w_region
    | apply s_nil
    | apply t_norm
    | apply t_exit
    | apply k_hit
    | apply w_block
    | apply w_exit
    | apply w_skip
    | (apply w_condT; exact rfl; exact rfl)
    | (apply w_condF; exact rfl; exact rfl)
    | (apply s_k (LO); exact rfl)
    | (apply s_k (CC); exact rfl)
    | (apply s_k (CF); exact rfl)
    | (apply s_k (RO); exact rfl))
    apply w_loop (fun k : Nat => ⟨(Ab.upd (Ab.upd (Ab.upd (Ab.upd (Ab.upd (Ab.upd (Ab.upd (fun _ => .bot) 1 (.f (.sl l.length (flasF l)))) 3 (.f (.pt (classL x rs) 0))) 6 (.f (bv false))) 7 (.f (.sl rs.length (intsF (pickL rs picks))))) 9 (.f (.sl (modelsM x rs l).length (matF (modelsM x rs l))))) 13 (.f (.sl (rangesR (modelsM x rs l) rs.length).length (rngsF (rangesR (modelsM x rs l) rs.length))))) 15 (.f (iv (k : Nat)))), (fun _ => none), 0⟩) (fun k => k ≤ rs.length) (fun k => rs.length - k) 0 (Nat.zero_le _) (gh_le ⟨le_upd rfl trivial (le_upd rfl trivial (le_upd rfl trivial (le_upd rfl trivial (le_upd rfl trivial (le_upd rfl trivial (le_upd rfl trivial (le_nil _))))))), le_h0 _ _⟩)
    intro k hk
    by_cases hkc : k < rs.length
    · have hkr : k < (rangesR (modelsM x rs l) rs.length).length := by omega
      have hko : k < (pickL rs picks).length := by omega
      have fl := rngsF_lo hkr
      have fh := rngsF_hi hkr
      have e1 : (rangesR (modelsM x rs l) rs.length)[k] = ⟨loK (modelsM x rs l) k (modelsM x rs l).length, hiK (modelsM x rs l) k (modelsM x rs l).length⟩ := by simp [rangesR]
      have e2 : atI (modelsM x rs l) jm k = (pickL rs picks)[k] := by rw [atI_eq hjm (by rw [ejm]; exact hko)]; simp only [ejm]
      have w1 : (rangesR (modelsM x rs l) rs.length)[k].lo ≤ (pickL rs picks)[k] := by rw [e1, ← e2]; exact loK_le hjm
      have w2 : (pickL rs picks)[k] ≤ (rangesR (modelsM x rs l) rs.length)[k].hi := by rw [e1, ← e2]; exact hiK_ge hjm
      repeat (first
    | (apply s_a TY; exact rfl)
    | (apply s_t; exact rfl; (first | assumption | omega))
    | apply w_seq
    | apply w_region
    | (apply w_draw (id := 29) 14 rfl (by kernel_rfl))
    | apply s_nil
    | apply t_norm
    | apply k_norm
    | apply w_block
    | apply w_skip
    | (apply w_condT; exact rfl; exact rfl)
    | (apply w_condF; exact rfl; exact rfl)
    | (apply s_k1 (Within_t _ _ _); exact rfl; (first | assumption | omega | decide))
    | (apply s_c TY; exact rfl; (first | omega | exact ⟨by omega, by (first | with_reducible assumption | ((with_reducible apply intsF_ne); omega) | ((with_reducible apply matF_ne); omega) | ((with_reducible apply rngsF_ne); omega) | ((with_reducible apply flasF_ne); omega) | assumption)⟩))
    | (apply s_l TY; exact rfl; (first | exact rfl | with_reducible assumption | ((with_reducible apply intsF_at); omega) | ((with_reducible apply matF_at); omega) | assumption)))
      exact ⟨k + 1, by omega, by omega, gh_le ⟨le_upd rfl trivial (le_upd rfl trivial (le_upd rfl trivial (le_upd rfl trivial (le_upd rfl trivial (le_upd rfl trivial (le_upd rfl trivial (le_nil _))))))), le_h0 _ _⟩⟩
    have hke : k = rs.length := by omega
    subst hke
    rcases con_cases x rs l with hnone | ⟨n, s, hn, hs, hbef⟩
    · have CO := Contra_none x rs l b hf hnone
      have hpos : 0 < (modelsM x rs l).length := by
        have := conK_none (x := x) (rs := rs) (s := fullS l.length) (by rw [(full_ok _).2]; exact hnone _ (Nat.le_refl _)) (full_ok _).1
        rwa [sub_full] at this
      repeat (first
    | (apply s_a TY; exact rfl)
    | (apply s_t; exact rfl; (first | assumption | omega))
    | (apply s_f; exact rfl; (first | assumption | omega))
    | apply w_seq
    | apply w_region
    | apply s_nil
    | apply t_norm
    | apply t_exit
    | apply t_ret
    | apply k_hit
    | apply w_exit
    | apply w_ret
    | (apply w_condT; exact rfl; exact rfl)
    | (apply w_condF; exact rfl; exact rfl)
    | (apply s_k (CC); exact rfl)
    | (apply s_k (CF); exact rfl)
    | (apply s_k (CO); exact rfl))
      exact lv_ret (ret1 rfl (res_tmp rfl))
    · exfalso
      obtain ⟨ok, hsl, hz⟩ := conK_some hs
      have := models_part ok hz
      omega
  rcases con_cases x rs l with hnone | ⟨n, s, hn, hs, hbef⟩
  · have CO := Contra_none x rs l b hf hnone
    have hpos : 0 < (modelsM x rs l).length := by
      have := conK_none (x := x) (rs := rs) (s := fullS l.length) (by rw [(full_ok _).2]; exact hnone _ (Nat.le_refl _)) (full_ok _).1
      rwa [sub_full] at this
    repeat (first
    | (apply s_neb Tryd.underlying4; exact rfl; exact rfl; exact rfl; exact rfl)
    | (apply s_a TY; exact rfl)
    | (apply s_t; exact rfl; (first | assumption | omega))
    | (apply s_f; exact rfl; (first | assumption | omega))
    | apply w_seq
    | apply w_region
    | apply s_nil
    | apply t_norm
    | apply t_exit
    | apply t_ret
    | apply k_hit
    | apply w_exit
    | apply w_ret
    | apply w_skip
    | (apply w_condT; exact rfl; exact rfl)
    | (apply w_condF; exact rfl; exact rfl)
    | (apply s_k (LO); exact rfl)
    | (apply s_k (CC); exact rfl)
    | (apply s_k (CF); exact rfl)
    | (apply s_k (CO); exact rfl))
    exact lv_ret (ret1 rfl (res_tmp rfl))
  obtain ⟨ok, hsl, hz⟩ := conK_some hs
  have hM0 := models_part ok hz
  have CO := Contra_some x rs l b hf n s hn hs hbef
  repeat (first
    | (apply s_neb Tryd.underlying4; exact rfl; exact rfl; exact rfl; exact rfl)
    | (apply s_a TY; exact rfl)
    | (apply s_t; exact rfl; (first | assumption | omega))
    | (apply s_f; exact rfl; (first | assumption | omega))
    | apply w_seq
    | apply w_region
    | apply s_nil
    | apply t_norm
    | apply t_exit
    | apply k_hit
    | apply w_block
    | apply w_exit
    | apply w_skip
    | (apply w_condF; exact rfl; exact rfl)
    | (apply s_k (LO); exact rfl)
    | (apply s_k (CC); exact rfl)
    | (apply s_k (CF); exact rfl)
    | (apply s_k (CO); exact rfl))
  apply w_loop (fun i : Nat => ⟨(Ab.upd (Ab.upd (Ab.upd (Ab.upd (Ab.upd (fun _ => .bot) 1 (.f (.sl l.length (flasF l)))) 3 (.f (.pt (classL x rs) 0))) 6 (.f (bv false))) 16 (.f (.sl s.length (intsF s)))) 18 (.f (iv ((i : Nat) - 1)))), (fun _ => none), 0⟩) (fun i => i ≤ s.length + 1) (fun i => s.length + 1 - i) 0 (Nat.zero_le _) (gh_le ⟨le_upd rfl trivial (le_upd rfl trivial (le_upd rfl trivial (le_upd rfl trivial (le_upd rfl trivial (le_nil _))))), le_h0 _ _⟩)
  intro i hi
  by_cases hic : i < s.length + 1
  case neg =>
    have hie : i = s.length + 1 := by omega
    subst hie
    repeat (first
    | (apply s_a TY; exact rfl)
    | (apply s_f; exact rfl; (first | assumption | omega))
    | apply w_seq
    | apply w_region
    | apply s_nil
    | apply t_norm
    | apply t_exit
    | apply k_hit
    | apply w_exit
    | apply w_ret
    | (apply w_condF; exact rfl; exact rfl))
    exact lv_ret (ret1 rfl (res_tmp rfl))
  repeat (first
    | (apply s_a TY; exact rfl)
    | (apply s_t; exact rfl; (first | assumption | omega))
    | apply w_seq
    | apply w_region
    | apply s_nil
    | apply t_norm
    | apply w_block
    | apply w_skip
    | (apply w_condT; exact rfl; exact rfl))
  apply w_gh (gh_own 19 108 7 rfl rfl)
  apply w_loop (fun k : Nat => ⟨(Ab.upd (Ab.upd (Ab.upd (Ab.upd (Ab.upd (Ab.upd (Ab.upd (fun _ => .bot) 1 (.f (.sl l.length (flasF l)))) 3 (.f (.pt (classL x rs) 0))) 6 (.f (bv false))) 16 (.f (.sl s.length (intsF s)))) 18 (.f (iv ((i : Nat) - 1)))) 19 (.ow 0)) 20 (.f (iv (k : Nat)))), (Ab.upd (fun _ => none) 0 (some (.row 108 7 (subL l (dropI s ((i : Nat) - 1) k)).length (flasF (subL l (dropI s ((i : Nat) - 1) k)))))), 1⟩) (fun k => k ≤ s.length) (fun k => s.length - k) 0 (Nat.zero_le _) (gh_le ⟨le_upd rfl trivial (le_upd rfl rfl (le_upd rfl trivial (le_upd rfl trivial (le_upd rfl trivial (le_upd rfl trivial (le_upd rfl trivial (le_nil _))))))), le_hupd rfl trivial (le_h0 _ _)⟩)
  intro k hk
  have hdl := dropI_le s ((i : Nat) - 1) k
  have hsl2 := sub_len l (dropI s ((i : Nat) - 1) k)
  by_cases hkc : k < s.length
  · have hr := ok.rng _ (List.getElem_mem hkc)
    have hlt : s[k].toNat < l.length := by omega
    have hds := dropI_succ (i := ((i : Nat) : Int) - 1) hkc
    have hgd : subL l [s[k]] = [l[s[k].toNat]] := by simp [subL, List.getD_eq_getElem?_getD, List.getElem?_eq_getElem hlt]
    by_cases he : (k : Int) = (i : Int) - 1
    · rw [if_pos he, List.append_nil] at hds
      repeat (first
    | (apply s_a TY; exact rfl)
    | (apply s_t; exact rfl; (first | assumption | omega))
    | apply w_seq
    | apply w_region
    | apply s_nil
    | apply t_norm
    | apply k_norm
    | apply w_block
    | apply w_skip
    | (apply w_condT; exact rfl; exact rfl)
    | (apply w_condF; exact rfl; exact rfl)
    | (apply s_k1 (Within_t _ _ _); exact rfl; (first | assumption | omega | decide))
    | (apply s_c TY; exact rfl; (first | omega | exact ⟨by omega, by (first | with_reducible assumption | ((with_reducible apply intsF_ne); omega) | ((with_reducible apply matF_ne); omega) | ((with_reducible apply rngsF_ne); omega) | ((with_reducible apply flasF_ne); omega) | assumption)⟩))
    | (apply s_l TY; exact rfl; (first | exact rfl | with_reducible assumption | ((with_reducible apply intsF_at); omega) | ((with_reducible apply matF_at); omega) | assumption)))
      exact ⟨k + 1, by omega, by omega, gh_le ⟨le_upd rfl trivial (le_upd rfl rfl (le_upd rfl trivial (le_upd rfl trivial (le_upd rfl trivial (le_upd rfl trivial (le_upd rfl trivial (le_nil _))))))), le_hupd (congrArg (fun L => some (Blk.row 108 7 (subL l L).length (flasF (subL l L)))) hds).symm trivial (le_h0 _ _)⟩⟩
    · rw [if_neg he] at hds
      repeat (first
    | (apply s_append TY; exact rfl; exact rfl; exact rfl; exact rfl; exact rfl; exact rfl; exact rfl; exact rfl; exact rfl; (unfold maxLen; omega); omega)
    | (apply s_a TY; exact rfl)
    | (apply s_t; exact rfl; (first | assumption | omega))
    | (apply s_f; exact rfl; (first | assumption | omega))
    | apply w_seq
    | apply w_region
    | apply s_nil
    | apply t_norm
    | apply k_norm
    | apply w_block
    | apply w_skip
    | (apply w_condT; exact rfl; exact rfl)
    | (apply w_condF; exact rfl; exact rfl)
    | (apply s_k1 (Within_t _ _ _); exact rfl; (first | assumption | omega | decide))
    | (apply s_c TY; exact rfl; (first | omega | exact ⟨by omega, by (first | with_reducible assumption | ((with_reducible apply intsF_ne); omega) | ((with_reducible apply matF_ne); omega) | ((with_reducible apply rngsF_ne); omega) | ((with_reducible apply flasF_ne); omega) | assumption)⟩))
    | (apply s_z TY; exact rfl; (first | omega | exact ⟨by omega, by (first | with_reducible assumption | ((with_reducible apply intsF_ne); omega) | ((with_reducible apply matF_ne); omega) | ((with_reducible apply rngsF_ne); omega) | ((with_reducible apply flasF_ne); omega) | assumption)⟩))
    | (apply s_l TY; exact rfl; (first | exact rfl | with_reducible assumption | ((with_reducible apply intsF_at); omega) | ((with_reducible apply matF_at); omega) | assumption))
    | (apply s_m TY; exact rfl; (first | with_reducible assumption | ((with_reducible apply rngsF_sub); omega) | ((with_reducible apply flasF_sub); omega) | exact rfl); exact rfl))
      exact ⟨k + 1, by omega, by omega, gh_le ⟨le_upd rfl trivial (le_upd rfl rfl (le_upd rfl trivial (le_upd rfl trivial (le_upd rfl trivial (le_upd rfl trivial (le_upd rfl trivial (le_nil _))))))), le_hupd (by rw [hds, sub_app, hgd]; exact (flasF_snoc _ _).symm) trivial (le_h0 _ _)⟩⟩
  have hke : k = s.length := by omega
  subst hke
  have dok := dropI_ok ok ((i : Nat) - 1) (Nat.le_refl _)
  have hcs := sub_valid hc hf dok (by have := K.l8; omega)
  have bS : Small x rs (subL l (dropI s ((i : Nat) - 1) s.length)) := ⟨by omega, by omega, by omega, by omega, fun f hf => by
    obtain ⟨z, hz, rfl⟩ := List.mem_map.1 hf
    have := dok.rng z hz
    rw [List.getD_eq_getElem?_getD, List.getElem?_eq_getElem (show z.toNat < l.length by omega), Option.getD_some]
    exact hname _ (List.getElem_mem _)⟩
  have MS := ModelsOf_ok x rs (subL l (dropI s ((i : Nat) - 1) s.length)) bS hcs
  by_cases hi0 : i = 0
  · subst hi0
    have hz2 : (modelsM x rs (subL l (dropI s (((0 : Nat) : Int) - 1) s.length))).length = 0 := by
      rw [show (((0 : Nat) : Int) - 1) = -1 from rfl, dropI_neg]; exact hz
    repeat (first
    | (apply s_a TY; exact rfl)
    | (apply s_f; exact rfl; (first | assumption | omega))
    | apply w_seq
    | apply w_region
    | apply s_nil
    | apply t_norm
    | apply t_exit
    | apply k_hit
    | apply w_exit
    | (apply w_condF; exact rfl; exact rfl)
    | (apply s_k (CC); exact rfl))
    refine s_ghost rfl (gh_row 0 rfl) ?_
    repeat (first
    | (apply s_neb Tryd.underlying4; exact rfl; exact rfl; exact rfl; exact rfl)
    | (apply s_a TY; exact rfl)
    | (apply s_t; exact rfl; (first | assumption | omega))
    | apply w_seq
    | apply w_region
    | apply s_nil
    | apply t_norm
    | apply k_norm
    | apply w_skip
    | (apply w_condF; exact rfl; exact rfl)
    | (apply s_k (MS); exact rfl)
    | (apply s_c TY; exact rfl; (first | omega | exact ⟨by omega, by (first | with_reducible assumption | ((with_reducible apply intsF_ne); omega) | ((with_reducible apply matF_ne); omega) | ((with_reducible apply rngsF_ne); omega) | ((with_reducible apply flasF_ne); omega) | assumption)⟩)))
    exact ⟨0 + 1, by omega, by omega, gh_le ⟨le_upd rfl trivial (le_upd rfl trivial (le_upd rfl trivial (le_upd rfl trivial (le_upd rfl trivial (le_nil _))))), le_h0 _ _⟩⟩
  · have hpos : 0 < (modelsM x rs (subL l (dropI s ((i : Nat) - 1) s.length))).length := by
      refine conK_none ?_ dok
      have e : ((i : Nat) : Int) - 1 = ((i - 1 : Nat) : Int) := by omega
      rw [e, dropI_len (by omega)]
      exact hbef _ (by omega)
    repeat (first
    | (apply s_a TY; exact rfl)
    | (apply s_f; exact rfl; (first | assumption | omega))
    | apply w_seq
    | apply w_region
    | apply s_nil
    | apply t_norm
    | apply t_exit
    | apply k_hit
    | apply w_exit
    | (apply w_condF; exact rfl; exact rfl)
    | (apply s_k (CC); exact rfl))
    refine s_ghost rfl (gh_row 0 rfl) ?_
    repeat (first
    | (apply s_neb Tryd.underlying4; exact rfl; exact rfl; exact rfl; exact rfl)
    | (apply s_a TY; exact rfl)
    | (apply s_t; exact rfl; (first | assumption | omega))
    | (apply s_f; exact rfl; (first | assumption | omega))
    | apply w_seq
    | apply w_region
    | apply s_nil
    | apply t_norm
    | apply k_norm
    | apply w_skip
    | (apply w_condF; exact rfl; exact rfl)
    | (apply s_k (MS); exact rfl)
    | (apply s_c TY; exact rfl; (first | omega | exact ⟨by omega, by (first | with_reducible assumption | ((with_reducible apply intsF_ne); omega) | ((with_reducible apply matF_ne); omega) | ((with_reducible apply rngsF_ne); omega) | ((with_reducible apply flasF_ne); omega) | assumption)⟩)))
    exact ⟨i + 1, by omega, by omega, gh_le ⟨le_upd (congrArg (fun z => AV.f (iv z)) (by omega)) trivial (le_upd rfl trivial (le_upd rfl trivial (le_upd rfl trivial (le_upd rfl trivial (le_nil _))))), le_h0 _ _⟩⟩
theorem IceEveryModel_s (x : Grid) (rs : List Rng) (l : List Flash) (picks : List Int) (hname : ∀ f ∈ l, f.name.size ≤ 9223372036854775807) : Summ Tryd.prog GG 11 [classF x rs, .sl l.length (flasF l), .sl picks.length (intsF picks)] (bv true) := by
  cases h : lightB x rs with
  | false => exact IceEvery_early x rs l picks (.inl h)
  | true =>
    by_cases h5 : l.length ≤ 5
    case neg => exact IceEvery_early x rs l picks (.inr ⟨h, .inl (by omega)⟩)
    by_cases hc : (checkClass x rs).2 = 0
    case neg => exact IceEvery_early x rs l picks (.inr ⟨h, .inr ⟨h5, .inl hc⟩⟩)
    by_cases hf : (checkFlashes x rs l).2 = 0
    case neg => exact IceEvery_early x rs l picks (.inr ⟨h, .inr ⟨h5, .inr ⟨hc, .inl hf⟩⟩⟩)
    by_cases hp : rs.length ≤ picks.length
    case neg => exact IceEvery_early x rs l picks (.inr ⟨h, .inr ⟨h5, .inr ⟨hc, .inr ⟨hf, .inl (by omega)⟩⟩⟩⟩)
    by_cases hp2 : picks.length ≤ 20
    case neg => exact IceEvery_early x rs l picks (.inr ⟨h, .inr ⟨h5, .inr ⟨hc, .inr ⟨hf, .inr ⟨hp, by omega⟩⟩⟩⟩⟩)
    exact IceEvery_main x rs l picks hname h h5 hc hf hp hp2
end Go.Proofs.YtienhiloecfgnaaDoor
namespace Go.Proofs.YtienhiloecfgnaaDoor
open Go Go.Ab Go.ChangeShapes Go.WideShapes Go.ChangeAt Go.RowKit
abbrev StrB := { s : ByteArray // s.size ≤ 9223372036854775807 }
abbrev FlashB := { f : Flash // f.name.size ≤ 9223372036854775807 }
def flas (l : List FlashB) : List Flash := l.map (·.1)
theorem flas_name (l : List FlashB) : ∀ f ∈ flas l, f.name.size ≤ 9223372036854775807 := fun f hf => by
  obtain ⟨g, _, rfl⟩ := List.mem_map.1 hf
  exact g.2
section
variable {W : World}
theorem opens_strB : Opens Tryd.prog W 9 (fun s : StrB => [.v (.string s.1)]) := fun H enc base sp hd fuel cs x h => by
  obtain ⟨n, rfl, _, hz⟩ := DataW.trod_string Tryd.underlying9 h
  exact ⟨⟨n, by simpa [maxLen] using hz⟩, repL_one (RepF.v _), by simp [Value.oneCell']⟩
theorem opens_flaB : Opens Tryd.prog W 108 (fun f : FlashB => flaF f.1) := (opens_st4 (s0 := 1) (s1 := 2) (s2 := 2) (s3 := 2) Tryd.underlying108 (by kernel_rfl) (by kernel_rfl) (by kernel_rfl) (by kernel_rfl) (by kernel_rfl) rfl rfl rfl rfl opens_strB opens_cel opens_cel opens_rng).map (fun p => ⟨⟨p.1.1, p.2.1, p.2.2.1, p.2.2.2⟩, p.1.2⟩) fun _ => rfl
theorem flas_flat (l : List FlashB) : l.flatMap (fun f => flaF f.1) = flasF (flas l) := by
  unfold flas flasF; rw [List.flatMap_map]
theorem opens_flasB : Opens Tryd.prog W 45 (fun l : List FlashB => [.sl (flas l).length (flasF (flas l))]) := (opens_sl (s := 7) Tryd.underlying45 (by kernel_rfl) (by decide) opens_flaB).map id fun l => by
  rw [flas_flat]; simp [flas]
end
end Go.Proofs.YtienhiloecfgnaaDoor
