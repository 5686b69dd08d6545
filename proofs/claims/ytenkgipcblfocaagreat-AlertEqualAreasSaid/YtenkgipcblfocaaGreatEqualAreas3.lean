/- Laws on which the proofs of this seat stand. No condition. -/
import Derived.Test.YtenkgipcblfocaaGreatEqualAreas2
import Derived.Test.YtenkgipcblfocaaGreatProg
import Derived.Lib.SliceRun
namespace Go.Proofs.YtenkgipcblfocaaGreat
open Go Go.RowKit Go.Proofs Go.Shelf Go.Ab
structure Cel where
  ring : Int
  before : Int
  count : Int
  index : Int
deriving DecidableEq, Inhabited
def ringC (k : Nat) (b c : Int) (n : Nat) : List Cel := (List.range n).map fun i : Nat => ⟨k, b, c, i⟩
theorem ringC_len {k : Nat} {b c : Int} {n : Nat} : (ringC k b c n).length = n := by simp [ringC]
theorem ringC_at {k : Nat} {b c : Int} {n i : Nat} (h : i < n) : (ringC k b c n)[i]'(by rw [ringC_len]; exact h) = ⟨k, b, c, i⟩ := by simp [ringC]
theorem ringC_succ (k : Nat) (b c : Int) (n : Nat) : ringC k b c (n + 1) = ringC k b c n ++ [⟨k, b, c, n⟩] := by simp [ringC, List.range_succ]
def skyK (rs : List Int) : Nat → List Cel
  | 0 => []
  | k + 1 => skyK rs k ++ ringC k ((skyK rs k).length : Nat) (rs.getD k default) (rs.getD k default).toNat
def befK (rs : List Int) : Nat → Int
  | 0 => 0
  | k + 1 => befK rs k + rs.getD k default
structure SkyOk (rs : List Int) : Prop where
  pos : 1 ≤ rs.length
  len : rs.length ≤ 8
  ring : ∀ i, i < rs.length → 1 ≤ rs.getD i default ∧ rs.getD i default ≤ 12
theorem befK_bd {rs : List Int} (o : SkyOk rs) : ∀ {k : Nat}, k ≤ rs.length → (k : Int) ≤ befK rs k ∧ befK rs k ≤ 12 * k
  | 0, _ => by simp [befK]
  | k + 1, h => by
    have a := befK_bd o (k := k) (by omega)
    have b := o.ring k (by omega)
    unfold befK; omega
theorem befK_lt {rs : List Int} (o : SkyOk rs) : ∀ {k j : Nat}, j < k → k ≤ rs.length → befK rs j < befK rs k
  | 0, _, h, _ => by omega
  | k + 1, j, h, hk => by
    have b := o.ring k (by omega)
    by_cases e : j = k
    · subst e; rw [befK]; omega
    · have := befK_lt o (k := k) (j := j) (by omega) (by omega)
      rw [befK]; omega
theorem befK_le {rs : List Int} (o : SkyOk rs) {j k : Nat} (h : j ≤ k) (hk : k ≤ rs.length) : befK rs j ≤ befK rs k := by
  by_cases e : j = k
  · subst e; exact Int.le_refl _
  · exact Int.le_of_lt (befK_lt o (by omega) hk)
theorem skyK_len {rs : List Int} (o : SkyOk rs) : ∀ {k : Nat}, k ≤ rs.length → ((skyK rs k).length : Int) = befK rs k
  | 0, _ => rfl
  | k + 1, h => by
    have a := skyK_len o (k := k) (by omega)
    have b := o.ring k (by omega)
    rw [skyK, List.length_append, ringC_len, befK]; omega
theorem skyK_at {rs : List Int} (o : SkyOk rs) : ∀ {k : Nat}, k ≤ rs.length → ∀ {n : Nat} (hn : n < (skyK rs k).length), ∃ r i : Nat, r < k ∧ (i : Int) < rs.getD r default ∧ (n : Int) = befK rs r + i ∧ (skyK rs k)[n] = ⟨r, befK rs r, rs.getD r default, i⟩
  | 0, _, _, hn => absurd hn (by simp [skyK])
  | k + 1, h, n, hn => by
    have a := skyK_len o (k := k) (by omega)
    have b := o.ring k (by omega)
    by_cases hc : n < (skyK rs k).length
    · obtain ⟨r, i, h1, h2, h3, h4⟩ := skyK_at o (k := k) (by omega) hc
      refine ⟨r, i, by omega, h2, h3, ?_⟩
      rw [← h4]
      simp only [skyK]
      rw [List.getElem_append_left hc]
    · have hl : (skyK rs (k + 1)).length = (skyK rs k).length + (rs.getD k default).toNat := by rw [skyK, List.length_append, ringC_len]
      have hi : n - (skyK rs k).length < (rs.getD k default).toNat := by omega
      refine ⟨k, n - (skyK rs k).length, by omega, by omega, by omega, ?_⟩
      simp only [skyK]
      rw [List.getElem_append_right (by omega), ringC_at hi, a]
theorem ring_uniq {rs : List Int} (o : SkyOk rs) {r r' : Nat} {i i' : Int} (hr : r < rs.length) (hr' : r' < rs.length) (h0 : 0 ≤ i) (h0' : 0 ≤ i') (h : i < rs.getD r default) (h' : i' < rs.getD r' default) (e : befK rs r + i = befK rs r' + i') : r = r' ∧ i = i' := by
  have h1 : ¬ r < r' := fun hlt => by
    have := befK_le o (j := r + 1) (k := r') (by omega) (by omega)
    rw [befK] at this; omega
  have h2 : ¬ r' < r := fun hlt => by
    have := befK_le o (j := r' + 1) (k := r) (by omega) (by omega)
    rw [befK] at this; omega
  have : r = r' := by omega
  subst this
  exact ⟨rfl, by omega⟩
def skyC (rs : List Int) : List Cel := skyK rs rs.length
theorem skyC_len {rs : List Int} (o : SkyOk rs) : ((skyC rs).length : Int) = befK rs rs.length := skyK_len o (Nat.le_refl _)
theorem skyC_bd {rs : List Int} (o : SkyOk rs) : 1 ≤ (skyC rs).length ∧ (skyC rs).length ≤ 96 := by
  have a := skyC_len o
  have b := befK_bd o (Nat.le_refl rs.length)
  have c := o.pos
  have d := o.len
  omega
theorem skyC_of {rs : List Int} (o : SkyOk rs) {r i : Nat} (hr : r < rs.length) (hi : (i : Int) < rs.getD r default) : ∃ hn : (befK rs r + i).toNat < (skyC rs).length, (skyC rs)[(befK rs r + i).toNat] = ⟨r, befK rs r, rs.getD r default, i⟩ := by
  have a := skyC_len o
  have b := befK_le o (j := r + 1) (k := rs.length) (by omega) (Nat.le_refl _)
  have c := (befK_bd o (k := r) (by omega)).1
  rw [befK] at b
  have hn : (befK rs r + i).toNat < (skyC rs).length := by omega
  refine ⟨hn, ?_⟩
  obtain ⟨r', i', h1, h2, h3, h4⟩ := skyK_at o (Nat.le_refl _) hn
  obtain ⟨e1, e2⟩ := ring_uniq o hr h1 (Int.natCast_nonneg i) (Int.natCast_nonneg i') hi h2 (by omega)
  subst e1
  have e2 : i = i' := by omega
  subst e2
  exact h4
def upB (rs : List Int) (h b : Int) : Bool := decide (h * befK rs rs.length ≤ 1000000 * (befK rs rs.length - 2 * b))
theorem upB_mono {rs : List Int} {h b c : Int} (hbc : b ≤ c) (hc : upB rs h c = true) : upB rs h b = true := by
  unfold upB at *
  rw [decide_eq_true_eq] at *
  have : 1000000 * (befK rs rs.length - 2 * c) ≤ 1000000 * (befK rs rs.length - 2 * b) := by omega
  exact Int.le_trans hc this
def lastC (rs : List Int) (h : Int) (cs : List Cel) : Nat → Cel
  | 0 => ⟨0, 0, 0, 0⟩
  | k + 1 => if upB rs h (cs.getD k default).before then cs.getD k default else lastC rs h cs k
theorem lastC_stay {rs : List Int} {h : Int} {cs : List Cel} {m : Nat} : ∀ {k : Nat}, m ≤ k → (∀ i, m ≤ i → i < k → upB rs h (cs.getD i default).before = false) → lastC rs h cs k = lastC rs h cs m
  | 0, hm, _ => by rw [show m = 0 by omega]
  | k + 1, hm, hh => by
    by_cases e : m = k + 1
    · rw [e]
    · rw [lastC, hh k (by omega) (by omega)]
      exact lastC_stay (by omega) fun i h1 h2 => hh i h1 (by omega)
def goR (rs : List Int) (h : Int) : Nat → Nat → Nat
  | 0, r => r
  | f + 1, r => if r + 1 < rs.length ∧ upB rs h (befK rs (r + 1)) = true then goR rs h f (r + 1) else r
theorem goR_spec {rs : List Int} {h : Int} : ∀ {f r : Nat}, r < rs.length → rs.length ≤ r + 1 + f → upB rs h (befK rs r) = true → goR rs h f r < rs.length ∧ upB rs h (befK rs (goR rs h f r)) = true ∧ ¬ (goR rs h f r + 1 < rs.length ∧ upB rs h (befK rs (goR rs h f r + 1)) = true)
  | 0, r, h1, h2, h3 => ⟨h1, h3, fun h => by rw [goR] at h; omega⟩
  | f + 1, r, h1, h2, h3 => by
    rw [goR]
    by_cases hc : r + 1 < rs.length ∧ upB rs h (befK rs (r + 1)) = true
    · rw [if_pos hc]; exact goR_spec hc.1 (by omega) hc.2
    · rw [if_neg hc]; exact ⟨h1, h3, hc⟩
theorem lastC_ring {rs : List Int} (o : SkyOk rs) {h : Int} (hh : h ≤ 1000000) : (lastC rs h (skyC rs) (skyC rs).length).before = befK rs (goR rs h rs.length 0) ∧ (lastC rs h (skyC rs) (skyC rs).length).count = rs.getD (goR rs h rs.length 0) default := by
  have h0 : upB rs h (befK rs 0) = true := by
    unfold upB
    rw [decide_eq_true_eq, show befK rs 0 = 0 from rfl, Int.mul_zero, Int.sub_zero]
    exact Int.mul_le_mul_of_nonneg_right hh (by have := (befK_bd o (Nat.le_refl rs.length)).1; omega)
  obtain ⟨g1, g2, g3⟩ := goR_spec (f := rs.length) (r := 0) (h := h) (rs := rs) (by have := o.pos; omega) (by omega) h0
  generalize goR rs h rs.length 0 = R at *
  have hR := o.ring R g1
  have hb := befK_bd o (k := R) (by omega)
  obtain ⟨hn, e⟩ := skyC_of o (i := (rs.getD R default - 1).toNat) g1 (by omega)
  generalize hm : (befK rs R + ((rs.getD R default - 1).toNat : Nat)).toNat = m at hn e
  have hst : lastC rs h (skyC rs) (skyC rs).length = lastC rs h (skyC rs) (m + 1) := lastC_stay (by omega) fun i h1 h2 => by
    obtain ⟨r, j, q1, q2, q3, q4⟩ := skyK_at o (Nat.le_refl _) h2
    have q4' : (skyC rs)[i] = ⟨r, befK rs r, rs.getD r default, j⟩ := q4
    rw [List.getD_eq_getElem?_getD, List.getElem?_eq_getElem h2, q4', Option.getD_some]
    show upB rs h (befK rs r) = false
    have hr : R < r := by
      refine Classical.byContradiction fun hc => ?_
      have := befK_le o (j := r + 1) (k := R + 1) (by omega) (by omega)
      rw [befK, befK] at this
      omega
    rw [← Bool.not_eq_true]
    intro hu
    refine g3 ⟨by omega, upB_mono (befK_le o (by omega) (by omega)) hu⟩
  have hl : lastC rs h (skyC rs) (m + 1) = (skyC rs)[m] := by
    rw [lastC, List.getD_eq_getElem?_getD, List.getElem?_eq_getElem hn, Option.getD_some, e]
    show (if upB rs h (befK rs R) = true then _ else _) = _
    rw [if_pos g2]
  rw [hst, hl, e]
  exact ⟨rfl, rfl⟩
end Go.Proofs.YtenkgipcblfocaaGreat
namespace Go.Proofs.YtenkgipcblfocaaGreat
open Go Go.RowKit Go.Proofs Go.Shelf Go.Ab
structure Job where
  ready : Int
  length : Int
  due : Int
  rank : Int
deriving DecidableEq, Inhabited
def bestF (P : Nat → Bool) (v : Nat → Int) : Nat → Int
  | 0 => -1
  | k + 1 => if P k = true ∧ (bestF P v k < 0 ∨ v (bestF P v k).toNat < v k) then (k : Int) else bestF P v k
theorem bestF_bd {P : Nat → Bool} {v : Nat → Int} : ∀ n, -1 ≤ bestF P v n ∧ bestF P v n < n
  | 0 => by simp [bestF]
  | k + 1 => by
    have := bestF_bd (P := P) (v := v) k
    rw [bestF]; split <;> omega
theorem bestF_none {P : Nat → Bool} {v : Nat → Int} : ∀ {n : Nat}, (∀ i, i < n → P i = false) → bestF P v n = -1
  | 0, _ => rfl
  | k + 1, h => by
    rw [bestF, if_neg (by rw [h k (by omega)]; simp)]
    exact bestF_none fun i hi => h i (by omega)
theorem bestF_some {P : Nat → Bool} {v : Nat → Int} : ∀ {n : Nat}, (∃ i, i < n ∧ P i = true) → 0 ≤ bestF P v n ∧ P (bestF P v n).toNat = true ∧ ∀ i, i < n → P i = true → v i ≤ v (bestF P v n).toNat
  | 0, ⟨i, h, _⟩ => absurd h (Nat.not_lt_zero i)
  | k + 1, ⟨j, hj, hP⟩ => by
    rw [bestF]
    have hb := bestF_bd (P := P) (v := v) k
    by_cases hc : P k = true ∧ (bestF P v k < 0 ∨ v (bestF P v k).toNat < v k)
    · rw [if_pos hc]
      refine ⟨by omega, by simpa using hc.1, fun i hi hPi => ?_⟩
      show v i ≤ v k
      by_cases e : i = k
      · subst e; exact Int.le_refl _
      · have := (bestF_some (v := v) (n := k) ⟨i, by omega, hPi⟩)
        have h2 := this.2.2 i (by omega) hPi
        rcases hc.2 with h3 | h3
        · omega
        · omega
    · rw [if_neg hc]
      by_cases e : ∃ i, i < k ∧ P i = true
      · obtain ⟨a, b, c⟩ := bestF_some (v := v) e
        refine ⟨a, b, fun i hi hPi => ?_⟩
        by_cases e2 : i = k
        · subst e2
          refine Classical.byContradiction fun h => hc ⟨hPi, .inr (by omega)⟩
        · exact c i (by omega) hPi
      · exfalso
        have hn : bestF P v k = -1 := bestF_none fun i hi => by
          cases h : P i with
          | false => rfl
          | true => exact absurd ⟨i, hi, h⟩ e
        have : j = k := Classical.byContradiction fun h => e ⟨j, by omega, hP⟩
        subst this
        exact hc ⟨hP, .inl (by omega)⟩
def begF (U : Nat → Bool) (r : Nat → Int) (now : Int) : Nat → Int
  | 0 => -1
  | k + 1 => if U k = true ∧ (begF U r now k < 0 ∨ max now (r k) < begF U r now k) then max now (r k) else begF U r now k
theorem begF_none {U : Nat → Bool} {r : Nat → Int} {now : Int} : ∀ {n : Nat}, (∀ i, i < n → U i = false) → begF U r now n = -1
  | 0, _ => rfl
  | k + 1, h => by
    rw [begF, if_neg (by rw [h k (by omega)]; simp)]
    exact begF_none fun i hi => h i (by omega)
theorem begF_some {U : Nat → Bool} {r : Nat → Int} {now : Int} (h0 : 0 ≤ now) : ∀ {n : Nat}, (∃ i, i < n ∧ U i = true) → now ≤ begF U r now n ∧ (∃ i, i < n ∧ U i = true ∧ begF U r now n = max now (r i)) ∧ ∀ i, i < n → U i = true → begF U r now n ≤ max now (r i)
  | 0, ⟨i, h, _⟩ => absurd h (Nat.not_lt_zero i)
  | k + 1, ⟨j, hj, hP⟩ => by
    rw [begF]
    by_cases hc : U k = true ∧ (begF U r now k < 0 ∨ max now (r k) < begF U r now k)
    · rw [if_pos hc]
      refine ⟨by omega, ⟨k, by omega, hc.1, rfl⟩, fun i hi hPi => ?_⟩
      by_cases e : i = k
      · subst e; exact Int.le_refl _
      · obtain ⟨a, _, c⟩ := begF_some h0 (r := r) (n := k) ⟨i, by omega, hPi⟩
        have := c i (by omega) hPi
        rcases hc.2 with h3 | h3 <;> omega
    · rw [if_neg hc]
      by_cases e : ∃ i, i < k ∧ U i = true
      · obtain ⟨a, ⟨i0, b1, b2, b3⟩, c⟩ := begF_some h0 (r := r) e
        refine ⟨a, ⟨i0, by omega, b2, b3⟩, fun i hi hPi => ?_⟩
        by_cases e2 : i = k
        · subst e2
          refine Classical.byContradiction fun h => hc ⟨hPi, .inr (by omega)⟩
        · exact c i (by omega) hPi
      · exfalso
        have hn : begF U r now k = -1 := begF_none fun i hi => by
          cases h : U i with
          | false => rfl
          | true => exact absurd ⟨i, hi, h⟩ e
        have : j = k := Classical.byContradiction fun h => e ⟨j, by omega, hP⟩
        subst this
        exact hc ⟨hP, .inl (by omega)⟩
def nextR (U : Nat → Bool) (r k : Nat → Int) (n : Nat) (now : Int) : Int × Int :=
  let b := begF U r now n
  (bestF (fun i => U i && decide (r i ≤ b)) k n, b)
end Go.Proofs.YtenkgipcblfocaaGreat
namespace Go.Proofs.YtenkgipcblfocaaGreat
open Go Go.RowKit Go.Proofs Go.Shelf Go.Ab
def firstS {α : Type} (g : Nat → Option α) : Nat → Option α
  | 0 => none
  | k + 1 => match firstS g k with
    | some x => some x
    | none => g k
theorem firstS_none {α : Type} {g : Nat → Option α} : ∀ {n : Nat}, firstS g n = none ↔ ∀ i, i < n → g i = none
  | 0 => by simp [firstS]
  | k + 1 => by
    rw [firstS]
    cases h : firstS g k with
    | some x =>
      simp only [reduceCtorEq, false_iff]
      intro hh
      rw [firstS_none.2 fun i hi => hh i (by omega)] at h
      cases h
    | none =>
      have hk := firstS_none.1 h
      constructor
      · intro hg i hi
        by_cases e : i = k
        · subst e; exact hg
        · exact hk i (by omega)
      · intro hh; exact hh k (by omega)
theorem firstS_some {α : Type} {g : Nat → Option α} {x : α} : ∀ {n : Nat}, firstS g n = some x → ∃ i, i < n ∧ g i = some x ∧ ∀ j, j < i → g j = none
  | 0, h => by cases h
  | k + 1, h => by
    rw [firstS] at h
    cases hk : firstS g k with
    | some y =>
      rw [hk] at h
      cases h
      obtain ⟨i, h1, h2, h3⟩ := firstS_some hk
      exact ⟨i, by omega, h2, h3⟩
    | none =>
      rw [hk] at h
      exact ⟨k, by omega, h, firstS_none.1 hk⟩
def jobA (l : List Job) (z : Int) : Job := l.getD z.toNat default
def endT (l : List Job) (now z : Int) : Int := max now (jobA l z).ready + (jobA l z).length
def nowK (l : List Job) (o : List Int) : Nat → Int
  | 0 => 0
  | k + 1 => endT l (nowK l o k) (o.getD k default)
def endsK (l : List Job) (o : List Int) : Nat → List Int
  | 0 => List.replicate l.length 0
  | k + 1 => (endsK l o k).set (o.getD k default).toNat (nowK l o (k + 1))
def lateB (l : List Job) (o : List Int) : Prop := ∃ i, i < l.length ∧ (l.getD i default).due < (endsK l o o.length).getD i default
structure OrdOk (l : List Job) (o : List Int) : Prop where
  nd : o.Nodup
  mem : ∀ z, z ∈ o → 0 ≤ z ∧ z < l.length
theorem OrdOk.snoc {l : List Job} {o : List Int} (q : OrdOk l o) {i : Nat} (hi : i < l.length) (hm : (i : Int) ∉ o) : OrdOk l (o ++ [(i : Int)]) :=
  ⟨List.nodup_append.2 ⟨q.nd, by simp, fun a ha b hb => by rw [List.mem_singleton] at hb; subst hb; exact fun e => hm (e ▸ ha)⟩, fun z hz => by
    rcases List.mem_append.1 hz with h | h
    · exact q.mem z h
    · rw [List.mem_singleton] at h; subst h; omega⟩
theorem pig : ∀ {n : Nat} {o : List Nat}, o.Nodup → (∀ z, z ∈ o → z < n) → o.length ≤ n
  | 0, o, _, h => by
    cases o with
    | nil => exact Nat.le_refl _
    | cons a t => exact absurd (h a (by simp)) (Nat.not_lt_zero _)
  | n + 1, o, hd, h => by
    have h1 := pig (n := n) (o := o.erase n) (hd.erase n) fun z hz => by
      have := (hd.mem_erase_iff).1 hz
      have := h z this.2
      omega
    rw [List.length_erase] at h1
    split at h1 <;> omega
theorem OrdOk.full {l : List Job} {o : List Int} (q : OrdOk l o) (hl : o.length = l.length) {i : Nat} (hi : i < l.length) : (i : Int) ∈ o := by
  refine Classical.byContradiction fun h => ?_
  have q2 := q.snoc hi h
  have := pig (n := l.length) (o := (o ++ [(i : Int)]).map Int.toNat) (by
    refine (List.pairwise_map).2 (q2.nd.imp_of_mem fun {a b} ha hb hab he => hab ?_)
    have h1 := q2.mem a ha
    have h2 := q2.mem b hb
    omega) (fun z hz => by
    obtain ⟨x, hx, rfl⟩ := List.mem_map.1 hz
    have := q2.mem x hx
    omega)
  rw [List.length_map, List.length_append, List.length_singleton] at this
  omega
def onT (l : List Job) : Nat → List Int → Int → Option (List Int)
  | 0, o, _ => if o.length = l.length then some o else none
  | f + 1, o, now => if o.length = l.length then some o else firstS (fun i => if (i : Int) ∈ o ∨ (jobA l i).due < endT l now i then none else onT l f (o ++ [(i : Int)]) (endT l now i)) l.length
instance (l : List Job) (o : List Int) : Decidable (lateB l o) := by unfold lateB; infer_instance
end Go.Proofs.YtenkgipcblfocaaGreat
namespace Go.Proofs.YtenkgipcblfocaaGreat
open Go Go.RowKit Go.Proofs Go.Shelf Go.Ab
def orderO (l : List Job) : Option (List Int) := onT l l.length [] 0
def idxL (n : Nat) : List Int := (List.range n).map fun i : Nat => (i : Int)
theorem idxL_nd (n : Nat) : (idxL n).Nodup := List.pairwise_map.2 (List.nodup_range.imp fun h e => h (by omega))
theorem idxL_mem {n : Nat} {z : Int} : z ∈ idxL n ↔ 0 ≤ z ∧ z < n := by
  unfold idxL
  rw [List.mem_map]
  constructor
  · rintro ⟨i, hi, rfl⟩
    rw [List.mem_range] at hi
    omega
  · intro h
    exact ⟨z.toNat, List.mem_range.2 (by omega), by omega⟩
def sumI (f : Int → Int) : List Int → Int
  | [] => 0
  | x :: l => f x + sumI f l
theorem sumI_perm {f : Int → Int} {a b : List Int} (h : a.Perm b) : sumI f a = sumI f b := by
  induction h with
  | nil => rfl
  | cons x _ ih => rw [sumI, sumI, ih]
  | swap x y l => rw [sumI, sumI, sumI, sumI]; omega
  | trans _ _ h1 h2 => exact h1.trans h2
theorem sumI_app {f : Int → Int} : ∀ {a b : List Int}, sumI f (a ++ b) = sumI f a + sumI f b
  | [], b => by rw [List.nil_append, sumI]; omega
  | x :: a, b => by rw [List.cons_append, sumI, sumI, sumI_app]; omega
end Go.Proofs.YtenkgipcblfocaaGreat
namespace Go.Proofs.YtenkgipcblfocaaGreat
open Go Go.RowKit Go.Proofs Go.Shelf Go.Ab
structure JobsOk (l : List Job) : Prop where
  len : l.length ≤ 7
  job : ∀ i, i < l.length → (0 ≤ (l.getD i default).ready ∧ (l.getD i default).ready ≤ 1000000000000) ∧ (0 ≤ (l.getD i default).due ∧ (l.getD i default).due ≤ 1000000000000) ∧ (1 ≤ (l.getD i default).length ∧ (l.getD i default).length ≤ 100000) ∧ (0 ≤ (l.getD i default).rank ∧ (l.getD i default).rank ≤ 100000)
def outU (out : List Int) (i : Nat) : Bool := decide (out.getD i default = 0)
def stepR (l : List Job) (out : List Int) (now : Int) : Int × Int := nextR (outU out) (fun i => (l.getD i default).ready) (fun i => (l.getD i default).rank) l.length now
theorem sub_len {α : Type} [DecidableEq α] : ∀ {s o : List α}, s.Nodup → (∀ x, x ∈ s → x ∈ o) → s.length ≤ o.length
  | [], _, _, _ => Nat.zero_le _
  | a :: t, o, hd, hs => by
    rw [List.nodup_cons] at hd
    have ha := hs a (by simp)
    have := sub_len (o := o.erase a) hd.2 (fun x hx => (List.mem_erase_of_ne (fun e : x = a => hd.1 (by subst e; exact hx))).2 (hs x (by simp [hx])))
    rw [List.length_erase_of_mem ha] at this
    have := List.length_pos_of_mem ha
    simp only [List.length_cons]
    omega
theorem getD_set {l : List Int} {i j : Nat} {x : Int} (hi : i < l.length) : (l.set i x).getD j default = if i = j then x else l.getD j default := by
  rw [List.getD_eq_getElem?_getD, List.getElem?_set]
  by_cases e : i = j
  · subst e; rw [if_pos rfl, if_pos hi, if_pos rfl]; rfl
  · rw [if_neg e, if_neg e, ← List.getD_eq_getElem?_getD]
structure FinOk (l : List Job) (k : Nat) (out : List Int) (now b : Int) (S T : List Int) : Prop where
  len : out.length = l.length
  now0 : 0 ≤ now ∧ now ≤ 1000000000000 + 100000 * k
  b0 : b ≤ now
  nd : S.Nodup
  cnt : S.length = k
  rng : ∀ z, z ∈ S → 0 ≤ z ∧ z < l.length
  memS : ∀ i : Nat, i < l.length → ((i : Int) ∈ S ↔ out.getD i default ≠ 0)
  ndT : T.Nodup
  ne : k = 0 ∨ T ≠ []
  subT : ∀ z, z ∈ T → z ∈ S ∧ (0 ≤ z ∧ z < l.length) ∧ b ≤ (jobA l z).ready
  rest : ∀ i, i < l.length → out.getD i default = 0 → b ≤ (l.getD i default).ready
  eq : now = b + sumI (fun z => (jobA l z).length) T
  fin : ∀ i, i < l.length → out.getD i default ≠ 0 → (l.getD i default).ready + (l.getD i default).length ≤ out.getD i default ∧ out.getD i default ≤ now
  apart : ∀ i j, i < l.length → j < l.length → i ≠ j → out.getD i default ≠ 0 → out.getD j default ≠ 0 → out.getD i default ≤ out.getD j default - (l.getD j default).length ∨ out.getD j default ≤ out.getD i default - (l.getD i default).length
  top : k = 0 ∧ now = 0 ∨ ∃ i, i < l.length ∧ out.getD i default = now ∧ now ≠ 0
theorem FinOk.left {l : List Job} {k : Nat} {out : List Int} {now b : Int} {S T : List Int} (F : FinOk l k out now b S T) (hk : k < l.length) : ∃ i, i < l.length ∧ outU out i = true := by
  refine Classical.byContradiction fun h => ?_
  have := sub_len (idxL_nd l.length) (o := S) fun x hx => by
    have hx := idxL_mem.1 hx
    have e : ((x.toNat : Nat) : Int) = x := by omega
    rw [← e]
    refine (F.memS x.toNat (by omega)).2 fun h0 => h ⟨x.toNat, by omega, ?_⟩
    unfold outU; rw [decide_eq_true_eq]; exact h0
  have e1 := F.cnt
  simp only [idxL, List.length_map, List.length_range] at this
  omega
theorem FinOk.next {l : List Job} {k : Nat} {out : List Int} {now b : Int} {S T : List Int} (F : FinOk l k out now b S T) (hk : k < l.length) : (0 ≤ (stepR l out now).1 ∧ (stepR l out now).1 < l.length) ∧ out.getD (stepR l out now).1.toNat default = 0 ∧ (jobA l (stepR l out now).1).ready ≤ (stepR l out now).2 ∧ now ≤ (stepR l out now).2 ∧
    (∃ i, i < l.length ∧ (stepR l out now).2 = max now (l.getD i default).ready) ∧ ∀ i, i < l.length → out.getD i default = 0 → (stepR l out now).2 ≤ max now (l.getD i default).ready := by
  obtain ⟨a, ⟨i0, b1, b2, b3⟩, c⟩ := begF_some F.now0.1 (r := fun i => (l.getD i default).ready) (F.left hk)
  have e2 : (stepR l out now).2 = begF (outU out) (fun i => (l.getD i default).ready) now l.length := rfl
  have e1 : (stepR l out now).1 = bestF (fun i => outU out i && decide ((l.getD i default).ready ≤ (stepR l out now).2)) (fun i => (l.getD i default).rank) l.length := rfl
  have hU : ∀ i, outU out i = true ↔ out.getD i default = 0 := fun i => by unfold outU; rw [decide_eq_true_eq]
  rw [← e2] at a b3 c
  obtain ⟨q1, q2, _⟩ := bestF_some (P := fun i => outU out i && decide ((l.getD i default).ready ≤ (stepR l out now).2)) (v := fun i => (l.getD i default).rank) (n := l.length) ⟨i0, b1, by rw [b2, Bool.true_and, decide_eq_true_eq, b3]; omega⟩
  have q3 := (bestF_bd (P := fun i => outU out i && decide ((l.getD i default).ready ≤ (stepR l out now).2)) (v := fun i => (l.getD i default).rank) l.length).2
  rw [← e1] at q1 q2 q3
  rw [Bool.and_eq_true, decide_eq_true_eq, hU] at q2
  exact ⟨⟨q1, q3⟩, q2.1, q2.2, a, ⟨i0, b1, b3⟩, fun i hi h0 => c i hi ((hU i).2 h0)⟩
theorem FinOk.step {l : List Job} {k : Nat} {out : List Int} {now b : Int} {S T : List Int} (o : JobsOk l) (F : FinOk l k out now b S T) (hk : k < l.length) : ∃ b' S' T', FinOk l (k + 1) (out.set (stepR l out now).1.toNat ((stepR l out now).2 + (jobA l (stepR l out now).1).length)) ((stepR l out now).2 + (jobA l (stepR l out now).1).length) b' S' T' := by
  obtain ⟨⟨x0, x1⟩, x2, x3, x4, ⟨i0, x5, x6⟩, x7⟩ := F.next hk
  generalize (stepR l out now).1 = x at *
  generalize (stepR l out now).2 = t at *
  have hx := o.job x.toNat (by omega)
  have hi0 := o.job i0 x5
  have hJ : jobA l x = l.getD x.toNat default := rfl
  have hxr : (l.getD x.toNat default).ready ≤ t := x3
  have hn := F.now0
  have hlen := F.len
  have hG : ∀ j, (out.set x.toNat (t + (jobA l x).length)).getD j default = if x.toNat = j then t + (jobA l x).length else out.getD j default := fun j => getD_set (by omega)
  have exx : ((x.toNat : Nat) : Int) = x := by omega
  have hxS : x ∉ S := fun h => ((F.memS x.toNat (by omega)).1 (by rw [exx]; exact h)) x2
  have hmem : ∀ i : Nat, i < l.length → ((i : Int) ∈ S ++ [x] ↔ (out.set x.toNat (t + (jobA l x).length)).getD i default ≠ 0) := fun i hi => by
    rw [hG, List.mem_append, List.mem_singleton]
    by_cases e : x.toNat = i
    · rw [if_pos e]
      constructor
      · intro _; rw [hJ]; omega
      · intro _; exact .inr (by omega)
    · rw [if_neg e, F.memS i hi]
      constructor
      · rintro (h | h)
        · exact h
        · omega
      · exact .inl
  have hnd : (S ++ [x]).Nodup := List.nodup_append.2 ⟨F.nd, by simp, fun a ha b hb => by rw [List.mem_singleton] at hb; subst hb; exact fun e => hxS (e ▸ ha)⟩
  have hrng : ∀ z, z ∈ S ++ [x] → 0 ≤ z ∧ z < l.length := fun z hz => by
    rcases List.mem_append.1 hz with h | h
    · exact F.rng z h
    · rw [List.mem_singleton] at h; omega
  have hfin : ∀ i, i < l.length → (out.set x.toNat (t + (jobA l x).length)).getD i default ≠ 0 → (l.getD i default).ready + (l.getD i default).length ≤ (out.set x.toNat (t + (jobA l x).length)).getD i default ∧ (out.set x.toNat (t + (jobA l x).length)).getD i default ≤ t + (jobA l x).length := fun i hi => by
    rw [hG]
    by_cases e : x.toNat = i
    · subst e; rw [if_pos rfl]; intro _; rw [hJ]; omega
    · rw [if_neg e]; intro h
      have := F.fin i hi h
      rw [hJ]; omega
  have hap : ∀ i j, i < l.length → j < l.length → i ≠ j → (out.set x.toNat (t + (jobA l x).length)).getD i default ≠ 0 → (out.set x.toNat (t + (jobA l x).length)).getD j default ≠ 0 → (out.set x.toNat (t + (jobA l x).length)).getD i default ≤ (out.set x.toNat (t + (jobA l x).length)).getD j default - (l.getD j default).length ∨ (out.set x.toNat (t + (jobA l x).length)).getD j default ≤ (out.set x.toNat (t + (jobA l x).length)).getD i default - (l.getD i default).length := fun i j hi hj hij => by
    rw [hG, hG]
    by_cases e : x.toNat = i
    · subst e
      rw [if_pos rfl, if_neg hij]
      intro _ h
      have := F.fin j hj h
      rw [hJ]; right; omega
    · rw [if_neg e]
      by_cases e2 : x.toNat = j
      · subst e2
        rw [if_pos rfl]
        intro h _
        have := F.fin i hi h
        rw [hJ]; left; omega
      · rw [if_neg e2]; exact F.apart i j hi hj hij
  have htop : k + 1 = 0 ∧ t + (jobA l x).length = 0 ∨ ∃ i, i < l.length ∧ (out.set x.toNat (t + (jobA l x).length)).getD i default = t + (jobA l x).length ∧ t + (jobA l x).length ≠ 0 := .inr ⟨x.toNat, by omega, by rw [hG, if_pos rfl], by rw [hJ]; omega⟩
  have hnow : 0 ≤ t + (jobA l x).length ∧ t + (jobA l x).length ≤ 1000000000000 + 100000 * ((k + 1 : Nat) : Int) := by rw [hJ]; omega
  by_cases hc : t = now
  · refine ⟨b, S ++ [x], T ++ [x], ?_⟩
    have hb := F.b0
    have hxT : x ∉ T := fun h => hxS (F.subT x h).1
    exact { len := by simp [hlen], now0 := hnow, b0 := by rw [hJ]; omega, nd := hnd, cnt := by simp [F.cnt], rng := hrng, memS := hmem
            ne := .inr (by simp)
            ndT := List.nodup_append.2 ⟨F.ndT, by simp, fun a ha b hb => by rw [List.mem_singleton] at hb; subst hb; exact fun e => hxT (e ▸ ha)⟩
            subT := fun z hz => by
              rcases List.mem_append.1 hz with h | h
              · exact ⟨List.mem_append.2 (.inl (F.subT z h).1), (F.subT z h).2⟩
              · rw [List.mem_singleton] at h
                subst h
                exact ⟨by simp, ⟨x0, x1⟩, F.rest _ (by omega) x2⟩
            rest := fun i hi => by
              rw [hG]
              by_cases e : x.toNat = i
              · rw [if_pos e]; intro h; rw [hJ] at h; omega
              · rw [if_neg e]; exact F.rest i hi
            eq := by
              have := F.eq
              rw [sumI_app]
              show _ = _ + (_ + ((jobA l x).length + 0))
              omega
            fin := hfin, apart := hap, top := htop }
  · refine ⟨t, S ++ [x], [x], ?_⟩
    exact { len := by simp [hlen], now0 := hnow, b0 := by rw [hJ]; omega, nd := hnd, cnt := by simp [F.cnt], rng := hrng, memS := hmem, ndT := by simp, ne := .inr (by simp)
            subT := fun z hz => by
              rw [List.mem_singleton] at hz
              subst hz
              refine ⟨by simp, ⟨x0, x1⟩, ?_⟩
              have := x7 _ (show z.toNat < l.length by omega) x2
              rw [hJ]; omega
            rest := fun i hi => by
              rw [hG]
              by_cases e : x.toNat = i
              · rw [if_pos e]; intro h; rw [hJ] at h; omega
              · rw [if_neg e]; intro h
                have := x7 i hi h
                omega
            eq := by show _ = _ + ((jobA l x).length + 0); omega
            fin := hfin, apart := hap, top := htop }
end Go.Proofs.YtenkgipcblfocaaGreat
namespace Go.Proofs.YtenkgipcblfocaaGreat
open Go Go.RowKit Go.Proofs Go.Shelf Go.Ab
def modB (n m : Int) : Int := if n.tmod m < 0 then n.tmod m + m else n.tmod m
theorem modB_eq {n m : Int} (hm : 0 < m) : modB n m = n % m := by
  have h1 := Int.tmod_lt_of_pos n hm
  have h2 := Int.lt_tmod_of_pos n hm
  have h3 : n % m = n.tmod m % m := by
    have := Int.tmod_add_mul_tdiv n m
    have e : n = n.tmod m + m * n.tdiv m := this.symm
    generalize n.tmod m = r at *
    generalize n.tdiv m = q at *
    rw [e, Int.add_mul_emod_self_left]
  unfold modB
  rw [h3]
  split
  · rename_i h
    rw [← Int.add_emod_right, Int.emod_eq_of_lt (by omega) (by omega)]
  · rw [Int.emod_eq_of_lt (by omega) h1]
def turnZ (tick : Int) : Int := tick % 86164 * 1000000 / 86164
theorem turnZ_bd (tick : Int) : 0 ≤ turnZ tick ∧ turnZ tick < 1000000 := by unfold turnZ; omega
def turnedZ (turn tick times : Int) : Int := (turn + times * turnZ tick + 1000000) % 1000000
theorem ring_near {i k c : Int} (hi : 0 ≤ i ∧ i < c) (hk : 0 ≤ k ∧ k < c) (hne : i ≠ k) : ((i - k + c) % c = 1 ∨ (i - k + c) % c = c - 1) ↔ (modB (i - k) c = 1 ∨ modB (k - i) c = 1) := by
  rw [modB_eq (by omega), modB_eq (by omega), Int.add_emod_right]
  by_cases h : k < i
  · have a : (i - k) % c = i - k := Int.emod_eq_of_lt (by omega) (by omega)
    have b : (k - i) % c = k - i + c := by rw [← Int.add_emod_right, Int.emod_eq_of_lt (by omega) (by omega)]
    rw [a, b]; omega
  · have a : (k - i) % c = k - i := Int.emod_eq_of_lt (by omega) (by omega)
    have b : (i - k) % c = i - k + c := by rw [← Int.add_emod_right, Int.emod_eq_of_lt (by omega) (by omega)]
    rw [a, b]; omega
end Go.Proofs.YtenkgipcblfocaaGreat
namespace Go.Proofs.YtenkgipcblfocaaGreat
open Go Go.RowKit Go.Proofs Go.Shelf Go.Ab
def befW (w : Int → Int) (i j : Int) : Prop := w j < w i ∨ (w i = w j ∧ i < j)
theorem befW_irr {w : Int → Int} {i j : Int} (h : befW w i j) : ¬ befW w j i := by unfold befW at *; omega
theorem befW_tot {w : Int → Int} {i j : Int} (h : i ≠ j) : befW w i j ∨ befW w j i := by unfold befW; omega
structure SortW (w : Int → Int) (n : Nat) (L : List Int) : Prop where
  perm : L.Perm (idxL n)
  ord : L.Pairwise (befW w)
theorem SortW.len {w : Int → Int} {n : Nat} {L : List Int} (s : SortW w n L) : L.length = n := by rw [s.perm.length_eq]; simp [idxL]
theorem SortW.nd {w : Int → Int} {n : Nat} {L : List Int} (s : SortW w n L) : L.Nodup := s.perm.nodup_iff.2 (idxL_nd n)
theorem SortW.mem {w : Int → Int} {n : Nat} {L : List Int} (s : SortW w n L) {z : Int} : z ∈ L ↔ 0 ≤ z ∧ z < n := by rw [s.perm.mem_iff, idxL_mem]
def cntK (w : Int → Int) (L : List Int) (want : Int) : Nat → Nat → Nat
  | 0, c => c
  | f + 1, c => if 100 * sumI w (L.take c) < want then cntK w L want f (c + 1) else c
theorem cntK_spec {w : Int → Int} {L : List Int} {want : Int} (hw : want ≤ 100 * sumI w L) : ∀ {f c : Nat}, L.length ≤ c + f → c ≤ L.length → (∀ j, j < c → 100 * sumI w (L.take j) < want) → cntK w L want f c ≤ L.length ∧ want ≤ 100 * sumI w (L.take (cntK w L want f c)) ∧ ∀ j, j < cntK w L want f c → 100 * sumI w (L.take j) < want
  | 0, c, h1, h2, h3 => by
    rw [cntK]
    refine ⟨h2, ?_, h3⟩
    rw [List.take_of_length_le (by omega)]; exact hw
  | f + 1, c, h1, h2, h3 => by
    rw [cntK]
    by_cases hc : 100 * sumI w (L.take c) < want
    · rw [if_pos hc]
      have hlt : c < L.length := by
        refine Classical.byContradiction fun h => ?_
        rw [List.take_of_length_le (by omega)] at hc; omega
      exact cntK_spec hw (by omega) (by omega) fun j hj => by
        by_cases e : j = c
        · subst e; exact hc
        · exact h3 j (by omega)
    · rw [if_neg hc]; exact ⟨h2, by omega, h3⟩
theorem idxL_asc (n : Nat) : (idxL n).Pairwise (· < ·) := List.pairwise_map.2 (List.pairwise_lt_range.imp fun h => by omega)
end Go.Proofs.YtenkgipcblfocaaGreat
namespace Go.Proofs.YtenkgipcblfocaaGreat
open Go Go.RowKit Go.Proofs Go.Shelf Go.Ab
section
variable {w : Int → Int} {n : Nat} {L : List Int} {want : Int}
def regC (w : Int → Int) (L : List Int) (want : Int) : Nat := cntK w L want L.length 0
theorem regC_spec (hw : want ≤ 100 * sumI w L) : regC w L want ≤ L.length ∧ want ≤ 100 * sumI w (L.take (regC w L want)) ∧ ∀ j, j < regC w L want → 100 * sumI w (L.take j) < want :=
  cntK_spec hw (by omega) (Nat.zero_le _) fun j hj => absurd hj (Nat.not_lt_zero j)
end
end Go.Proofs.YtenkgipcblfocaaGreat
namespace Go.Proofs.YtenkgipcblfocaaGreat
open Go Go.RowKit Go.Proofs Go.Shelf Go.Ab
structure ActN (N : Type) where
  kind : Int
  name : N
  cells : List Int
section
variable {N : Type} [DecidableEq N]
def pplK (l : List (ActN N)) : Nat → List N
  | 0 => []
  | k + 1 => match l[k]? with
    | none => pplK l k
    | some a => if a.kind = 0 then pplK l k ++ [a.name] else if a.kind = 1 then (pplK l k).filter (fun x => !decide (x = a.name)) else pplK l k
def newV (name : N) (a : ActN N) : Bool := decide (a.name = name) && (decide (a.kind = 2) || decide (a.kind = 3))
def verK (l : List (ActN N)) (name : N) : Nat → Int
  | 0 => 0
  | k + 1 => match l[k]? with
    | none => verK l name k
    | some a => if newV name a then verK l name k + 1 else verK l name k
def wdrK (l : List (ActN N)) (name : N) : Nat → Bool
  | 0 => false
  | k + 1 => match l[k]? with
    | none => wdrK l name k
    | some a => if a.name = name ∧ a.kind = 4 then true else wdrK l name k
structure ActsOk (l : List (ActN N)) : Prop where
  kind : ∀ (k : Nat) (a : ActN N), l[k]? = some a → 0 ≤ a.kind ∧ a.kind ≤ 4
  join : ∀ (k : Nat) (a : ActN N), l[k]? = some a → a.kind = 0 → a.name ∉ pplK l k
  leave : ∀ (k : Nat) (a : ActN N), l[k]? = some a → a.kind = 1 → a.name ∈ pplK l k
  send : ∀ (k : Nat) (a : ActN N), l[k]? = some a → a.kind = 2 → verK l a.name k = 0
  later : ∀ (k : Nat) (a : ActN N), l[k]? = some a → 3 ≤ a.kind → 0 < verK l a.name k ∧ wdrK l a.name k = false
end
end Go.Proofs.YtenkgipcblfocaaGreat
namespace Go.Proofs.YtenkgipcblfocaaGreat
open Go Go.RowKit Go.Proofs Go.Shelf Go.Ab
section
variable {near : Int → Int → Bool}
inductive Conn (near : Int → Int → Bool) (X : List Int) : Int → Int → Prop
  | refl (a : Int) : Conn near X a a
  | step {a b c : Int} (h : Conn near X a b) (hb : b ∈ X) (hc : c ∈ X) (hn : near b c = true) : Conn near X a c
theorem Conn.trans {X : List Int} {a b c : Int} (h : Conn near X a b) (k : Conn near X b c) : Conn near X a c := by
  induction k with
  | refl => exact h
  | step _ hb hc hn ih => exact .step ih hb hc hn
theorem Conn.symm {X : List Int} (hs : ∀ a b, near a b = near b a) {a b : Int} (h : Conn near X a b) : Conn near X b a := by
  induction h with
  | refl => exact .refl _
  | step _ hb hc hn ih => exact (Conn.step (.refl _) hc hb (by rw [hs]; exact hn)).trans ih
structure BfsOk (near : Int → Int → Bool) (X : List Int) (a : Int) (re le : List Int) (i : Nat) : Prop where
  inX : ∀ x, x ∈ re ∨ x ∈ le → x ∈ X
  conn : ∀ x, x ∈ re → Conn near X a x
  start : a ∈ re
  done : ∀ j, j < i → ∀ k, k ∈ le → near (re.getD j default) k = false
  ile : i ≤ re.length
end
end Go.Proofs.YtenkgipcblfocaaGreat
namespace Go.Proofs.YtenkgipcblfocaaGreat
open Go Go.RowKit Go.Proofs Go.Shelf Go.Ab
section
variable {near : Int → Int → Bool}
end
end Go.Proofs.YtenkgipcblfocaaGreat
namespace Go.Proofs.YtenkgipcblfocaaGreat
open Go Go.RowKit Go.Proofs Go.Shelf Go.Ab
theorem befW_trans {w : Int → Int} {i j k : Int} (h : befW w i j) (g : befW w j k) : befW w i k := by unfold befW at *; omega
section
variable {w : Int → Int}
def putAt (P : List Int) (x : Int) (j : Nat) : List Int := P.take j ++ x :: P.drop j
theorem putAt_len {P : List Int} {x : Int} {j : Nat} (hj : j ≤ P.length) : (putAt P x j).length = P.length + 1 := by simp [putAt]; omega
theorem putAt_end (P : List Int) (x : Int) : putAt P x P.length = P ++ [x] := by simp [putAt]
theorem putAt_perm (P : List Int) (x : Int) (j : Nat) : (putAt P x j).Perm (x :: P) := by
  unfold putAt
  refine List.perm_middle.trans ?_
  rw [List.take_append_drop]
theorem putAt_at {P : List Int} {x : Int} {j : Nat} (hj : j ≤ P.length) : (putAt P x j)[j]? = some x := by
  unfold putAt
  rw [List.getElem?_append_right (by simp; omega)]
  simp [Nat.min_eq_left hj]
theorem putAt_before {P : List Int} {x : Int} {j : Nat} (hj : j < P.length) : (putAt P x (j + 1))[j]? = some P[j] := by
  unfold putAt
  rw [List.getElem?_append_left (by simp; omega), List.getElem?_take, if_pos (by omega), List.getElem?_eq_getElem hj]
theorem putAt_swap {P : List Int} {x : Int} {j : Nat} (hj : j < P.length) : ((putAt P x (j + 1)).set j x).set (j + 1) P[j] = putAt P x j := by
  apply List.ext_getElem?
  intro k
  have h1 : (P.take (j + 1)).length = j + 1 := by simp; omega
  have h2 : (P.take j).length = j := by simp; omega
  unfold putAt
  rw [List.getElem?_set, List.getElem?_set]
  simp only [List.length_set, List.length_append, List.length_cons, h1, List.length_drop]
  by_cases e1 : j + 1 = k
  · subst e1
    rw [if_pos rfl, if_pos (by omega), List.getElem?_append_right (by omega), h2, show j + 1 - j = 1 by omega, List.getElem?_cons_succ, List.getElem?_drop, Nat.add_zero, List.getElem?_eq_getElem hj]
  · rw [if_neg e1]
    by_cases e2 : j = k
    · subst e2
      rw [if_pos rfl, if_pos (by omega), List.getElem?_append_right (by omega), h2, Nat.sub_self, List.getElem?_cons_zero]
    · rw [if_neg e2]
      by_cases h3 : k < j
      · rw [List.getElem?_append_left (by omega), List.getElem?_append_left (by omega), List.getElem?_take, List.getElem?_take, if_pos (by omega), if_pos h3]
      · rw [List.getElem?_append_right (by omega), List.getElem?_append_right (by omega), h1, h2, show k - (j + 1) = k - (j + 2) + 1 by omega, show k - j = k - (j + 2) + 1 + 1 by omega, List.getElem?_cons_succ, List.getElem?_cons_succ, List.getElem?_drop, List.getElem?_drop]
        congr 1
        omega
theorem putAt_sorted {P : List Int} {x : Int} {j : Nat} (hj : j ≤ P.length) (hP : P.Pairwise (befW w)) (hx : x ∉ P) (h1 : ∀ k (hk : k < P.length), j ≤ k → befW w x P[k]) (h2 : ∀ hj' : 0 < j, ¬ befW w x (P[j - 1]'(by omega))) : (putAt P x j).Pairwise (befW w) := by
  unfold putAt
  have hs : P = P.take j ++ P.drop j := (List.take_append_drop _ _).symm
  have hP2 := hP
  rw [hs] at hP2
  obtain ⟨a, b, c⟩ := List.pairwise_append.1 hP2
  have hfrom : ∀ y, y ∈ P.take j → befW w y x := fun y hy => by
    obtain ⟨k, hk, e⟩ := List.getElem_of_mem hy
    rw [List.length_take] at hk
    rw [List.getElem_take] at e
    have hne : ∀ i (hi : i < P.length), P[i] ≠ x := fun i hi e => hx (e ▸ List.getElem_mem hi)
    have hl : befW w (P[j - 1]'(by omega)) x := (befW_tot (hne (j - 1) (by omega))).resolve_right (h2 (by omega))
    by_cases ek : k = j - 1
    · subst ek; rw [← e]; exact hl
    · have := List.pairwise_iff_getElem.1 hP k (j - 1) (by omega) (by omega) (by omega)
      rw [← e]
      exact befW_trans this hl
  refine List.pairwise_append.2 ⟨a, List.pairwise_cons.2 ⟨fun y hy => ?_, b⟩, fun y hy z hz => ?_⟩
  · obtain ⟨k, hk, e⟩ := List.getElem_of_mem hy
    rw [List.length_drop] at hk
    rw [List.getElem_drop] at e
    rw [← e]
    exact h1 (j + k) (by omega) (by omega)
  · rcases List.mem_cons.1 hz with e | e
    · subst e; exact hfrom y hy
    · exact c y hy z e
end
end Go.Proofs.YtenkgipcblfocaaGreat
namespace Go.Proofs.YtenkgipcblfocaaGreat
open Go Go.RowKit Go.Proofs Go.Shelf Go.Ab
instance (w : Int → Int) (i j : Int) : Decidable (befW w i j) := by unfold befW; infer_instance
section
variable {w : Int → Int}
theorem sort_uniq : ∀ {a b : List Int}, a.Pairwise (befW w) → b.Pairwise (befW w) → (∀ x, x ∈ a ↔ x ∈ b) → a = b
  | [], [], _, _, _ => rfl
  | [], y :: b, _, _, h => absurd ((h y).2 (by simp)) (by simp)
  | x :: a, [], _, _, h => absurd ((h x).1 (by simp)) (by simp)
  | x :: a, y :: b, ha, hb, h => by
    rw [List.pairwise_cons] at ha hb
    have e : x = y := by
      rcases List.mem_cons.1 ((h x).1 (by simp)) with e | e
      · exact e
      · rcases List.mem_cons.1 ((h y).2 (by simp)) with e2 | e2
        · exact e2.symm
        · exact absurd (ha.1 y e2) (befW_irr (hb.1 x e))
    subst e
    congr 1
    refine sort_uniq ha.2 hb.2 fun z => ?_
    constructor
    · intro hz
      rcases List.mem_cons.1 ((h z).1 (by simp [hz])) with e | e
      · subst e; exact absurd (ha.1 z hz) (befW_irr (ha.1 z hz))
      · exact e
    · intro hz
      rcases List.mem_cons.1 ((h z).2 (by simp [hz])) with e | e
      · subst e; exact absurd (hb.1 z hz) (befW_irr (hb.1 z hz))
      · exact e
def insO (w : Int → Int) (x : Int) : List Int → List Int
  | [] => [x]
  | y :: t => if befW w x y then x :: y :: t else y :: insO w x t
def sortO (w : Int → Int) : List Int → List Int
  | [] => []
  | x :: t => insO w x (sortO w t)
theorem insO_perm (x : Int) : ∀ l : List Int, (insO w x l).Perm (x :: l)
  | [] => .refl _
  | y :: t => by
    rw [insO]
    split
    · exact .refl _
    · exact (List.Perm.cons y (insO_perm x t)).trans (.swap x y t)
theorem sortO_perm : ∀ l : List Int, (sortO w l).Perm l
  | [] => .refl _
  | x :: t => (insO_perm x _).trans (.cons x (sortO_perm t))
theorem insO_sorted {x : Int} : ∀ {l : List Int}, l.Pairwise (befW w) → x ∉ l → (insO w x l).Pairwise (befW w)
  | [], _, _ => by simp [insO]
  | y :: t, h, hx => by
    rw [List.pairwise_cons] at h
    rw [insO]
    split
    · rename_i hb
      refine List.pairwise_cons.2 ⟨fun z hz => ?_, List.pairwise_cons.2 h⟩
      rcases List.mem_cons.1 hz with e | e
      · subst e; exact hb
      · exact befW_trans hb (h.1 z e)
    · rename_i hb
      refine List.pairwise_cons.2 ⟨fun z hz => ?_, insO_sorted h.2 fun hm => hx (by simp [hm])⟩
      rcases List.mem_cons.1 ((insO_perm x t).mem_iff.1 hz) with e | e
      · subst e
        exact (befW_tot (fun e => hx (by simp [e]))).resolve_left hb
      · exact h.1 z e
theorem sortO_sorted : ∀ {l : List Int}, l.Nodup → (sortO w l).Pairwise (befW w)
  | [], _ => List.Pairwise.nil
  | x :: t, h => by
    rw [List.nodup_cons] at h
    exact insO_sorted (sortO_sorted h.2) fun hm => h.1 ((sortO_perm t).mem_iff.1 hm)
theorem sortO_of {l L : List Int} (hn : l.Nodup) (hL : L.Pairwise (befW w)) (hm : ∀ x, x ∈ L ↔ x ∈ l) : sortO w l = L :=
  sort_uniq (sortO_sorted hn) hL fun x => by rw [(sortO_perm l).mem_iff, hm]
theorem sortO_len (l : List Int) : (sortO w l).length = l.length := (sortO_perm l).length_eq
theorem SortW.eq {n : Nat} {L : List Int} (s : SortW w n L) : L = sortO w (idxL n) := (sortO_of (idxL_nd n) s.ord fun _ => s.perm.mem_iff).symm
end
end Go.Proofs.YtenkgipcblfocaaGreat
namespace Go.Proofs.YtenkgipcblfocaaGreat
open Go Go.RowKit Go.Proofs Go.Shelf Go.Ab
def gcdL : Nat → Int → Int → Int
  | 0, a, _ => a
  | f + 1, a, b => if b = 0 then a else gcdL f b (a.tmod b)
theorem gcdL_abs : ∀ {f : Nat} {a b : Int}, b.natAbs ≤ f → (gcdL f a b).natAbs = Nat.gcd a.natAbs b.natAbs
  | 0, a, b, h => by
    have : b = 0 := by omega
    subst this
    rw [gcdL]; simp
  | f + 1, a, b, h => by
    rw [gcdL]
    by_cases e : b = 0
    · rw [if_pos e, e]; simp
    · rw [if_neg e]
      have h1 : (a.tmod b).natAbs = a.natAbs % b.natAbs := Int.natAbs_tmod a b
      have h2 : a.natAbs % b.natAbs < b.natAbs := Nat.mod_lt _ (by omega)
      rw [gcdL_abs (by omega), h1, Nat.gcd_comm b.natAbs, ← Nat.gcd_rec, Nat.gcd_comm]
def gcdZ (a b : Int) : Int := max (gcdL b.natAbs a b) (- gcdL b.natAbs a b)
theorem gcdZ_eq (a b : Int) : gcdZ a b = (Nat.gcd a.natAbs b.natAbs : Nat) := by
  have := gcdL_abs (f := b.natAbs) (a := a) (b := b) (Nat.le_refl _)
  unfold gcdZ
  omega
theorem gcdZ_pos {a b : Int} (h : 0 < b) : 0 < gcdZ a b := by
  rw [gcdZ_eq]
  have := Nat.gcd_pos_of_pos_right a.natAbs (show 0 < b.natAbs by omega)
  omega
theorem gcdZ_dvd (a b : Int) : (∃ x, a = gcdZ a b * x) ∧ ∃ y, b = gcdZ a b * y := by
  rw [gcdZ_eq]
  exact ⟨Int.ofNat_dvd_left.2 (Nat.gcd_dvd_left _ _), Int.ofNat_dvd_left.2 (Nat.gcd_dvd_right _ _)⟩
def fracZ (n d : Int) : Int × Int := (n / gcdZ n d, d / gcdZ n d)
theorem fracZ_spec {n d : Int} (h : 0 < d) : ∃ g, 0 < g ∧ n = g * (fracZ n d).1 ∧ d = g * (fracZ n d).2 ∧ 0 < (fracZ n d).2 := by
  have hg := gcdZ_pos (a := n) h
  obtain ⟨⟨x, hx⟩, y, hy⟩ := gcdZ_dvd n d
  have e1 : n / gcdZ n d = x := Int.ediv_eq_of_eq_mul_right (by omega) hx
  have e2 : d / gcdZ n d = y := Int.ediv_eq_of_eq_mul_right (by omega) hy
  refine ⟨gcdZ n d, hg, by rw [fracZ, e1]; exact hx, by rw [fracZ, e2]; exact hy, ?_⟩
  rw [fracZ, e2]
  refine Classical.byContradiction fun hc => ?_
  have h1 : gcdZ n d * y ≤ 0 := Int.mul_nonpos_of_nonneg_of_nonpos (by omega) (by show y ≤ 0; simp only at hc; omega)
  omega
theorem fracZ_cmp {n d m k : Int} (hd : 0 < d) (hk : 0 < k) : (fracZ n d).1 * (fracZ m k).2 < (fracZ m k).1 * (fracZ n d).2 ↔ n * k < m * d := by
  obtain ⟨g, g0, g1, g2, g3⟩ := fracZ_spec (n := n) hd
  obtain ⟨h, h0, h1, h2, h3⟩ := fracZ_spec (n := m) hk
  generalize (fracZ n d).1 = N1 at *
  generalize (fracZ n d).2 = D1 at *
  generalize (fracZ m k).1 = N2 at *
  generalize (fracZ m k).2 = D2 at *
  subst g1 g2 h1 h2
  have e1 : g * N1 * (h * D2) = (g * h) * (N1 * D2) := by ac_rfl
  have e2 : h * N2 * (g * D1) = (g * h) * (N2 * D1) := by ac_rfl
  rw [e1, e2]
  exact (Int.mul_lt_mul_left (Int.mul_pos g0 h0)).symm
theorem turn_cmp {i k c d : Int} (hc : 0 < c) (hd : 0 < d) : (fracZ (1000000 * i) c).1 * (fracZ (1000000 * (k + 1)) d).2 < (fracZ (1000000 * (k + 1)) d).1 * (fracZ (1000000 * i) c).2 ↔ i * d < (k + 1) * c := by
  rw [fracZ_cmp hc hd]
  have e1 : 1000000 * i * d = 1000000 * (i * d) := by ac_rfl
  have e2 : 1000000 * (k + 1) * c = 1000000 * ((k + 1) * c) := by ac_rfl
  rw [e1, e2]
  omega
end Go.Proofs.YtenkgipcblfocaaGreat
namespace Go.Proofs.YtenkgipcblfocaaGreat
open Go Go.RowKit Go.Proofs Go.Shelf Go.Ab
def goRing (rs : List Int) (n : Int) : Nat → Nat → Nat
  | 0, r => r
  | f + 1, r => if befK rs (r + 1) ≤ n then goRing rs n f (r + 1) else r
theorem goRing_spec {rs : List Int} (o : SkyOk rs) {n : Int} {R : Nat} (hR : R < rs.length) (h1 : befK rs R ≤ n) (h2 : n < befK rs (R + 1)) : ∀ {f r : Nat}, r ≤ R → R ≤ r + f → goRing rs n f r = R
  | 0, r, h3, h4 => by rw [goRing]; omega
  | f + 1, r, h3, h4 => by
    rw [goRing]
    by_cases e : r = R
    · subst e; rw [if_neg (by omega)]
    · rw [if_pos (Int.le_trans (befK_le o (by omega) (by omega)) h1)]
      exact goRing_spec o hR h1 h2 (by omega) (by omega)
def ringZ (rs : List Int) (n : Int) : Nat := goRing rs n rs.length 0
theorem ring_at {rs : List Int} (o : SkyOk rs) {n : Nat} (hn : n < (skyC rs).length) : ringZ rs n < rs.length ∧ (skyC rs)[n] = ⟨ringZ rs n, befK rs (ringZ rs n), rs.getD (ringZ rs n) default, (n : Int) - befK rs (ringZ rs n)⟩ ∧ 0 ≤ (n : Int) - befK rs (ringZ rs n) ∧ (n : Int) - befK rs (ringZ rs n) < rs.getD (ringZ rs n) default := by
  obtain ⟨r, i, h1, h2, h3, h4⟩ := skyK_at o (Nat.le_refl _) hn
  have e : ringZ rs n = r := goRing_spec o h1 (by omega) (by rw [befK]; omega) (Nat.zero_le _) (by omega)
  rw [e]
  have e2 : (n : Int) - befK rs r = i := by omega
  rw [e2]
  exact ⟨h1, h4, by omega, h2⟩
def nearC (a b : Int) (x y : Cel) : Bool :=
  if a = b then false else if x.ring = y.ring then (decide ((x.index - y.index + x.count) % x.count = 1) || decide ((x.index - y.index + x.count) % x.count = x.count - 1))
  else decide (-1 ≤ x.ring - y.ring) && decide (x.ring - y.ring ≤ 1) && decide (x.index * y.count < (y.index + 1) * x.count) && decide (y.index * x.count < (x.index + 1) * y.count)
def nearR (rs : List Int) (a b : Int) : Bool :=
  if a = b then false else
  let r := ringZ rs a; let q := ringZ rs b
  let i := a - befK rs r; let k := b - befK rs q
  let c := rs.getD r default; let d := rs.getD q default
  if r = q then decide (modB (i - k) c = 1) || decide (modB (k - i) c = 1)
  else decide (max ((r : Int) - q) (-((r : Int) - q)) = 1) && decide ((fracZ (1000000 * i) c).1 * (fracZ (1000000 * (k + 1)) d).2 < (fracZ (1000000 * (k + 1)) d).1 * (fracZ (1000000 * i) c).2) && decide ((fracZ (1000000 * k) d).1 * (fracZ (1000000 * (i + 1)) c).2 < (fracZ (1000000 * (i + 1)) c).1 * (fracZ (1000000 * k) d).2)
theorem near_eq {rs : List Int} (o : SkyOk rs) {a b : Nat} (ha : a < (skyC rs).length) (hb : b < (skyC rs).length) : nearC a b (skyC rs)[a] (skyC rs)[b] = nearR rs a b := by
  obtain ⟨a1, a2, a3, a4⟩ := ring_at o ha
  obtain ⟨b1, b2, b3, b4⟩ := ring_at o hb
  rw [a2, b2]
  have ha5 := o.ring _ a1
  have hb5 := o.ring _ b1
  unfold nearC nearR
  simp only
  by_cases e : (a : Int) = b
  · rw [if_pos e, if_pos e]
  · rw [if_neg e, if_neg e]
    by_cases er : ringZ rs a = ringZ rs b
    · rw [if_pos (by rw [er]), if_pos er]
      rw [er] at a3 a4 ⊢
      have hne : (a : Int) - befK rs (ringZ rs b) ≠ (b : Int) - befK rs (ringZ rs b) := by omega
      have h := ring_near ⟨a3, a4⟩ ⟨b3, b4⟩ hne
      rw [Bool.eq_iff_iff, Bool.or_eq_true, Bool.or_eq_true, decide_eq_true_eq, decide_eq_true_eq, decide_eq_true_eq, decide_eq_true_eq]
      exact h
    · rw [if_neg (by omega), if_neg er]
      have t1 := turn_cmp (i := (a : Int) - befK rs (ringZ rs a)) (k := (b : Int) - befK rs (ringZ rs b)) (c := rs.getD (ringZ rs a) default) (d := rs.getD (ringZ rs b) default) (by omega) (by omega)
      have t2 := turn_cmp (i := (b : Int) - befK rs (ringZ rs b)) (k := (a : Int) - befK rs (ringZ rs a)) (c := rs.getD (ringZ rs b) default) (d := rs.getD (ringZ rs a) default) (by omega) (by omega)
      rw [Bool.eq_iff_iff]
      simp only [Bool.and_eq_true, decide_eq_true_eq]
      rw [t1, t2]
      constructor
      · rintro ⟨⟨⟨h1, h2⟩, h3⟩, h4⟩; exact ⟨⟨by omega, h3⟩, h4⟩
      · rintro ⟨⟨h1, h3⟩, h4⟩; exact ⟨⟨⟨by omega, by omega⟩, h3⟩, h4⟩
theorem near_symm {rs : List Int} (a b : Int) : nearR rs a b = nearR rs b a := by
  unfold nearR
  simp only
  by_cases e : a = b
  · rw [if_pos e, if_pos e.symm]
  · rw [if_neg e, if_neg (show ¬ b = a from fun h => e h.symm)]
    by_cases er : ringZ rs a = ringZ rs b
    · rw [if_pos er, if_pos er.symm, er, Bool.or_comm]
    · rw [if_neg er, if_neg (show ¬ ringZ rs b = ringZ rs a from fun h => er h.symm)]
      rw [Bool.eq_iff_iff]
      simp only [Bool.and_eq_true, decide_eq_true_eq]
      constructor
      · rintro ⟨⟨h1, h2⟩, h3⟩; exact ⟨⟨by omega, h3⟩, h2⟩
      · rintro ⟨⟨h1, h2⟩, h3⟩; exact ⟨⟨by omega, h3⟩, h2⟩
def cellZ (rs : List Int) (h t : Int) : Int := befK rs (goR rs h rs.length 0) + t * rs.getD (goR rs h rs.length 0) default / 1000000
theorem cellZ_at {rs : List Int} (o : SkyOk rs) {h t : Int} (hh : h ≤ 1000000) (ht : 0 ≤ t ∧ t < 1000000) : 0 ≤ cellZ rs h t ∧ cellZ rs h t < befK rs rs.length ∧ ringZ rs (cellZ rs h t) = goR rs h rs.length 0 := by
  have h0 : upB rs h (befK rs 0) = true := by
    unfold upB
    rw [decide_eq_true_eq, show befK rs 0 = 0 from rfl, Int.mul_zero, Int.sub_zero]
    exact Int.mul_le_mul_of_nonneg_right hh (by have := (befK_bd o (Nat.le_refl rs.length)).1; omega)
  obtain ⟨g1, g2, g3⟩ := goR_spec (f := rs.length) (r := 0) (h := h) (rs := rs) (by have := o.pos; omega) (by omega) h0
  unfold cellZ
  generalize goR rs h rs.length 0 = R at *
  have hR := o.ring R g1
  have hb := befK_bd o (k := R) (by omega)
  have hle := befK_le o (j := R + 1) (k := rs.length) (by omega) (Nat.le_refl _)
  rw [befK] at hle
  have p1 : 0 ≤ t * rs.getD R default := Int.mul_nonneg ht.1 (by omega)
  have p2 : t * rs.getD R default < 1000000 * rs.getD R default := Int.mul_lt_mul_of_pos_right ht.2 (by omega)
  have key : ∀ q, 0 ≤ q → q < rs.getD R default → ringZ rs (befK rs R + q) = R := fun q h1 h2 => goRing_spec o g1 (by omega) (by rw [befK]; omega) (Nat.zero_le _) (by omega)
  generalize rs.getD R default = c at *
  generalize hq : t * c / 1000000 = q
  have q1 : 0 ≤ q ∧ q < c := by
    rw [← hq]
    exact ⟨Int.ediv_nonneg p1 (by decide), Int.ediv_lt_of_lt_mul (by decide) (by rw [Int.mul_comm c]; exact p2)⟩
  exact ⟨by omega, by omega, key q q1.1 q1.2⟩
end Go.Proofs.YtenkgipcblfocaaGreat
namespace Go.Proofs.YtenkgipcblfocaaGreat
open Go Go.RowKit Go.Proofs Go.Shelf Go.Ab
def inH (rs : List Int) (h : Int) (r : Nat) : Prop := upB rs h (befK rs r) = true ∧ (upB rs h (befK rs (r + 1)) = false ∨ h = -1000000 ∧ 1000000 * (befK rs rs.length - 2 * befK rs (r + 1)) = h * befK rs rs.length)
def inT (t k c : Int) : Prop := 1000000 * k ≤ t * c ∧ t * c < 1000000 * (k + 1)
theorem inH_ring {rs : List Int} (o : SkyOk rs) {h : Int} (hh : -1000000 ≤ h ∧ h ≤ 1000000) {r : Nat} (hr : r < rs.length) : inH rs h r ↔ r = goR rs h rs.length 0 := by
  have hN := befK_bd o (Nat.le_refl rs.length)
  have hpos := o.pos
  have h0 : upB rs h (befK rs 0) = true := by
    unfold upB
    rw [decide_eq_true_eq, show befK rs 0 = 0 from rfl, Int.mul_zero, Int.sub_zero]
    exact Int.mul_le_mul_of_nonneg_right hh.2 (by omega)
  obtain ⟨g1, g2, g3⟩ := goR_spec (f := rs.length) (r := 0) (h := h) (rs := rs) (by omega) (by omega) h0
  generalize goR rs h rs.length 0 = R at *
  have hlast : upB rs h (befK rs rs.length) = true ↔ h = -1000000 := by
    unfold upB
    rw [decide_eq_true_eq]
    generalize befK rs rs.length = N at *
    have e : 1000000 * (N - 2 * N) = -1000000 * N := by omega
    rw [e]
    constructor
    · intro q
      have := Int.le_of_mul_le_mul_right q (by omega)
      omega
    · intro q; subst q; exact Int.le_refl _
  constructor
  · rintro ⟨p1, p2⟩
    refine Classical.byContradiction fun hne => ?_
    by_cases hlt : r < R
    · have h1 : upB rs h (befK rs (r + 1)) = true := upB_mono (befK_le o (by omega) (by omega)) g2
      rcases p2 with p2 | ⟨p2, p3⟩
      · rw [h1] at p2; cases p2
      · have h2 := befK_lt o (j := r + 1) (k := rs.length) (by omega) (Nat.le_refl _)
        subst p2
        omega
    · exact g3 ⟨by omega, upB_mono (befK_le o (by omega) (by omega)) p1⟩
  · intro e
    subst e
    refine ⟨g2, ?_⟩
    by_cases hl : r + 1 < rs.length
    · left
      rw [← Bool.not_eq_true]
      exact fun q => g3 ⟨hl, q⟩
    · have e : r + 1 = rs.length := by omega
      rw [e]
      by_cases hm : h = -1000000
      · right
        refine ⟨hm, ?_⟩
        subst hm; omega
      · left
        rw [← Bool.not_eq_true, hlast]
        exact hm
theorem inT_floor {t k c : Int} : inT t k c ↔ k = t * c / 1000000 := by unfold inT; omega
theorem in_cell {rs : List Int} (o : SkyOk rs) {h t : Int} (hh : -1000000 ≤ h ∧ h ≤ 1000000) (ht : 0 ≤ t ∧ t < 1000000) {n : Nat} (hn : n < (skyC rs).length) : inH rs h (ringZ rs n) ∧ inT t ((n : Int) - befK rs (ringZ rs n)) (rs.getD (ringZ rs n) default) ↔ (n : Int) = cellZ rs h t := by
  obtain ⟨a1, a2, a3, a4⟩ := ring_at o hn
  rw [inH_ring o hh a1, inT_floor]
  obtain ⟨c1, c2, c3⟩ := cellZ_at o hh.2 ht
  constructor
  · rintro ⟨e1, e2⟩
    unfold cellZ
    rw [← e1, ← e2]; omega
  · intro e
    have e1 : ringZ rs n = goR rs h rs.length 0 := by rw [e]; exact c3
    refine ⟨e1, ?_⟩
    rw [e1, e]
    unfold cellZ
    omega
end Go.Proofs.YtenkgipcblfocaaGreat
namespace Go.Proofs.YtenkgipcblfocaaGreat
open Go Go.RowKit Go.Proofs Go.Shelf Go.Ab
section
variable {N : Type} {lt : N → N → Bool}
structure LtOk (lt : N → N → Bool) : Prop where
  irr : ∀ a, lt a a = false
  trans : ∀ a b c, lt a b = true → lt b c = true → lt a c = true
  tot : ∀ a b, a ≠ b → lt a b = true ∨ lt b a = true
def AscN (lt : N → N → Bool) (l : List N) : Prop := l.Pairwise fun a b => lt a b = true
theorem AscN.nodup (o : LtOk lt) {l : List N} (h : AscN lt l) : l.Nodup := List.Pairwise.imp (fun {a b} hab e => by subst e; rw [o.irr] at hab; cases hab) h
end
end Go.Proofs.YtenkgipcblfocaaGreat
namespace Go.Proofs.YtenkgipcblfocaaGreat
open Go Go.RowKit Go.Proofs Go.Shelf Go.Ab
section
variable {α : Type}
def rotI (D : Nat → α) (lo m hi : Nat) (p : Nat) : α := if lo ≤ p ∧ p < lo + (hi - m) then D (p + (m - lo)) else if lo + (hi - m) ≤ p ∧ p < hi then D (p - (hi - m)) else D p
end
structure CutOk (w : Int → Int) (D : Nat → Int) (p lo hi s : Nat) : Prop where
  le : lo ≤ s ∧ s ≤ hi
  left : ∀ c, lo ≤ c → c < s → ¬ befW w (D (p - c)) (D c)
  right : ∀ c, s ≤ c → c < hi → befW w (D (p - c)) (D c)
end Go.Proofs.YtenkgipcblfocaaGreat
namespace Go.Proofs.YtenkgipcblfocaaGreat
open Go Go.RowKit Go.Proofs Go.Shelf Go.Ab
def SrtI (w : Int → Int) (D : Nat → Int) (a b : Nat) : Prop := ∀ i j, a ≤ i → i < j → j < b → befW w (D i) (D j)
theorem SrtI.sub {w : Int → Int} {D : Nat → Int} {a b c d : Nat} (h : SrtI w D a b) (h1 : a ≤ c) (h2 : d ≤ b) : SrtI w D c d := fun i j p q r => h i j (by omega) q (by omega)
theorem SrtI.join {w : Int → Int} {D : Nat → Int} {a m b : Nat} (h1 : SrtI w D a m) (h2 : SrtI w D m b) (h : ∀ i j, a ≤ i → i < m → m ≤ j → j < b → befW w (D i) (D j)) : SrtI w D a b := fun i j p q r => by
  by_cases hj : j < m
  · exact h1 i j p q hj
  · by_cases hi : i < m
    · exact h i j p hi (by omega) r
    · exact h2 i j (by omega) q r
end Go.Proofs.YtenkgipcblfocaaGreat
namespace Go.Proofs.YtenkgipcblfocaaGreat
open Go Go.RowKit Go.Proofs Go.Shelf Go.Ab
def InI (D : Nat → Int) (a b : Nat) (z : Int) : Prop := ∃ p, a ≤ p ∧ p < b ∧ D p = z
end Go.Proofs.YtenkgipcblfocaaGreat
namespace Go.Proofs.YtenkgipcblfocaaGreat
open Go Go.RowKit Go.Proofs Go.Shelf Go.Ab
section
variable {N : Type} [DecidableEq N] [Inhabited N] {lt : N → N → Bool}
end
end Go.Proofs.YtenkgipcblfocaaGreat
namespace Go.Proofs.YtenkgipcblfocaaGreat
open Go Go.RowKit Go.Proofs Go.Shelf Go.Ab
def iv (z : Int) : FV := .v (.int .i64 z)
def bv (b : Bool) : FV := .v (.bool b)
def intsF (l : List Int) : List FV := l.map iv
def GG : Nat → Option (List FV) := fun _ => none
theorem intsF_len (l : List Int) : (intsF l).length = l.length * 1 := by simp [intsF]
theorem intsF_ne {l : List Int} {k : Nat} (h : k < l.length) : intsF l ≠ [] := map_ne h
theorem intsF_at {l : List Int} {k : Nat} (h : k < l.length) : (intsF l)[k * 1]? = some (iv l[k]) := map_at h
theorem intsF_snoc (l : List Int) (z : Int) : intsF (l ++ [z]) = intsF l ++ [iv z] := by simp [intsF]
abbrev Nm := List UInt8
def sv (s : Nm) : FV := .v (.string ⟨s.toArray⟩)
def strsF (l : List Nm) : List FV := l.map sv
theorem strsF_ne {l : List Nm} {k : Nat} (h : k < l.length) : strsF l ≠ [] := map_ne h
theorem strsF_at {l : List Nm} {k : Nat} (h : k < l.length) : (strsF l)[k * 1]? = some (sv l[k]) := map_at h
theorem strsF_snoc (l : List Nm) (z : Nm) : strsF (l ++ [z]) = strsF l ++ [sv z] := by simp [strsF]
def listF (l : List Nm) : FV := .sl l.length (strsF l)
def listsF (l : List (List Nm)) : List FV := l.map listF
theorem listsF_ne {l : List (List Nm)} {k : Nat} (h : k < l.length) : listsF l ≠ [] := map_ne h
theorem listsF_at {l : List (List Nm)} {k : Nat} (h : k < l.length) : (listsF l)[k * 1]? = some (listF l[k]) := map_at h
theorem listsF_snoc (l : List (List Nm)) (z : List Nm) : listsF (l ++ [z]) = listsF l ++ [listF z] := by simp [listsF]
structure Aev where
  tick : Int
  cell : Int
deriving DecidableEq, Inhabited
abbrev Act := ActN Nm
instance : Inhabited Act := ⟨⟨0, [], []⟩⟩
structure Ast where
  name : Nm
  version : Int
  cells : List Int
  gone : Bool
  had : List Nm
instance : Inhabited Ast := ⟨⟨[], 0, [], false, []⟩⟩
abbrev Pr := Int × Int
structure Pt where
  height : Int
  turn : Int
deriving DecidableEq, Inhabited
def skF (rs : List Int) : FV := .agg [.sl rs.length (intsF rs)]
def ptF (p : Pt) : FV := .agg [iv p.height, iv p.turn]
def celF (x : Cel) : List FV := [iv x.ring, iv x.before, iv x.count, iv x.index]
def celsF (l : List Cel) : List FV := l.flatMap celF
theorem celsF_ne {l : List Cel} {k : Nat} (h : k < l.length) : celsF l ≠ [] := flat_ne (f := celF) (fun _ => rfl) (by decide : 0 < 4) h
theorem celsF_sub {l : List Cel} {k : Nat} (h : k < l.length) : ((celsF l).drop (k * 4)).take 4 = celF l[k] := flat_sub (f := celF) (fun _ => rfl) h
theorem celsF_app (a b : List Cel) : celsF (a ++ b) = celsF a ++ celsF b := List.flatMap_append
theorem celsF_one (x : Cel) : celsF [x] = celF x := by simp [celsF]
theorem celsF_snoc (l : List Cel) (x : Cel) : celsF (l ++ [x]) = celsF l ++ celF x := by rw [celsF_app, celsF_one]
def jobF (x : Job) : List FV := [iv x.ready, iv x.length, iv x.due, iv x.rank]
def jobsF (l : List Job) : List FV := l.flatMap jobF
theorem jobsF_ne {l : List Job} {k : Nat} (h : k < l.length) : jobsF l ≠ [] := flat_ne (f := jobF) (fun _ => rfl) (by decide : 0 < 4) h
theorem jobsF_sub {l : List Job} {k : Nat} (h : k < l.length) : ((jobsF l).drop (k * 4)).take 4 = jobF l[k] := flat_sub (f := jobF) (fun _ => rfl) h
def actF (x : Act) : List FV := [iv x.kind, sv x.name, .sl x.cells.length (intsF x.cells)]
def actsF (l : List Act) : List FV := l.flatMap actF
theorem actsF_ne {l : List Act} {k : Nat} (h : k < l.length) : actsF l ≠ [] := flat_ne (f := actF) (fun _ => rfl) (by decide : 0 < 3) h
theorem actsF_sub {l : List Act} {k : Nat} (h : k < l.length) : ((actsF l).drop (k * 3)).take 3 = actF l[k] := flat_sub (f := actF) (fun _ => rfl) h
theorem actsF_f0 {l : List Act} {k : Nat} (h : k < l.length) : (actsF l)[k * 3 + 0]? = some (iv l[k].kind) := (flat_at (f := actF) (fun _ => rfl) h (by decide : 0 < 3)).trans rfl
theorem actsF_f1 {l : List Act} {k : Nat} (h : k < l.length) : (actsF l)[k * 3 + 1]? = some (sv l[k].name) := (flat_at (f := actF) (fun _ => rfl) h (by decide : 1 < 3)).trans rfl
theorem actsF_f2 {l : List Act} {k : Nat} (h : k < l.length) : (actsF l)[k * 3 + 2]? = some (.sl l[k].cells.length (intsF l[k].cells)) := (flat_at (f := actF) (fun _ => rfl) h (by decide : 2 < 3)).trans rfl
def xF (cs : List Cel) : FV := .sl cs.length (celsF cs)
theorem getD_at {α : Type} [Inhabited α] {l : List α} {i : Nat} (h : i < l.length) : l.getD i default = l[i] := by simp [List.getD_eq_getElem?_getD, List.getElem?_eq_getElem h]
def withinB (n lo hi : Int) : Bool := decide (lo ≤ n) && decide (n ≤ hi)
def firstE : List Int → Int
  | [] => 0
  | e :: l => if e = 0 then firstE l else e
theorem firstE_hd {a : Int} {l : List Int} (h : a ≠ 0) : firstE (a :: l) = a := by unfold firstE; rw [if_neg h]
theorem firstE_tl {l : List Int} : firstE (0 :: l) = firstE l := by rw [firstE, if_pos rfl]
theorem firstE_zeros {l : List Int} (h : ∀ j (hj : j < l.length), l[j] = 0) : firstE l = 0 := by
  induction l with
  | nil => rfl
  | cons a l ih =>
    have h0 := h 0 (by simp)
    simp only [List.getElem_cons_zero] at h0
    subst h0
    rw [firstE_tl]
    exact ih fun j hj => by have := h (j + 1) (by simpa using hj); simpa using this
theorem firstE_at {l : List Int} {k : Nat} (hk : k < l.length) (h : ∀ j (hj : j < l.length), j < k → l[j] = 0) (hne : l[k] ≠ 0) : firstE l = l[k] := by
  induction l generalizing k with
  | nil => simp at hk
  | cons a l ih =>
    cases k with
    | zero => simp only [List.getElem_cons_zero] at hne ⊢; exact firstE_hd hne
    | succ k =>
      have h0 := h 0 (by simp) (by omega)
      simp only [List.getElem_cons_zero] at h0
      subst h0
      rw [firstE_tl]
      simp only [List.getElem_cons_succ] at hne ⊢
      exact ih (by simpa using hk) (fun j hj hlt => by have := h (j + 1) (by simpa using hj) (by omega); simpa using this) hne
def eachE (n : Nat) (f : Nat → Int) : Nat × Int := match (List.range n).find? fun i => f i ≠ 0 with
  | some i => (i, f i)
  | none => (0, 0)
theorem eachE_ok {n : Nat} {f : Nat → Int} (h : ∀ i, i < n → f i = 0) : eachE n f = (0, 0) := by
  unfold eachE
  rw [List.find?_eq_none.2 (fun i hi => by simpa using h i (List.mem_range.1 hi))]
theorem eachE_at {n k : Nat} {f : Nat → Int} (hk : k < n) (h : ∀ i, i < k → f i = 0) (hne : f k ≠ 0) : eachE n f = (k, f k) := by
  have : (List.range n).find? (fun i => f i ≠ 0) = some k := by
    obtain ⟨m, rfl⟩ : ∃ m, n = k + 1 + m := ⟨n - k - 1, by omega⟩
    rw [List.range_add, List.range_succ, List.append_assoc, List.find?_append, List.find?_eq_none.2 (fun i hi => by simpa using h i (List.mem_range.1 hi))]
    simp [hne]
  unfold eachE; rw [this]
theorem eachE_cases (n : Nat) (f : Nat → Int) : (eachE n f = (0, 0) ∧ ∀ i, i < n → f i = 0) ∨ ∃ k, k < n ∧ (∀ i, i < k → f i = 0) ∧ f k ≠ 0 ∧ eachE n f = (k, f k) := by
  by_cases h : ∀ i, i < n → f i = 0
  · exact .inl ⟨eachE_ok h, h⟩
  · have : ∃ k, k < n ∧ f k ≠ 0 := Classical.byContradiction fun h2 => h fun i hi => Classical.byContradiction fun h3 => h2 ⟨i, hi, h3⟩
    obtain ⟨k, ⟨hk, hne⟩, hmin⟩ := exists_least this
    have hz : ∀ i, i < k → f i = 0 := fun i hi => Classical.byContradiction fun h3 => by have := hmin i ⟨by omega, h3⟩; omega
    exact .inr ⟨k, hk, hz, hne, eachE_at hk hz hne⟩
end Go.Proofs.YtenkgipcblfocaaGreat
namespace Go.Proofs.YtenkgipcblfocaaGreat
open Go Go.Ab Go.Proofs
def td3 : TyD := { scal := true, zero := some [.int .i64 0] }
theorem tdok3 : TyOk Tryz.prog 3 td3 := ⟨(fun _ => by kernel_rfl), (fun n h => by cases h), (fun f o h => by simp [td3] at h), (fun x h => by cases h), (fun z h => by cases h; kernel_rfl), (fun z h u hu => by cases h; simp at hu; rcases hu with rfl <;> rfl), (fun x h => by cases h), (by intro h; cases h)⟩
def td4 : TyD := { scal := true, zero := some [.bool false] }
theorem tdok4 : TyOk Tryz.prog 4 td4 := ⟨(fun _ => by kernel_rfl), (fun n h => by cases h), (fun f o h => by simp [td4] at h), (fun x h => by cases h), (fun z h => by cases h; kernel_rfl), (fun z h u hu => by cases h; simp at hu; rcases hu with rfl <;> rfl), (fun x h => by cases h), (by intro h; cases h)⟩
def td5 : TyD := { scal := true, zero := some [.int .u8 0] }
theorem tdok5 : TyOk Tryz.prog 5 td5 := ⟨(fun _ => by kernel_rfl), (fun n h => by cases h), (fun f o h => by simp [td5] at h), (fun x h => by cases h), (fun z h => by cases h; kernel_rfl), (fun z h u hu => by cases h; simp at hu; rcases hu with rfl <;> rfl), (fun x h => by cases h), (by intro h; cases h)⟩
def td9 : TyD := { scal := true, str := true, zero := some [.string ByteArray.empty] }
theorem tdok9 : TyOk Tryz.prog 9 td9 := ⟨(fun _ => by kernel_rfl), (fun n h => by cases h), (fun f o h => by simp [td9] at h), (fun x h => by cases h), (fun z h => by cases h; kernel_rfl), (fun z h u hu => by cases h; simp at hu; rcases hu with rfl <;> rfl), (fun x h => by cases h), (fun _ => by kernel_rfl)⟩
def td23 : TyD := { agg := some 2, fld := [0, 1], pl := some [(0, 1), (1, 1)], zero := some [.int .i64 0, .int .i64 0] }
theorem tdok23 : TyOk Tryz.prog 23 td23 := ⟨(by intro h; cases h), (fun n h => by cases h; kernel_rfl), (fun f o h => by
    match f, h with
    | 0, h => exact (show fldO Tryz.prog 23 0 = some 0 by kernel_rfl).trans h
    | 1, h => exact (show fldO Tryz.prog 23 1 = some 1 by kernel_rfl).trans h
    | f + 2, h => simp [td23] at h), (fun x h => by cases h), (fun z h => by cases h; kernel_rfl), (fun z h u hu => by cases h; simp at hu; rcases hu with rfl | rfl <;> rfl), (fun x h => by cases h; kernel_rfl), (by intro h; cases h)⟩
def td25 : TyD := { scal := true, zero := some [.int .i64 0] }
theorem tdok25 : TyOk Tryz.prog 25 td25 := ⟨(fun _ => by kernel_rfl), (fun n h => by cases h), (fun f o h => by simp [td25] at h), (fun x h => by cases h), (fun z h => by cases h; kernel_rfl), (fun z h u hu => by cases h; simp at hu; rcases hu with rfl <;> rfl), (fun x h => by cases h), (by intro h; cases h)⟩
def td34 : TyD := { scal := true, sl := some (3, 1, 8), zero := some [.slice none 0 0] }
theorem tdok34 : TyOk Tryz.prog 34 td34 := ⟨(fun _ => by kernel_rfl), (fun n h => by cases h), (fun f o h => by simp [td34] at h), (fun x h => by cases h; kernel_rfl), (fun z h => by cases h; kernel_rfl), (fun z h u hu => by cases h; simp at hu; rcases hu with rfl <;> rfl), (fun x h => by cases h), (by intro h; cases h)⟩
def td36 : TyD := { agg := some 1, fld := [0], pl := some [(0, 1)], zero := some [.slice none 0 0] }
theorem tdok36 : TyOk Tryz.prog 36 td36 := ⟨(by intro h; cases h), (fun n h => by cases h; kernel_rfl), (fun f o h => by
    match f, h with
    | 0, h => exact (show fldO Tryz.prog 36 0 = some 0 by kernel_rfl).trans h
    | f + 1, h => simp [td36] at h), (fun x h => by cases h), (fun z h => by cases h; kernel_rfl), (fun z h u hu => by cases h; simp at hu; rcases hu with rfl <;> rfl), (fun x h => by cases h; kernel_rfl), (by intro h; cases h)⟩
def td37 : TyD := { scal := true, sl := some (67, 3, 48), zero := some [.slice none 0 0] }
theorem tdok37 : TyOk Tryz.prog 37 td37 := ⟨(fun _ => by kernel_rfl), (fun n h => by cases h), (fun f o h => by simp [td37] at h), (fun x h => by cases h; kernel_rfl), (fun z h => by cases h; kernel_rfl), (fun z h u hu => by cases h; simp at hu; rcases hu with rfl <;> rfl), (fun x h => by cases h), (by intro h; cases h)⟩
def td38 : TyD := { agg := some 2, zero := some [.string ByteArray.empty, .string ByteArray.empty] }
theorem tdok38 : TyOk Tryz.prog 38 td38 := ⟨(by intro h; cases h), (fun n h => by cases h; kernel_rfl), (fun f o h => by simp [td38] at h), (fun x h => by cases h), (fun z h => by cases h; kernel_rfl), (fun z h u hu => by cases h; simp at hu; rcases hu with rfl | rfl <;> rfl), (fun x h => by cases h), (by intro h; cases h)⟩
def td47 : TyD := { scal := true, sl := some (9, 1, 16), zero := some [.slice none 0 0] }
theorem tdok47 : TyOk Tryz.prog 47 td47 := ⟨(fun _ => by kernel_rfl), (fun n h => by cases h), (fun f o h => by simp [td47] at h), (fun x h => by cases h; kernel_rfl), (fun z h => by cases h; kernel_rfl), (fun z h u hu => by cases h; simp at hu; rcases hu with rfl <;> rfl), (fun x h => by cases h), (by intro h; cases h)⟩
def td49 : TyD := { agg := some 5, fld := [0, 1, 2, 3, 4], pl := some [(0, 1), (1, 1), (2, 1), (3, 1), (4, 1)], zero := some [.string ByteArray.empty, .int .i64 0, .slice none 0 0, .bool false, .slice none 0 0] }
theorem tdok49 : TyOk Tryz.prog 49 td49 := ⟨(by intro h; cases h), (fun n h => by cases h; kernel_rfl), (fun f o h => by
    match f, h with
    | 0, h => exact (show fldO Tryz.prog 49 0 = some 0 by kernel_rfl).trans h
    | 1, h => exact (show fldO Tryz.prog 49 1 = some 1 by kernel_rfl).trans h
    | 2, h => exact (show fldO Tryz.prog 49 2 = some 2 by kernel_rfl).trans h
    | 3, h => exact (show fldO Tryz.prog 49 3 = some 3 by kernel_rfl).trans h
    | 4, h => exact (show fldO Tryz.prog 49 4 = some 4 by kernel_rfl).trans h
    | f + 5, h => simp [td49] at h), (fun x h => by cases h), (fun z h => by cases h; kernel_rfl), (fun z h u hu => by cases h; simp at hu; rcases hu with rfl | rfl | rfl | rfl | rfl <;> rfl), (fun x h => by cases h; kernel_rfl), (by intro h; cases h)⟩
def td56 : TyD := { scal := true, sl := some (49, 5, 80), zero := some [.slice none 0 0] }
theorem tdok56 : TyOk Tryz.prog 56 td56 := ⟨(fun _ => by kernel_rfl), (fun n h => by cases h), (fun f o h => by simp [td56] at h), (fun x h => by cases h; kernel_rfl), (fun z h => by cases h; kernel_rfl), (fun z h u hu => by cases h; simp at hu; rcases hu with rfl <;> rfl), (fun x h => by cases h), (by intro h; cases h)⟩
def td67 : TyD := { agg := some 3, fld := [0, 1, 2], pl := some [(0, 1), (1, 1), (2, 1)], zero := some [.int .i64 0, .string ByteArray.empty, .slice none 0 0] }
theorem tdok67 : TyOk Tryz.prog 67 td67 := ⟨(by intro h; cases h), (fun n h => by cases h; kernel_rfl), (fun f o h => by
    match f, h with
    | 0, h => exact (show fldO Tryz.prog 67 0 = some 0 by kernel_rfl).trans h
    | 1, h => exact (show fldO Tryz.prog 67 1 = some 1 by kernel_rfl).trans h
    | 2, h => exact (show fldO Tryz.prog 67 2 = some 2 by kernel_rfl).trans h
    | f + 3, h => simp [td67] at h), (fun x h => by cases h), (fun z h => by cases h; kernel_rfl), (fun z h u hu => by cases h; simp at hu; rcases hu with rfl | rfl | rfl <;> rfl), (fun x h => by cases h; kernel_rfl), (by intro h; cases h)⟩
def td72 : TyD := { agg := some 1, fld := [0], pl := some [(0, 1)], zero := some [.slice none 0 0] }
theorem tdok72 : TyOk Tryz.prog 72 td72 := ⟨(by intro h; cases h), (fun n h => by cases h; kernel_rfl), (fun f o h => by
    match f, h with
    | 0, h => exact (show fldO Tryz.prog 72 0 = some 0 by kernel_rfl).trans h
    | f + 1, h => simp [td72] at h), (fun x h => by cases h), (fun z h => by cases h; kernel_rfl), (fun z h u hu => by cases h; simp at hu; rcases hu with rfl <;> rfl), (fun x h => by cases h; kernel_rfl), (by intro h; cases h)⟩
def td73 : TyD := { agg := some 2, zero := some [.slice none 0 0, .slice none 0 0] }
theorem tdok73 : TyOk Tryz.prog 73 td73 := ⟨(by intro h; cases h), (fun n h => by cases h; kernel_rfl), (fun f o h => by simp [td73] at h), (fun x h => by cases h), (fun z h => by cases h; kernel_rfl), (fun z h u hu => by cases h; simp at hu; rcases hu with rfl | rfl <;> rfl), (fun x h => by cases h), (by intro h; cases h)⟩
def td86 : TyD := { agg := some 2, zero := some [.int .i64 0, .int .i64 0] }
theorem tdok86 : TyOk Tryz.prog 86 td86 := ⟨(by intro h; cases h), (fun n h => by cases h; kernel_rfl), (fun f o h => by simp [td86] at h), (fun x h => by cases h), (fun z h => by cases h; kernel_rfl), (fun z h u hu => by cases h; simp at hu; rcases hu with rfl | rfl <;> rfl), (fun x h => by cases h), (by intro h; cases h)⟩
def td88 : TyD := { agg := some 3, fld := [0, 2], pl := some [(0, 2), (2, 1)], zero := some [.int .i64 0, .int .i64 0, .slice none 0 0] }
theorem tdok88 : TyOk Tryz.prog 88 td88 := ⟨(by intro h; cases h), (fun n h => by cases h; kernel_rfl), (fun f o h => by
    match f, h with
    | 0, h => exact (show fldO Tryz.prog 88 0 = some 0 by kernel_rfl).trans h
    | 1, h => exact (show fldO Tryz.prog 88 1 = some 2 by kernel_rfl).trans h
    | f + 2, h => simp [td88] at h), (fun x h => by cases h), (fun z h => by cases h; kernel_rfl), (fun z h u hu => by cases h; simp at hu; rcases hu with rfl | rfl | rfl <;> rfl), (fun x h => by cases h; kernel_rfl), (by intro h; cases h)⟩
def td97 : TyD := { scal := true, sl := some (108, 4, 32), zero := some [.slice none 0 0] }
theorem tdok97 : TyOk Tryz.prog 97 td97 := ⟨(fun _ => by kernel_rfl), (fun n h => by cases h), (fun f o h => by simp [td97] at h), (fun x h => by cases h; kernel_rfl), (fun z h => by cases h; kernel_rfl), (fun z h u hu => by cases h; simp at hu; rcases hu with rfl <;> rfl), (fun x h => by cases h), (by intro h; cases h)⟩
def td108 : TyD := { agg := some 4, fld := [0, 1, 2, 3], pl := some [(0, 1), (1, 1), (2, 1), (3, 1)], zero := some [.int .i64 0, .int .i64 0, .int .i64 0, .int .i64 0] }
theorem tdok108 : TyOk Tryz.prog 108 td108 := ⟨(by intro h; cases h), (fun n h => by cases h; kernel_rfl), (fun f o h => by
    match f, h with
    | 0, h => exact (show fldO Tryz.prog 108 0 = some 0 by kernel_rfl).trans h
    | 1, h => exact (show fldO Tryz.prog 108 1 = some 1 by kernel_rfl).trans h
    | 2, h => exact (show fldO Tryz.prog 108 2 = some 2 by kernel_rfl).trans h
    | 3, h => exact (show fldO Tryz.prog 108 3 = some 3 by kernel_rfl).trans h
    | f + 4, h => simp [td108] at h), (fun x h => by cases h), (fun z h => by cases h; kernel_rfl), (fun z h u hu => by cases h; simp at hu; rcases hu with rfl | rfl | rfl | rfl <;> rfl), (fun x h => by cases h; kernel_rfl), (by intro h; cases h)⟩
def td111 : TyD := { scal := true, sl := some (199, 2, 16), zero := some [.slice none 0 0] }
theorem tdok111 : TyOk Tryz.prog 111 td111 := ⟨(fun _ => by kernel_rfl), (fun n h => by cases h), (fun f o h => by simp [td111] at h), (fun x h => by cases h; kernel_rfl), (fun z h => by cases h; kernel_rfl), (fun z h u hu => by cases h; simp at hu; rcases hu with rfl <;> rfl), (fun x h => by cases h), (by intro h; cases h)⟩
def td112 : TyD := { agg := some 2, zero := some [.slice none 0 0, .slice none 0 0] }
theorem tdok112 : TyOk Tryz.prog 112 td112 := ⟨(by intro h; cases h), (fun n h => by cases h; kernel_rfl), (fun f o h => by simp [td112] at h), (fun x h => by cases h), (fun z h => by cases h; kernel_rfl), (fun z h u hu => by cases h; simp at hu; rcases hu with rfl | rfl <;> rfl), (fun x h => by cases h), (by intro h; cases h)⟩
def td113 : TyD := { scal := true, sl := some (86, 2, 16), zero := some [.slice none 0 0] }
theorem tdok113 : TyOk Tryz.prog 113 td113 := ⟨(fun _ => by kernel_rfl), (fun n h => by cases h), (fun f o h => by simp [td113] at h), (fun x h => by cases h; kernel_rfl), (fun z h => by cases h; kernel_rfl), (fun z h u hu => by cases h; simp at hu; rcases hu with rfl <;> rfl), (fun x h => by cases h), (by intro h; cases h)⟩
def td124 : TyD := { agg := some 2, fld := [0, 1], pl := some [(0, 1), (1, 1)], zero := some [.int .i64 0, .int .i64 0] }
theorem tdok124 : TyOk Tryz.prog 124 td124 := ⟨(by intro h; cases h), (fun n h => by cases h; kernel_rfl), (fun f o h => by
    match f, h with
    | 0, h => exact (show fldO Tryz.prog 124 0 = some 0 by kernel_rfl).trans h
    | 1, h => exact (show fldO Tryz.prog 124 1 = some 1 by kernel_rfl).trans h
    | f + 2, h => simp [td124] at h), (fun x h => by cases h), (fun z h => by cases h; kernel_rfl), (fun z h u hu => by cases h; simp at hu; rcases hu with rfl | rfl <;> rfl), (fun x h => by cases h; kernel_rfl), (by intro h; cases h)⟩
def td126 : TyD := { agg := some 4, fld := [0, 2], pl := some [(0, 2), (2, 2)], zero := some [.int .i64 0, .int .i64 0, .int .i64 0, .int .i64 0] }
theorem tdok126 : TyOk Tryz.prog 126 td126 := ⟨(by intro h; cases h), (fun n h => by cases h; kernel_rfl), (fun f o h => by
    match f, h with
    | 0, h => exact (show fldO Tryz.prog 126 0 = some 0 by kernel_rfl).trans h
    | 1, h => exact (show fldO Tryz.prog 126 1 = some 2 by kernel_rfl).trans h
    | f + 2, h => simp [td126] at h), (fun x h => by cases h), (fun z h => by cases h; kernel_rfl), (fun z h u hu => by cases h; simp at hu; rcases hu with rfl | rfl | rfl | rfl <;> rfl), (fun x h => by cases h; kernel_rfl), (by intro h; cases h)⟩
def td128 : TyD := { agg := some 8, fld := [0, 4], pl := some [(0, 4), (4, 4)], zero := some [.int .i64 0, .int .i64 0, .int .i64 0, .int .i64 0, .int .i64 0, .int .i64 0, .int .i64 0, .int .i64 0] }
theorem tdok128 : TyOk Tryz.prog 128 td128 := ⟨(by intro h; cases h), (fun n h => by cases h; kernel_rfl), (fun f o h => by
    match f, h with
    | 0, h => exact (show fldO Tryz.prog 128 0 = some 0 by kernel_rfl).trans h
    | 1, h => exact (show fldO Tryz.prog 128 1 = some 4 by kernel_rfl).trans h
    | f + 2, h => simp [td128] at h), (fun x h => by cases h), (fun z h => by cases h; kernel_rfl), (fun z h u hu => by cases h; simp at hu; rcases hu with rfl | rfl | rfl | rfl | rfl | rfl | rfl | rfl <;> rfl), (fun x h => by cases h; kernel_rfl), (by intro h; cases h)⟩
def td139 : TyD := { agg := some 2, fld := [0, 1], pl := some [(0, 1), (1, 1)], zero := some [.int .i64 0, .slice none 0 0] }
theorem tdok139 : TyOk Tryz.prog 139 td139 := ⟨(by intro h; cases h), (fun n h => by cases h; kernel_rfl), (fun f o h => by
    match f, h with
    | 0, h => exact (show fldO Tryz.prog 139 0 = some 0 by kernel_rfl).trans h
    | 1, h => exact (show fldO Tryz.prog 139 1 = some 1 by kernel_rfl).trans h
    | f + 2, h => simp [td139] at h), (fun x h => by cases h), (fun z h => by cases h; kernel_rfl), (fun z h u hu => by cases h; simp at hu; rcases hu with rfl | rfl <;> rfl), (fun x h => by cases h; kernel_rfl), (by intro h; cases h)⟩
def td141 : TyD := { agg := some 4, fld := [0, 2], pl := some [(0, 2), (2, 2)], zero := some [.int .i64 0, .slice none 0 0, .int .i64 0, .slice none 0 0] }
theorem tdok141 : TyOk Tryz.prog 141 td141 := ⟨(by intro h; cases h), (fun n h => by cases h; kernel_rfl), (fun f o h => by
    match f, h with
    | 0, h => exact (show fldO Tryz.prog 141 0 = some 0 by kernel_rfl).trans h
    | 1, h => exact (show fldO Tryz.prog 141 1 = some 2 by kernel_rfl).trans h
    | f + 2, h => simp [td141] at h), (fun x h => by cases h), (fun z h => by cases h; kernel_rfl), (fun z h u hu => by cases h; simp at hu; rcases hu with rfl | rfl | rfl | rfl <;> rfl), (fun x h => by cases h; kernel_rfl), (by intro h; cases h)⟩
def td163 : TyD := { scal := true, sl := some (47, 1, 24), zero := some [.slice none 0 0] }
theorem tdok163 : TyOk Tryz.prog 163 td163 := ⟨(fun _ => by kernel_rfl), (fun n h => by cases h), (fun f o h => by simp [td163] at h), (fun x h => by cases h; kernel_rfl), (fun z h => by cases h; kernel_rfl), (fun z h u hu => by cases h; simp at hu; rcases hu with rfl <;> rfl), (fun x h => by cases h), (by intro h; cases h)⟩
def td166 : TyD := { scal := true, zero := some [.pointer none] }
theorem tdok166 : TyOk Tryz.prog 166 td166 := ⟨(fun _ => by kernel_rfl), (fun n h => by cases h), (fun f o h => by simp [td166] at h), (fun x h => by cases h), (fun z h => by cases h; kernel_rfl), (fun z h u hu => by cases h; simp at hu; rcases hu with rfl <;> rfl), (fun x h => by cases h), (by intro h; cases h)⟩
def td168 : TyD := { scal := true, zero := some [.map none] }
theorem tdok168 : TyOk Tryz.prog 168 td168 := ⟨(fun _ => by kernel_rfl), (fun n h => by cases h), (fun f o h => by simp [td168] at h), (fun x h => by cases h), (fun z h => by cases h; kernel_rfl), (fun z h u hu => by cases h; simp at hu; rcases hu with rfl <;> rfl), (fun x h => by cases h), (by intro h; cases h)⟩
def td170 : TyD := { agg := some 6, fld := [0, 5], pl := some [(0, 5), (5, 1)], zero := some [.string ByteArray.empty, .int .i64 0, .slice none 0 0, .bool false, .slice none 0 0, .map none] }
theorem tdok170 : TyOk Tryz.prog 170 td170 := ⟨(by intro h; cases h), (fun n h => by cases h; kernel_rfl), (fun f o h => by
    match f, h with
    | 0, h => exact (show fldO Tryz.prog 170 0 = some 0 by kernel_rfl).trans h
    | 1, h => exact (show fldO Tryz.prog 170 1 = some 5 by kernel_rfl).trans h
    | f + 2, h => simp [td170] at h), (fun x h => by cases h), (fun z h => by cases h; kernel_rfl), (fun z h u hu => by cases h; simp at hu; rcases hu with rfl | rfl | rfl | rfl | rfl | rfl <;> rfl), (fun x h => by cases h; kernel_rfl), (by intro h; cases h)⟩
def td173 : TyD := { scal := true, sl := some (205, 4, 32), zero := some [.slice none 0 0] }
theorem tdok173 : TyOk Tryz.prog 173 td173 := ⟨(fun _ => by kernel_rfl), (fun n h => by cases h), (fun f o h => by simp [td173] at h), (fun x h => by cases h; kernel_rfl), (fun z h => by cases h; kernel_rfl), (fun z h u hu => by cases h; simp at hu; rcases hu with rfl <;> rfl), (fun x h => by cases h), (by intro h; cases h)⟩
def td174 : TyD := { scal := true, sl := some (166, 1, 8), zero := some [.slice none 0 0] }
theorem tdok174 : TyOk Tryz.prog 174 td174 := ⟨(fun _ => by kernel_rfl), (fun n h => by cases h), (fun f o h => by simp [td174] at h), (fun x h => by cases h; kernel_rfl), (fun z h => by cases h; kernel_rfl), (fun z h u hu => by cases h; simp at hu; rcases hu with rfl <;> rfl), (fun x h => by cases h), (by intro h; cases h)⟩
def td176 : TyD := { agg := some 3, fld := [0, 1, 2], pl := some [(0, 1), (1, 1), (2, 1)], zero := some [.slice none 0 0, .slice none 0 0, .slice none 0 0] }
theorem tdok176 : TyOk Tryz.prog 176 td176 := ⟨(by intro h; cases h), (fun n h => by cases h; kernel_rfl), (fun f o h => by
    match f, h with
    | 0, h => exact (show fldO Tryz.prog 176 0 = some 0 by kernel_rfl).trans h
    | 1, h => exact (show fldO Tryz.prog 176 1 = some 1 by kernel_rfl).trans h
    | 2, h => exact (show fldO Tryz.prog 176 2 = some 2 by kernel_rfl).trans h
    | f + 3, h => simp [td176] at h), (fun x h => by cases h), (fun z h => by cases h; kernel_rfl), (fun z h u hu => by cases h; simp at hu; rcases hu with rfl | rfl | rfl <;> rfl), (fun x h => by cases h; kernel_rfl), (by intro h; cases h)⟩
def td194 : TyD := { scal := true, sl := some (4, 1, 1), zero := some [.slice none 0 0] }
theorem tdok194 : TyOk Tryz.prog 194 td194 := ⟨(fun _ => by kernel_rfl), (fun n h => by cases h), (fun f o h => by simp [td194] at h), (fun x h => by cases h; kernel_rfl), (fun z h => by cases h; kernel_rfl), (fun z h u hu => by cases h; simp at hu; rcases hu with rfl <;> rfl), (fun x h => by cases h), (by intro h; cases h)⟩
def td199 : TyD := { agg := some 2, fld := [0, 1], pl := some [(0, 1), (1, 1)], zero := some [.int .i64 0, .int .i64 0] }
theorem tdok199 : TyOk Tryz.prog 199 td199 := ⟨(by intro h; cases h), (fun n h => by cases h; kernel_rfl), (fun f o h => by
    match f, h with
    | 0, h => exact (show fldO Tryz.prog 199 0 = some 0 by kernel_rfl).trans h
    | 1, h => exact (show fldO Tryz.prog 199 1 = some 1 by kernel_rfl).trans h
    | f + 2, h => simp [td199] at h), (fun x h => by cases h), (fun z h => by cases h; kernel_rfl), (fun z h u hu => by cases h; simp at hu; rcases hu with rfl | rfl <;> rfl), (fun x h => by cases h; kernel_rfl), (by intro h; cases h)⟩
def td205 : TyD := { agg := some 4, fld := [0, 1, 2, 3], pl := some [(0, 1), (1, 1), (2, 1), (3, 1)], zero := some [.int .i64 0, .int .i64 0, .int .i64 0, .int .i64 0] }
theorem tdok205 : TyOk Tryz.prog 205 td205 := ⟨(by intro h; cases h), (fun n h => by cases h; kernel_rfl), (fun f o h => by
    match f, h with
    | 0, h => exact (show fldO Tryz.prog 205 0 = some 0 by kernel_rfl).trans h
    | 1, h => exact (show fldO Tryz.prog 205 1 = some 1 by kernel_rfl).trans h
    | 2, h => exact (show fldO Tryz.prog 205 2 = some 2 by kernel_rfl).trans h
    | 3, h => exact (show fldO Tryz.prog 205 3 = some 3 by kernel_rfl).trans h
    | f + 4, h => simp [td205] at h), (fun x h => by cases h), (fun z h => by cases h; kernel_rfl), (fun z h u hu => by cases h; simp at hu; rcases hu with rfl | rfl | rfl | rfl <;> rfl), (fun x h => by cases h; kernel_rfl), (by intro h; cases h)⟩
def td224 : TyD := { scal := true, sl := some (25, 1, 8), zero := some [.slice none 0 0] }
theorem tdok224 : TyOk Tryz.prog 224 td224 := ⟨(fun _ => by kernel_rfl), (fun n h => by cases h), (fun f o h => by simp [td224] at h), (fun x h => by cases h; kernel_rfl), (fun z h => by cases h; kernel_rfl), (fun z h u hu => by cases h; simp at hu; rcases hu with rfl <;> rfl), (fun x h => by cases h), (by intro h; cases h)⟩
def td228 : TyD := { scal := true, zero := some [.int .u64 0] }
theorem tdok228 : TyOk Tryz.prog 228 td228 := ⟨(fun _ => by kernel_rfl), (fun n h => by cases h), (fun f o h => by simp [td228] at h), (fun x h => by cases h), (fun z h => by cases h; kernel_rfl), (fun z h u hu => by cases h; simp at hu; rcases hu with rfl <;> rfl), (fun x h => by cases h), (by intro h; cases h)⟩
def td238 : TyD := { scal := true, zero := some [.int .i64 0] }
theorem tdok238 : TyOk Tryz.prog 238 td238 := ⟨(fun _ => by kernel_rfl), (fun n h => by cases h), (fun f o h => by simp [td238] at h), (fun x h => by cases h), (fun z h => by cases h; kernel_rfl), (fun z h u hu => by cases h; simp at hu; rcases hu with rfl <;> rfl), (fun x h => by cases h), (by intro h; cases h)⟩
def td245 : TyD := { scal := true, zero := some [.int .u32 0] }
theorem tdok245 : TyOk Tryz.prog 245 td245 := ⟨(fun _ => by kernel_rfl), (fun n h => by cases h), (fun f o h => by simp [td245] at h), (fun x h => by cases h), (fun z h => by cases h; kernel_rfl), (fun z h u hu => by cases h; simp at hu; rcases hu with rfl <;> rfl), (fun x h => by cases h), (by intro h; cases h)⟩
def td247 : TyD := { scal := true, zero := some [.int .u64 0] }
theorem tdok247 : TyOk Tryz.prog 247 td247 := ⟨(fun _ => by kernel_rfl), (fun n h => by cases h), (fun f o h => by simp [td247] at h), (fun x h => by cases h), (fun z h => by cases h; kernel_rfl), (fun z h u hu => by cases h; simp at hu; rcases hu with rfl <;> rfl), (fun x h => by cases h), (by intro h; cases h)⟩
def td251 : TyD := { scal := true, sl := some (5, 1, 1), zero := some [.slice none 0 0] }
theorem tdok251 : TyOk Tryz.prog 251 td251 := ⟨(fun _ => by kernel_rfl), (fun n h => by cases h), (fun f o h => by simp [td251] at h), (fun x h => by cases h; kernel_rfl), (fun z h => by cases h; kernel_rfl), (fun z h u hu => by cases h; simp at hu; rcases hu with rfl <;> rfl), (fun x h => by cases h), (by intro h; cases h)⟩
def td259 : TyD := { scal := true, zero := some [.int .u64 0] }
theorem tdok259 : TyOk Tryz.prog 259 td259 := ⟨(fun _ => by kernel_rfl), (fun n h => by cases h), (fun f o h => by simp [td259] at h), (fun x h => by cases h), (fun z h => by cases h; kernel_rfl), (fun z h u hu => by cases h; simp at hu; rcases hu with rfl <;> rfl), (fun x h => by cases h), (by intro h; cases h)⟩
theorem tdok_none (T : Nat) : TyOk Tryz.prog T {} := ⟨(by intro h; cases h), (fun n h => by cases h), (fun f o h => by simp at h), (fun x h => by cases h), (fun z h => by cases h), (fun z h => by cases h), (fun x h => by cases h), (by intro h; cases h)⟩
def tyT : Nat → TyD
  | 3 => td3
  | 4 => td4
  | 5 => td5
  | 9 => td9
  | 23 => td23
  | 25 => td25
  | 34 => td34
  | 36 => td36
  | 37 => td37
  | 38 => td38
  | 47 => td47
  | 49 => td49
  | 56 => td56
  | 67 => td67
  | 72 => td72
  | 73 => td73
  | 86 => td86
  | 88 => td88
  | 97 => td97
  | 108 => td108
  | 111 => td111
  | 112 => td112
  | 113 => td113
  | 124 => td124
  | 126 => td126
  | 128 => td128
  | 139 => td139
  | 141 => td141
  | 163 => td163
  | 166 => td166
  | 168 => td168
  | 170 => td170
  | 173 => td173
  | 174 => td174
  | 176 => td176
  | 194 => td194
  | 199 => td199
  | 205 => td205
  | 224 => td224
  | 228 => td228
  | 238 => td238
  | 245 => td245
  | 247 => td247
  | 251 => td251
  | 259 => td259
  | _ => {}
theorem tyT_ok (T : Nat) : TyOk Tryz.prog T (tyT T) := by
  unfold tyT
  split
  · exact tdok3
  · exact tdok4
  · exact tdok5
  · exact tdok9
  · exact tdok23
  · exact tdok25
  · exact tdok34
  · exact tdok36
  · exact tdok37
  · exact tdok38
  · exact tdok47
  · exact tdok49
  · exact tdok56
  · exact tdok67
  · exact tdok72
  · exact tdok73
  · exact tdok86
  · exact tdok88
  · exact tdok97
  · exact tdok108
  · exact tdok111
  · exact tdok112
  · exact tdok113
  · exact tdok124
  · exact tdok126
  · exact tdok128
  · exact tdok139
  · exact tdok141
  · exact tdok163
  · exact tdok166
  · exact tdok168
  · exact tdok170
  · exact tdok173
  · exact tdok174
  · exact tdok176
  · exact tdok194
  · exact tdok199
  · exact tdok205
  · exact tdok224
  · exact tdok228
  · exact tdok238
  · exact tdok245
  · exact tdok247
  · exact tdok251
  · exact tdok259
  · exact tdok_none _
def TY : Ty Tryz.prog := ⟨tyT, tyT_ok⟩
end Go.Proofs.YtenkgipcblfocaaGreat
namespace Go.Proofs.YtenkgipcblfocaaGreat
open Go Go.RowKit Go.Proofs Go.Shelf Go.Ab
theorem within_T (n lo hi : Int) (h : lo ≤ n ∧ n ≤ hi) : Summ Tryz.prog GG 109 [iv n, iv lo, iv hi] (.v (.bool true)) := by
  obtain ⟨h1, h2⟩ := h
  refine summW Tryz.func109 rfl rfl 15 rfl (by simp) (fun M0 => ?_)
  repeat (first
    | (apply s_a TY; exact rfl)
    | (apply s_t; exact rfl; (first | assumption | omega))
    | apply w_seq
    | apply w_region
    | apply s_nil
    | apply t_norm
    | apply w_ret)
  exact lv_ret (ret1 rfl (res_tmp rfl))
theorem within_F (n lo hi : Int) (h : ¬ (lo ≤ n ∧ n ≤ hi)) : Summ Tryz.prog GG 109 [iv n, iv lo, iv hi] (.v (.bool false)) := by
  by_cases h1 : lo ≤ n
  · have h2 : ¬ n ≤ hi := fun h2 => h ⟨h1, h2⟩
    refine summW Tryz.func109 rfl rfl 15 rfl (by simp) (fun M0 => ?_)
    repeat (first
    | (apply s_a TY; exact rfl)
    | (apply s_t; exact rfl; (first | assumption | omega))
    | (apply s_f; exact rfl; (first | assumption | omega))
    | apply w_seq
    | apply w_region
    | apply s_nil
    | apply t_norm
    | apply w_ret)
    exact lv_ret (ret1 rfl (res_tmp rfl))
  · refine summW Tryz.func109 rfl rfl 15 rfl (by simp) (fun M0 => ?_)
    repeat (first
    | (apply s_a TY; exact rfl)
    | (apply s_f; exact rfl; (first | assumption | omega))
    | apply w_seq
    | apply w_region
    | apply s_nil
    | apply t_norm
    | apply w_ret
    | (apply s_s; exact rfl))
    exact lv_ret (ret1 rfl (res_tmp rfl))
theorem unless_T (k : Int) : Summ Tryz.prog GG 108 [.v (.bool true), iv k] (iv 0) := by
  refine summW Tryz.func108 rfl rfl 7 rfl (by simp) (fun M0 => ?_)
  repeat (first
    | (apply s_a TY; exact rfl)
    | apply w_seq
    | apply w_region
    | apply s_nil
    | apply t_norm
    | apply t_ret
    | apply w_ret
    | (apply w_condT; exact rfl; exact rfl))
  exact lv_ret (ret1 rfl (res_tmp rfl))
theorem unless_F (k : Int) : Summ Tryz.prog GG 108 [.v (.bool false), iv k] (iv k) := by
  refine summW Tryz.func108 rfl rfl 7 rfl (by simp) (fun M0 => ?_)
  repeat (first
    | (apply s_a TY; exact rfl)
    | apply w_seq
    | apply w_region
    | apply s_nil
    | apply t_norm
    | apply w_ret
    | apply w_skip
    | (apply w_condF; exact rfl; exact rfl))
  exact lv_ret (ret1 rfl (res_tmp rfl))
set_option maxRecDepth 100000 in
theorem first_s (l : List Int) (hl : l.length ≤ 1000000) : Summ Tryz.prog GG 107 [.sl l.length (intsF l)] (iv (firstE l)) := by
  refine summW Tryz.func107 rfl rfl 15 rfl (by simp) (fun M0 => ?_)
  repeat (first
    | (apply s_a TY; exact rfl)
    | apply w_seq
    | apply w_region
    | apply s_nil
    | apply t_norm
    | apply w_block)
  apply w_loop (fun k : Nat => ⟨(Ab.upd (Ab.upd (Ab.upd (fun _ => .bot) 5 (.f (.sl l.length (intsF l)))) 6 (.f (iv l.length))) 7 (.f (iv (k : Nat)))), (fun _ => none), 0⟩) (fun k => k ≤ l.length ∧ ∀ j (hj : j < l.length), j < k → l[j] = 0) (fun k => l.length - k) 0 (⟨Nat.zero_le _, fun j _ h => absurd h (Nat.not_lt_zero j)⟩) (gh_le ⟨le_upd rfl trivial (le_upd rfl trivial (le_upd rfl trivial (le_nil _))), le_h0 _ _⟩)
  intro k ⟨hk, hz⟩
  by_cases hc : k < l.length
  · by_cases he : l[k] = 0
    · repeat (first
    | (apply s_a TY; exact rfl)
    | (apply s_t; exact rfl; (first | assumption | omega))
    | apply w_seq
    | apply w_region
    | apply s_nil
    | apply t_norm
    | apply k_norm
    | apply w_block
    | apply w_skip
    | (apply w_condT; exact rfl; exact rfl)
    | (apply w_condF; exact rfl; exact rfl)
    | (apply s_c TY; exact rfl; (first | omega | exact ⟨by omega, by (first | with_reducible assumption | ((with_reducible apply intsF_ne); omega) | assumption)⟩))
    | (apply s_l TY; exact rfl; (first | exact rfl | with_reducible assumption | ((with_reducible apply intsF_at); omega) | assumption)))
      exact ⟨k + 1, ⟨by omega, fun j hj hlt => by
        by_cases e : j = k
        · subst e; exact he
        · exact hz j hj (by omega)⟩, by omega, gh_le ⟨le_upd rfl trivial (le_upd rfl trivial (le_upd rfl trivial (le_nil _))), le_h0 _ _⟩⟩
    · rw [firstE_at hc (fun j hj hlt => hz j hj hlt) he]
      repeat (first
    | (apply s_a TY; exact rfl)
    | (apply s_t; exact rfl; (first | assumption | omega))
    | (apply s_f; exact rfl; (first | assumption | omega))
    | apply w_seq
    | apply w_region
    | apply s_nil
    | apply t_norm
    | apply t_ret
    | apply k_ret
    | apply w_block
    | apply w_ret
    | apply w_skip
    | (apply w_condT; exact rfl; exact rfl)
    | (apply s_c TY; exact rfl; (first | omega | exact ⟨by omega, by (first | with_reducible assumption | ((with_reducible apply intsF_ne); omega) | assumption)⟩))
    | (apply s_l TY; exact rfl; (first | exact rfl | with_reducible assumption | ((with_reducible apply intsF_at); omega) | assumption)))
      exact lv_ret (ret1 rfl (res_tmp rfl))
  · rw [firstE_zeros (fun j hj => hz j hj (by omega))]
    repeat (first
    | (apply s_a TY; exact rfl)
    | (apply s_f; exact rfl; (first | assumption | omega))
    | apply w_seq
    | apply w_region
    | apply s_nil
    | apply t_norm
    | apply t_exit
    | apply k_hit
    | apply w_exit
    | apply w_ret
    | (apply w_condF; exact rfl; exact rfl))
    exact lv_ret (ret1 rfl (res_tmp rfl))
theorem first2_0 (a0 a1 : Int) (h : a0 ≠ 0) : Summ Tryz.prog GG 107 [.sl 2 [iv a0, iv a1]] (iv a0) := by
  have := first_s [a0, a1] (by simp)
  rwa [show firstE [a0, a1] = a0 by simp [firstE, h]] at this
theorem first2_1 (a0 a1 : Int) (h : a0 = 0) : Summ Tryz.prog GG 107 [.sl 2 [iv a0, iv a1]] (iv a1) := by
  have := first_s [a0, a1] (by simp)
  rwa [show firstE [a0, a1] = a1 by simp [firstE, h] <;> exact fun e => e.symm] at this
theorem first3_0 (a0 a1 a2 : Int) (h : a0 ≠ 0) : Summ Tryz.prog GG 107 [.sl 3 [iv a0, iv a1, iv a2]] (iv a0) := by
  have := first_s [a0, a1, a2] (by simp)
  rwa [show firstE [a0, a1, a2] = a0 by simp [firstE, h]] at this
theorem first3_1 (a0 a1 a2 : Int) (h : a0 = 0 ∧ a1 ≠ 0) : Summ Tryz.prog GG 107 [.sl 3 [iv a0, iv a1, iv a2]] (iv a1) := by
  have := first_s [a0, a1, a2] (by simp)
  rwa [show firstE [a0, a1, a2] = a1 by simp [firstE, h]] at this
theorem first3_2 (a0 a1 a2 : Int) (h : a0 = 0 ∧ a1 = 0) : Summ Tryz.prog GG 107 [.sl 3 [iv a0, iv a1, iv a2]] (iv a2) := by
  have := first_s [a0, a1, a2] (by simp)
  rwa [show firstE [a0, a1, a2] = a2 by simp [firstE, h] <;> exact fun e => e.symm] at this
theorem first4_3 (a0 a1 a2 a3 : Int) (h : a0 = 0 ∧ a1 = 0 ∧ a2 = 0) : Summ Tryz.prog GG 107 [.sl 4 [iv a0, iv a1, iv a2, iv a3]] (iv a3) := by
  have := first_s [a0, a1, a2, a3] (by simp)
  rwa [show firstE [a0, a1, a2, a3] = a3 by simp [firstE, h] <;> exact fun e => e.symm] at this
theorem bwithin_T (n lo hi : Int) (h : lo ≤ n ∧ n ≤ hi) : Summ Tryz.prog GG 38 [iv n, iv lo, iv hi] (.v (.bool true)) := by
  obtain ⟨h1, h2⟩ := h
  refine summW Tryz.func38 rfl rfl 15 rfl (by simp) (fun M0 => ?_)
  repeat (first
    | (apply s_a TY; exact rfl)
    | (apply s_t; exact rfl; (first | assumption | omega))
    | apply w_seq
    | apply w_region
    | apply s_nil
    | apply t_norm
    | apply w_ret)
  exact lv_ret (ret1 rfl (res_tmp rfl))
theorem bwithin_F (n lo hi : Int) (h : ¬ (lo ≤ n ∧ n ≤ hi)) : Summ Tryz.prog GG 38 [iv n, iv lo, iv hi] (.v (.bool false)) := by
  by_cases h1 : lo ≤ n
  · have h2 : ¬ n ≤ hi := fun h2 => h ⟨h1, h2⟩
    refine summW Tryz.func38 rfl rfl 15 rfl (by simp) (fun M0 => ?_)
    repeat (first
    | (apply s_a TY; exact rfl)
    | (apply s_t; exact rfl; (first | assumption | omega))
    | (apply s_f; exact rfl; (first | assumption | omega))
    | apply w_seq
    | apply w_region
    | apply s_nil
    | apply t_norm
    | apply w_ret)
    exact lv_ret (ret1 rfl (res_tmp rfl))
  · refine summW Tryz.func38 rfl rfl 15 rfl (by simp) (fun M0 => ?_)
    repeat (first
    | (apply s_a TY; exact rfl)
    | (apply s_f; exact rfl; (first | assumption | omega))
    | apply w_seq
    | apply w_region
    | apply s_nil
    | apply t_norm
    | apply w_ret
    | (apply s_s; exact rfl))
    exact lv_ret (ret1 rfl (res_tmp rfl))
theorem isWeight_T (n : Int) (h : 0 ≤ n ∧ n ≤ 1000000) : Summ Tryz.prog GG 120 [iv n] (.v (.bool true)) := by
  refine summW Tryz.func120 rfl rfl 5 rfl (by simp) (fun M0 => ?_)
  repeat (first
    | (apply s_a TY; exact rfl)
    | apply w_seq
    | apply w_region
    | apply s_nil
    | apply t_norm
    | apply w_ret
    | (apply s_k1 (within_T _ _ _); exact rfl; (first | assumption | omega | decide)))
  exact lv_ret (ret1 rfl (res_tmp rfl))
theorem isWeight_F (n : Int) (h : ¬ (0 ≤ n ∧ n ≤ 1000000)) : Summ Tryz.prog GG 120 [iv n] (.v (.bool false)) := by
  refine summW Tryz.func120 rfl rfl 5 rfl (by simp) (fun M0 => ?_)
  repeat (first
    | (apply s_a TY; exact rfl)
    | apply w_seq
    | apply w_region
    | apply s_nil
    | apply t_norm
    | apply w_ret
    | (apply s_k1 (within_F _ _ _); exact rfl; (first | assumption | omega | decide)))
  exact lv_ret (ret1 rfl (res_tmp rfl))
def tickE (n : Int) : Int := if 0 ≤ n ∧ n ≤ 1000000000000 then 0 else 2
def ptE (p : Pt) : Int := if (-1000000 ≤ p.height ∧ p.height ≤ 1000000) ∧ 0 ≤ p.turn ∧ p.turn ≤ 999999 then 0 else 2
theorem tickE_0 {n : Int} (h : 0 ≤ n ∧ n ≤ 1000000000000) : tickE n = 0 := if_pos h
theorem tickE_2 {n : Int} (h : ¬ (0 ≤ n ∧ n ≤ 1000000000000)) : tickE n = 2 := if_neg h
theorem ptE_0 {p : Pt} (h : (-1000000 ≤ p.height ∧ p.height ≤ 1000000) ∧ 0 ≤ p.turn ∧ p.turn ≤ 999999) : ptE p = 0 := if_pos h
theorem ptE_2 {p : Pt} (h : ¬ ((-1000000 ≤ p.height ∧ p.height ≤ 1000000) ∧ 0 ≤ p.turn ∧ p.turn ≤ 999999)) : ptE p = 2 := if_neg h
set_option maxRecDepth 100000 in
theorem tickErr_s (n : Int) : Summ Tryz.prog GG 98 [iv n] (iv (tickE n)) := by
  by_cases h : 0 ≤ n ∧ n ≤ 1000000000000
  · rw [show tickE n = 0 by unfold tickE; repeat (first | omega | split)]
    refine summW Tryz.func98 rfl rfl 6 rfl (by simp) (fun M0 => ?_)
    repeat (first
    | (apply s_a TY; exact rfl)
    | apply w_seq
    | apply w_region
    | apply s_nil
    | apply t_norm
    | apply w_ret
    | (apply s_k (unless_T _); exact rfl)
    | (apply s_k1 (within_T _ _ _); exact rfl; (first | assumption | omega | decide)))
    exact lv_ret (ret1 rfl (res_tmp rfl))
  · rw [show tickE n = 2 by unfold tickE; repeat (first | omega | split)]
    refine summW Tryz.func98 rfl rfl 6 rfl (by simp) (fun M0 => ?_)
    repeat (first
    | (apply s_a TY; exact rfl)
    | apply w_seq
    | apply w_region
    | apply s_nil
    | apply t_norm
    | apply w_ret
    | (apply s_k (unless_F _); exact rfl)
    | (apply s_k1 (within_F _ _ _); exact rfl; (first | assumption | omega | decide)))
    exact lv_ret (ret1 rfl (res_tmp rfl))
set_option maxRecDepth 100000 in
theorem pointErr_s (p : Pt) : Summ Tryz.prog GG 130 [ptF p] (iv (ptE p)) := by
  by_cases h1 : -1000000 ≤ p.height ∧ p.height ≤ 1000000
  · by_cases h2 : 0 ≤ p.turn ∧ p.turn ≤ 999999
    · rw [show ptE p = 0 by unfold ptE; repeat (first | omega | split)]
      refine summW Tryz.func130 rfl rfl 12 rfl (by simp) (fun M0 => ?_)
      repeat (first
    | (apply s_a TY; exact rfl)
    | apply w_seq
    | apply w_region
    | apply s_nil
    | apply t_norm
    | apply w_ret
    | (apply s_k (unless_T _); exact rfl)
    | (apply s_k1 (within_T _ _ _); exact rfl; (first | assumption | omega | decide)))
      exact lv_ret (ret1 rfl (res_tmp rfl))
    · rw [show ptE p = 2 by unfold ptE; repeat (first | omega | split)]
      refine summW Tryz.func130 rfl rfl 12 rfl (by simp) (fun M0 => ?_)
      repeat (first
    | (apply s_a TY; exact rfl)
    | apply w_seq
    | apply w_region
    | apply s_nil
    | apply t_norm
    | apply w_ret
    | (apply s_k (unless_F _); exact rfl)
    | (apply s_k1 (within_T _ _ _); exact rfl; (first | assumption | omega | decide))
    | (apply s_k1 (within_F _ _ _); exact rfl; (first | assumption | omega | decide)))
      exact lv_ret (ret1 rfl (res_tmp rfl))
  · rw [show ptE p = 2 by unfold ptE; repeat (first | omega | split)]
    refine summW Tryz.func130 rfl rfl 12 rfl (by simp) (fun M0 => ?_)
    repeat (first
    | (apply s_a TY; exact rfl)
    | apply w_seq
    | apply w_region
    | apply s_nil
    | apply t_norm
    | apply w_ret
    | (apply s_k (unless_F _); exact rfl)
    | (apply s_k1 (within_F _ _ _); exact rfl; (first | assumption | omega | decide))
    | (apply s_s; exact rfl))
    exact lv_ret (ret1 rfl (res_tmp rfl))
set_option maxRecDepth 100000 in
theorem rPointErr_s (p : Pt) : Summ Tryz.prog GG 21 [ptF p] (iv (ptE p)) := by
  by_cases h1 : -1000000 ≤ p.height ∧ p.height ≤ 1000000
  · by_cases h2 : 0 ≤ p.turn ∧ p.turn ≤ 999999
    · rw [show ptE p = 0 by unfold ptE; repeat (first | omega | split)]
      refine summW Tryz.func21 rfl rfl 13 rfl (by simp) (fun M0 => ?_)
      repeat (first
    | (apply s_a TY; exact rfl)
    | apply w_seq
    | apply w_region
    | apply s_nil
    | apply t_norm
    | apply w_ret
    | apply w_skip
    | (apply w_condF; exact rfl; exact rfl)
    | (apply s_k1 (bwithin_T _ _ _); exact rfl; (first | assumption | omega | decide)))
      exact lv_ret (ret1 rfl (res_tmp rfl))
    · rw [show ptE p = 2 by unfold ptE; repeat (first | omega | split)]
      refine summW Tryz.func21 rfl rfl 13 rfl (by simp) (fun M0 => ?_)
      repeat (first
    | (apply s_a TY; exact rfl)
    | apply w_seq
    | apply w_region
    | apply s_nil
    | apply t_norm
    | apply t_ret
    | apply w_ret
    | (apply w_condT; exact rfl; exact rfl)
    | (apply s_k1 (bwithin_T _ _ _); exact rfl; (first | assumption | omega | decide))
    | (apply s_k1 (bwithin_F _ _ _); exact rfl; (first | assumption | omega | decide)))
      exact lv_ret (ret1 rfl (res_tmp rfl))
  · rw [show ptE p = 2 by unfold ptE; repeat (first | omega | split)]
    refine summW Tryz.func21 rfl rfl 13 rfl (by simp) (fun M0 => ?_)
    repeat (first
    | (apply s_a TY; exact rfl)
    | apply w_seq
    | apply w_region
    | apply s_nil
    | apply t_norm
    | apply t_ret
    | apply w_ret
    | (apply w_condT; exact rfl; exact rfl)
    | (apply s_k1 (bwithin_F _ _ _); exact rfl; (first | assumption | omega | decide))
    | (apply s_s; exact rfl))
    exact lv_ret (ret1 rfl (res_tmp rfl))
theorem turnAt_s (n : Int) (h : 0 ≤ n ∧ n ≤ 2000000000000) : Summ Tryz.prog GG 99 [iv n] (iv (turnZ n)) := by
  unfold turnZ
  refine summW Tryz.func99 rfl rfl 7 rfl (by simp) (fun M0 => ?_)
  repeat (first
    | (apply s_a TY; exact rfl)
    | apply w_seq
    | apply w_region
    | apply s_nil
    | apply t_norm
    | apply w_ret
    | (apply s_c TY; exact rfl; omega))
  exact lv_ret (ret1 rfl (res_tmp rfl))
end Go.Proofs.YtenkgipcblfocaaGreat
namespace Go.Proofs.YtenkgipcblfocaaGreat
open Go Go.RowKit Go.Proofs Go.Shelf Go.Ab
def idxP (n : Nat) (p : Nat → Bool) : Int := match (List.range n).find? p with
  | some i => i
  | none => -1
def anyP (n : Nat) (p : Nat → Bool) : Bool := (List.range n).any p
theorem idxP_no {n : Nat} {p : Nat → Bool} (h : ∀ i, i < n → p i = false) : idxP n p = -1 := by
  unfold idxP
  rw [List.find?_eq_none.2 (fun i hi => by rw [h i (List.mem_range.1 hi)]; decide)]
theorem idxP_at {n k : Nat} {p : Nat → Bool} (hk : k < n) (h : ∀ i, i < k → p i = false) (hp : p k = true) : idxP n p = k := by
  obtain ⟨m, rfl⟩ : ∃ m, n = k + 1 + m := ⟨n - k - 1, by omega⟩
  unfold idxP
  rw [List.range_add, List.range_succ, List.append_assoc, List.find?_append, List.find?_eq_none.2 (fun i hi => by rw [h i (List.mem_range.1 hi)]; decide), Option.none_or, List.singleton_append, List.find?_cons, hp]
theorem anyP_iff {n : Nat} {p : Nat → Bool} : anyP n p = true ↔ ∃ i, i < n ∧ p i = true := by
  unfold anyP
  rw [List.any_eq_true]
  exact ⟨fun ⟨i, h1, h2⟩ => ⟨i, List.mem_range.1 h1, h2⟩, fun ⟨i, h1, h2⟩ => ⟨i, List.mem_range.2 h1, h2⟩⟩
theorem idxP_cases (n : Nat) (p : Nat → Bool) : (idxP n p = -1 ∧ ∀ i, i < n → p i = false) ∨ ∃ k, k < n ∧ (∀ i, i < k → p i = false) ∧ p k = true ∧ idxP n p = k := by
  by_cases h : ∃ i, i < n ∧ p i = true
  · obtain ⟨k, ⟨hk, hp⟩, hmin⟩ := exists_least h
    have hz : ∀ i, i < k → p i = false := fun i hi => by
      cases hpi : p i with
      | false => rfl
      | true => have := hmin i ⟨by omega, hpi⟩; omega
    exact .inr ⟨k, hk, hz, hp, idxP_at hk hz hp⟩
  · have hz : ∀ i, i < n → p i = false := fun i hi => by
      cases hpi : p i with
      | false => rfl
      | true => exact absurd ⟨i, hi, hpi⟩ h
    exact .inl ⟨idxP_no hz, hz⟩
theorem idxP_pos (n : Nat) (p : Nat → Bool) : 0 ≤ idxP n p ↔ anyP n p = true := by
  rw [anyP_iff]
  rcases idxP_cases n p with ⟨e, h⟩ | ⟨k, hk, _, hp, e⟩
  · rw [e]
    exact ⟨fun h => by omega, fun ⟨i, h1, h2⟩ => by rw [h i h1] at h2; cases h2⟩
  · rw [e]
    exact ⟨fun _ => ⟨k, hk, hp⟩, fun _ => by omega⟩
set_option maxRecDepth 100000 in
theorem idxI_s (l : List Int) (g : Nat) (caps : List FV) (p : Nat → Bool) (hl : l.length ≤ 1000000) (hg : ∀ i (hi : i < l.length), Summ Tryz.prog GG g ([iv l[i]] ++ caps) (bv (p i))) : Summ Tryz.prog GG 128 [.sl l.length (intsF l), .fn g caps] (iv (idxP l.length p)) := by
  refine summW Tryz.func128 rfl rfl 19 rfl (by simp) (fun M0 => ?_)
  repeat (first
    | (apply s_a TY; exact rfl)
    | apply w_seq
    | apply w_region
    | apply s_nil
    | apply t_norm
    | apply w_block)
  apply w_loop (fun k : Nat => ⟨(Ab.upd (Ab.upd (Ab.upd (Ab.upd (fun _ => .bot) 0 (.f (.sl l.length (intsF l)))) 1 (.f (.fn g caps))) 7 (.f (iv l.length))) 8 (.f (iv (k : Nat)))), (fun _ => none), 0⟩) (fun k => k ≤ l.length ∧ ∀ i, i < k → p i = false) (fun k => l.length - k) 0 (⟨Nat.zero_le _, fun j h => absurd h (Nat.not_lt_zero j)⟩) (gh_le ⟨le_upd rfl trivial (le_upd rfl trivial (le_upd rfl trivial (le_upd rfl trivial (le_nil _)))), le_h0 _ _⟩)
  intro k ⟨hk, hz⟩
  by_cases hc : k < l.length
  · have Hc := hg k hc
    cases hp : p k with
    | true =>
      rw [hp] at Hc
      rw [idxP_at hc hz hp]
      repeat (first
    | (apply s_a TY; exact rfl)
    | (apply s_t; exact rfl; (first | assumption | omega))
    | apply w_seq
    | apply w_region
    | apply s_nil
    | apply t_norm
    | apply t_ret
    | apply k_ret
    | apply w_block
    | apply w_ret
    | apply w_skip
    | (apply w_condT; exact rfl; exact rfl)
    | (apply s_k (Hc); exact rfl)
    | (apply s_c TY; exact rfl; (first | omega | exact ⟨by omega, by (first | with_reducible assumption | ((with_reducible apply intsF_ne); omega) | assumption)⟩))
    | (apply s_l TY; exact rfl; (first | exact rfl | with_reducible assumption | ((with_reducible apply intsF_at); omega) | assumption)))
      exact lv_ret (ret1 rfl (res_tmp rfl))
    | false =>
      rw [hp] at Hc
      repeat (first
    | (apply s_a TY; exact rfl)
    | (apply s_t; exact rfl; (first | assumption | omega))
    | apply w_seq
    | apply w_region
    | apply s_nil
    | apply t_norm
    | apply k_norm
    | apply w_block
    | apply w_skip
    | (apply w_condT; exact rfl; exact rfl)
    | (apply w_condF; exact rfl; exact rfl)
    | (apply s_k (Hc); exact rfl)
    | (apply s_c TY; exact rfl; (first | omega | exact ⟨by omega, by (first | with_reducible assumption | ((with_reducible apply intsF_ne); omega) | assumption)⟩))
    | (apply s_l TY; exact rfl; (first | exact rfl | with_reducible assumption | ((with_reducible apply intsF_at); omega) | assumption)))
      exact ⟨k + 1, ⟨by omega, fun i hi => by
        by_cases e : i = k
        · subst e; exact hp
        · exact hz i (by omega)⟩, by omega, gh_le ⟨le_upd rfl trivial (le_upd rfl trivial (le_upd rfl trivial (le_upd rfl trivial (le_nil _)))), le_h0 _ _⟩⟩
  · rw [idxP_no fun i hi => hz i (by omega)]
    repeat (first
    | (apply s_a TY; exact rfl)
    | (apply s_f; exact rfl; (first | assumption | omega))
    | apply w_seq
    | apply w_region
    | apply s_nil
    | apply t_norm
    | apply t_exit
    | apply k_hit
    | apply w_exit
    | apply w_ret
    | (apply w_condF; exact rfl; exact rfl))
    exact lv_ret (ret1 rfl (res_tmp rfl))
def ringE (n : Int) : Int := if 1 ≤ n ∧ n ≤ 12 then 0 else 2
def skyChk (rs : List Int) : Nat × Int := if rs.length = 0 then (0, 10) else if 8 < rs.length then (0, 8) else eachE rs.length fun i => ringE (rs.getD i default)
theorem ringE_0 {n : Int} (h : 1 ≤ n ∧ n ≤ 12) : ringE n = 0 := if_pos h
theorem ringE_2 {n : Int} (h : ¬ (1 ≤ n ∧ n ≤ 12)) : ringE n = 2 := if_neg h
theorem ringE_iff {n : Int} : ringE n = 0 ↔ 1 ≤ n ∧ n ≤ 12 := by
  unfold ringE; split <;> simp_all
theorem skyOk_of {rs : List Int} (h : (skyChk rs).2 = 0) : SkyOk rs := by
  unfold skyChk at h
  split at h
  · cases h
  rename_i h1
  split at h
  · cases h
  rename_i h2
  rcases eachE_cases rs.length (fun i => ringE (rs.getD i default)) with ⟨e, hz⟩ | ⟨q, _, _, hne, e⟩
  · exact ⟨by omega, by omega, fun i hi => ringE_iff.1 (hz i hi)⟩
  · rw [e] at h; exact absurd h hne
theorem skyChk_ok {rs : List Int} (o : SkyOk rs) : skyChk rs = (0, 0) := by
  unfold skyChk
  have := o.pos
  have := o.len
  rw [if_neg (by omega), if_neg (by omega)]
  exact eachE_ok fun i hi => ringE_iff.2 (o.ring i hi)
def ringP (rs : List Int) (i : Nat) : Bool := !withinB (rs.getD i default) 1 12
theorem skyChk_idx {rs : List Int} (h1 : ¬ rs.length = 0) (h2 : ¬ 8 < rs.length) : (idxP rs.length (ringP rs) = -1 ∧ skyChk rs = (0, 0)) ∨ ∃ k : Nat, idxP rs.length (ringP rs) = k ∧ skyChk rs = (k, 2) := by
  unfold skyChk
  rw [if_neg h1, if_neg h2]
  have hp : ∀ i, ringP rs i = false ↔ ringE (rs.getD i default) = 0 := fun i => by
    rw [ringE_iff]; simp [ringP, withinB]
  rcases idxP_cases rs.length (ringP rs) with ⟨e, hz⟩ | ⟨k, hk, hz, hpk, e⟩
  · exact .inl ⟨e, eachE_ok fun i hi => (hp i).1 (hz i hi)⟩
  · have hne : ringE (rs.getD k default) ≠ 0 := fun h => by rw [(hp k).2 h] at hpk; cases hpk
    refine .inr ⟨k, e, ?_⟩
    rw [eachE_at hk (fun i hi => (hp i).1 (hz i hi)) hne, ringE_2 (fun h => hne (ringE_0 h))]
theorem ringBad_s (n : Int) : Summ Tryz.prog GG 129 [iv n] (bv (!withinB n 1 12)) := by
  by_cases h : 1 ≤ n ∧ n ≤ 12
  · rw [show withinB n 1 12 = true by simp [withinB, h]]
    refine summW Tryz.func129 rfl rfl 6 rfl (by simp) (fun M0 => ?_)
    repeat (first
    | (apply s_a TY; exact rfl)
    | apply w_seq
    | apply w_region
    | apply s_nil
    | apply t_norm
    | apply w_ret
    | (apply s_k1 (within_T _ _ _); exact rfl; (first | assumption | omega | decide)))
    exact lv_ret (ret1 rfl (res_tmp rfl))
  · rw [show withinB n 1 12 = false by simp [withinB]; omega]
    refine summW Tryz.func129 rfl rfl 6 rfl (by simp) (fun M0 => ?_)
    repeat (first
    | (apply s_a TY; exact rfl)
    | apply w_seq
    | apply w_region
    | apply s_nil
    | apply t_norm
    | apply w_ret
    | (apply s_k1 (within_F _ _ _); exact rfl; (first | assumption | omega | decide)))
    exact lv_ret (ret1 rfl (res_tmp rfl))
set_option maxRecDepth 100000 in
theorem CheckSky_s (rs : List Int) (hl : rs.length ≤ 1000000) : Summ Tryz.prog GG 71 [skF rs] (.tup [iv (skyChk rs).1, iv (skyChk rs).2]) := by
  by_cases h1 : rs.length = 0
  · rw [show skyChk rs = (0, 10) by unfold skyChk; rw [if_pos h1]]
    refine summW Tryz.func71 rfl rfl 27 rfl (by simp) (fun M0 => ?_)
    repeat (first
    | (apply s_a TY; exact rfl)
    | (apply s_t; exact rfl; (first | assumption | omega))
    | (apply s_f; exact rfl; (first | assumption | omega))
    | apply w_seq
    | apply w_region
    | (apply w_draw (id := 1) 9 rfl (by kernel_rfl))
    | apply s_nil
    | apply t_norm
    | apply t_ret
    | apply w_ret
    | (apply w_condT; exact rfl; exact rfl)
    | (apply s_k1 (first2_0 _ _); exact rfl; (first | assumption | omega | decide))
    | (apply s_k (unless_T _); exact rfl)
    | (apply s_k (unless_F _); exact rfl))
    exact lv_ret (ret2 rfl (res_tmp rfl) (res_tmp rfl))
  by_cases h2 : 8 < rs.length
  · rw [show skyChk rs = (0, 8) by unfold skyChk; rw [if_neg h1, if_pos h2]]
    refine summW Tryz.func71 rfl rfl 27 rfl (by simp) (fun M0 => ?_)
    repeat (first
    | (apply s_a TY; exact rfl)
    | (apply s_t; exact rfl; (first | assumption | omega))
    | (apply s_f; exact rfl; (first | assumption | omega))
    | apply w_seq
    | apply w_region
    | (apply w_draw (id := 1) 9 rfl (by kernel_rfl))
    | apply s_nil
    | apply t_norm
    | apply t_ret
    | apply w_ret
    | (apply w_condT; exact rfl; exact rfl)
    | (apply s_k1 (first2_1 _ _); exact rfl; (first | assumption | omega | decide))
    | (apply s_k (unless_T _); exact rfl)
    | (apply s_k (unless_F _); exact rfl))
    exact lv_ret (ret2 rfl (res_tmp rfl) (res_tmp rfl))
  have HI := idxI_s rs 129 [] (ringP rs) (by omega) (fun i hi => by unfold ringP; rw [getD_at hi]; exact ringBad_s _)
  rcases skyChk_idx h1 h2 with ⟨e1, e2⟩ | ⟨k, e1, e2⟩
  · rw [e2]
    rw [e1] at HI
    refine summW Tryz.func71 rfl rfl 27 rfl (by simp) (fun M0 => ?_)
    repeat (first
    | (apply s_a TY; exact rfl)
    | (apply s_t; exact rfl; (first | assumption | omega))
    | (apply s_f; exact rfl; (first | assumption | omega))
    | apply w_seq
    | apply w_region
    | (apply w_draw (id := 1) 9 rfl (by kernel_rfl))
    | apply s_nil
    | apply t_norm
    | apply w_ret
    | apply w_skip
    | (apply w_condF; exact rfl; exact rfl)
    | (apply s_k (HI); exact rfl)
    | (apply s_k1 (first2_1 _ _); exact rfl; (first | assumption | omega | decide))
    | (apply s_k (unless_T _); exact rfl))
    exact lv_ret (ret2 rfl (res_tmp rfl) (res_tmp rfl))
  · rw [e2]
    rw [e1] at HI
    refine summW Tryz.func71 rfl rfl 27 rfl (by simp) (fun M0 => ?_)
    repeat (first
    | (apply s_a TY; exact rfl)
    | (apply s_t; exact rfl; (first | assumption | omega))
    | apply w_seq
    | apply w_region
    | (apply w_draw (id := 1) 9 rfl (by kernel_rfl))
    | apply s_nil
    | apply t_norm
    | apply t_ret
    | apply w_ret
    | apply w_skip
    | (apply w_condT; exact rfl; exact rfl)
    | (apply w_condF; exact rfl; exact rfl)
    | (apply s_k (HI); exact rfl)
    | (apply s_k1 (first2_1 _ _); exact rfl; (first | assumption | omega | decide))
    | (apply s_k (unless_T _); exact rfl))
    exact lv_ret (ret2 rfl (res_tmp rfl) (res_tmp rfl))
theorem rep_nilsl {w : World} {M : Nat → Prop} {v : Value} (h : RepF w M v (.v (.slice none 0 0))) : RepF w M v (.sl 0 []) := by
  have := repV h; subst this
  exact RepF.sl none 0 0 [] [] (Nat.le_refl _) rfl (fun u hu => by cases hu) (fun h => absurd rfl h) (fun k u x h => by simp at h)
theorem celRow {L M : List Cel} (h : L = M) : some (Blk.row 205 4 L.length (celsF L)) = some (Blk.row 205 4 M.length (celsF M)) := by rw [h]
theorem celRow_app {L M : List Cel} {x : Cel} (h : M = L ++ [x]) : some (Blk.row 205 4 (L.length + 1) (celsF L ++ celF x)) = some (Blk.row 205 4 M.length (celsF M)) := by
  rw [h, celsF_snoc, List.length_append]; rfl
set_option maxRecDepth 100000 in
set_option maxHeartbeats 1600000 in
theorem open_ok (rs : List Int) (o : SkyOk rs) : Summ Tryz.prog GG 124 [skF rs] (.tup [xF (skyC rs), iv 0]) := by
  have hlen := o.len
  have HS := CheckSky_s rs (by omega)
  rw [skyChk_ok o] at HS
  refine summW Tryz.func124 rfl rfl 44 rfl (by simp) (fun M0 => ?_)
  repeat (first
    | (apply s_a TY; exact rfl)
    | (apply s_t; exact rfl; (first | assumption | omega))
    | apply w_seq
    | apply w_region
    | apply s_nil
    | apply t_norm
    | apply w_block
    | apply w_skip
    | (apply w_condF; exact rfl; exact rfl)
    | (apply s_k (HS); exact rfl))
  apply w_gh (gh_own 6 205 4 rfl rfl)
  apply w_loop (fun k : Nat => ⟨(Ab.upd (Ab.upd (Ab.upd (Ab.upd (fun _ => .bot) 6 (.ow 0)) 20 (.f (.sl rs.length (intsF rs)))) 21 (.f (iv rs.length))) 22 (.f (iv (k : Nat)))), (Ab.upd (fun _ => none) 0 (some (.row 205 4 (skyK rs k).length (celsF (skyK rs k))))), 1⟩) (fun k => k ≤ rs.length) (fun k => rs.length - k) 0 (Nat.zero_le _) (gh_le ⟨le_upd rfl trivial (le_upd rfl trivial (le_upd rfl trivial (le_upd rfl rfl (le_nil _)))), le_hupd rfl trivial (le_h0 _ _)⟩)
  intro k hk
  by_cases hc : k < rs.length
  · have hr := o.ring k hc
    rw [getD_at hc] at hr
    have hl1 := skyK_len o hk
    have hb1 := befK_bd o hk
    have hsucc : skyK rs (k + 1) = skyK rs k ++ ringC k ((skyK rs k).length : Nat) rs[k] rs[k].toNat := by rw [skyK, getD_at hc]
    repeat (first
    | (apply s_a TY; exact rfl)
    | (apply s_t; exact rfl; (first | assumption | omega))
    | apply w_seq
    | apply w_region
    | apply s_nil
    | apply t_norm
    | apply w_block
    | apply w_skip
    | (apply w_condT; exact rfl; exact rfl)
    | (apply s_c TY; exact rfl; (first | omega | exact ⟨by omega, by (first | with_reducible assumption | ((with_reducible apply intsF_ne); omega) | assumption)⟩))
    | (apply s_l TY; exact rfl; (first | exact rfl | with_reducible assumption | ((with_reducible apply intsF_at); omega) | assumption)))
    apply w_loop (fun j : Nat => ⟨(Ab.upd (Ab.upd (Ab.upd (Ab.upd (Ab.upd (Ab.upd (Ab.upd (Ab.upd (Ab.upd (fun _ => .bot) 6 (.ow 0)) 7 (.f (iv (k : Nat)))) 8 (.f (iv rs[k]))) 9 (.f (iv ((skyK rs k).length : Nat)))) 20 (.f (.sl rs.length (intsF rs)))) 21 (.f (iv rs.length))) 22 (.f (iv (k : Nat)))) 29 (.f (iv rs[k]))) 30 (.f (iv (j : Nat)))), (Ab.upd (fun _ => none) 0 (some (.row 205 4 (skyK rs k ++ ringC k ((skyK rs k).length : Nat) rs[k] j).length (celsF (skyK rs k ++ ringC k ((skyK rs k).length : Nat) rs[k] j))))), 1⟩) (fun j => (j : Int) ≤ rs[k]) (fun j => rs[k].toNat - j) 0 ((by omega)) (gh_le ⟨le_upd rfl trivial (le_upd rfl trivial (le_upd rfl trivial (le_upd rfl trivial (le_upd rfl trivial (le_upd rfl trivial (le_upd rfl trivial (le_upd rfl trivial (le_upd rfl rfl (le_nil _))))))))), le_hupd (celRow (by simp [ringC])) trivial (le_h0 _ _)⟩)
    intro j hj
    have hjl : (skyK rs k ++ ringC k ((skyK rs k).length : Nat) rs[k] j).length = (skyK rs k).length + j := by rw [List.length_append, ringC_len]
    by_cases hjc : (j : Int) < rs[k]
    · repeat (first
    | (apply s_a TY; exact rfl)
    | (apply s_t; exact rfl; (first | assumption | omega))
    | apply w_seq
    | apply w_region
    | apply s_nil
    | apply t_norm
    | apply k_norm
    | apply w_block
    | apply w_skip
    | (apply w_condT; exact rfl; exact rfl)
    | (apply s_c TY; exact rfl; (first | omega | exact ⟨by omega, by (first | with_reducible assumption | ((with_reducible apply intsF_ne); omega) | assumption)⟩))
    | (apply s_append TY; exact rfl; exact rfl; exact rfl; exact rfl; exact rfl; exact rfl; exact rfl; exact rfl; exact rfl; (unfold maxLen; omega); omega))
      exact ⟨j + 1, by omega, by omega, gh_le ⟨le_upd rfl trivial (le_upd rfl trivial (le_upd rfl trivial (le_upd rfl trivial (le_upd rfl trivial (le_upd rfl trivial (le_upd rfl trivial (le_upd rfl trivial (le_upd rfl rfl (le_nil _))))))))), le_hupd (celRow_app (L := skyK rs k ++ ringC k ((skyK rs k).length : Nat) rs[k] j) (x := ⟨k, ((skyK rs k).length : Nat), rs[k], j⟩) (by rw [ringC_succ, ← List.append_assoc])) trivial (le_h0 _ _)⟩⟩
    · have hje : j = rs[k].toNat := by omega
      subst hje
      repeat (first
    | (apply s_a TY; exact rfl)
    | (apply s_f; exact rfl; (first | assumption | omega))
    | apply w_seq
    | apply w_region
    | apply s_nil
    | apply t_norm
    | apply t_exit
    | apply k_hit
    | apply k_norm
    | apply w_exit
    | (apply w_condF; exact rfl; exact rfl)
    | (apply s_c TY; exact rfl; (first | omega | exact ⟨by omega, by (first | with_reducible assumption | ((with_reducible apply intsF_ne); omega) | assumption)⟩)))
      exact ⟨k + 1, by omega, by omega, gh_le ⟨le_upd rfl trivial (le_upd rfl trivial (le_upd rfl trivial (le_upd rfl rfl (le_nil _)))), le_hupd (celRow hsucc.symm) trivial (le_h0 _ _)⟩⟩
  · have hke : k = rs.length := by omega
    subst hke
    repeat (first
    | (apply s_a TY; exact rfl)
    | (apply s_f; exact rfl; (first | assumption | omega))
    | apply w_seq
    | apply w_region
    | apply s_nil
    | apply t_norm
    | apply t_exit
    | apply k_hit
    | apply w_exit
    | apply w_ret
    | (apply w_condF; exact rfl; exact rfl))
    exact lv_ret (ret_gh (gh_row 0 rfl) (ret2 rfl (res_tmp rfl) (res_tmp rfl)))
def celE (c : Int) (n : Int) : Int := if 0 ≤ n ∧ n ≤ c - 1 then 0 else 6
def celsX (c : Int) (l : List Int) (i : Nat) : Int := if ¬ (0 ≤ l.getD i default ∧ l.getD i default ≤ c - 1) then 6 else if i ≠ 0 ∧ l.getD i default ≤ l.getD (i - 1) default then 9 else 0
def celsE (c : Int) (l : List Int) : Int := (eachE l.length (celsX c l)).2
theorem celE_0 {c n : Int} (h : 0 ≤ n ∧ n ≤ c - 1) : celE c n = 0 := if_pos h
theorem celE_6 {c n : Int} (h : ¬ (0 ≤ n ∧ n ≤ c - 1)) : celE c n = 6 := if_neg h
theorem celsE_0 {c : Int} {l : List Int} (h : ∀ i, i < l.length → celsX c l i = 0) : celsE c l = 0 := by unfold celsE; rw [eachE_ok h]
theorem celsE_at {c : Int} {l : List Int} {k : Nat} (hk : k < l.length) (h : ∀ i, i < k → celsX c l i = 0) (hne : celsX c l k ≠ 0) : celsE c l = celsX c l k := by unfold celsE; rw [eachE_at hk h hne]
theorem height_s (cs : List Cel) (b : Int) (hl : cs.length ≤ 1000) (hb : 0 ≤ b ∧ b ≤ 1000) : Summ Tryz.prog GG 131 [xF cs, iv b] (iv (1000000 * ((cs.length : Int) - 2 * b))) := by
  refine summW Tryz.func131 rfl rfl 11 rfl (by simp) (fun M0 => ?_)
  repeat (first
    | (apply s_a TY; exact rfl)
    | apply w_seq
    | apply w_region
    | apply s_nil
    | apply t_norm
    | apply w_ret
    | (apply s_c TY; exact rfl; omega))
  exact lv_ret (ret1 rfl (res_tmp rfl))
set_option maxRecDepth 100000 in
theorem cellErr_s (cs : List Cel) (n : Int) (hl : cs.length ≤ 1000) : Summ Tryz.prog GG 132 [xF cs, iv n] (iv (celE cs.length n)) := by
  by_cases h : 0 ≤ n ∧ n ≤ (cs.length : Int) - 1
  · rw [celE_0 h]
    refine summW Tryz.func132 rfl rfl 11 rfl (by simp) (fun M0 => ?_)
    repeat (first
    | (apply s_a TY; exact rfl)
    | apply w_seq
    | apply w_region
    | apply s_nil
    | apply t_norm
    | apply w_ret
    | (apply s_k (unless_T _); exact rfl)
    | (apply s_k1 (within_T _ _ _); exact rfl; (first | assumption | omega | decide))
    | (apply s_c TY; exact rfl; omega))
    exact lv_ret (ret1 rfl (res_tmp rfl))
  · rw [celE_6 h]
    refine summW Tryz.func132 rfl rfl 11 rfl (by simp) (fun M0 => ?_)
    repeat (first
    | (apply s_a TY; exact rfl)
    | apply w_seq
    | apply w_region
    | apply s_nil
    | apply t_norm
    | apply w_ret
    | (apply s_k (unless_F _); exact rfl)
    | (apply s_k1 (within_F _ _ _); exact rfl; (first | assumption | omega | decide))
    | (apply s_c TY; exact rfl; omega))
    exact lv_ret (ret1 rfl (res_tmp rfl))
theorem cellErrT (cs : List Cel) (n : Int) (hl : cs.length ≤ 1000) (h : 0 ≤ n ∧ n ≤ (cs.length : Int) - 1) : Summ Tryz.prog GG 132 [xF cs, iv n] (iv 0) := by
  have := cellErr_s cs n hl
  rwa [celE_0 h] at this
theorem cellErrF (cs : List Cel) (n : Int) (hl : cs.length ≤ 1000) (h : ¬ (0 ≤ n ∧ n ≤ (cs.length : Int) - 1)) : Summ Tryz.prog GG 132 [xF cs, iv n] (iv 6) := by
  have := cellErr_s cs n hl
  rwa [celE_6 h] at this
set_option maxRecDepth 100000 in
set_option maxHeartbeats 1600000 in
theorem cellsErr_s (cs : List Cel) (l : List Int) (hll : l.length ≤ 1000000) (hl : cs.length ≤ 1000) : Summ Tryz.prog GG 122 [(xF cs), .sl l.length (intsF l)] (iv (celsE (cs.length : Int) l)) := by
  refine summW Tryz.func122 rfl rfl 37 rfl (by simp) (fun M0 => ?_)
  repeat (first
    | (apply s_a TY; exact rfl)
    | apply w_seq
    | apply w_region
    | apply s_nil
    | apply t_norm
    | apply w_block)
  apply w_loop (fun k : Nat => ⟨(Ab.upd (Ab.upd (Ab.upd (Ab.upd (Ab.upd (fun _ => .bot) 0 (.f (xF cs))) 1 (.f (.sl l.length (intsF l)))) 8 (.f (.sl l.length (intsF l)))) 9 (.f (iv l.length))) 10 (.f (iv (k : Nat)))), (fun _ => none), 0⟩) (fun k => k ≤ l.length ∧ ∀ i, i < k → celsX (cs.length : Int) l i = 0) (fun k => l.length - k) 0 (⟨Nat.zero_le _, fun i h => absurd h (Nat.not_lt_zero i)⟩) (gh_le ⟨le_upd rfl trivial (le_upd rfl trivial (le_upd rfl trivial (le_upd rfl trivial (le_upd rfl trivial (le_nil _))))), le_h0 _ _⟩)
  intro k ⟨hk, hz⟩
  by_cases hc : k < l.length
  · have hg := getD_at hc
    by_cases h1 : 0 ≤ l[k] ∧ l[k] ≤ (cs.length : Int) - 1
    · by_cases h0 : k = 0
      · have hx : celsX (cs.length : Int) l k = 0 := by unfold celsX; rw [hg, if_neg (by simpa using h1), if_neg (by omega)]
        subst h0
        repeat (first
    | (apply s_a TY; exact rfl)
    | (apply s_t; exact rfl; (first | assumption | omega))
    | apply w_seq
    | apply w_region
    | apply s_nil
    | apply t_norm
    | apply k_norm
    | apply w_block
    | apply w_skip
    | (apply w_condT; exact rfl; exact rfl)
    | (apply w_condF; exact rfl; exact rfl)
    | (apply s_k2 (cellErrT _ _); exact rfl; (first | assumption | omega | decide); (first | assumption | omega | decide))
    | (apply s_k1 (first2_1 _ _); exact rfl; (first | assumption | omega | decide))
    | (apply s_k (unless_T _); exact rfl)
    | (apply s_s; exact rfl)
    | (apply s_c TY; exact rfl; (first | omega | exact ⟨by omega, by (first | with_reducible assumption | ((with_reducible apply intsF_ne); omega) | assumption)⟩))
    | (apply s_l TY; exact rfl; (first | exact rfl | with_reducible assumption | ((with_reducible apply intsF_at); omega) | assumption)))
        exact ⟨0 + 1, ⟨by omega, fun i hi => by
          have : i = 0 := by omega
          subst this; exact hx⟩, by omega, gh_le ⟨le_upd rfl trivial (le_upd rfl trivial (le_upd rfl trivial (le_upd rfl trivial (le_upd rfl trivial (le_nil _))))), le_h0 _ _⟩⟩
      · have hp : k - 1 < l.length := by omega
        have hgp := getD_at hp
        have hW : (intsF l)[(max 0 (((k : Nat) : Int) - 1)).toNat * 1]? = some (iv l[k - 1]) := by
          rw [show (max 0 (((k : Nat) : Int) - 1)).toNat = k - 1 by omega]; exact intsF_at hp
        by_cases h2 : l[k - 1] < l[k]
        · have hx : celsX (cs.length : Int) l k = 0 := by unfold celsX; rw [hg, if_neg (by simpa using h1), if_neg (by rw [hgp]; omega)]
          repeat (first
    | (apply s_a TY; exact rfl)
    | (apply s_t; exact rfl; (first | assumption | omega))
    | (apply s_f; exact rfl; (first | assumption | omega))
    | apply w_seq
    | apply w_region
    | apply s_nil
    | apply t_norm
    | apply k_norm
    | apply w_block
    | apply w_skip
    | (apply w_condT; exact rfl; exact rfl)
    | (apply w_condF; exact rfl; exact rfl)
    | (apply s_k2 (cellErrT _ _); exact rfl; (first | assumption | omega | decide); (first | assumption | omega | decide))
    | (apply s_k1 (first2_1 _ _); exact rfl; (first | assumption | omega | decide))
    | (apply s_k (unless_T _); exact rfl)
    | (apply s_c TY; exact rfl; (first | omega | exact ⟨by omega, by (first | with_reducible assumption | ((with_reducible apply intsF_ne); omega) | assumption)⟩))
    | (apply s_z TY; exact rfl; (first | omega | exact ⟨by omega, by (first | with_reducible assumption | ((with_reducible apply intsF_ne); omega) | assumption)⟩))
    | (apply s_l TY; exact rfl; (first | exact rfl | with_reducible assumption | ((with_reducible apply intsF_at); omega) | assumption)))
          exact ⟨k + 1, ⟨by omega, fun i hi => by
            by_cases e : i = k
            · subst e; exact hx
            · exact hz i (by omega)⟩, by omega, gh_le ⟨le_upd rfl trivial (le_upd rfl trivial (le_upd rfl trivial (le_upd rfl trivial (le_upd rfl trivial (le_nil _))))), le_h0 _ _⟩⟩
        · have hx : celsX (cs.length : Int) l k = 9 := by unfold celsX; rw [hg, if_neg (by simpa using h1), if_pos ⟨h0, by rw [hgp]; omega⟩]
          rw [celsE_at hc hz (by rw [hx]; decide), hx]
          repeat (first
    | (apply s_a TY; exact rfl)
    | (apply s_t; exact rfl; (first | assumption | omega))
    | (apply s_f; exact rfl; (first | assumption | omega))
    | apply w_seq
    | apply w_region
    | apply s_nil
    | apply t_norm
    | apply t_ret
    | apply k_ret
    | apply w_block
    | apply w_ret
    | apply w_skip
    | (apply w_condT; exact rfl; exact rfl)
    | (apply s_k2 (cellErrT _ _); exact rfl; (first | assumption | omega | decide); (first | assumption | omega | decide))
    | (apply s_k1 (first2_1 _ _); exact rfl; (first | assumption | omega | decide))
    | (apply s_k (unless_F _); exact rfl)
    | (apply s_c TY; exact rfl; (first | omega | exact ⟨by omega, by (first | with_reducible assumption | ((with_reducible apply intsF_ne); omega) | assumption)⟩))
    | (apply s_z TY; exact rfl; (first | omega | exact ⟨by omega, by (first | with_reducible assumption | ((with_reducible apply intsF_ne); omega) | assumption)⟩))
    | (apply s_l TY; exact rfl; (first | exact rfl | with_reducible assumption | ((with_reducible apply intsF_at); omega) | assumption)))
          exact lv_ret (ret1 rfl (res_tmp rfl))
    · have hx : celsX (cs.length : Int) l k = 6 := by unfold celsX; rw [hg, if_pos h1]
      rw [celsE_at hc hz (by rw [hx]; decide), hx]
      by_cases h0 : k = 0
      · subst h0
        repeat (first
    | (apply s_a TY; exact rfl)
    | (apply s_t; exact rfl; (first | assumption | omega))
    | (apply s_f; exact rfl; (first | assumption | omega))
    | apply w_seq
    | apply w_region
    | apply s_nil
    | apply t_norm
    | apply t_ret
    | apply k_ret
    | apply w_block
    | apply w_ret
    | apply w_skip
    | (apply w_condT; exact rfl; exact rfl)
    | (apply s_k2 (cellErrF _ _); exact rfl; (first | assumption | omega | decide); (first | assumption | omega | decide))
    | (apply s_k1 (first2_0 _ _); exact rfl; (first | assumption | omega | decide))
    | (apply s_k (unless_T _); exact rfl)
    | (apply s_s; exact rfl)
    | (apply s_c TY; exact rfl; (first | omega | exact ⟨by omega, by (first | with_reducible assumption | ((with_reducible apply intsF_ne); omega) | assumption)⟩))
    | (apply s_l TY; exact rfl; (first | exact rfl | with_reducible assumption | ((with_reducible apply intsF_at); omega) | assumption)))
        exact lv_ret (ret1 rfl (res_tmp rfl))
      · have hp : k - 1 < l.length := by omega
        have hW : (intsF l)[(max 0 (((k : Nat) : Int) - 1)).toNat * 1]? = some (iv l[k - 1]) := by
          rw [show (max 0 (((k : Nat) : Int) - 1)).toNat = k - 1 by omega]; exact intsF_at hp
        by_cases h2 : l[k - 1] < l[k]
        · repeat (first
    | (apply s_a TY; exact rfl)
    | (apply s_t; exact rfl; (first | assumption | omega))
    | (apply s_f; exact rfl; (first | assumption | omega))
    | apply w_seq
    | apply w_region
    | apply s_nil
    | apply t_norm
    | apply t_ret
    | apply k_ret
    | apply w_block
    | apply w_ret
    | apply w_skip
    | (apply w_condT; exact rfl; exact rfl)
    | (apply s_k2 (cellErrF _ _); exact rfl; (first | assumption | omega | decide); (first | assumption | omega | decide))
    | (apply s_k1 (first2_0 _ _); exact rfl; (first | assumption | omega | decide))
    | (apply s_k (unless_T _); exact rfl)
    | (apply s_c TY; exact rfl; (first | omega | exact ⟨by omega, by (first | with_reducible assumption | ((with_reducible apply intsF_ne); omega) | assumption)⟩))
    | (apply s_z TY; exact rfl; (first | omega | exact ⟨by omega, by (first | with_reducible assumption | ((with_reducible apply intsF_ne); omega) | assumption)⟩))
    | (apply s_l TY; exact rfl; (first | exact rfl | with_reducible assumption | ((with_reducible apply intsF_at); omega) | assumption)))
          exact lv_ret (ret1 rfl (res_tmp rfl))
        · repeat (first
    | (apply s_a TY; exact rfl)
    | (apply s_t; exact rfl; (first | assumption | omega))
    | (apply s_f; exact rfl; (first | assumption | omega))
    | apply w_seq
    | apply w_region
    | apply s_nil
    | apply t_norm
    | apply t_ret
    | apply k_ret
    | apply w_block
    | apply w_ret
    | apply w_skip
    | (apply w_condT; exact rfl; exact rfl)
    | (apply s_k2 (cellErrF _ _); exact rfl; (first | assumption | omega | decide); (first | assumption | omega | decide))
    | (apply s_k1 (first2_0 _ _); exact rfl; (first | assumption | omega | decide))
    | (apply s_k (unless_F _); exact rfl)
    | (apply s_c TY; exact rfl; (first | omega | exact ⟨by omega, by (first | with_reducible assumption | ((with_reducible apply intsF_ne); omega) | assumption)⟩))
    | (apply s_z TY; exact rfl; (first | omega | exact ⟨by omega, by (first | with_reducible assumption | ((with_reducible apply intsF_ne); omega) | assumption)⟩))
    | (apply s_l TY; exact rfl; (first | exact rfl | with_reducible assumption | ((with_reducible apply intsF_at); omega) | assumption)))
          exact lv_ret (ret1 rfl (res_tmp rfl))
  · rw [celsE_0 fun i hi => hz i (by omega)]
    repeat (first
    | (apply s_a TY; exact rfl)
    | (apply s_f; exact rfl; (first | assumption | omega))
    | apply w_seq
    | apply w_region
    | apply s_nil
    | apply t_norm
    | apply t_exit
    | apply k_hit
    | apply w_exit
    | apply w_ret
    | (apply w_condF; exact rfl; exact rfl))
    exact lv_ret (ret1 rfl (res_tmp rfl))
end Go.Proofs.YtenkgipcblfocaaGreat
namespace Go.Proofs.YtenkgipcblfocaaGreat
open Go Go.RowKit Go.Proofs Go.Shelf Go.Ab
theorem cel_bd {rs : List Int} (o : SkyOk rs) {k : Nat} (hk : k < (skyC rs).length) : (0 ≤ (skyC rs)[k].before ∧ (skyC rs)[k].before ≤ 96) ∧ (1 ≤ (skyC rs)[k].count ∧ (skyC rs)[k].count ≤ 12) ∧ (0 ≤ (skyC rs)[k].ring ∧ (skyC rs)[k].ring < 8) ∧ 0 ≤ (skyC rs)[k].index ∧ (skyC rs)[k].index < (skyC rs)[k].count := by
  obtain ⟨r, i, h1, h2, h3, h4⟩ := skyK_at o (Nat.le_refl _) hk
  have h4' : (skyC rs)[k] = ⟨r, befK rs r, rs.getD r default, i⟩ := h4
  have hb := befK_bd o (k := r) (by omega)
  have hr := o.ring r h1
  have hl := o.len
  rw [h4']
  refine ⟨⟨?_, ?_⟩, hr, ⟨?_, ?_⟩, ?_, h2⟩ <;> simp only <;> omega
theorem mul_bd {a b A B : Int} (ha : -A ≤ a ∧ a ≤ A) (hb : 0 ≤ b ∧ b ≤ B) : -(A * B) ≤ a * b ∧ a * b ≤ A * B := by
  have h1 : a * b ≤ A * b := Int.mul_le_mul_of_nonneg_right ha.2 hb.1
  have h2 : A * b ≤ A * B := Int.mul_le_mul_of_nonneg_left hb.2 (by omega)
  have h3 : -A * b ≤ a * b := Int.mul_le_mul_of_nonneg_right ha.1 hb.1
  rw [Int.neg_mul] at h3
  omega
theorem mul_nn {a b A B : Int} (ha : 0 ≤ a ∧ a ≤ A) (hb : 0 ≤ b ∧ b ≤ B) : 0 ≤ a * b ∧ a * b ≤ A * B :=
  ⟨Int.mul_nonneg ha.1 hb.1, (mul_bd ⟨by omega, ha.2⟩ hb).2⟩
theorem lastC_bd {rs : List Int} (o : SkyOk rs) {h : Int} : ∀ k, k ≤ (skyC rs).length → (0 ≤ (lastC rs h (skyC rs) k).before ∧ (lastC rs h (skyC rs) k).before ≤ 96) ∧ 0 ≤ (lastC rs h (skyC rs) k).count ∧ (lastC rs h (skyC rs) k).count ≤ 12
  | 0, _ => by simp [lastC]
  | k + 1, hk => by
    unfold lastC
    split
    · rw [getD_at (show k < (skyC rs).length by omega)]
      have := cel_bd o (show k < (skyC rs).length by omega)
      omega
    · exact lastC_bd o k (by omega)
theorem celBox {x y : Cel} (h : x = y) : some (Blk.box [.f (iv x.ring), .f (iv x.before), .f (iv x.count), .f (iv x.index)]) = some (Blk.box [.f (iv y.ring), .f (iv y.before), .f (iv y.count), .f (iv y.index)]) := by rw [h]
set_option maxRecDepth 100000 in
set_option maxHeartbeats 1600000 in
theorem CellOf_ok (rs : List Int) (p : Pt) (o : SkyOk rs) (h : (-1000000 ≤ p.height ∧ p.height ≤ 1000000) ∧ 0 ≤ p.turn ∧ p.turn ≤ 999999) : Summ Tryz.prog GG 72 [skF rs, ptF p] (.tup [iv (cellZ rs p.height p.turn), iv 0]) := by
  have hp0 := ptE_0 h
  have HP := pointErr_s p
  rw [hp0] at HP
  have hb := skyC_bd o
  have hln := skyC_len o
  have hm := mul_bd h.1 (b := ((skyC rs).length : Int)) (B := 96) (by omega)
  refine summW Tryz.func72 rfl rfl 52 rfl (by simp) (fun M0 => ?_)
  repeat (first
    | (apply s_a TY; exact rfl)
    | (apply s_t; exact rfl; (first | assumption | omega))
    | apply w_seq
    | apply w_region
    | apply s_nil
    | apply t_norm
    | apply w_block
    | apply w_skip
    | (apply w_condF; exact rfl; exact rfl)
    | (apply s_k (HP); exact rfl)
    | (apply s_k1 (first2_1 _ _); exact rfl; (first | assumption | omega | decide))
    | (apply s_k1 (open_ok _); exact rfl; (first | assumption | omega | decide))
    | (apply s_alloc TY; exact rfl; exact rfl; exact rfl)
    | (apply s_store TY; exact rfl; exact rfl; exact rfl; exact rfl; exact rfl; exact rfl))
  apply w_loop (fun k : Nat => ⟨(Ab.upd (Ab.upd (Ab.upd (Ab.upd (Ab.upd (Ab.upd (fun _ => .bot) 3 (.f (.pt [iv p.height, iv p.turn] 0))) 6 (.f (xF (skyC rs)))) 8 (.bx 0 0)) 25 (.f (xF (skyC rs)))) 26 (.f (iv (skyC rs).length))) 27 (.f (iv (k : Nat)))), (Ab.upd (fun _ => none) 0 (some (.box [.f (iv (lastC rs p.height (skyC rs) (k : Nat)).ring), .f (iv (lastC rs p.height (skyC rs) (k : Nat)).before), .f (iv (lastC rs p.height (skyC rs) (k : Nat)).count), .f (iv (lastC rs p.height (skyC rs) (k : Nat)).index)]))), 1⟩) (fun k => k ≤ (skyC rs).length) (fun k => (skyC rs).length - k) 0 (Nat.zero_le _) (gh_le ⟨le_upd rfl trivial (le_upd rfl trivial (le_upd rfl trivial (le_upd rfl rfl (le_upd rfl trivial (le_upd rfl trivial (le_nil _)))))), le_hupd rfl (fun y hy => by simp at hy; rcases hy with rfl | rfl | rfl | rfl <;> trivial) (le_h0 _ _)⟩)
  intro k hk
  by_cases hc : k < (skyC rs).length
  · have hcb := cel_bd o hc
    have hg := getD_at hc
    by_cases hu : p.height * ((skyC rs).length : Int) ≤ 1000000 * (((skyC rs).length : Int) - 2 * (skyC rs)[k].before)
    · have hs : (lastC rs p.height (skyC rs) (k + 1)) = (skyC rs)[k] := by
        rw [lastC, hg, if_pos (by unfold upB; rw [← hln]; simpa using hu)]
      repeat (first
    | (apply s_a TY; exact rfl)
    | (apply s_t; exact rfl; (first | assumption | omega))
    | apply w_seq
    | apply w_region
    | (apply w_draw (id := 9) 9 rfl (by kernel_rfl))
    | apply s_nil
    | apply t_norm
    | apply k_norm
    | apply w_block
    | apply w_skip
    | (apply w_condT; exact rfl; exact rfl)
    | (apply s_k2 (height_s _ _); exact rfl; (first | assumption | omega | decide); (first | assumption | omega | decide))
    | (apply s_c TY; exact rfl; (first | omega | exact ⟨by omega, by (first | with_reducible assumption | ((with_reducible apply celsF_ne); omega) | assumption)⟩))
    | (apply s_m TY; exact rfl; (first | with_reducible assumption | ((with_reducible apply celsF_sub); omega) | exact rfl); exact rfl)
    | (apply s_alloc TY; exact rfl; exact rfl; exact rfl)
    | (apply s_store TY; exact rfl; exact rfl; exact rfl; exact rfl; exact rfl; exact rfl))
      exact ⟨k + 1, by omega, by omega, gh_le ⟨le_upd rfl trivial (le_upd rfl trivial (le_upd rfl trivial (le_upd rfl rfl (le_upd rfl trivial (le_upd rfl trivial (le_nil _)))))), le_hupd (celBox hs.symm) (fun y hy => by simp at hy; rcases hy with rfl | rfl | rfl | rfl <;> trivial) (le_h0 _ _)⟩⟩
    · have hs : (lastC rs p.height (skyC rs) (k + 1)) = (lastC rs p.height (skyC rs) k) := by
        rw [lastC, hg, if_neg (by unfold upB; rw [← hln]; simpa using hu)]
      repeat (first
    | (apply s_a TY; exact rfl)
    | (apply s_t; exact rfl; (first | assumption | omega))
    | (apply s_f; exact rfl; (first | assumption | omega))
    | apply w_seq
    | apply w_region
    | (apply w_draw (id := 9) 9 rfl (by kernel_rfl))
    | apply s_nil
    | apply t_norm
    | apply k_norm
    | apply w_block
    | apply w_skip
    | (apply w_condT; exact rfl; exact rfl)
    | (apply w_condF; exact rfl; exact rfl)
    | (apply s_k2 (height_s _ _); exact rfl; (first | assumption | omega | decide); (first | assumption | omega | decide))
    | (apply s_c TY; exact rfl; (first | omega | exact ⟨by omega, by (first | with_reducible assumption | ((with_reducible apply celsF_ne); omega) | assumption)⟩))
    | (apply s_m TY; exact rfl; (first | with_reducible assumption | ((with_reducible apply celsF_sub); omega) | exact rfl); exact rfl)
    | (apply s_alloc TY; exact rfl; exact rfl; exact rfl)
    | (apply s_store TY; exact rfl; exact rfl; exact rfl; exact rfl; exact rfl; exact rfl))
      exact ⟨k + 1, by omega, by omega, gh_le ⟨le_upd rfl trivial (le_upd rfl trivial (le_upd rfl trivial (le_upd rfl rfl (le_upd rfl trivial (le_upd rfl trivial (le_nil _)))))), le_hupd (celBox hs.symm) (fun y hy => by simp at hy; rcases hy with rfl | rfl | rfl | rfl <;> trivial) (le_h0 _ _)⟩⟩
  · have hke : k = (skyC rs).length := by omega
    subst hke
    have hr := lastC_ring o h.1.2
    have hbd := lastC_bd o (h := p.height) (skyC rs).length (Nat.le_refl _)
    have hm2 := mul_nn (a := p.turn) (A := 999999) h.2 hbd.2
    have hz : cellZ rs p.height p.turn = (lastC rs p.height (skyC rs) (skyC rs).length).before + p.turn * (lastC rs p.height (skyC rs) (skyC rs).length).count / 1000000 := by
      unfold cellZ; rw [hr.1, hr.2]
    rw [hz]
    generalize (lastC rs p.height (skyC rs) (skyC rs).length) = X at *
    repeat (first
    | (apply s_a TY; exact rfl)
    | (apply s_f; exact rfl; (first | assumption | omega))
    | apply w_seq
    | apply w_region
    | apply s_nil
    | apply t_norm
    | apply t_exit
    | apply k_hit
    | apply w_exit
    | apply w_ret
    | (apply w_condF; exact rfl; exact rfl)
    | (apply s_c TY; exact rfl; (first | omega | exact ⟨by omega, by (first | with_reducible assumption | ((with_reducible apply celsF_ne); omega) | assumption)⟩)))
    exact lv_ret (ret2 rfl (res_tmp rfl) (res_tmp rfl))
set_option maxRecDepth 100000 in
theorem rCheckSky_s (rs : List Int) (hl : rs.length ≤ 1000000) : Summ Tryz.prog GG 75 [skF rs] (.tup [iv (skyChk rs).1, iv (skyChk rs).2]) := by
  by_cases h1 : rs.length = 0
  · rw [show skyChk rs = (0, 10) by unfold skyChk; rw [if_pos h1]]
    refine summW Tryz.func75 rfl rfl 28 rfl (by simp) (fun M0 => ?_)
    repeat (first
    | (apply s_a TY; exact rfl)
    | (apply s_t; exact rfl; (first | assumption | omega))
    | apply w_seq
    | apply w_region
    | apply s_nil
    | apply t_norm
    | apply t_ret
    | apply w_ret
    | (apply w_condT; exact rfl; exact rfl))
    exact lv_ret (ret2 rfl (res_tmp rfl) (res_tmp rfl))
  by_cases h2 : 8 < rs.length
  · rw [show skyChk rs = (0, 8) by unfold skyChk; rw [if_neg h1, if_pos h2]]
    refine summW Tryz.func75 rfl rfl 28 rfl (by simp) (fun M0 => ?_)
    repeat (first
    | (apply s_a TY; exact rfl)
    | (apply s_t; exact rfl; (first | assumption | omega))
    | (apply s_f; exact rfl; (first | assumption | omega))
    | apply w_seq
    | apply w_region
    | apply s_nil
    | apply t_norm
    | apply t_ret
    | apply w_ret
    | apply w_skip
    | (apply w_condT; exact rfl; exact rfl)
    | (apply w_condF; exact rfl; exact rfl))
    exact lv_ret (ret2 rfl (res_tmp rfl) (res_tmp rfl))
  have he : skyChk rs = eachE rs.length fun i => ringE (rs.getD i default) := by unfold skyChk; rw [if_neg h1, if_neg h2]
  rw [he]
  refine summW Tryz.func75 rfl rfl 28 rfl (by simp) (fun M0 => ?_)
  repeat (first
    | (apply s_a TY; exact rfl)
    | (apply s_f; exact rfl; (first | assumption | omega))
    | apply w_seq
    | apply w_region
    | apply s_nil
    | apply t_norm
    | apply w_block
    | apply w_skip
    | (apply w_condF; exact rfl; exact rfl))
  apply w_loop (fun k : Nat => ⟨(Ab.upd (Ab.upd (fun _ => .bot) 1 (.f (.pt [.sl rs.length (intsF rs)] 0))) 4 (.f (iv (k : Nat)))), (fun _ => none), 0⟩) (fun k => k ≤ rs.length ∧ ∀ i, i < k → ringE (rs.getD i default) = 0) (fun k => rs.length - k) 0 (⟨Nat.zero_le _, fun i h => absurd h (Nat.not_lt_zero i)⟩) (gh_le ⟨le_upd rfl trivial (le_upd rfl trivial (le_nil _)), le_h0 _ _⟩)
  intro k ⟨hk, hz⟩
  by_cases hc : k < rs.length
  · have hg := getD_at hc
    by_cases hr : 1 ≤ rs[k] ∧ rs[k] ≤ 12
    · repeat (first
    | (apply s_a TY; exact rfl)
    | (apply s_t; exact rfl; (first | assumption | omega))
    | apply w_seq
    | apply w_region
    | apply s_nil
    | apply t_norm
    | apply k_norm
    | apply w_block
    | apply w_skip
    | (apply w_condT; exact rfl; exact rfl)
    | (apply w_condF; exact rfl; exact rfl)
    | (apply s_k1 (bwithin_T _ _ _); exact rfl; (first | assumption | omega | decide))
    | (apply s_c TY; exact rfl; (first | omega | exact ⟨by omega, by (first | with_reducible assumption | ((with_reducible apply intsF_ne); omega) | assumption)⟩))
    | (apply s_l TY; exact rfl; (first | exact rfl | with_reducible assumption | ((with_reducible apply intsF_at); omega) | assumption)))
      exact ⟨k + 1, ⟨by omega, fun i hi => by
        by_cases e : i = k
        · subst e; rw [hg]; exact ringE_0 hr
        · exact hz i (by omega)⟩, by omega, gh_le ⟨le_upd rfl trivial (le_upd rfl trivial (le_nil _)), le_h0 _ _⟩⟩
    · have h2 : ringE (rs.getD k default) = 2 := by rw [hg]; exact ringE_2 hr
      rw [eachE_at hc hz (by rw [h2]; decide), h2]
      repeat (first
    | (apply s_a TY; exact rfl)
    | (apply s_t; exact rfl; (first | assumption | omega))
    | apply w_seq
    | apply w_region
    | apply s_nil
    | apply t_norm
    | apply t_ret
    | apply k_ret
    | apply w_block
    | apply w_ret
    | apply w_skip
    | (apply w_condT; exact rfl; exact rfl)
    | (apply s_k1 (bwithin_F _ _ _); exact rfl; (first | assumption | omega | decide))
    | (apply s_c TY; exact rfl; (first | omega | exact ⟨by omega, by (first | with_reducible assumption | ((with_reducible apply intsF_ne); omega) | assumption)⟩))
    | (apply s_l TY; exact rfl; (first | exact rfl | with_reducible assumption | ((with_reducible apply intsF_at); omega) | assumption)))
      exact lv_ret (ret2 rfl (res_tmp rfl) (res_tmp rfl))
  · rw [eachE_ok fun i hi => hz i (by omega)]
    repeat (first
    | (apply s_a TY; exact rfl)
    | (apply s_f; exact rfl; (first | assumption | omega))
    | apply w_seq
    | apply w_region
    | apply s_nil
    | apply t_norm
    | apply t_exit
    | apply k_hit
    | apply w_exit
    | apply w_ret
    | (apply w_condF; exact rfl; exact rfl))
    exact lv_ret (ret2 rfl (res_tmp rfl) (res_tmp rfl))
theorem SkyErr_s (rs : List Int) (hl : rs.length ≤ 1000000) : Summ Tryz.prog GG 28 [skF rs] (iv (skyChk rs).2) := by
  refine summW Tryz.func28 rfl rfl 11 rfl (by simp) (fun M0 => ?_)
  repeat (first
    | (apply s_a TY; exact rfl)
    | apply w_seq
    | apply w_region
    | apply s_nil
    | apply t_norm
    | apply w_ret
    | (apply s_k1 (rCheckSky_s _); exact rfl; (first | assumption | omega | decide)))
  exact lv_ret (ret1 rfl (res_tmp rfl))
theorem CopyInts_s (l : List Int) (hl : l.length ≤ 1000000) : Summ Tryz.prog GG 51 [.sl l.length (intsF l)] (.sl l.length (intsF l)) := by
  have hlen := intsF_len l
  refine summW Tryz.func51 rfl rfl 6 rfl (by simp) (fun M0 => ?_)
  repeat (first
    | (apply s_bslice_clip TY; exact rfl; exact rfl; exact rfl; exact rfl; exact rfl; exact rfl)
    | (apply s_append_copy TY; exact rfl; exact rfl; exact rfl; exact rfl; exact rfl; exact rfl; exact rfl; assumption; (unfold maxLen; omega); omega)
    | (apply s_a TY; exact rfl)
    | apply w_seq
    | apply w_region
    | apply s_nil
    | apply t_norm
    | apply w_ret)
  exact lv_ret (ret1 rfl (res_tmp rfl))
theorem CopySky_s (l : List Int) (hl : l.length ≤ 1000000) : Summ Tryz.prog GG 26 [skF l] (skF l) := by
  refine summW Tryz.func26 rfl rfl 7 rfl (by simp) (fun M0 => ?_)
  repeat (first
    | (apply s_boxw; exact rfl; exact rfl; exact rfl; exact rfl)
    | (apply s_a TY; exact rfl)
    | apply w_seq
    | apply w_region
    | apply s_nil
    | apply t_norm
    | apply w_ret
    | (apply s_k1 (CopyInts_s _); exact rfl; (first | assumption | omega | decide))
    | (apply s_alloc TY; exact rfl; exact rfl; exact rfl)
    | (apply s_store TY; exact rfl; exact rfl; exact rfl; exact rfl; exact rfl; exact rfl))
  exact lv_ret (ret1 rfl (res_bxs (sub := [.sl l.length (intsF l)]) TY rfl rfl rfl rfl rfl))
theorem few_T (rs : List Int) (h : rs.length ≤ 10) : Summ Tryz.prog GG 23 [skF rs] (.v (.bool true)) := by
  refine summW Tryz.func23 rfl rfl 7 rfl (by simp) (fun M0 => ?_)
  repeat (first
    | (apply s_a TY; exact rfl)
    | (apply s_f; exact rfl; (first | assumption | omega))
    | apply w_seq
    | apply w_region
    | apply s_nil
    | apply t_norm
    | apply w_ret
    | apply w_skip
    | (apply w_condF; exact rfl; exact rfl))
  exact lv_ret (ret1 rfl (res_tmp rfl))
theorem few_F (rs : List Int) (h : 10 < rs.length) : Summ Tryz.prog GG 23 [skF rs] (.v (.bool false)) := by
  refine summW Tryz.func23 rfl rfl 7 rfl (by simp) (fun M0 => ?_)
  repeat (first
    | (apply s_a TY; exact rfl)
    | (apply s_t; exact rfl; (first | assumption | omega))
    | apply w_seq
    | apply w_region
    | apply s_nil
    | apply t_norm
    | apply t_ret
    | apply w_ret
    | (apply w_condT; exact rfl; exact rfl))
  exact lv_ret (ret1 rfl (res_tmp rfl))
end Go.Proofs.YtenkgipcblfocaaGreat
namespace Go.Proofs.YtenkgipcblfocaaGreat
open Go Go.RowKit Go.Proofs Go.Shelf Go.Ab
theorem take_eq_succ {α : Type} {a b : List α} {k : Nat} (ha : k < a.length) (hb : k < b.length) (ht : a.take k = b.take k) (he : a[k] = b[k]) : a.take (k + 1) = b.take (k + 1) := by
  rw [List.take_succ_eq_append_getElem ha, List.take_succ_eq_append_getElem hb, ht, he]
theorem take_all_eq {α : Type} {a b : List α} {k : Nat} (hl : a.length = b.length) (hk : a.length ≤ k) (ht : a.take k = b.take k) : a = b := by
  rwa [List.take_of_length_le hk, List.take_of_length_le (by omega)] at ht
set_option maxRecDepth 100000 in
set_option maxHeartbeats 1600000 in
theorem Ints_s (a b : List Int) (ha : a.length ≤ 1000000) (_hb : b.length ≤ 1000000) : Summ Tryz.prog GG 46 [.sl a.length (intsF a), .sl b.length (intsF b)] (bv (decide (a = b))) := by
  by_cases hl : a.length = b.length
  · refine summW Tryz.func46 rfl rfl 26 rfl (by simp) (fun M0 => ?_)
    repeat (first
    | (apply s_a TY; exact rfl)
    | (apply s_t; exact rfl; (first | assumption | omega))
    | apply w_seq
    | apply w_region
    | apply s_nil
    | apply t_norm
    | apply w_block
    | apply w_skip
    | (apply w_condF; exact rfl; exact rfl))
    apply w_loop (fun k : Nat => ⟨(Ab.upd (Ab.upd (Ab.upd (fun _ => .bot) 0 (.f (.sl a.length (intsF a)))) 1 (.f (.sl b.length (intsF b)))) 5 (.f (iv (k : Nat)))), (fun _ => none), 0⟩) (fun k => k ≤ a.length ∧ a.take k = b.take k) (fun k => a.length - k) 0 (⟨Nat.zero_le _, by simp⟩) (gh_le ⟨le_upd rfl trivial (le_upd rfl trivial (le_upd rfl trivial (le_nil _))), le_h0 _ _⟩)
    intro k ⟨hk, ht⟩
    by_cases hc : k < a.length
    · have hcb : k < b.length := by omega
      by_cases he : a[k] = b[k]
      · have hd : decide (a[k] = b[k]) = !false := by simp [he]
        repeat (first
    | (apply s_a TY; exact rfl)
    | (apply s_t; exact rfl; (first | assumption | omega))
    | apply w_seq
    | apply w_region
    | (apply w_draw (id := 6) 8 rfl (by kernel_rfl))
    | apply s_nil
    | apply t_norm
    | apply k_norm
    | apply w_block
    | apply w_skip
    | (apply w_condT; exact rfl; exact rfl)
    | (apply w_condF; exact rfl; exact rfl)
    | (apply s_c TY; exact rfl; (first | omega | exact ⟨by omega, by (first | with_reducible assumption | ((with_reducible apply intsF_ne); omega) | assumption)⟩))
    | (apply s_l TY; exact rfl; (first | exact rfl | with_reducible assumption | ((with_reducible apply intsF_at); omega) | assumption)))
        exact ⟨k + 1, ⟨by omega, take_eq_succ hc hcb ht he⟩, by omega, gh_le ⟨le_upd rfl trivial (le_upd rfl trivial (le_upd rfl trivial (le_nil _))), le_h0 _ _⟩⟩
      · have hd : decide (a[k] = b[k]) = !true := by simp [he]
        have hne : ¬ a = b := fun e => he (by simp [e])
        rw [decide_eq_false hne]
        repeat (first
    | (apply s_a TY; exact rfl)
    | (apply s_t; exact rfl; (first | assumption | omega))
    | (apply s_f; exact rfl; (first | assumption | omega))
    | apply w_seq
    | apply w_region
    | (apply w_draw (id := 6) 8 rfl (by kernel_rfl))
    | apply s_nil
    | apply t_norm
    | apply t_ret
    | apply k_ret
    | apply w_block
    | apply w_ret
    | apply w_skip
    | (apply w_condT; exact rfl; exact rfl)
    | (apply s_c TY; exact rfl; (first | omega | exact ⟨by omega, by (first | with_reducible assumption | ((with_reducible apply intsF_ne); omega) | assumption)⟩))
    | (apply s_l TY; exact rfl; (first | exact rfl | with_reducible assumption | ((with_reducible apply intsF_at); omega) | assumption)))
        exact lv_ret (ret1 rfl (res_tmp rfl))
    · rw [decide_eq_true (take_all_eq hl (by omega) ht)]
      repeat (first
    | (apply s_a TY; exact rfl)
    | (apply s_f; exact rfl; (first | assumption | omega))
    | apply w_seq
    | apply w_region
    | apply s_nil
    | apply t_norm
    | apply t_exit
    | apply k_hit
    | apply w_exit
    | apply w_ret
    | (apply w_condF; exact rfl; exact rfl))
      exact lv_ret (ret1 rfl (res_tmp rfl))
  · have hne : ¬ a = b := fun e => hl (by rw [e])
    rw [decide_eq_false hne]
    refine summW Tryz.func46 rfl rfl 26 rfl (by simp) (fun M0 => ?_)
    repeat (first
    | (apply s_a TY; exact rfl)
    | (apply s_f; exact rfl; (first | assumption | omega))
    | apply w_seq
    | apply w_region
    | apply s_nil
    | apply t_norm
    | apply t_ret
    | apply w_ret
    | (apply w_condT; exact rfl; exact rfl))
    exact lv_ret (ret1 rfl (res_tmp rfl))
def hasP (l : List Int) (n : Int) (i : Nat) : Bool := decide (l.getD i default = n)
theorem anyP_has (l : List Int) (n : Int) : anyP l.length (hasP l n) = l.contains n := by
  rw [Bool.eq_iff_iff, anyP_iff]
  unfold hasP
  simp only [decide_eq_true_eq, List.contains_eq_mem]
  constructor
  · rintro ⟨i, hi, rfl⟩; rw [getD_at hi]; exact List.getElem_mem hi
  · intro h
    obtain ⟨i, hi, rfl⟩ := List.getElem_of_mem h
    exact ⟨i, hi, getD_at hi⟩
set_option maxRecDepth 100000 in
theorem Index_s (l : List Int) (n : Int) (hl : l.length ≤ 1000000) : Summ Tryz.prog GG 196 [.sl l.length (intsF l), iv n] (iv (idxP l.length (hasP l n))) := by
  rcases idxP_cases l.length (hasP l n) with ⟨he, hz⟩ | ⟨q, hq, hz, hp, he⟩
  · rw [he]
    refine summW Tryz.func196 rfl rfl 19 rfl (by simp) (fun M0 => ?_)
    repeat (first
    | (apply s_a TY; exact rfl)
    | apply w_seq
    | apply w_region
    | apply s_nil
    | apply t_norm
    | apply w_block)
    apply w_loop (fun k : Nat => ⟨(Ab.upd (Ab.upd (Ab.upd (Ab.upd (fun _ => .bot) 0 (.f (.sl l.length (intsF l)))) 1 (.f (iv n))) 7 (.f (iv l.length))) 8 (.f (iv ((k : Nat) : Int)))), (fun _ => none), 0⟩) (fun k => k ≤ l.length) (fun k => l.length - k) 0 (Nat.zero_le _) (gh_le ⟨le_upd rfl trivial (le_upd rfl trivial (le_upd rfl trivial (le_upd rfl trivial (le_nil _)))), le_h0 _ _⟩)
    intro k hk
    by_cases hc : k < l.length
    · have hne : ¬ l[k] = n := by have := hz k hc; unfold hasP at this; rw [getD_at hc] at this; simpa using this
      repeat (first
    | (apply s_a TY; exact rfl)
    | (apply s_t; exact rfl; (first | assumption | omega))
    | (apply s_f; exact rfl; (first | assumption | omega))
    | apply w_seq
    | apply w_region
    | apply s_nil
    | apply t_norm
    | apply k_norm
    | apply w_block
    | apply w_skip
    | (apply w_condT; exact rfl; exact rfl)
    | (apply w_condF; exact rfl; exact rfl)
    | (apply s_c TY; exact rfl; (first | omega | exact ⟨by omega, by (first | with_reducible assumption | ((with_reducible apply intsF_ne); omega) | assumption)⟩))
    | (apply s_l TY; exact rfl; (first | exact rfl | with_reducible assumption | ((with_reducible apply intsF_at); omega) | assumption)))
      exact ⟨k + 1, by omega, by omega, gh_le ⟨le_upd rfl trivial (le_upd rfl trivial (le_upd rfl trivial (le_upd rfl trivial (le_nil _)))), le_h0 _ _⟩⟩
    · repeat (first
    | (apply s_a TY; exact rfl)
    | (apply s_f; exact rfl; (first | assumption | omega))
    | apply w_seq
    | apply w_region
    | apply s_nil
    | apply t_norm
    | apply t_exit
    | apply k_hit
    | apply w_exit
    | apply w_ret
    | (apply w_condF; exact rfl; exact rfl))
      exact lv_ret (ret1 rfl (res_tmp rfl))
  · rw [he]
    refine summW Tryz.func196 rfl rfl 19 rfl (by simp) (fun M0 => ?_)
    repeat (first
    | (apply s_a TY; exact rfl)
    | apply w_seq
    | apply w_region
    | apply s_nil
    | apply t_norm
    | apply w_block)
    apply w_loop (fun k : Nat => ⟨(Ab.upd (Ab.upd (Ab.upd (Ab.upd (fun _ => .bot) 0 (.f (.sl l.length (intsF l)))) 1 (.f (iv n))) 7 (.f (iv l.length))) 8 (.f (iv ((k : Nat) : Int)))), (fun _ => none), 0⟩) (fun k => k ≤ q) (fun k => q - k) 0 (Nat.zero_le _) (gh_le ⟨le_upd rfl trivial (le_upd rfl trivial (le_upd rfl trivial (le_upd rfl trivial (le_nil _)))), le_h0 _ _⟩)
    intro k hk
    have hc : k < l.length := by omega
    by_cases hkq : k = q
    · have he2 : l[k] = n := by have := hp; unfold hasP at this; rw [← hkq, getD_at hc] at this; simpa using this
      subst hkq
      repeat (first
    | (apply s_a TY; exact rfl)
    | (apply s_t; exact rfl; (first | assumption | omega))
    | apply w_seq
    | apply w_region
    | apply s_nil
    | apply t_norm
    | apply t_ret
    | apply k_ret
    | apply w_block
    | apply w_ret
    | apply w_skip
    | (apply w_condT; exact rfl; exact rfl)
    | (apply s_c TY; exact rfl; (first | omega | exact ⟨by omega, by (first | with_reducible assumption | ((with_reducible apply intsF_ne); omega) | assumption)⟩))
    | (apply s_l TY; exact rfl; (first | exact rfl | with_reducible assumption | ((with_reducible apply intsF_at); omega) | assumption)))
      exact lv_ret (ret1 rfl (res_tmp rfl))
    · have hne : ¬ l[k] = n := by have := hz k (by omega); unfold hasP at this; rw [getD_at hc] at this; simpa using this
      repeat (first
    | (apply s_a TY; exact rfl)
    | (apply s_t; exact rfl; (first | assumption | omega))
    | (apply s_f; exact rfl; (first | assumption | omega))
    | apply w_seq
    | apply w_region
    | apply s_nil
    | apply t_norm
    | apply k_norm
    | apply w_block
    | apply w_skip
    | (apply w_condT; exact rfl; exact rfl)
    | (apply w_condF; exact rfl; exact rfl)
    | (apply s_c TY; exact rfl; (first | omega | exact ⟨by omega, by (first | with_reducible assumption | ((with_reducible apply intsF_ne); omega) | assumption)⟩))
    | (apply s_l TY; exact rfl; (first | exact rfl | with_reducible assumption | ((with_reducible apply intsF_at); omega) | assumption)))
      exact ⟨k + 1, by omega, by omega, gh_le ⟨le_upd rfl trivial (le_upd rfl trivial (le_upd rfl trivial (le_upd rfl trivial (le_nil _)))), le_h0 _ _⟩⟩
set_option maxRecDepth 100000 in
theorem Contains_s (l : List Int) (n : Int) (hl : l.length ≤ 1000000) : Summ Tryz.prog GG 165 [.sl l.length (intsF l), iv n] (bv (l.contains n)) := by
  have HI := Index_s l n hl
  rw [← anyP_has]
  cases ha : anyP l.length (hasP l n) with
  | true =>
    have h0 := (idxP_pos l.length (hasP l n)).2 ha
    refine summW Tryz.func165 rfl rfl 9 rfl (by simp) (fun M0 => ?_)
    repeat (first
    | (apply s_a TY; exact rfl)
    | (apply s_t; exact rfl; (first | assumption | omega))
    | apply w_seq
    | apply w_region
    | apply s_nil
    | apply t_norm
    | apply w_ret
    | (apply s_k (HI); exact rfl))
    exact lv_ret (ret1 rfl (res_tmp rfl))
  | false =>
    have h0 : ¬ 0 ≤ idxP l.length (hasP l n) := fun h => by rw [(idxP_pos l.length (hasP l n)).1 h] at ha; cases ha
    refine summW Tryz.func165 rfl rfl 9 rfl (by simp) (fun M0 => ?_)
    repeat (first
    | (apply s_a TY; exact rfl)
    | (apply s_f; exact rfl; (first | assumption | omega))
    | apply w_seq
    | apply w_region
    | apply s_nil
    | apply t_norm
    | apply w_ret
    | (apply s_k (HI); exact rfl))
    exact lv_ret (ret1 rfl (res_tmp rfl))
set_option maxRecDepth 100000 in
theorem Has_s (l : List Int) (n : Int) (hl : l.length ≤ 1000000) : Summ Tryz.prog GG 52 [.sl l.length (intsF l), iv n] (bv (l.contains n)) := by
  rw [← anyP_has]
  rcases idxP_cases l.length (hasP l n) with ⟨he, hz⟩ | ⟨q, hq, hz, hp, he⟩
  · rw [show anyP l.length (hasP l n) = false from Bool.eq_false_iff.2 fun h => by have := (idxP_pos _ _).2 h; rw [he] at this; omega]
    refine summW Tryz.func52 rfl rfl 18 rfl (by simp) (fun M0 => ?_)
    repeat (first
    | (apply s_a TY; exact rfl)
    | apply w_seq
    | apply w_region
    | apply s_nil
    | apply t_norm
    | apply w_block)
    apply w_loop (fun k : Nat => ⟨(Ab.upd (Ab.upd (Ab.upd (fun _ => .bot) 0 (.f (.sl l.length (intsF l)))) 1 (.f (iv n))) 5 (.f (iv ((k : Nat) : Int)))), (fun _ => none), 0⟩) (fun k => k ≤ l.length) (fun k => l.length - k) 0 (Nat.zero_le _) (gh_le ⟨le_upd rfl trivial (le_upd rfl trivial (le_upd rfl trivial (le_nil _))), le_h0 _ _⟩)
    intro k hk
    by_cases hc : k < l.length
    · have hne : ¬ l[k] = n := by have := hz k hc; unfold hasP at this; rw [getD_at hc] at this; simpa using this
      repeat (first
    | (apply s_a TY; exact rfl)
    | (apply s_t; exact rfl; (first | assumption | omega))
    | (apply s_f; exact rfl; (first | assumption | omega))
    | apply w_seq
    | apply w_region
    | apply s_nil
    | apply t_norm
    | apply k_norm
    | apply w_block
    | apply w_skip
    | (apply w_condT; exact rfl; exact rfl)
    | (apply w_condF; exact rfl; exact rfl)
    | (apply s_c TY; exact rfl; (first | omega | exact ⟨by omega, by (first | with_reducible assumption | ((with_reducible apply intsF_ne); omega) | assumption)⟩))
    | (apply s_l TY; exact rfl; (first | exact rfl | with_reducible assumption | ((with_reducible apply intsF_at); omega) | assumption)))
      exact ⟨k + 1, by omega, by omega, gh_le ⟨le_upd rfl trivial (le_upd rfl trivial (le_upd rfl trivial (le_nil _))), le_h0 _ _⟩⟩
    · repeat (first
    | (apply s_a TY; exact rfl)
    | (apply s_f; exact rfl; (first | assumption | omega))
    | apply w_seq
    | apply w_region
    | apply s_nil
    | apply t_norm
    | apply t_exit
    | apply k_hit
    | apply w_exit
    | apply w_ret
    | (apply w_condF; exact rfl; exact rfl))
      exact lv_ret (ret1 rfl (res_tmp rfl))
  · rw [show anyP l.length (hasP l n) = true from (idxP_pos _ _).1 (by rw [he]; omega)]
    refine summW Tryz.func52 rfl rfl 18 rfl (by simp) (fun M0 => ?_)
    repeat (first
    | (apply s_a TY; exact rfl)
    | apply w_seq
    | apply w_region
    | apply s_nil
    | apply t_norm
    | apply w_block)
    apply w_loop (fun k : Nat => ⟨(Ab.upd (Ab.upd (Ab.upd (fun _ => .bot) 0 (.f (.sl l.length (intsF l)))) 1 (.f (iv n))) 5 (.f (iv ((k : Nat) : Int)))), (fun _ => none), 0⟩) (fun k => k ≤ q) (fun k => q - k) 0 (Nat.zero_le _) (gh_le ⟨le_upd rfl trivial (le_upd rfl trivial (le_upd rfl trivial (le_nil _))), le_h0 _ _⟩)
    intro k hk
    have hc : k < l.length := by omega
    by_cases hkq : k = q
    · have he2 : l[k] = n := by have := hp; unfold hasP at this; rw [← hkq, getD_at hc] at this; simpa using this
      subst hkq
      repeat (first
    | (apply s_a TY; exact rfl)
    | (apply s_t; exact rfl; (first | assumption | omega))
    | apply w_seq
    | apply w_region
    | apply s_nil
    | apply t_norm
    | apply t_ret
    | apply k_ret
    | apply w_block
    | apply w_ret
    | apply w_skip
    | (apply w_condT; exact rfl; exact rfl)
    | (apply s_c TY; exact rfl; (first | omega | exact ⟨by omega, by (first | with_reducible assumption | ((with_reducible apply intsF_ne); omega) | assumption)⟩))
    | (apply s_l TY; exact rfl; (first | exact rfl | with_reducible assumption | ((with_reducible apply intsF_at); omega) | assumption)))
      exact lv_ret (ret1 rfl (res_tmp rfl))
    · have hne : ¬ l[k] = n := by have := hz k (by omega); unfold hasP at this; rw [getD_at hc] at this; simpa using this
      repeat (first
    | (apply s_a TY; exact rfl)
    | (apply s_t; exact rfl; (first | assumption | omega))
    | (apply s_f; exact rfl; (first | assumption | omega))
    | apply w_seq
    | apply w_region
    | apply s_nil
    | apply t_norm
    | apply k_norm
    | apply w_block
    | apply w_skip
    | (apply w_condT; exact rfl; exact rfl)
    | (apply w_condF; exact rfl; exact rfl)
    | (apply s_c TY; exact rfl; (first | omega | exact ⟨by omega, by (first | with_reducible assumption | ((with_reducible apply intsF_ne); omega) | assumption)⟩))
    | (apply s_l TY; exact rfl; (first | exact rfl | with_reducible assumption | ((with_reducible apply intsF_at); omega) | assumption)))
      exact ⟨k + 1, by omega, by omega, gh_le ⟨le_upd rfl trivial (le_upd rfl trivial (le_upd rfl trivial (le_nil _))), le_h0 _ _⟩⟩
def encJ (z : Int) : List Value := [.int .i64 z]
theorem encJ_len : ∀ x, (encJ x).length = 1 := fun _ => rfl
theorem encJ_one (l : List Int) : ∀ u ∈ l.flatMap encJ, u.oneCell' = true := by
  intro u hu
  obtain ⟨z, _, h⟩ := List.mem_flatMap.1 hu
  simp [encJ] at h
  subst h; rfl
theorem infoI : (Tryz.prog.info? 3).map (fun i => (i.zero, i.size, i.bytes)) = some (some (.int .i64 0), 1, 8) := by kernel_rfl
theorem detC_append : ∀ {a b : List FV} {p q : List Value}, detC a = some p → detC b = some q → detC (a ++ b) = some (p ++ q)
  | [], b, p, q, h, h' => by simp [detC] at h; subst h; simpa using h'
  | .v x :: a, b, p, q, h, h' => by
    cases hr : detC a with
    | none => simp [detC, hr] at h
    | some l => simp [detC, hr] at h; subst h; simp [detC, detC_append hr h']
  | .sl _ _ :: _, _, _, _, h, _ => by simp [detC] at h
  | .agg _ :: _, _, _, _, h, _ => by simp [detC] at h
  | .tup _ :: _, _, _, _, h, _ => by simp [detC] at h
  | .pt _ _ :: _, _, _, _, h, _ => by simp [detC] at h
  | .fn _ _ :: _, _, _, _, h, _ => by simp [detC] at h
  | .slc _ _ :: _, _, _, _, h, _ => by simp [detC] at h
  | .mp _ :: _, _, _, _, h, _ => by simp [detC] at h
theorem detC_flat {α : Type} {f : α → List FV} {e : α → List Value} (h : ∀ x, detC (f x) = some (e x)) : ∀ l : List α, detC (l.flatMap f) = some (l.flatMap e)
  | [] => rfl
  | x :: l => by rw [List.flatMap_cons, List.flatMap_cons]; exact detC_append (h x) (detC_flat h l)
theorem detC_ints (l : List Int) : detC (intsF l) = some (l.flatMap encJ) := by
  have := detC_flat (f := fun z => [iv z]) (e := encJ) (fun _ => rfl) l
  rwa [show l.flatMap (fun z => [iv z]) = intsF l by unfold intsF; induction l with | nil => rfl | cons x l ih => rw [List.flatMap_cons, List.map_cons, ih (detC_flat (f := fun z => [iv z]) (e := encJ) (fun _ => rfl) l)]; rfl] at this
theorem rep_row {w : World} {M : Nat → Prop} {v : Value} {n : Nat} {cs : List FV} {us : List Value} (h : RepF w M v (.sl n cs)) (hd : detC cs = some us) : ∃ a c, v = .slice a n c ∧ n ≤ c ∧ Row w a us := by
  cases h with
  | sl a _ c _ vs h1 h2 h3 h4 h5 =>
    have := detC_spec ⟨h2, h5⟩ hd
    subst this
    refine ⟨a, c, rfl, h1, ⟨fun hn => ?_⟩⟩
    obtain ⟨b, off, e, L⟩ := h4 hn
    exact ⟨b, off, e, L.lt, L.at_⟩
theorem repL_det {w : World} {M : Nat → Prop} {us : List Value} : ∀ {cs : List FV}, detC cs = some us → RepL w M us cs
  | [], h => by simp [detC] at h; subst h; exact RepL.nil _ _
  | .v x :: r, h => by
    cases hr : detC r with
    | none => simp [detC, hr] at h
    | some l => simp [detC, hr] at h; subst h; exact RepL.cons (RepF.v x) (repL_det hr)
  | .sl _ _ :: _, h => by simp [detC] at h
  | .agg _ :: _, h => by simp [detC] at h
  | .tup _ :: _, h => by simp [detC] at h
  | .pt _ _ :: _, h => by simp [detC] at h
  | .fn _ _ :: _, h => by simp [detC] at h
  | .slc _ _ :: _, h => by simp [detC] at h
  | .mp _ :: _, h => by simp [detC] at h
theorem own_sl {w w' : World} {M : Nat → Prop} {e sz n : Nat} {v : Value} {us : List Value} {cs : List FV} (own : w'.ownsRow w.heap.size e sz v n us) (one : ∀ u ∈ us, u.oneCell' = true) (hM : ∀ b, M b → b < w.heap.size) (R : RepL w' M us cs) : RepF w' M v (.sl n cs) := by
  rcases own.2 with ⟨h1, h2⟩ | ⟨g, cap, cur, h1, h2, h3, h4, h5, h6, h7⟩
  · subst h1; subst h2
    have hx : us = [] := List.eq_nil_of_length_eq_zero (by rw [own.1]; simp)
    subst hx
    exact RepF.sl none 0 0 cs [] (Nat.le_refl _) R.1 one (fun h => absurd rfl h) (fun k u x h => by simp at h)
  · subst h1
    refine RepF.sl _ n cap cs us h4 R.1 one (fun _ => ⟨g, 0, rfl, (Array.getElem?_eq_some_iff.1 h3).1, fun hm => by have := hM g hm; omega, fun k hk => ?_⟩) R.2
    have := own.cells (g := g) rfl k _ (List.getElem?_eq_getElem hk)
    rw [addr_add, Nat.zero_add] at this
    rw [Nat.zero_add, this, List.getElem?_eq_getElem hk]
set_option maxRecDepth 100000 in
set_option maxHeartbeats 1000000 in
theorem cloneInt (a : Option Addr) (l : List Int) (c : Nat) (w : World) (hr : RowS encJ w a l) (hl : l.length ≤ 1000000) :
    Calls Tryz.prog 149 #[.slice a l.length c] w fun e w' => ∃ a' c', e = .returned (.slice a' l.length c') ∧ w'.ownsRow w.heap.size 3 1 (.slice a' l.length c') l.length (l.flatMap encJ) ∧ Ext w w' := by
  obtain ⟨i0, hi, hz0, hz1, hz2⟩ := info_parts infoI
  have HI := Lib.hid hi
  have HZ0 := Lib.hid hz0
  have HZ1 := Lib.hid hz1
  have HZ2 := Lib.hid hz2
  clear hi hz0 hz1 hz2
  have HR := Lib.hid hr
  clear hr
  have hnil := fun (w : World) (a : Option Addr) (n c : Nat) => Lib.run_eql_slice_nil (P := Tryz.prog) w 34 3 a n c 0 0 Tryz.underlying34
  cases ha : a with
  | none =>
    subst ha
    have hl : l = [] := Classical.byContradiction fun hne => by
      cases l with
      | nil => exact hne rfl
      | cons x l =>
        obtain ⟨_, _, e, _⟩ := HR.out.at_ (by simp [List.flatMap_cons, encJ])
        cases e
    subst hl
    go_enter Tryz.func149, Tryz.ntmps149
    go_wp2_with fail
    go_ret
    exact ⟨none, 0, rfl, World.ownsRow_nil _ _ _ _, Ext.refl _⟩
  | some ad =>
    subst ha
    go_enter Tryz.func149, Tryz.ntmps149
    have hown0 := Lib.hid (World.ownsRow_lit (base := w.heap.size) (size := 1) (e := 3) w #[] 0 (Nat.le_refl _) (by decide) (by simp))
    go_wp2_with (refine wpList_append_row rfl (.tmp 5) (.tmp 6) 34 rfl w.heap.size 3 i0 (.int .i64 0) 1 8 Tryz.underlying34 HI.out HZ0.out HZ1.out HZ2.out rfl (by decide) _ 0 _ rfl hown0.out (some ad) l.length c (l.flatMap encJ) rfl (flatMap_length encJ_len l) (HR.out.ext (Ext.alloc _ _)) (encJ_one l) ?m1 ?m2 ?m3 ?_)
    case m1 => unfold maxLen; omega
    case m2 => omega
    intro v' w1 hown hgrow
    have hx := Lib.hid ((Ext.alloc w _).grown hgrow (fun k e => by simp [Value.ownBlock] at e; omega))
    obtain ⟨a', c', rfl⟩ := hown.isSlice
    have HO := Lib.hid hown
    clear hown hgrow hown0
    go_wp2_with fail
    go_ret
    exact ⟨a', c', rfl, HO.out, hx.out⟩
theorem clone_s (l : List Int) (hl : l.length ≤ 1000000) : Summ Tryz.prog GG 149 [.sl l.length (intsF l)] (.sl l.length (intsF l)) := by
  refine ⟨enters_of Tryz.func149 (by kernel_rfl) rfl, fun w M us hM hG R => ?_⟩
  obtain ⟨u1, us1, rfl, r1, R1⟩ := R.head
  have := R1.end; subst this
  obtain ⟨a, c, rfl, _, rr⟩ := rep_row r1 (detC_ints l)
  exact (cloneInt a l c w rr hl).mono fun e w' ⟨a', c', h1, h2, h3⟩ => ⟨_, h1, own_sl h2 (encJ_one l) hM (repL_det (detC_ints l)), h3⟩
set_option maxRecDepth 100000 in
theorem clip_s (l : List Int) : Summ Tryz.prog GG 166 [.sl l.length (intsF l)] (.slc l.length (intsF l)) := by
  have hlen : (intsF l).length = l.length * 1 := intsF_len l
  refine summW Tryz.func166 rfl rfl 9 rfl (by simp) (fun M0 => ?_)
  repeat (first
    | (apply s_clip TY; exact rfl; exact rfl; exact rfl; exact rfl; exact rfl; exact rfl; exact hlen)
    | (apply s_a TY; exact rfl)
    | apply w_seq
    | apply w_region
    | apply s_nil
    | apply t_norm
    | apply w_ret)
  exact lv_ret (ret1 rfl (res_tmp rfl))
def jobP (x : Job) : Prop := (0 ≤ x.ready ∧ x.ready ≤ 1000000000000) ∧ (0 ≤ x.due ∧ x.due ≤ 1000000000000) ∧ (1 ≤ x.length ∧ x.length ≤ 100000) ∧ (0 ≤ x.rank ∧ x.rank ≤ 100000)
instance (x : Job) : Decidable (jobP x) := by unfold jobP; infer_instance
def jobE (l : List Job) (i : Nat) : Int := if jobP (l.getD i default) then 0 else 2
def jobsChk (l : List Job) : Nat × Int := if 7 < l.length then (0, 8) else eachE l.length (jobE l)
theorem jobE_iff {l : List Job} {i : Nat} : jobE l i = 0 ↔ jobP (l.getD i default) := by unfold jobE; split <;> simp_all
theorem jobsOk_of {l : List Job} (h : (jobsChk l).2 = 0) : JobsOk l := by
  unfold jobsChk at h
  split at h
  · cases h
  rename_i h1
  rcases eachE_cases l.length (jobE l) with ⟨e, hz⟩ | ⟨q, _, _, hne, e⟩
  · exact ⟨by omega, fun i hi => jobE_iff.1 (hz i hi)⟩
  · rw [e] at h; exact absurd h hne
theorem jobsChk_ok {l : List Job} (o : JobsOk l) : jobsChk l = (0, 0) := by
  unfold jobsChk
  have := o.len
  rw [if_neg (by omega)]
  exact eachE_ok fun i hi => jobE_iff.2 (o.job i hi)
theorem tickErr_T (n : Int) (h : 0 ≤ n ∧ n ≤ 1000000000000) : Summ Tryz.prog GG 98 [iv n] (iv 0) := by
  have := tickErr_s n
  rwa [tickE_0 h] at this
theorem tickErr_F (n : Int) (h : ¬ (0 ≤ n ∧ n ≤ 1000000000000)) : Summ Tryz.prog GG 98 [iv n] (iv 2) := by
  have := tickErr_s n
  rwa [tickE_2 h] at this
set_option maxRecDepth 100000 in
set_option maxHeartbeats 1600000 in
theorem CheckJobs_s (l : List Job) (hl : l.length ≤ 1000000) : Summ Tryz.prog GG 56 [.sl l.length (jobsF l)] (.tup [iv (jobsChk l).1, iv (jobsChk l).2]) := by
  by_cases h7 : 7 < l.length
  · rw [show jobsChk l = (0, 8) by unfold jobsChk; rw [if_pos h7]]
    refine summW Tryz.func56 rfl rfl 41 rfl (by simp) (fun M0 => ?_)
    repeat (first
    | (apply s_a TY; exact rfl)
    | (apply s_t; exact rfl; (first | assumption | omega))
    | apply w_seq
    | apply w_region
    | apply s_nil
    | apply t_norm
    | apply t_ret
    | apply w_ret
    | (apply w_condT; exact rfl; exact rfl))
    exact lv_ret (ret2 rfl (res_tmp rfl) (res_tmp rfl))
  rw [show jobsChk l = eachE l.length (jobE l) by unfold jobsChk; rw [if_neg h7]]
  refine summW Tryz.func56 rfl rfl 41 rfl (by simp) (fun M0 => ?_)
  repeat (first
    | (apply s_a TY; exact rfl)
    | (apply s_f; exact rfl; (first | assumption | omega))
    | apply w_seq
    | apply w_region
    | apply s_nil
    | apply t_norm
    | apply w_block
    | apply w_skip
    | (apply w_condF; exact rfl; exact rfl))
  apply w_loop (fun k : Nat => ⟨(Ab.upd (Ab.upd (Ab.upd (fun _ => .bot) 11 (.f (.sl l.length (jobsF l)))) 12 (.f (iv l.length))) 13 (.f (iv (k : Nat)))), (fun _ => none), 0⟩) (fun k => k ≤ l.length ∧ ∀ i, i < k → jobE l i = 0) (fun k => l.length - k) 0 (⟨Nat.zero_le _, fun i h => absurd h (Nat.not_lt_zero i)⟩) (gh_le ⟨le_upd rfl trivial (le_upd rfl trivial (le_upd rfl trivial (le_nil _))), le_h0 _ _⟩)
  intro k ⟨hk, hz⟩
  by_cases hc : k < l.length
  · have hg := getD_at hc
    by_cases h3 : 1 ≤ l[k].length ∧ l[k].length ≤ 100000
    · by_cases h4 : 0 ≤ l[k].rank ∧ l[k].rank ≤ 100000
      · by_cases h1 : 0 ≤ l[k].ready ∧ l[k].ready ≤ 1000000000000
        · by_cases h2 : 0 ≤ l[k].due ∧ l[k].due ≤ 1000000000000
          · have hj : jobE l k = 0 := jobE_iff.2 (by rw [hg]; exact ⟨h1, h2, h3, h4⟩)
            repeat (first
    | (apply s_a TY; exact rfl)
    | (apply s_t; exact rfl; (first | assumption | omega))
    | apply w_seq
    | apply w_region
    | (apply w_draw (id := 7) 7 rfl (by kernel_rfl))
    | apply s_nil
    | apply t_norm
    | apply k_norm
    | apply w_block
    | apply w_skip
    | (apply w_condT; exact rfl; exact rfl)
    | (apply w_condF; exact rfl; exact rfl)
    | (apply s_k1 (tickErr_T _); exact rfl; (first | assumption | omega | decide))
    | (apply s_k1 (first3_2 _ _ _); exact rfl; (first | assumption | omega | decide))
    | (apply s_k (unless_T _); exact rfl)
    | (apply s_k1 (within_T _ _ _); exact rfl; (first | assumption | omega | decide))
    | (apply s_c TY; exact rfl; (first | omega | exact ⟨by omega, by (first | with_reducible assumption | ((with_reducible apply jobsF_ne); omega) | assumption)⟩))
    | (apply s_m TY; exact rfl; (first | with_reducible assumption | ((with_reducible apply jobsF_sub); omega) | exact rfl); exact rfl)
    | (apply s_alloc TY; exact rfl; exact rfl; exact rfl)
    | (apply s_store TY; exact rfl; exact rfl; exact rfl; exact rfl; exact rfl; exact rfl))
            exact ⟨k + 1, ⟨by omega, fun i hi => by
              by_cases e : i = k
              · subst e; exact hj
              · exact hz i (by omega)⟩, by omega, gh_le ⟨le_upd rfl trivial (le_upd rfl trivial (le_upd rfl trivial (le_nil _))), le_h0 _ _⟩⟩
          · have hj : jobE l k = 2 := if_neg (by rw [hg]; exact fun hp => h2 hp.2.1)
            rw [eachE_at hc hz (by rw [hj]; decide), hj]
            repeat (first
    | (apply s_a TY; exact rfl)
    | (apply s_t; exact rfl; (first | assumption | omega))
    | (apply s_f; exact rfl; (first | assumption | omega))
    | apply w_seq
    | apply w_region
    | (apply w_draw (id := 7) 7 rfl (by kernel_rfl))
    | apply s_nil
    | apply t_norm
    | apply t_ret
    | apply k_ret
    | apply w_block
    | apply w_ret
    | apply w_skip
    | (apply w_condT; exact rfl; exact rfl)
    | (apply s_k1 (tickErr_T _); exact rfl; (first | assumption | omega | decide))
    | (apply s_k1 (tickErr_F _); exact rfl; (first | assumption | omega | decide))
    | (apply s_k1 (first3_1 _ _ _); exact rfl; (first | assumption | omega | decide))
    | (apply s_k (unless_T _); exact rfl)
    | (apply s_k1 (within_T _ _ _); exact rfl; (first | assumption | omega | decide))
    | (apply s_c TY; exact rfl; (first | omega | exact ⟨by omega, by (first | with_reducible assumption | ((with_reducible apply jobsF_ne); omega) | assumption)⟩))
    | (apply s_m TY; exact rfl; (first | with_reducible assumption | ((with_reducible apply jobsF_sub); omega) | exact rfl); exact rfl)
    | (apply s_alloc TY; exact rfl; exact rfl; exact rfl)
    | (apply s_store TY; exact rfl; exact rfl; exact rfl; exact rfl; exact rfl; exact rfl))
            exact lv_ret (ret2 rfl (res_tmp rfl) (res_tmp rfl))
        · by_cases h2 : 0 ≤ l[k].due ∧ l[k].due ≤ 1000000000000
          · have hj : jobE l k = 2 := if_neg (by rw [hg]; exact fun hp => h1 hp.1)
            rw [eachE_at hc hz (by rw [hj]; decide), hj]
            repeat (first
    | (apply s_a TY; exact rfl)
    | (apply s_t; exact rfl; (first | assumption | omega))
    | (apply s_f; exact rfl; (first | assumption | omega))
    | apply w_seq
    | apply w_region
    | (apply w_draw (id := 7) 7 rfl (by kernel_rfl))
    | apply s_nil
    | apply t_norm
    | apply t_ret
    | apply k_ret
    | apply w_block
    | apply w_ret
    | apply w_skip
    | (apply w_condT; exact rfl; exact rfl)
    | (apply s_k1 (tickErr_T _); exact rfl; (first | assumption | omega | decide))
    | (apply s_k1 (tickErr_F _); exact rfl; (first | assumption | omega | decide))
    | (apply s_k1 (first3_0 _ _ _); exact rfl; (first | assumption | omega | decide))
    | (apply s_k (unless_T _); exact rfl)
    | (apply s_k1 (within_T _ _ _); exact rfl; (first | assumption | omega | decide))
    | (apply s_c TY; exact rfl; (first | omega | exact ⟨by omega, by (first | with_reducible assumption | ((with_reducible apply jobsF_ne); omega) | assumption)⟩))
    | (apply s_m TY; exact rfl; (first | with_reducible assumption | ((with_reducible apply jobsF_sub); omega) | exact rfl); exact rfl)
    | (apply s_alloc TY; exact rfl; exact rfl; exact rfl)
    | (apply s_store TY; exact rfl; exact rfl; exact rfl; exact rfl; exact rfl; exact rfl))
            exact lv_ret (ret2 rfl (res_tmp rfl) (res_tmp rfl))
          · have hj : jobE l k = 2 := if_neg (by rw [hg]; exact fun hp => h1 hp.1)
            rw [eachE_at hc hz (by rw [hj]; decide), hj]
            repeat (first
    | (apply s_a TY; exact rfl)
    | (apply s_t; exact rfl; (first | assumption | omega))
    | (apply s_f; exact rfl; (first | assumption | omega))
    | apply w_seq
    | apply w_region
    | (apply w_draw (id := 7) 7 rfl (by kernel_rfl))
    | apply s_nil
    | apply t_norm
    | apply t_ret
    | apply k_ret
    | apply w_block
    | apply w_ret
    | apply w_skip
    | (apply w_condT; exact rfl; exact rfl)
    | (apply s_k1 (tickErr_F _); exact rfl; (first | assumption | omega | decide))
    | (apply s_k1 (first3_0 _ _ _); exact rfl; (first | assumption | omega | decide))
    | (apply s_k (unless_T _); exact rfl)
    | (apply s_k1 (within_T _ _ _); exact rfl; (first | assumption | omega | decide))
    | (apply s_c TY; exact rfl; (first | omega | exact ⟨by omega, by (first | with_reducible assumption | ((with_reducible apply jobsF_ne); omega) | assumption)⟩))
    | (apply s_m TY; exact rfl; (first | with_reducible assumption | ((with_reducible apply jobsF_sub); omega) | exact rfl); exact rfl)
    | (apply s_alloc TY; exact rfl; exact rfl; exact rfl)
    | (apply s_store TY; exact rfl; exact rfl; exact rfl; exact rfl; exact rfl; exact rfl))
            exact lv_ret (ret2 rfl (res_tmp rfl) (res_tmp rfl))
      · by_cases h1 : 0 ≤ l[k].ready ∧ l[k].ready ≤ 1000000000000
        · by_cases h2 : 0 ≤ l[k].due ∧ l[k].due ≤ 1000000000000
          · have hj : jobE l k = 2 := if_neg (by rw [hg]; exact fun hp => h4 hp.2.2.2)
            rw [eachE_at hc hz (by rw [hj]; decide), hj]
            repeat (first
    | (apply s_a TY; exact rfl)
    | (apply s_t; exact rfl; (first | assumption | omega))
    | (apply s_f; exact rfl; (first | assumption | omega))
    | apply w_seq
    | apply w_region
    | (apply w_draw (id := 7) 7 rfl (by kernel_rfl))
    | apply s_nil
    | apply t_norm
    | apply t_ret
    | apply k_ret
    | apply w_block
    | apply w_ret
    | apply w_skip
    | (apply w_condT; exact rfl; exact rfl)
    | (apply s_k1 (tickErr_T _); exact rfl; (first | assumption | omega | decide))
    | (apply s_k1 (first3_2 _ _ _); exact rfl; (first | assumption | omega | decide))
    | (apply s_k (unless_F _); exact rfl)
    | (apply s_k1 (within_T _ _ _); exact rfl; (first | assumption | omega | decide))
    | (apply s_k1 (within_F _ _ _); exact rfl; (first | assumption | omega | decide))
    | (apply s_c TY; exact rfl; (first | omega | exact ⟨by omega, by (first | with_reducible assumption | ((with_reducible apply jobsF_ne); omega) | assumption)⟩))
    | (apply s_m TY; exact rfl; (first | with_reducible assumption | ((with_reducible apply jobsF_sub); omega) | exact rfl); exact rfl)
    | (apply s_alloc TY; exact rfl; exact rfl; exact rfl)
    | (apply s_store TY; exact rfl; exact rfl; exact rfl; exact rfl; exact rfl; exact rfl))
            exact lv_ret (ret2 rfl (res_tmp rfl) (res_tmp rfl))
          · have hj : jobE l k = 2 := if_neg (by rw [hg]; exact fun hp => h4 hp.2.2.2)
            rw [eachE_at hc hz (by rw [hj]; decide), hj]
            repeat (first
    | (apply s_a TY; exact rfl)
    | (apply s_t; exact rfl; (first | assumption | omega))
    | (apply s_f; exact rfl; (first | assumption | omega))
    | apply w_seq
    | apply w_region
    | (apply w_draw (id := 7) 7 rfl (by kernel_rfl))
    | apply s_nil
    | apply t_norm
    | apply t_ret
    | apply k_ret
    | apply w_block
    | apply w_ret
    | apply w_skip
    | (apply w_condT; exact rfl; exact rfl)
    | (apply s_k1 (tickErr_T _); exact rfl; (first | assumption | omega | decide))
    | (apply s_k1 (tickErr_F _); exact rfl; (first | assumption | omega | decide))
    | (apply s_k1 (first3_1 _ _ _); exact rfl; (first | assumption | omega | decide))
    | (apply s_k (unless_F _); exact rfl)
    | (apply s_k1 (within_T _ _ _); exact rfl; (first | assumption | omega | decide))
    | (apply s_k1 (within_F _ _ _); exact rfl; (first | assumption | omega | decide))
    | (apply s_c TY; exact rfl; (first | omega | exact ⟨by omega, by (first | with_reducible assumption | ((with_reducible apply jobsF_ne); omega) | assumption)⟩))
    | (apply s_m TY; exact rfl; (first | with_reducible assumption | ((with_reducible apply jobsF_sub); omega) | exact rfl); exact rfl)
    | (apply s_alloc TY; exact rfl; exact rfl; exact rfl)
    | (apply s_store TY; exact rfl; exact rfl; exact rfl; exact rfl; exact rfl; exact rfl))
            exact lv_ret (ret2 rfl (res_tmp rfl) (res_tmp rfl))
        · by_cases h2 : 0 ≤ l[k].due ∧ l[k].due ≤ 1000000000000
          · have hj : jobE l k = 2 := if_neg (by rw [hg]; exact fun hp => h4 hp.2.2.2)
            rw [eachE_at hc hz (by rw [hj]; decide), hj]
            repeat (first
    | (apply s_a TY; exact rfl)
    | (apply s_t; exact rfl; (first | assumption | omega))
    | (apply s_f; exact rfl; (first | assumption | omega))
    | apply w_seq
    | apply w_region
    | (apply w_draw (id := 7) 7 rfl (by kernel_rfl))
    | apply s_nil
    | apply t_norm
    | apply t_ret
    | apply k_ret
    | apply w_block
    | apply w_ret
    | apply w_skip
    | (apply w_condT; exact rfl; exact rfl)
    | (apply s_k1 (tickErr_T _); exact rfl; (first | assumption | omega | decide))
    | (apply s_k1 (tickErr_F _); exact rfl; (first | assumption | omega | decide))
    | (apply s_k1 (first3_0 _ _ _); exact rfl; (first | assumption | omega | decide))
    | (apply s_k (unless_F _); exact rfl)
    | (apply s_k1 (within_T _ _ _); exact rfl; (first | assumption | omega | decide))
    | (apply s_k1 (within_F _ _ _); exact rfl; (first | assumption | omega | decide))
    | (apply s_c TY; exact rfl; (first | omega | exact ⟨by omega, by (first | with_reducible assumption | ((with_reducible apply jobsF_ne); omega) | assumption)⟩))
    | (apply s_m TY; exact rfl; (first | with_reducible assumption | ((with_reducible apply jobsF_sub); omega) | exact rfl); exact rfl)
    | (apply s_alloc TY; exact rfl; exact rfl; exact rfl)
    | (apply s_store TY; exact rfl; exact rfl; exact rfl; exact rfl; exact rfl; exact rfl))
            exact lv_ret (ret2 rfl (res_tmp rfl) (res_tmp rfl))
          · have hj : jobE l k = 2 := if_neg (by rw [hg]; exact fun hp => h4 hp.2.2.2)
            rw [eachE_at hc hz (by rw [hj]; decide), hj]
            repeat (first
    | (apply s_a TY; exact rfl)
    | (apply s_t; exact rfl; (first | assumption | omega))
    | (apply s_f; exact rfl; (first | assumption | omega))
    | apply w_seq
    | apply w_region
    | (apply w_draw (id := 7) 7 rfl (by kernel_rfl))
    | apply s_nil
    | apply t_norm
    | apply t_ret
    | apply k_ret
    | apply w_block
    | apply w_ret
    | apply w_skip
    | (apply w_condT; exact rfl; exact rfl)
    | (apply s_k1 (tickErr_F _); exact rfl; (first | assumption | omega | decide))
    | (apply s_k1 (first3_0 _ _ _); exact rfl; (first | assumption | omega | decide))
    | (apply s_k (unless_F _); exact rfl)
    | (apply s_k1 (within_T _ _ _); exact rfl; (first | assumption | omega | decide))
    | (apply s_k1 (within_F _ _ _); exact rfl; (first | assumption | omega | decide))
    | (apply s_c TY; exact rfl; (first | omega | exact ⟨by omega, by (first | with_reducible assumption | ((with_reducible apply jobsF_ne); omega) | assumption)⟩))
    | (apply s_m TY; exact rfl; (first | with_reducible assumption | ((with_reducible apply jobsF_sub); omega) | exact rfl); exact rfl)
    | (apply s_alloc TY; exact rfl; exact rfl; exact rfl)
    | (apply s_store TY; exact rfl; exact rfl; exact rfl; exact rfl; exact rfl; exact rfl))
            exact lv_ret (ret2 rfl (res_tmp rfl) (res_tmp rfl))
    · by_cases h1 : 0 ≤ l[k].ready ∧ l[k].ready ≤ 1000000000000
      · by_cases h2 : 0 ≤ l[k].due ∧ l[k].due ≤ 1000000000000
        · have hj : jobE l k = 2 := if_neg (by rw [hg]; exact fun hp => h3 hp.2.2.1)
          rw [eachE_at hc hz (by rw [hj]; decide), hj]
          repeat (first
    | (apply s_a TY; exact rfl)
    | (apply s_t; exact rfl; (first | assumption | omega))
    | (apply s_f; exact rfl; (first | assumption | omega))
    | apply w_seq
    | apply w_region
    | (apply w_draw (id := 7) 7 rfl (by kernel_rfl))
    | apply s_nil
    | apply t_norm
    | apply t_ret
    | apply k_ret
    | apply w_block
    | apply w_ret
    | apply w_skip
    | (apply w_condT; exact rfl; exact rfl)
    | (apply s_k1 (tickErr_T _); exact rfl; (first | assumption | omega | decide))
    | (apply s_k1 (first3_2 _ _ _); exact rfl; (first | assumption | omega | decide))
    | (apply s_k (unless_F _); exact rfl)
    | (apply s_k1 (within_F _ _ _); exact rfl; (first | assumption | omega | decide))
    | (apply s_s; exact rfl)
    | (apply s_c TY; exact rfl; (first | omega | exact ⟨by omega, by (first | with_reducible assumption | ((with_reducible apply jobsF_ne); omega) | assumption)⟩))
    | (apply s_m TY; exact rfl; (first | with_reducible assumption | ((with_reducible apply jobsF_sub); omega) | exact rfl); exact rfl)
    | (apply s_alloc TY; exact rfl; exact rfl; exact rfl)
    | (apply s_store TY; exact rfl; exact rfl; exact rfl; exact rfl; exact rfl; exact rfl))
          exact lv_ret (ret2 rfl (res_tmp rfl) (res_tmp rfl))
        · have hj : jobE l k = 2 := if_neg (by rw [hg]; exact fun hp => h3 hp.2.2.1)
          rw [eachE_at hc hz (by rw [hj]; decide), hj]
          repeat (first
    | (apply s_a TY; exact rfl)
    | (apply s_t; exact rfl; (first | assumption | omega))
    | (apply s_f; exact rfl; (first | assumption | omega))
    | apply w_seq
    | apply w_region
    | (apply w_draw (id := 7) 7 rfl (by kernel_rfl))
    | apply s_nil
    | apply t_norm
    | apply t_ret
    | apply k_ret
    | apply w_block
    | apply w_ret
    | apply w_skip
    | (apply w_condT; exact rfl; exact rfl)
    | (apply s_k1 (tickErr_T _); exact rfl; (first | assumption | omega | decide))
    | (apply s_k1 (tickErr_F _); exact rfl; (first | assumption | omega | decide))
    | (apply s_k1 (first3_1 _ _ _); exact rfl; (first | assumption | omega | decide))
    | (apply s_k (unless_F _); exact rfl)
    | (apply s_k1 (within_F _ _ _); exact rfl; (first | assumption | omega | decide))
    | (apply s_s; exact rfl)
    | (apply s_c TY; exact rfl; (first | omega | exact ⟨by omega, by (first | with_reducible assumption | ((with_reducible apply jobsF_ne); omega) | assumption)⟩))
    | (apply s_m TY; exact rfl; (first | with_reducible assumption | ((with_reducible apply jobsF_sub); omega) | exact rfl); exact rfl)
    | (apply s_alloc TY; exact rfl; exact rfl; exact rfl)
    | (apply s_store TY; exact rfl; exact rfl; exact rfl; exact rfl; exact rfl; exact rfl))
          exact lv_ret (ret2 rfl (res_tmp rfl) (res_tmp rfl))
      · by_cases h2 : 0 ≤ l[k].due ∧ l[k].due ≤ 1000000000000
        · have hj : jobE l k = 2 := if_neg (by rw [hg]; exact fun hp => h3 hp.2.2.1)
          rw [eachE_at hc hz (by rw [hj]; decide), hj]
          repeat (first
    | (apply s_a TY; exact rfl)
    | (apply s_t; exact rfl; (first | assumption | omega))
    | (apply s_f; exact rfl; (first | assumption | omega))
    | apply w_seq
    | apply w_region
    | (apply w_draw (id := 7) 7 rfl (by kernel_rfl))
    | apply s_nil
    | apply t_norm
    | apply t_ret
    | apply k_ret
    | apply w_block
    | apply w_ret
    | apply w_skip
    | (apply w_condT; exact rfl; exact rfl)
    | (apply s_k1 (tickErr_T _); exact rfl; (first | assumption | omega | decide))
    | (apply s_k1 (tickErr_F _); exact rfl; (first | assumption | omega | decide))
    | (apply s_k1 (first3_0 _ _ _); exact rfl; (first | assumption | omega | decide))
    | (apply s_k (unless_F _); exact rfl)
    | (apply s_k1 (within_F _ _ _); exact rfl; (first | assumption | omega | decide))
    | (apply s_s; exact rfl)
    | (apply s_c TY; exact rfl; (first | omega | exact ⟨by omega, by (first | with_reducible assumption | ((with_reducible apply jobsF_ne); omega) | assumption)⟩))
    | (apply s_m TY; exact rfl; (first | with_reducible assumption | ((with_reducible apply jobsF_sub); omega) | exact rfl); exact rfl)
    | (apply s_alloc TY; exact rfl; exact rfl; exact rfl)
    | (apply s_store TY; exact rfl; exact rfl; exact rfl; exact rfl; exact rfl; exact rfl))
          exact lv_ret (ret2 rfl (res_tmp rfl) (res_tmp rfl))
        · have hj : jobE l k = 2 := if_neg (by rw [hg]; exact fun hp => h3 hp.2.2.1)
          rw [eachE_at hc hz (by rw [hj]; decide), hj]
          repeat (first
    | (apply s_a TY; exact rfl)
    | (apply s_t; exact rfl; (first | assumption | omega))
    | (apply s_f; exact rfl; (first | assumption | omega))
    | apply w_seq
    | apply w_region
    | (apply w_draw (id := 7) 7 rfl (by kernel_rfl))
    | apply s_nil
    | apply t_norm
    | apply t_ret
    | apply k_ret
    | apply w_block
    | apply w_ret
    | apply w_skip
    | (apply w_condT; exact rfl; exact rfl)
    | (apply s_k1 (tickErr_F _); exact rfl; (first | assumption | omega | decide))
    | (apply s_k1 (first3_0 _ _ _); exact rfl; (first | assumption | omega | decide))
    | (apply s_k (unless_F _); exact rfl)
    | (apply s_k1 (within_F _ _ _); exact rfl; (first | assumption | omega | decide))
    | (apply s_s; exact rfl)
    | (apply s_c TY; exact rfl; (first | omega | exact ⟨by omega, by (first | with_reducible assumption | ((with_reducible apply jobsF_ne); omega) | assumption)⟩))
    | (apply s_m TY; exact rfl; (first | with_reducible assumption | ((with_reducible apply jobsF_sub); omega) | exact rfl); exact rfl)
    | (apply s_alloc TY; exact rfl; exact rfl; exact rfl)
    | (apply s_store TY; exact rfl; exact rfl; exact rfl; exact rfl; exact rfl; exact rfl))
          exact lv_ret (ret2 rfl (res_tmp rfl) (res_tmp rfl))
  · rw [eachE_ok fun i hi => hz i (by omega)]
    repeat (first
    | (apply s_a TY; exact rfl)
    | (apply s_f; exact rfl; (first | assumption | omega))
    | apply w_seq
    | apply w_region
    | apply s_nil
    | apply t_norm
    | apply t_exit
    | apply k_hit
    | apply w_exit
    | apply w_ret
    | (apply w_condF; exact rfl; exact rfl))
    exact lv_ret (ret2 rfl (res_tmp rfl) (res_tmp rfl))
def ordF : Option (List Int) → FV
  | some o => .sl o.length (intsF o)
  | none => .v (.slice none 0 0)
theorem onT_zero {l : List Job} {o : List Int} {now : Int} (h : o.length = l.length) (f : Nat) : onT l f o now = some o := by
  cases f <;> (rw [onT]; rw [if_pos h])
theorem jobA_at {l : List Job} {k : Nat} (h : k < l.length) : jobA l ((k : Nat) : Int) = l[k] := by unfold jobA; rw [Int.toNat_natCast, getD_at h]
theorem onT_step {l : List Job} {o : List Int} {now : Int} {f : Nat} (h : ¬ o.length = l.length) : onT l (f + 1) o now = firstS (fun i => if (i : Int) ∈ o ∨ (jobA l i).due < endT l now i then none else onT l f (o ++ [(i : Int)]) (endT l now i)) l.length := by
  rw [onT, if_neg h]
set_option maxRecDepth 100000 in
set_option maxHeartbeats 3200000 in
theorem onTime_s (l : List Job) (ok : JobsOk l) : ∀ (f : Nat) (o : List Int) (now : Int), o.length + f = l.length → 0 ≤ now ∧ now ≤ 1000000000000 + 100000 * (o.length : Int) → Summ Tryz.prog GG 123 [.sl l.length (jobsF l), .sl o.length (intsF o), iv now] (.tup [ordF (onT l f o now), bv (onT l f o now).isSome])
  | 0, o, now, hf, hn => by
    have hlen := ok.len
    have hol : o.length = l.length := by omega
    have HCl := clone_s o (by omega)
    rw [onT_zero hol]
    refine summW Tryz.func123 rfl rfl 57 rfl (by simp) (fun M0 => ?_)
    repeat (first
    | (apply s_a TY; exact rfl)
    | (apply s_t; exact rfl; (first | assumption | omega))
    | apply w_seq
    | apply w_region
    | apply s_nil
    | apply t_norm
    | apply t_ret
    | apply w_ret
    | (apply w_condT; exact rfl; exact rfl)
    | (apply s_k (HCl); exact rfl))
    exact lv_ret (ret2 rfl (res_tmp rfl) (res_tmp rfl))
  | f + 1, o, now, hf, hn => by
    have hlen := ok.len
    have hol : ¬ o.length = l.length := by omega
    have hsl : (intsF o).length = o.length * 1 := intsF_len o
    have HCl := clip_s o
    rw [onT_step hol]
    rcases hfs : firstS (fun i => if (i : Int) ∈ o ∨ (jobA l i).due < endT l now i then none else onT l f (o ++ [(i : Int)]) (endT l now i)) l.length with _ | x
    · have hnone := firstS_none.1 hfs
      refine summW Tryz.func123 rfl rfl 57 rfl (by simp) (fun M0 => ?_)
      repeat (first
    | (apply s_a TY; exact rfl)
    | (apply s_f; exact rfl; (first | assumption | omega))
    | apply w_seq
    | apply w_region
    | apply s_nil
    | apply t_norm
    | apply w_block
    | apply w_skip
    | (apply w_condF; exact rfl; exact rfl))
      apply w_loop (fun k : Nat => ⟨(Ab.upd (Ab.upd (Ab.upd (Ab.upd (Ab.upd (Ab.upd (fun _ => .bot) 0 (.f (.sl l.length (jobsF l)))) 1 (.f (.sl o.length (intsF o)))) 2 (.f (iv now))) 20 (.f (.sl l.length (jobsF l)))) 21 (.f (iv l.length))) 22 (.f (iv (k : Nat)))), (fun _ => none), 0⟩) (fun k => k ≤ l.length) (fun k => l.length - k) 0 (Nat.zero_le _) (gh_le ⟨le_upd rfl trivial (le_upd rfl trivial (le_upd rfl trivial (le_upd rfl trivial (le_upd rfl trivial (le_upd rfl trivial (le_nil _)))))), le_h0 _ _⟩)
      intro k hk
      by_cases hc : k < l.length
      · have hjb := ok.job k hc
        have hkn := hnone k hc
        have hja := jobA_at hc
        rw [getD_at hc] at hjb
        have HCo := Contains_s o (k : Nat) (by omega)
        unfold endT at hkn
        rw [hja] at hkn
        by_cases hm : ((k : Nat) : Int) ∈ o
        · rw [show o.contains ((k : Nat) : Int) = true by simpa using hm] at HCo
          repeat (first
    | (apply s_a TY; exact rfl)
    | (apply s_t; exact rfl; (first | assumption | omega))
    | apply w_seq
    | apply w_region
    | apply s_nil
    | apply t_norm
    | apply t_exit
    | apply k_hit
    | apply w_block
    | apply w_exit
    | apply w_skip
    | (apply w_condT; exact rfl; exact rfl)
    | (apply s_k (HCo); exact rfl)
    | (apply s_s; exact rfl)
    | (apply s_c TY; exact rfl; (first | omega | exact ⟨by omega, by (first | with_reducible assumption | ((with_reducible apply jobsF_ne); omega) | assumption)⟩))
    | (apply s_m TY; exact rfl; (first | with_reducible assumption | ((with_reducible apply jobsF_sub); omega) | exact rfl); exact rfl)
    | (apply s_alloc TY; exact rfl; exact rfl; exact rfl)
    | (apply s_store TY; exact rfl; exact rfl; exact rfl; exact rfl; exact rfl; exact rfl))
          exact ⟨k + 1, by omega, by omega, gh_le ⟨le_upd rfl trivial (le_upd rfl trivial (le_upd rfl trivial (le_upd rfl trivial (le_upd rfl trivial (le_upd rfl trivial (le_nil _)))))), le_h0 _ _⟩⟩
        · rw [show o.contains ((k : Nat) : Int) = false by simpa using hm] at HCo
          by_cases hd : l[k].due < max now l[k].ready + l[k].length
          · repeat (first
    | (apply s_a TY; exact rfl)
    | (apply s_t; exact rfl; (first | assumption | omega))
    | apply w_seq
    | apply w_region
    | apply s_nil
    | apply t_norm
    | apply t_exit
    | apply k_hit
    | apply w_block
    | apply w_exit
    | apply w_skip
    | (apply w_condT; exact rfl; exact rfl)
    | (apply s_k (HCo); exact rfl)
    | (apply s_c TY; exact rfl; (first | omega | exact ⟨by omega, by (first | with_reducible assumption | ((with_reducible apply jobsF_ne); omega) | assumption)⟩))
    | (apply s_m TY; exact rfl; (first | with_reducible assumption | ((with_reducible apply jobsF_sub); omega) | exact rfl); exact rfl)
    | (apply s_alloc TY; exact rfl; exact rfl; exact rfl)
    | (apply s_store TY; exact rfl; exact rfl; exact rfl; exact rfl; exact rfl; exact rfl))
            exact ⟨k + 1, by omega, by omega, gh_le ⟨le_upd rfl trivial (le_upd rfl trivial (le_upd rfl trivial (le_upd rfl trivial (le_upd rfl trivial (le_upd rfl trivial (le_nil _)))))), le_h0 _ _⟩⟩
          · rw [if_neg (by simp only [not_or]; exact ⟨hm, hd⟩)] at hkn
            have IH := onTime_s l ok f (o ++ [((k : Nat) : Int)]) (max now l[k].ready + l[k].length) (by rw [List.length_append, List.length_singleton]; omega) (by rw [List.length_append, List.length_singleton]; omega)
            rw [hkn, List.length_append, List.length_singleton, intsF_snoc] at IH
            repeat (first
    | (apply s_append_cl TY; exact rfl; exact rfl; exact rfl; exact rfl; exact rfl; exact rfl; exact rfl; exact hsl; exact rfl; (unfold maxLen; omega); omega)
    | (apply s_assign_f; exact rfl; exact rfl)
    | (apply s_a TY; exact rfl)
    | (apply s_t; exact rfl; (first | assumption | omega))
    | (apply s_f; exact rfl; (first | assumption | omega))
    | apply w_seq
    | apply w_region
    | apply s_nil
    | apply t_norm
    | apply k_norm
    | apply w_block
    | apply w_skip
    | (apply w_condT; exact rfl; exact rfl)
    | (apply w_condF; exact rfl; exact rfl)
    | (apply s_k (HCo); exact rfl)
    | (apply s_k (HCl); exact rfl)
    | (apply s_k (IH); exact rfl)
    | (apply s_c TY; exact rfl; (first | omega | exact ⟨by omega, by (first | with_reducible assumption | ((with_reducible apply jobsF_ne); omega) | assumption)⟩))
    | (apply s_m TY; exact rfl; (first | with_reducible assumption | ((with_reducible apply jobsF_sub); omega) | exact rfl); exact rfl)
    | (apply s_alloc TY; exact rfl; exact rfl; exact rfl)
    | (apply s_store TY; exact rfl; exact rfl; exact rfl; exact rfl; exact rfl; exact rfl))
            exact ⟨k + 1, by omega, by omega, gh_le ⟨le_upd rfl trivial (le_upd rfl trivial (le_upd rfl trivial (le_upd rfl trivial (le_upd rfl trivial (le_upd rfl trivial (le_nil _)))))), le_h0 _ _⟩⟩
      · repeat (first
    | (apply s_a TY; exact rfl)
    | (apply s_f; exact rfl; (first | assumption | omega))
    | apply w_seq
    | apply w_region
    | apply s_nil
    | apply t_norm
    | apply t_exit
    | apply k_hit
    | apply w_exit
    | apply w_ret
    | (apply w_condF; exact rfl; exact rfl))
        exact lv_ret (ret2 rfl (res_tmp rfl) (res_tmp rfl))
    · obtain ⟨q, hq, hqx, hqn⟩ := firstS_some hfs
      refine summW Tryz.func123 rfl rfl 57 rfl (by simp) (fun M0 => ?_)
      repeat (first
    | (apply s_a TY; exact rfl)
    | (apply s_f; exact rfl; (first | assumption | omega))
    | apply w_seq
    | apply w_region
    | apply s_nil
    | apply t_norm
    | apply w_block
    | apply w_skip
    | (apply w_condF; exact rfl; exact rfl))
      apply w_loop (fun k : Nat => ⟨(Ab.upd (Ab.upd (Ab.upd (Ab.upd (Ab.upd (Ab.upd (fun _ => .bot) 0 (.f (.sl l.length (jobsF l)))) 1 (.f (.sl o.length (intsF o)))) 2 (.f (iv now))) 20 (.f (.sl l.length (jobsF l)))) 21 (.f (iv l.length))) 22 (.f (iv (k : Nat)))), (fun _ => none), 0⟩) (fun k => k ≤ q) (fun k => q - k) 0 (Nat.zero_le _) (gh_le ⟨le_upd rfl trivial (le_upd rfl trivial (le_upd rfl trivial (le_upd rfl trivial (le_upd rfl trivial (le_upd rfl trivial (le_nil _)))))), le_h0 _ _⟩)
      intro k hk
      have hc : k < l.length := by omega
      have hjb := ok.job k hc
      have hja := jobA_at hc
      rw [getD_at hc] at hjb
      have HCo := Contains_s o (k : Nat) (by omega)
      by_cases hkq : k = q
      · subst hkq
        unfold endT at hqx
        rw [hja] at hqx
        by_cases hm : ((k : Nat) : Int) ∈ o
        · rw [if_pos (.inl hm)] at hqx; cases hqx
        by_cases hd : l[k].due < max now l[k].ready + l[k].length
        · rw [if_pos (.inr hd)] at hqx; cases hqx
        rw [if_neg (by simp only [not_or]; exact ⟨hm, hd⟩)] at hqx
        rw [show o.contains ((k : Nat) : Int) = false by simpa using hm] at HCo
        have IH := onTime_s l ok f (o ++ [((k : Nat) : Int)]) (max now l[k].ready + l[k].length) (by rw [List.length_append, List.length_singleton]; omega) (by rw [List.length_append, List.length_singleton]; omega)
        rw [hqx, List.length_append, List.length_singleton, intsF_snoc] at IH
        repeat (first
    | (apply s_append_cl TY; exact rfl; exact rfl; exact rfl; exact rfl; exact rfl; exact rfl; exact rfl; exact hsl; exact rfl; (unfold maxLen; omega); omega)
    | (apply s_assign_f; exact rfl; exact rfl)
    | (apply s_a TY; exact rfl)
    | (apply s_t; exact rfl; (first | assumption | omega))
    | (apply s_f; exact rfl; (first | assumption | omega))
    | apply w_seq
    | apply w_region
    | apply s_nil
    | apply t_norm
    | apply t_ret
    | apply k_ret
    | apply w_block
    | apply w_ret
    | apply w_skip
    | (apply w_condT; exact rfl; exact rfl)
    | (apply w_condF; exact rfl; exact rfl)
    | (apply s_k (HCo); exact rfl)
    | (apply s_k (HCl); exact rfl)
    | (apply s_k (IH); exact rfl)
    | (apply s_c TY; exact rfl; (first | omega | exact ⟨by omega, by (first | with_reducible assumption | ((with_reducible apply jobsF_ne); omega) | assumption)⟩))
    | (apply s_m TY; exact rfl; (first | with_reducible assumption | ((with_reducible apply jobsF_sub); omega) | exact rfl); exact rfl)
    | (apply s_alloc TY; exact rfl; exact rfl; exact rfl)
    | (apply s_store TY; exact rfl; exact rfl; exact rfl; exact rfl; exact rfl; exact rfl))
        exact lv_ret (ret2 rfl (res_tmp rfl) (res_tmp rfl))
      · have hkn := hqn k (by omega)
        unfold endT at hkn
        rw [hja] at hkn
        by_cases hm : ((k : Nat) : Int) ∈ o
        · rw [show o.contains ((k : Nat) : Int) = true by simpa using hm] at HCo
          repeat (first
    | (apply s_a TY; exact rfl)
    | (apply s_t; exact rfl; (first | assumption | omega))
    | apply w_seq
    | apply w_region
    | apply s_nil
    | apply t_norm
    | apply t_exit
    | apply k_hit
    | apply w_block
    | apply w_exit
    | apply w_skip
    | (apply w_condT; exact rfl; exact rfl)
    | (apply s_k (HCo); exact rfl)
    | (apply s_s; exact rfl)
    | (apply s_c TY; exact rfl; (first | omega | exact ⟨by omega, by (first | with_reducible assumption | ((with_reducible apply jobsF_ne); omega) | assumption)⟩))
    | (apply s_m TY; exact rfl; (first | with_reducible assumption | ((with_reducible apply jobsF_sub); omega) | exact rfl); exact rfl)
    | (apply s_alloc TY; exact rfl; exact rfl; exact rfl)
    | (apply s_store TY; exact rfl; exact rfl; exact rfl; exact rfl; exact rfl; exact rfl))
          exact ⟨k + 1, by omega, by omega, gh_le ⟨le_upd rfl trivial (le_upd rfl trivial (le_upd rfl trivial (le_upd rfl trivial (le_upd rfl trivial (le_upd rfl trivial (le_nil _)))))), le_h0 _ _⟩⟩
        · rw [show o.contains ((k : Nat) : Int) = false by simpa using hm] at HCo
          by_cases hd : l[k].due < max now l[k].ready + l[k].length
          · repeat (first
    | (apply s_a TY; exact rfl)
    | (apply s_t; exact rfl; (first | assumption | omega))
    | apply w_seq
    | apply w_region
    | apply s_nil
    | apply t_norm
    | apply t_exit
    | apply k_hit
    | apply w_block
    | apply w_exit
    | apply w_skip
    | (apply w_condT; exact rfl; exact rfl)
    | (apply s_k (HCo); exact rfl)
    | (apply s_c TY; exact rfl; (first | omega | exact ⟨by omega, by (first | with_reducible assumption | ((with_reducible apply jobsF_ne); omega) | assumption)⟩))
    | (apply s_m TY; exact rfl; (first | with_reducible assumption | ((with_reducible apply jobsF_sub); omega) | exact rfl); exact rfl)
    | (apply s_alloc TY; exact rfl; exact rfl; exact rfl)
    | (apply s_store TY; exact rfl; exact rfl; exact rfl; exact rfl; exact rfl; exact rfl))
            exact ⟨k + 1, by omega, by omega, gh_le ⟨le_upd rfl trivial (le_upd rfl trivial (le_upd rfl trivial (le_upd rfl trivial (le_upd rfl trivial (le_upd rfl trivial (le_nil _)))))), le_h0 _ _⟩⟩
          · rw [if_neg (by simp only [not_or]; exact ⟨hm, hd⟩)] at hkn
            have IH := onTime_s l ok f (o ++ [((k : Nat) : Int)]) (max now l[k].ready + l[k].length) (by rw [List.length_append, List.length_singleton]; omega) (by rw [List.length_append, List.length_singleton]; omega)
            rw [hkn, List.length_append, List.length_singleton, intsF_snoc] at IH
            repeat (first
    | (apply s_append_cl TY; exact rfl; exact rfl; exact rfl; exact rfl; exact rfl; exact rfl; exact rfl; exact hsl; exact rfl; (unfold maxLen; omega); omega)
    | (apply s_assign_f; exact rfl; exact rfl)
    | (apply s_a TY; exact rfl)
    | (apply s_t; exact rfl; (first | assumption | omega))
    | (apply s_f; exact rfl; (first | assumption | omega))
    | apply w_seq
    | apply w_region
    | apply s_nil
    | apply t_norm
    | apply k_norm
    | apply w_block
    | apply w_skip
    | (apply w_condT; exact rfl; exact rfl)
    | (apply w_condF; exact rfl; exact rfl)
    | (apply s_k (HCo); exact rfl)
    | (apply s_k (HCl); exact rfl)
    | (apply s_k (IH); exact rfl)
    | (apply s_c TY; exact rfl; (first | omega | exact ⟨by omega, by (first | with_reducible assumption | ((with_reducible apply jobsF_ne); omega) | assumption)⟩))
    | (apply s_m TY; exact rfl; (first | with_reducible assumption | ((with_reducible apply jobsF_sub); omega) | exact rfl); exact rfl)
    | (apply s_alloc TY; exact rfl; exact rfl; exact rfl)
    | (apply s_store TY; exact rfl; exact rfl; exact rfl; exact rfl; exact rfl; exact rfl))
            exact ⟨k + 1, by omega, by omega, gh_le ⟨le_upd rfl trivial (le_upd rfl trivial (le_upd rfl trivial (le_upd rfl trivial (le_upd rfl trivial (le_upd rfl trivial (le_nil _)))))), le_h0 _ _⟩⟩
theorem Summ.nil2 {P : Program} {G : Nat → Option (List FV)} {g : Nat} {a c r : FV} (K : Summ P G g [a, .sl 0 [], c] r) : Summ P G g [a, .v (.slice none 0 0), c] r :=
  ⟨K.enters, fun w M us hM hG R => by
    obtain ⟨u1, us1, rfl, r1, R1⟩ := R.head
    obtain ⟨u2, us2, rfl, r2, R2⟩ := R1.head
    exact K.call w M _ hM hG (RepL.cons r1 (RepL.cons (rep_nilsl r2) R2))⟩
set_option maxRecDepth 100000 in
theorem OrderFor_ok (l : List Job) (ok : JobsOk l) : Summ Tryz.prog GG 59 [.sl l.length (jobsF l)] (.tup [ordF (orderO l), iv (if (orderO l).isSome = true then 0 else 12)]) := by
  have hlen := ok.len
  have HJ := CheckJobs_s l (by omega)
  rw [jobsChk_ok ok] at HJ
  have HO := Summ.nil2 (onTime_s l ok l.length [] 0 (by simp) (by simp))
  rw [show onT l l.length [] 0 = orderO l from rfl] at HO
  cases ho : orderO l with
  | none =>
    rw [ho] at HO
    simp only [Option.isSome_none] at HO ⊢
    refine summW Tryz.func59 rfl rfl 24 rfl (by simp) (fun M0 => ?_)
    repeat (first
    | (apply s_assign_f; exact rfl; exact rfl)
    | (apply s_a TY; exact rfl)
    | (apply s_t; exact rfl; (first | assumption | omega))
    | apply w_seq
    | apply w_region
    | apply s_nil
    | apply t_norm
    | apply w_ret
    | apply w_skip
    | (apply w_condF; exact rfl; exact rfl)
    | (apply s_k (HJ); exact rfl)
    | (apply s_k (HO); exact rfl)
    | (apply s_k (unless_F _); exact rfl))
    exact lv_ret (ret2 rfl (res_tmp rfl) (res_tmp rfl))
  | some x =>
    rw [ho] at HO
    simp only [Option.isSome_some] at HO ⊢
    refine summW Tryz.func59 rfl rfl 24 rfl (by simp) (fun M0 => ?_)
    repeat (first
    | (apply s_assign_f; exact rfl; exact rfl)
    | (apply s_a TY; exact rfl)
    | (apply s_t; exact rfl; (first | assumption | omega))
    | apply w_seq
    | apply w_region
    | apply s_nil
    | apply t_norm
    | apply w_ret
    | apply w_skip
    | (apply w_condF; exact rfl; exact rfl)
    | (apply s_k (HJ); exact rfl)
    | (apply s_k (HO); exact rfl)
    | (apply s_k (unless_T _); exact rfl))
    exact lv_ret (ret2 rfl (res_tmp rfl) (res_tmp rfl))
end Go.Proofs.YtenkgipcblfocaaGreat
namespace Go.Proofs.YtenkgipcblfocaaGreat
open Go Go.RowKit Go.Proofs Go.Shelf Go.Ab
def wI (m : List Int) (z : Int) : Int := m.getD z.toNat default
structure MapOk (n : Int) (m : List Int) : Prop where
  len : (m.length : Int) = n
  each : ∀ i, i < m.length → 0 ≤ m.getD i default ∧ m.getD i default ≤ 1000000
  some : ∃ i, i < m.length ∧ 0 < m.getD i default
def mapX (m : List Int) (i : Nat) : Int := if 0 ≤ m.getD i default ∧ m.getD i default ≤ 1000000 then 0 else 2
def posB (m : List Int) : Nat → Bool
  | 0 => false
  | k + 1 => posB m k || decide (0 < m.getD k default)
def mapChk (n : Int) (m : List Int) : Nat × Int := if ¬ (m.length : Int) = n then (0, 10) else if (eachE m.length (mapX m)).2 ≠ 0 then eachE m.length (mapX m) else if posB m m.length = true then (0, 0) else (0, 11)
theorem posB_iff {m : List Int} : ∀ {k : Nat}, posB m k = true ↔ ∃ i, i < k ∧ 0 < m.getD i default
  | 0 => by simp [posB]
  | k + 1 => by
    rw [posB, Bool.or_eq_true, posB_iff, decide_eq_true_eq]
    constructor
    · rintro (⟨i, h1, h2⟩ | h)
      · exact ⟨i, by omega, h2⟩
      · exact ⟨k, by omega, h⟩
    · rintro ⟨i, h1, h2⟩
      by_cases e : i = k
      · subst e; exact .inr h2
      · exact .inl ⟨i, by omega, h2⟩
theorem mapX_iff {m : List Int} {i : Nat} : mapX m i = 0 ↔ 0 ≤ m.getD i default ∧ m.getD i default ≤ 1000000 := by unfold mapX; split <;> simp_all
theorem mapX_2 {m : List Int} {i : Nat} (h : ¬ (0 ≤ m.getD i default ∧ m.getD i default ≤ 1000000)) : mapX m i = 2 := if_neg h
theorem eachE_zero {n : Nat} {f : Nat → Int} (h : (eachE n f).2 = 0) : ∀ i, i < n → f i = 0 := by
  rcases eachE_cases n f with ⟨_, hz⟩ | ⟨q, _, _, hne, e⟩
  · exact hz
  · rw [e] at h; exact absurd h hne
theorem mapOk_of {n : Int} {m : List Int} (h : (mapChk n m).2 = 0) : MapOk n m := by
  unfold mapChk at h
  split at h
  · cases h
  rename_i h1
  split at h
  · rename_i h2; exact absurd h h2
  rename_i h2
  split at h
  · rename_i h3
    exact ⟨by omega, fun i hi => mapX_iff.1 (eachE_zero (by omega) i hi), posB_iff.1 h3⟩
  · cases h
theorem mapChk_ok {n : Int} {m : List Int} (o : MapOk n m) : mapChk n m = (0, 0) := by
  unfold mapChk
  rw [if_neg (by have := o.len; omega), eachE_ok (fun i hi => mapX_iff.2 (o.each i hi)), if_neg (by simp), if_pos (posB_iff.2 o.some)]
def maxG (m : List Int) : Nat → Int
  | 0 => m.getD 0 default
  | k + 1 => max (maxG m k) (m.getD (k + 1) default)
theorem maxG_pos {m : List Int} : ∀ {k : Nat}, (0 < maxG m k ↔ ∃ i, i ≤ k ∧ 0 < m.getD i default)
  | 0 => by
    constructor
    · intro h; exact ⟨0, Nat.le_refl _, h⟩
    · rintro ⟨i, h1, h2⟩
      have : i = 0 := by omega
      subst this; exact h2
  | k + 1 => by
    have ih := maxG_pos (m := m) (k := k)
    rw [maxG]
    constructor
    · intro h
      by_cases c : 0 < maxG m k
      · obtain ⟨i, h1, h2⟩ := ih.1 c; exact ⟨i, by omega, h2⟩
      · exact ⟨k + 1, Nat.le_refl _, by omega⟩
    · rintro ⟨i, h1, h2⟩
      by_cases e : i = k + 1
      · subst e; omega
      · have := ih.2 ⟨i, by omega, h2⟩; omega
theorem maxG_posB {m : List Int} (h : 1 ≤ m.length) : (0 < maxG m (m.length - 1) ↔ posB m m.length = true) := by
  rw [maxG_pos, posB_iff]
  constructor <;> rintro ⟨i, h1, h2⟩ <;> exact ⟨i, by omega, h2⟩
set_option maxRecDepth 100000 in
theorem Max_s (m : List Int) (h1 : 1 ≤ m.length) (hl : m.length ≤ 1000000) : Summ Tryz.prog GG 119 [.sl m.length (intsF m)] (iv (maxG m (m.length - 1))) := by
  have hne : intsF m ≠ [] := intsF_ne (k := 0) (by omega)
  have h0 : (intsF m)[(0 : Int).toNat * 1]? = some (iv (maxG m 0)) := by rw [show (0 : Int).toNat * 1 = 0 * 1 by rfl, intsF_at (show 0 < m.length by omega), maxG, getD_at (show 0 < m.length by omega)]
  refine summW Tryz.func119 rfl rfl 25 rfl (by simp) (fun M0 => ?_)
  repeat (first
    | (apply s_a TY; exact rfl)
    | (apply s_f; exact rfl; (first | assumption | omega))
    | apply w_seq
    | apply w_region
    | apply s_nil
    | apply t_norm
    | apply w_block
    | apply w_skip
    | (apply w_condF; exact rfl; exact rfl)
    | (apply s_z TY; exact rfl; (first | omega | exact ⟨by omega, by (first | with_reducible assumption | ((with_reducible apply intsF_ne); omega) | assumption)⟩))
    | (apply s_l TY; exact rfl; (first | exact rfl | with_reducible assumption | ((with_reducible apply intsF_at); omega) | assumption)))
  apply w_loop (fun k : Nat => ⟨(Ab.upd (Ab.upd (Ab.upd (fun _ => .bot) 0 (.f (.sl m.length (intsF m)))) 3 (.f (iv (maxG m k)))) 4 (.f (iv ((k + 1 : Nat) : Int)))), (fun _ => none), 0⟩) (fun k => k + 1 ≤ m.length) (fun k => m.length - k) 0 ((by omega)) (gh_le ⟨le_upd rfl trivial (le_upd rfl trivial (le_upd rfl trivial (le_nil _))), le_h0 _ _⟩)
  intro k hk
  by_cases hc : k + 1 < m.length
  · have hs : maxG m (k + 1) = max (maxG m k) m[k + 1] := by rw [maxG, getD_at hc]
    repeat (first
    | (apply s_a TY; exact rfl)
    | (apply s_t; exact rfl; (first | assumption | omega))
    | apply w_seq
    | apply w_region
    | apply s_nil
    | apply t_norm
    | apply k_norm
    | apply w_block
    | apply w_skip
    | (apply w_condT; exact rfl; exact rfl)
    | (apply s_c TY; exact rfl; (first | omega | exact ⟨by omega, by (first | with_reducible assumption | ((with_reducible apply intsF_ne); omega) | assumption)⟩))
    | (apply s_l TY; exact rfl; (first | exact rfl | with_reducible assumption | ((with_reducible apply intsF_at); omega) | assumption)))
    exact ⟨k + 1, by omega, by omega, gh_le ⟨le_upd rfl trivial (le_upd (congrArg (fun z => AV.f (iv z)) hs) trivial (le_upd rfl trivial (le_nil _))), le_h0 _ _⟩⟩
  · have hke : k = m.length - 1 := by omega
    subst hke
    repeat (first
    | (apply s_a TY; exact rfl)
    | (apply s_f; exact rfl; (first | assumption | omega))
    | apply w_seq
    | apply w_region
    | apply s_nil
    | apply t_norm
    | apply t_exit
    | apply k_hit
    | apply w_exit
    | apply w_ret
    | (apply w_condF; exact rfl; exact rfl))
    exact lv_ret (ret1 rfl (res_tmp rfl))
theorem mapBad_s (n : Int) : Summ Tryz.prog GG 164 [iv n] (bv (!withinB n 0 1000000)) := by
  by_cases h : 0 ≤ n ∧ n ≤ 1000000
  · rw [show withinB n 0 1000000 = true by simp [withinB, h]]
    refine summW Tryz.func164 rfl rfl 6 rfl (by simp) (fun M0 => ?_)
    repeat (first
    | (apply s_a TY; exact rfl)
    | apply w_seq
    | apply w_region
    | apply s_nil
    | apply t_norm
    | apply w_ret
    | (apply s_k1 (isWeight_T _); exact rfl; (first | assumption | omega | decide)))
    exact lv_ret (ret1 rfl (res_tmp rfl))
  · rw [show withinB n 0 1000000 = false by simp [withinB]; omega]
    refine summW Tryz.func164 rfl rfl 6 rfl (by simp) (fun M0 => ?_)
    repeat (first
    | (apply s_a TY; exact rfl)
    | apply w_seq
    | apply w_region
    | apply s_nil
    | apply t_norm
    | apply w_ret
    | (apply s_k1 (isWeight_F _); exact rfl; (first | assumption | omega | decide)))
    exact lv_ret (ret1 rfl (res_tmp rfl))
def wgtP (m : List Int) (i : Nat) : Bool := !withinB (m.getD i default) 0 1000000
theorem wgt_idx (m : List Int) : (idxP m.length (wgtP m) = -1 ∧ eachE m.length (mapX m) = (0, 0)) ∨ ∃ k : Nat, idxP m.length (wgtP m) = k ∧ eachE m.length (mapX m) = (k, 2) := by
  have hp : ∀ i, wgtP m i = false ↔ mapX m i = 0 := fun i => by rw [mapX_iff]; simp [wgtP, withinB]
  rcases idxP_cases m.length (wgtP m) with ⟨e, hz⟩ | ⟨k, hk, hz, hpk, e⟩
  · exact .inl ⟨e, eachE_ok fun i hi => (hp i).1 (hz i hi)⟩
  · have hne : mapX m k ≠ 0 := fun h => by rw [(hp k).2 h] at hpk; cases hpk
    refine .inr ⟨k, e, ?_⟩
    rw [eachE_at hk (fun i hi => (hp i).1 (hz i hi)) hne, mapX_2 fun h => hne (mapX_iff.2 h)]
set_option maxRecDepth 100000 in
set_option maxHeartbeats 1600000 in
theorem mapErr_s (cs : List Cel) (m : List Int) (hc : 1 ≤ cs.length ∧ cs.length ≤ 1000) (hl : m.length ≤ 1000000) : Summ Tryz.prog GG 118 [xF cs, skF m] (.tup [iv (mapChk cs.length m).1, iv (mapChk cs.length m).2]) := by
  by_cases h1 : (m.length : Int) = cs.length
  case neg =>
    rw [show mapChk cs.length m = (0, 10) by unfold mapChk; rw [if_pos h1]]
    refine summW Tryz.func118 rfl rfl 24 rfl (by simp) (fun M0 => ?_)
    repeat (first
    | (apply s_a TY; exact rfl)
    | (apply s_f; exact rfl; (first | assumption | omega))
    | apply w_seq
    | apply w_region
    | apply s_nil
    | apply t_norm
    | apply t_ret
    | apply w_ret
    | (apply w_condT; exact rfl; exact rfl))
    exact lv_ret (ret2 rfl (res_tmp rfl) (res_tmp rfl))
  have HI := idxI_s m 164 [] (wgtP m) hl (fun i hi => by unfold wgtP; rw [getD_at hi]; exact mapBad_s _)
  rcases wgt_idx m with ⟨e1, e2⟩ | ⟨k, e1, e2⟩
  · rw [e1] at HI
    have HM := Max_s m (by omega) hl
    by_cases hp : 0 < maxG m (m.length - 1)
    · rw [show mapChk cs.length m = (0, 0) by unfold mapChk; rw [if_neg (by simpa using h1), e2, if_neg (by simp), if_pos ((maxG_posB (by omega)).1 hp)]]
      refine summW Tryz.func118 rfl rfl 24 rfl (by simp) (fun M0 => ?_)
      repeat (first
    | (apply s_a TY; exact rfl)
    | (apply s_t; exact rfl; (first | assumption | omega))
    | (apply s_f; exact rfl; (first | assumption | omega))
    | apply w_seq
    | apply w_region
    | apply s_nil
    | apply t_norm
    | apply w_ret
    | apply w_skip
    | (apply w_condF; exact rfl; exact rfl)
    | (apply s_k (HI); exact rfl)
    | (apply s_k (HM); exact rfl)
    | (apply s_k (unless_T _); exact rfl))
      exact lv_ret (ret2 rfl (res_tmp rfl) (res_tmp rfl))
    · rw [show mapChk cs.length m = (0, 11) by unfold mapChk; rw [if_neg (by simpa using h1), e2, if_neg (by simp), if_neg (fun h => hp ((maxG_posB (by omega)).2 h))]]
      refine summW Tryz.func118 rfl rfl 24 rfl (by simp) (fun M0 => ?_)
      repeat (first
    | (apply s_a TY; exact rfl)
    | (apply s_t; exact rfl; (first | assumption | omega))
    | (apply s_f; exact rfl; (first | assumption | omega))
    | apply w_seq
    | apply w_region
    | apply s_nil
    | apply t_norm
    | apply w_ret
    | apply w_skip
    | (apply w_condF; exact rfl; exact rfl)
    | (apply s_k (HI); exact rfl)
    | (apply s_k (HM); exact rfl)
    | (apply s_k (unless_F _); exact rfl))
      exact lv_ret (ret2 rfl (res_tmp rfl) (res_tmp rfl))
  · rw [e1] at HI
    rw [show mapChk cs.length m = (k, 2) by unfold mapChk; rw [if_neg (by simpa using h1), e2, if_pos (by simp)]]
    refine summW Tryz.func118 rfl rfl 24 rfl (by simp) (fun M0 => ?_)
    repeat (first
    | (apply s_a TY; exact rfl)
    | (apply s_t; exact rfl; (first | assumption | omega))
    | apply w_seq
    | apply w_region
    | apply s_nil
    | apply t_norm
    | apply t_ret
    | apply w_ret
    | apply w_skip
    | (apply w_condT; exact rfl; exact rfl)
    | (apply w_condF; exact rfl; exact rfl)
    | (apply s_k (HI); exact rfl))
    exact lv_ret (ret2 rfl (res_tmp rfl) (res_tmp rfl))
theorem mapErr_sky (rs m : List Int) (o : SkyOk rs) (hl : m.length ≤ 1000000) : Summ Tryz.prog GG 118 [xF (skyC rs), skF m] (.tup [iv (mapChk (befK rs rs.length) m).1, iv (mapChk (befK rs rs.length) m).2]) := by
  have hb := skyC_bd o
  have := mapErr_s (skyC rs) m (by omega) hl
  rwa [skyC_len o] at this
theorem openMap_sky (rs m : List Int) (o : SkyOk rs) (hl : m.length ≤ 1000000) : Summ Tryz.prog GG 112 [skF rs, skF m] (.tup [xF (skyC rs), iv (mapChk (befK rs rs.length) m).2]) := by
  refine summW Tryz.func112 rfl rfl 23 rfl (by simp) (fun M0 => ?_)
  repeat (first
    | (apply s_a TY; exact rfl)
    | (apply s_t; exact rfl; (first | assumption | omega))
    | apply w_seq
    | apply w_region
    | apply s_nil
    | apply t_norm
    | apply w_ret
    | (apply w_condT; exact rfl; exact rfl)
    | (apply s_k2 (mapErr_sky _ _); exact rfl; (first | assumption | omega | decide); (first | assumption | omega | decide))
    | (apply s_k1 (open_ok _); exact rfl; (first | assumption | omega | decide)))
  exact lv_ret (ret2 rfl (res_tmp rfl) (res_tmp rfl))
theorem wI_bd {n : Int} {m : List Int} (o : MapOk n m) {z : Int} (h : 0 ≤ z ∧ z < m.length) : 0 ≤ wI m z ∧ wI m z ≤ 1000000 := o.each z.toNat (by omega)
theorem wI_at {m : List Int} {z : Int} (h : 0 ≤ z ∧ z < m.length) : (intsF m)[z.toNat * 1]? = some (iv (wI m z)) := by
  unfold wI
  rw [intsF_at (show z.toNat < m.length by omega), getD_at (show z.toNat < m.length by omega)]
theorem sumI_tk {f : Int → Int} {l : List Int} {k : Nat} (h : k < l.length) : sumI f (l.take (k + 1)) = sumI f (l.take k) + f l[k] := by
  rw [List.take_succ_eq_append_getElem h, sumI_app, sumI, sumI]; omega
theorem sumW_bd {n : Int} {m : List Int} (o : MapOk n m) {l : List Int} (h : ∀ z, z ∈ l → 0 ≤ z ∧ z < m.length) : ∀ {k : Nat}, k ≤ l.length → 0 ≤ sumI (wI m) (l.take k) ∧ sumI (wI m) (l.take k) ≤ 1000000 * (k : Int)
  | 0, _ => by simp [sumI]
  | k + 1, hk => by
    have ih := sumW_bd o h (k := k) (by omega)
    have := wI_bd o (h _ (List.getElem_mem (show k < l.length by omega)))
    rw [sumI_tk (show k < l.length by omega)]
    omega
set_option maxRecDepth 100000 in
theorem weight_s (m l : List Int) {n : Int} (o : MapOk n m) (hl : l.length ≤ 1000) (hm : ∀ z, z ∈ l → 0 ≤ z ∧ z < m.length) : Summ Tryz.prog GG 113 [skF m, .sl l.length (intsF l)] (iv (sumI (wI m) l)) := by
  refine summW Tryz.func113 rfl rfl 23 rfl (by simp) (fun M0 => ?_)
  repeat (first
    | (apply s_a TY; exact rfl)
    | apply w_seq
    | apply w_region
    | apply s_nil
    | apply t_norm
    | apply w_block)
  apply w_loop (fun k : Nat => ⟨(Ab.upd (Ab.upd (Ab.upd (Ab.upd (Ab.upd (fun _ => .bot) 2 (.f (.pt [.sl m.length (intsF m)] 0))) 5 (.f (iv (sumI (wI m) (l.take k))))) 8 (.f (.sl l.length (intsF l)))) 9 (.f (iv l.length))) 10 (.f (iv (k : Nat)))), (fun _ => none), 0⟩) (fun k => k ≤ l.length) (fun k => l.length - k) 0 (Nat.zero_le _) (gh_le ⟨le_upd rfl trivial (le_upd rfl trivial (le_upd rfl trivial (le_upd rfl trivial (le_upd rfl trivial (le_nil _))))), le_h0 _ _⟩)
  intro k hk
  by_cases hc : k < l.length
  · have hbd := sumW_bd o hm (k := k) hk
    have hz := hm _ (List.getElem_mem hc)
    have hw := wI_bd o hz
    have hat := wI_at hz
    have hs := sumI_tk (f := wI m) hc
    have hne : intsF m ≠ [] := intsF_ne (k := l[k].toNat) (by omega)
    repeat (first
    | (apply s_a TY; exact rfl)
    | (apply s_t; exact rfl; (first | assumption | omega))
    | apply w_seq
    | apply w_region
    | apply s_nil
    | apply t_norm
    | apply k_norm
    | apply w_block
    | apply w_skip
    | (apply w_condT; exact rfl; exact rfl)
    | (apply s_c TY; exact rfl; (first | omega | exact ⟨by omega, by (first | with_reducible assumption | ((with_reducible apply intsF_ne); omega) | assumption)⟩))
    | (apply s_z TY; exact rfl; (first | omega | exact ⟨by omega, by (first | with_reducible assumption | ((with_reducible apply intsF_ne); omega) | assumption)⟩))
    | (apply s_l TY; exact rfl; (first | exact rfl | with_reducible assumption | ((with_reducible apply intsF_at); omega) | assumption)))
    exact ⟨k + 1, by omega, by omega, gh_le ⟨le_upd rfl trivial (le_upd rfl trivial (le_upd rfl trivial (le_upd (congrArg (fun z => AV.f (iv z)) hs) trivial (le_upd rfl trivial (le_nil _))))), le_h0 _ _⟩⟩
  · have hke : k = l.length := by omega
    subst hke
    rw [show sumI (wI m) l = sumI (wI m) (l.take l.length) by rw [List.take_length]]
    repeat (first
    | (apply s_a TY; exact rfl)
    | (apply s_f; exact rfl; (first | assumption | omega))
    | apply w_seq
    | apply w_region
    | apply s_nil
    | apply t_norm
    | apply t_exit
    | apply k_hit
    | apply w_exit
    | apply w_ret
    | (apply w_condF; exact rfl; exact rfl))
    exact lv_ret (ret1 rfl (res_tmp rfl))
theorem isNaN_s (a : Int) : Summ Tryz.prog GG 161 [iv a] (.v (.bool false)) := by
  refine summW Tryz.func161 rfl rfl 6 rfl (by simp) (fun M0 => ?_)
  repeat (first
    | (apply s_a TY; exact rfl)
    | (apply s_t; exact rfl; (first | assumption | omega))
    | apply w_seq
    | apply w_region
    | apply s_nil
    | apply t_norm
    | apply w_ret)
  exact lv_ret (ret1 rfl (res_tmp rfl))
def cmpZ (x y : Int) : Int := if x < y then -1 else if y < x then 1 else 0
theorem cmpZ_lt {x y : Int} (h : x < y) : cmpZ x y < 0 := by unfold cmpZ; rw [if_pos h]; decide
theorem cmpZ_ge {x y : Int} (h : ¬ x < y) : ¬ cmpZ x y < 0 := by unfold cmpZ; rw [if_neg h]; split <;> decide
theorem Compare_s (x y : Int) : Summ Tryz.prog GG 116 [iv x, iv y] (iv (cmpZ x y)) := by
  by_cases h : x < y
  · rw [show cmpZ x y = -1 from if_pos h]
    refine summW Tryz.func116 rfl rfl 20 rfl (by simp) (fun M0 => ?_)
    repeat (first
    | (apply s_a TY; exact rfl)
    | (apply s_t; exact rfl; (first | assumption | omega))
    | apply w_seq
    | apply w_region
    | apply s_nil
    | apply t_norm
    | apply t_ret
    | apply w_ret
    | apply w_skip
    | (apply w_condT; exact rfl; exact rfl)
    | (apply w_condF; exact rfl; exact rfl)
    | (apply s_k (isNaN_s _); exact rfl))
    exact lv_ret (ret1 rfl (res_tmp rfl))
  by_cases h2 : y < x
  · rw [show cmpZ x y = 1 by unfold cmpZ; rw [if_neg h, if_pos h2]]
    refine summW Tryz.func116 rfl rfl 20 rfl (by simp) (fun M0 => ?_)
    repeat (first
    | (apply s_a TY; exact rfl)
    | (apply s_t; exact rfl; (first | assumption | omega))
    | (apply s_f; exact rfl; (first | assumption | omega))
    | apply w_seq
    | apply w_region
    | apply s_nil
    | apply t_norm
    | apply t_ret
    | apply w_ret
    | apply w_skip
    | (apply w_condT; exact rfl; exact rfl)
    | (apply w_condF; exact rfl; exact rfl)
    | (apply s_k (isNaN_s _); exact rfl))
    exact lv_ret (ret1 rfl (res_tmp rfl))
  · rw [show cmpZ x y = 0 by unfold cmpZ; rw [if_neg h, if_neg h2]]
    refine summW Tryz.func116 rfl rfl 20 rfl (by simp) (fun M0 => ?_)
    repeat (first
    | (apply s_a TY; exact rfl)
    | (apply s_f; exact rfl; (first | assumption | omega))
    | apply w_seq
    | apply w_region
    | apply s_nil
    | apply t_norm
    | apply w_ret
    | apply w_skip
    | (apply w_condF; exact rfl; exact rfl)
    | (apply s_k (isNaN_s _); exact rfl))
    exact lv_ret (ret1 rfl (res_tmp rfl))
theorem cmpW_s (m : List Int) (a b : Int) (ha : 0 ≤ a ∧ a < m.length) (hb : 0 ≤ b ∧ b < m.length) : Summ Tryz.prog GG 115 [iv a, iv b, .pt [.sl m.length (intsF m)] 0] (iv (cmpZ (wI m b) (wI m a))) := by
  have h1 := wI_at ha
  have h2 := wI_at hb
  have hne : intsF m ≠ [] := intsF_ne (k := a.toNat) (by omega)
  refine summW Tryz.func115 rfl rfl 17 rfl (by simp) (fun M0 => ?_)
  repeat (first
    | (apply s_a TY; exact rfl)
    | apply w_seq
    | apply w_region
    | (apply w_draw (id := 1) 10 rfl (by kernel_rfl))
    | apply s_nil
    | apply t_norm
    | apply w_ret
    | (apply s_k (Compare_s _ _); exact rfl)
    | (apply s_z TY; exact rfl; (first | omega | exact ⟨by omega, by (first | with_reducible assumption | ((with_reducible apply intsF_ne); omega) | assumption)⟩))
    | (apply s_l TY; exact rfl; (first | exact rfl | with_reducible assumption | ((with_reducible apply intsF_at); omega) | assumption)))
  exact lv_ret (ret1 rfl (res_tmp rfl))
end Go.Proofs.YtenkgipcblfocaaGreat
namespace Go.Proofs.YtenkgipcblfocaaGreat
open Go Go.RowKit Go.Proofs Go.Shelf Go.Ab
def cellsA (L : List Int) : List AV := (intsF L).map AV.f
theorem cellsA_len (L : List Int) : (cellsA L).length = L.length := by simp [cellsA, intsF]
theorem cellsA_at {L : List Int} {o k : Nat} (ho : o = k) {x : Int} (h : L[k]? = some x) : (cellsA L)[o]? = some (.f (iv x)) := by
  subst ho
  unfold cellsA intsF
  rw [List.getElem?_map, List.getElem?_map, h]; rfl
theorem cellsA_set {L : List Int} {o k : Nat} (ho : o = k) (x : Int) : setAt (cellsA L) o [AV.f (iv x)] = cellsA (L.set k x) := by
  subst ho
  show (cellsA L).set o (.f (iv x)) = _
  unfold cellsA intsF
  rw [List.map_set, List.map_set]
section
variable {A P E D seg : List Int} {x : Int} {j k : Nat} {w : Int → Int}
theorem ins_at (hj : j ≤ P.length) : (A ++ (putAt P x j ++ E))[A.length + j]? = some x := by
  rw [List.getElem?_append_right (by omega), Nat.add_sub_cancel_left, List.getElem?_append_left (by rw [putAt_len hj]; omega), putAt_at hj]
theorem ins_before (hj : j < P.length) : (A ++ (putAt P x (j + 1) ++ E))[A.length + j]? = some P[j] := by
  rw [List.getElem?_append_right (by omega), Nat.add_sub_cancel_left, List.getElem?_append_left (by rw [putAt_len (by omega)]; omega), putAt_before hj]
theorem ins_swap (hj : j < P.length) : ((A ++ (putAt P x (j + 1) ++ E)).set (A.length + (j + 1)) P[j]).set (A.length + j) x = A ++ (putAt P x j ++ E) := by
  rw [List.set_comm _ _ (by omega)]
  rw [List.set_append_right _ _ (by omega), Nat.add_sub_cancel_left, List.set_append_right _ _ (by omega), Nat.add_sub_cancel_left]
  rw [List.set_append_left _ _ (by rw [putAt_len (by omega)]; omega), List.set_append_left _ _ (by rw [List.length_set, putAt_len (by omega)]; omega), putAt_swap hj]
theorem ins_done (ha : seg.Pairwise (· < ·)) (hk : k < seg.length) (hj : j ≤ k) (h1 : ∀ i (hi : i < (sortO w (seg.take k)).length), j ≤ i → befW w seg[k] (sortO w (seg.take k))[i]) (h2 : ∀ hj' : 0 < j, ¬ befW w seg[k] ((sortO w (seg.take k))[j - 1]'(by rw [sortO_len, List.length_take]; omega))) : putAt (sortO w (seg.take k)) seg[k] j = sortO w (seg.take (k + 1)) := by
  have hnd : seg.Nodup := ha.imp fun h e => by omega
  have hl : (sortO w (seg.take k)).length = k := by rw [sortO_len, List.length_take]; omega
  have hsplit : seg.take (k + 1) = seg.take k ++ [seg[k]] := List.take_succ_eq_append_getElem hk
  have hn1 : (seg.take (k + 1)).Nodup := hnd.sublist (List.take_sublist _ _)
  have hx : seg[k] ∉ sortO w (seg.take k) := fun h => by
    rw [(sortO_perm _).mem_iff] at h
    rw [hsplit] at hn1
    exact (List.nodup_append.1 hn1).2.2 _ h _ (by simp) rfl
  refine (sortO_of hn1 (putAt_sorted (by omega) (sortO_sorted (hnd.sublist (List.take_sublist _ _))) hx h1 h2) fun z => ?_).symm
  rw [(putAt_perm _ _ _).mem_iff, List.mem_cons, (sortO_perm _).mem_iff, hsplit, List.mem_append, List.mem_singleton]
  exact or_comm
theorem take_lt (ha : seg.Pairwise (· < ·)) (hk : k < seg.length) {y : Int} (hy : y ∈ seg.take k) : y < seg[k] := by
  obtain ⟨i, hi, rfl⟩ := List.getElem_of_mem hy
  rw [List.length_take] at hi
  rw [List.getElem_take]
  exact List.pairwise_iff_getElem.1 ha i k (by omega) hk (by omega)
theorem sort_one (seg : List Int) : sortO w (seg.take 1) ++ seg.drop 1 = seg := by
  cases seg with
  | nil => rfl
  | cons x t => rfl
theorem ins_start (hk : k < seg.length) : A ++ (sortO w (seg.take k) ++ (seg.drop k ++ D)) = A ++ (putAt (sortO w (seg.take k)) seg[k] k ++ (seg.drop (k + 1) ++ D)) := by
  have hl : (sortO w (seg.take k)).length = k := by rw [sortO_len, List.length_take]; omega
  have := putAt_end (sortO w (seg.take k)) seg[k]
  rw [hl] at this
  rw [this, List.drop_eq_getElem_cons hk]
  simp only [List.append_assoc, List.cons_append, List.nil_append]
end
theorem arrEq {n : Nat} {a b : List AV} (h : a = b) : some (Blk.arr 3 1 n a) = some (Blk.arr 3 1 n b) := by rw [h]
theorem cl_arr {h : Nat → Option Blk} {T sz n : Nat} (L : List Int) : closedB h (.arr T sz n (cellsA L)) := fun x hx => by
  unfold cellsA at hx
  obtain ⟨y, _, rfl⟩ := List.mem_map.1 hx
  trivial
set_option maxRecDepth 100000 in
set_option maxHeartbeats 3200000 in
theorem insertion_g (m A seg D : List Int) (n : Nat) (hn : n = A.length + seg.length + D.length) (hn2 : n ≤ 1000) (ha : seg.Pairwise (· < ·)) (hm : ∀ z, z ∈ seg → 0 ≤ z ∧ z < m.length) : SummG Tryz.prog GG 183 [.arr 3 1 n (cellsA (A ++ (seg ++ D)))] [.ow 0, .f (iv (A.length : Nat)), .f (iv ((A.length + seg.length : Nat) : Int)), .f (.fn 115 [.pt [.sl m.length (intsF m)] 0])] (.f (.tup [])) [.arr 3 1 n (cellsA (A ++ (sortO (wI m) seg ++ D)))] := by
  refine summG_of Tryz.func183 rfl rfl 53 rfl (by simp) (by simp) (fun i B B' h1 h2 => by
    match i, h1, h2 with
    | 0, h1, h2 => cases h1; cases h2; rfl
    | _ + 1, h1, _ => simp at h1) (fun M X J => ?_)
  repeat (first
    | (apply s_a TY; exact rfl)
    | apply w_seq
    | apply w_region
    | apply s_nil
    | apply t_norm
    | apply w_block
    | (apply s_c TY; exact rfl; (first | omega | exact ⟨by omega, by (first | with_reducible assumption | ((with_reducible apply intsF_ne); omega) | assumption)⟩)))
  apply w_loop (fun k : Nat => ⟨(Ab.upd (Ab.upd (Ab.upd (Ab.upd (Ab.upd (fun _ => .bot) 0 (.ow 0)) 1 (.f (iv (A.length : Nat)))) 2 (.f (iv ((A.length + seg.length : Nat) : Int)))) 3 (.f (.fn 115 [.pt [.sl m.length (intsF m)] 0]))) 8 (.f (iv ((A.length + k : Nat) : Int)))), (Ab.upd (fun _ => none) 0 (some (.arr 3 1 n (cellsA (A ++ (sortO (wI m) (seg.take k) ++ (seg.drop k ++ D))))))), 1⟩) (fun k => 1 ≤ k ∧ (k ≤ seg.length ∨ k = 1)) (fun k => seg.length + 1 - k) 1 (⟨Nat.le_refl _, .inr rfl⟩) (gh_le ⟨le_upd rfl trivial (le_upd rfl trivial (le_upd rfl trivial (le_upd rfl trivial (le_upd rfl rfl (le_nil _))))), le_hupd (arrEq (by rw [← List.append_assoc (sortO _ _), sort_one])) (cl_arr _) (le_h0 _ _)⟩)
  intro k ⟨hk1, hk⟩
  by_cases hc : k < seg.length
  · have hl : (sortO (wI m) (seg.take k)).length = k := by rw [sortO_len, List.length_take]; omega
    have hst := ins_start (A := A) (D := D) (w := (wI m)) hc
    repeat (first
    | (apply s_a TY; exact rfl)
    | (apply s_t; exact rfl; (first | assumption | omega))
    | apply w_seq
    | apply w_region
    | apply s_nil
    | apply t_norm
    | apply w_block
    | apply w_skip
    | (apply w_condT; exact rfl; exact rfl))
    apply w_loop (fun j : Nat => ⟨(Ab.upd (Ab.upd (Ab.upd (Ab.upd (Ab.upd (Ab.upd (fun _ => .bot) 0 (.ow 0)) 1 (.f (iv (A.length : Nat)))) 2 (.f (iv ((A.length + seg.length : Nat) : Int)))) 3 (.f (.fn 115 [.pt [.sl m.length (intsF m)] 0]))) 8 (.f (iv ((A.length + k : Nat) : Int)))) 9 (.f (iv ((A.length + j : Nat) : Int)))), (Ab.upd (fun _ => none) 0 (some (.arr 3 1 n (cellsA (A ++ (putAt (sortO (wI m) (seg.take k)) seg[k] j ++ (seg.drop (k + 1) ++ D))))))), 1⟩) (fun j => j ≤ k ∧ ∀ i (hi : i < (sortO (wI m) (seg.take k)).length), j ≤ i → befW (wI m) seg[k] (sortO (wI m) (seg.take k))[i]) (fun j => j) k (⟨Nat.le_refl _, fun i hi h => by omega⟩) (gh_le ⟨le_upd rfl trivial (le_upd rfl trivial (le_upd rfl trivial (le_upd rfl trivial (le_upd rfl trivial (le_upd rfl rfl (le_nil _)))))), le_hupd (arrEq (congrArg cellsA hst)) (cl_arr _) (le_h0 _ _)⟩)
    intro j ⟨hj, hb⟩
    by_cases h0 : j = 0
    · subst h0
      have hdone := ins_done (w := (wI m)) ha hc (Nat.zero_le _) hb (fun h => absurd h (Nat.lt_irrefl _))
      repeat (first
    | (apply s_a TY; exact rfl)
    | (apply s_f; exact rfl; (first | assumption | omega))
    | apply w_seq
    | apply w_region
    | (apply w_draw (id := 4) 14 rfl (by kernel_rfl))
    | apply s_nil
    | apply t_norm
    | apply t_exit
    | apply k_hit
    | apply k_norm
    | apply w_exit
    | (apply w_condF; exact rfl; exact rfl)
    | (apply s_s; exact rfl)
    | (apply s_c TY; exact rfl; (first | omega | exact ⟨by omega, by (first | with_reducible assumption | ((with_reducible apply intsF_ne); omega) | assumption)⟩)))
      exact ⟨k + 1, ⟨by omega, by omega⟩, by omega, gh_le ⟨le_upd rfl trivial (le_upd rfl trivial (le_upd rfl trivial (le_upd rfl trivial (le_upd rfl rfl (le_nil _))))), le_hupd (arrEq (by rw [hdone])) (cl_arr _) (le_h0 _ _)⟩⟩
    · obtain ⟨j, rfl⟩ : ∃ j', j = j' + 1 := ⟨j - 1, by omega⟩
      have hjp : j < (sortO (wI m) (seg.take k)).length := by omega
      have hX : (cellsA (A ++ (putAt (sortO (wI m) (seg.take k)) seg[k] (j + 1) ++ (seg.drop (k + 1) ++ D))))[((A.length + (j + 1) : Nat) : Int).toNat * 1]? = some (.f (iv seg[k])) := cellsA_at (by omega) (ins_at (by omega))
      have hY : (cellsA (A ++ (putAt (sortO (wI m) (seg.take k)) seg[k] (j + 1) ++ (seg.drop (k + 1) ++ D))))[(((A.length + (j + 1) : Nat) : Int) - 1).toNat * 1]? = some (.f (iv (sortO (wI m) (seg.take k))[j])) := cellsA_at (by omega) (ins_before hjp)
      have hy := (sortO_perm _).mem_iff.1 (List.getElem_mem hjp)
      have hlt := take_lt ha hc hy
      have HC := cmpW_s m seg[k] (sortO (wI m) (seg.take k))[j] (hm _ (List.getElem_mem hc)) (hm _ (List.mem_of_mem_take hy))
      have hln : (A ++ (putAt (sortO (wI m) (seg.take k)) seg[k] (j + 1) ++ (seg.drop (k + 1) ++ D))).length = n := by
        rw [List.length_append, List.length_append, putAt_len (by omega), hl, List.length_append, List.length_drop]; omega
      by_cases hw : wI m (sortO (wI m) (seg.take k))[j] < wI m seg[k]
      · have hz := cmpZ_lt hw
        have hsw := ins_swap (A := A) (E := seg.drop (k + 1) ++ D) (x := seg[k]) hjp
        have hcs : setAt (setAt (cellsA (A ++ (putAt (sortO (wI m) (seg.take k)) seg[k] (j + 1) ++ (seg.drop (k + 1) ++ D)))) (((A.length + (j + 1) : Nat) : Int).toNat * 1) [.f (iv (sortO (wI m) (seg.take k))[j])]) ((((A.length + (j + 1) : Nat) : Int) - 1).toNat * 1) [.f (iv seg[k])] = cellsA (A ++ (putAt (sortO (wI m) (seg.take k)) seg[k] j ++ (seg.drop (k + 1) ++ D))) := by
          rw [cellsA_set (k := A.length + (j + 1)) (by omega), cellsA_set (k := A.length + j) (by omega), hsw]
        repeat (first
    | (apply w_draw4 (id := 6) 15 16 32739 28 rfl (by kernel_rfl) (by kernel_rfl); exact rfl)
    | (apply s_stW TY; exact rfl; exact rfl; exact rfl; exact rfl; exact rfl; (show _ + 1 ≤ _; rw [cellsA_len]; omega); exact rfl; exact rfl; exact (fun _ => rfl))
    | (refine KW.mk ⟨rfl, rfl, rfl, rfl, rfl, rfl, rfl, rfl, rfl, rfl, rfl, rfl, rfl, rfl, rfl, trivial⟩ ?_)
    | (apply s_storeArr TY; exact rfl; exact rfl; exact rfl; exact rfl; exact rfl; (show _ + 1 ≤ _; rw [setAt_length, cellsA_len]; omega))
    | (apply s_idxArr TY; exact rfl; exact rfl; exact rfl; exact rfl; exact rfl; exact rfl; omega; omega)
    | (apply s_ldArr TY; exact rfl; exact rfl; exact rfl; exact rfl; exact rfl; assumption)
    | (apply s_a TY; exact rfl)
    | (apply s_t; exact rfl; (first | assumption | omega))
    | apply w_seq
    | apply w_region
    | (apply w_draw (id := 4) 14 rfl (by kernel_rfl))
    | apply s_nil
    | apply t_norm
    | apply k_norm
    | apply w_block
    | apply w_skip
    | (apply w_condT; exact rfl; exact rfl)
    | (apply s_k (HC); exact rfl)
    | (apply s_c TY; exact rfl; (first | omega | exact ⟨by omega, by (first | with_reducible assumption | ((with_reducible apply intsF_ne); omega) | assumption)⟩)))
        exact ⟨j, ⟨by omega, fun i hi hji => by
          by_cases e : i = j
          · subst e; exact .inl hw
          · exact hb i hi (by omega)⟩, by omega, gh_le ⟨le_upd (congrArg (fun z : Int => AV.f (iv z)) (show ((A.length + j : Nat) : Int) = ((A.length + (j + 1) : Nat) : Int) - 1 by omega)) trivial (le_upd rfl trivial (le_upd rfl trivial (le_upd rfl trivial (le_upd rfl trivial (le_upd rfl rfl (le_nil _)))))), le_hupd (arrEq hcs) (cl_arr _) (le_h0 _ _)⟩⟩
      · have hz := cmpZ_ge hw
        have hdone := ins_done (w := (wI m)) ha hc hj hb (fun _ => by
          unfold befW
          simp only [Nat.add_sub_cancel]
          omega)
        repeat (first
    | (apply s_idxArr TY; exact rfl; exact rfl; exact rfl; exact rfl; exact rfl; exact rfl; omega; omega)
    | (apply s_ldArr TY; exact rfl; exact rfl; exact rfl; exact rfl; exact rfl; assumption)
    | (apply s_a TY; exact rfl)
    | (apply s_t; exact rfl; (first | assumption | omega))
    | (apply s_f; exact rfl; (first | assumption | omega))
    | apply w_seq
    | apply w_region
    | (apply w_draw (id := 4) 14 rfl (by kernel_rfl))
    | apply s_nil
    | apply t_norm
    | apply t_exit
    | apply k_hit
    | apply k_norm
    | apply w_exit
    | (apply w_condF; exact rfl; exact rfl)
    | (apply s_k (HC); exact rfl)
    | (apply s_c TY; exact rfl; (first | omega | exact ⟨by omega, by (first | with_reducible assumption | ((with_reducible apply intsF_ne); omega) | assumption)⟩)))
        exact ⟨k + 1, ⟨by omega, by omega⟩, by omega, gh_le ⟨le_upd rfl trivial (le_upd rfl trivial (le_upd rfl trivial (le_upd rfl trivial (le_upd rfl rfl (le_nil _))))), le_hupd (arrEq (by rw [hdone])) (cl_arr _) (le_h0 _ _)⟩⟩
  · have h1 : seg.take k = seg := List.take_of_length_le (by omega)
    have h2 : seg.drop k = [] := List.drop_eq_nil_of_le (by omega)
    rw [h1, h2]
    repeat (first
    | (apply s_a TY; exact rfl)
    | (apply s_f; exact rfl; (first | assumption | omega))
    | apply w_seq
    | apply w_region
    | apply s_nil
    | apply t_norm
    | apply t_exit
    | apply k_hit
    | apply w_exit
    | (apply w_condF; exact rfl; exact rfl))
    exact lvG_norm (L' := [.arr 3 1 n (cellsA (A ++ (sortO (wI m) seg ++ D)))]) (s := (fun _ => .bot)) (nx := 1) (gh_le ⟨le_nil _, le_hupd rfl (cl_arr _) (le_h0 _ _)⟩) (rg0 rfl)
end Go.Proofs.YtenkgipcblfocaaGreat
namespace Go.Proofs.YtenkgipcblfocaaGreat
open Go.Proofs Go.Shelf
def sortI_ren : Go.Shelf.Ren := ⟨fun | 53 => 117 | 64 => 163 | 63 => 162 | 78 => 194 | 79 => 195 | 70 => 185 | 71 => 186 | 72 => 187 | 73 => 188 | 74 => 189 | 75 => 190 | 59 => 191 | 76 => 192 | 77 => 193 | 88 => 213 | 89 => 214 | 90 => 215 | 91 => 216 | 92 => 217 | 68 => 161 | 96 => 225 | n => n, fun | 22 => 34 | 23 => 3 | 3 => 3 | 51 => 228 | 0 => 0 | 67 => 245 | 69 => 247 | 4 => 4 | 61 => 239 | 60 => 238 | 44 => 52 | 5 => 5 | 9 => 9 | 75 => 259 | 79 => 263 | 83 => 267 | 84 => 61 | n => n, fun | n => n⟩
theorem sortI : Go.Proofs.SlLaysN.n53 Tryz.prog sortI_ren := {
  mixed := by kernel_rfl
  f53 := ⟨Tryz.f117.name, by decide, Tryz.func117.trans (congrArg some (by kernel_rfl))⟩
  f59 := ⟨Tryz.f191.name, by decide, Tryz.func191.trans (congrArg some (by kernel_rfl))⟩
  f63 := ⟨Tryz.f162.name, by decide, Tryz.func162.trans (congrArg some (by kernel_rfl))⟩
  f64 := Tryz.func163.trans (congrArg some (by kernel_rfl))
  f68 := ⟨Tryz.f161.name, by decide, Tryz.func161.trans (congrArg some (by kernel_rfl))⟩
  f70 := ⟨Tryz.f185.name, by decide, Tryz.func185.trans (congrArg some (by kernel_rfl))⟩
  f71 := ⟨Tryz.f186.name, by decide, Tryz.func186.trans (congrArg some (by kernel_rfl))⟩
  f72 := ⟨Tryz.f187.name, by decide, Tryz.func187.trans (congrArg some (by kernel_rfl))⟩
  f73 := ⟨Tryz.f188.name, by decide, Tryz.func188.trans (congrArg some (by kernel_rfl))⟩
  f74 := ⟨Tryz.f189.name, by decide, Tryz.func189.trans (congrArg some (by kernel_rfl))⟩
  f75 := ⟨Tryz.f190.name, by decide, Tryz.func190.trans (congrArg some (by kernel_rfl))⟩
  f76 := ⟨Tryz.f192.name, by decide, Tryz.func192.trans (congrArg some (by kernel_rfl))⟩
  f77 := ⟨Tryz.f193.name, by decide, Tryz.func193.trans (congrArg some (by kernel_rfl))⟩
  f78 := Tryz.func194.trans (congrArg some (by kernel_rfl))
  f79 := Tryz.func195.trans (congrArg some (by kernel_rfl))
  f88 := ⟨Tryz.f213.name, by decide, Tryz.func213.trans (congrArg some (by kernel_rfl))⟩
  f89 := Tryz.func214.trans (congrArg some (by kernel_rfl))
  f90 := Tryz.func215.trans (congrArg some (by kernel_rfl))
  f91 := ⟨Tryz.f216.name, by decide, Tryz.func216.trans (congrArg some (by kernel_rfl))⟩
  f92 := ⟨Tryz.f217.name, by decide, Tryz.func217.trans (congrArg some (by kernel_rfl))⟩
  f96 := ⟨Tryz.f225.name, by decide, Tryz.func225.trans (congrArg some (by kernel_rfl))⟩
  t0 := Tryz.underlying0
  a0 := Tryz.isAgg0
  z0 := Tryz.sizeOf0
  v0 := Tryz.zeroValue0
  t3 := Tryz.underlying3
  a3 := Tryz.isAgg3
  z3 := Tryz.sizeOf3
  v3 := Tryz.zeroValue3
  t4 := Tryz.underlying4
  a4 := Tryz.isAgg4
  z4 := Tryz.sizeOf4
  v4 := Tryz.zeroValue4
  t5 := Tryz.underlying5
  a5 := Tryz.isAgg5
  z5 := Tryz.sizeOf5
  v5 := Tryz.zeroValue5
  t9 := Tryz.underlying9
  a9 := Tryz.isAgg9
  z9 := Tryz.sizeOf9
  v9 := Tryz.zeroValue9
  t22 := Tryz.underlying34
  a22 := Tryz.isAgg34
  z22 := Tryz.sizeOf34
  v22 := Tryz.zeroValue34
  t23 := Tryz.underlying3
  a23 := Tryz.isAgg3
  z23 := Tryz.sizeOf3
  v23 := Tryz.zeroValue3
  t44 := Tryz.underlying52
  a44 := Tryz.isAgg52
  z44 := Tryz.sizeOf52
  v44 := Tryz.zeroValue52
  t51 := Tryz.underlying228
  a51 := Tryz.isAgg228
  z51 := Tryz.sizeOf228
  v51 := Tryz.zeroValue228
  t60 := Tryz.underlying238
  a60 := Tryz.isAgg238
  z60 := Tryz.sizeOf238
  v60 := Tryz.zeroValue238
  t61 := Tryz.underlying239
  a61 := Tryz.isAgg239
  z61 := Tryz.sizeOf239
  v61 := Tryz.zeroValue239
  t67 := Tryz.underlying245
  a67 := Tryz.isAgg245
  z67 := Tryz.sizeOf245
  v67 := Tryz.zeroValue245
  t69 := Tryz.underlying247
  a69 := Tryz.isAgg247
  z69 := Tryz.sizeOf247
  v69 := Tryz.zeroValue247
  t75 := Tryz.underlying259
  a75 := Tryz.isAgg259
  z75 := Tryz.sizeOf259
  v75 := Tryz.zeroValue259
  t79 := Tryz.underlying263
  a79 := Tryz.isAgg263
  z79 := Tryz.sizeOf263
  v79 := Tryz.zeroValue263
  t83 := Tryz.underlying267
  a83 := Tryz.isAgg267
  z83 := Tryz.sizeOf267
  v83 := Tryz.zeroValue267
  t84 := Tryz.underlying61
  a84 := Tryz.isAgg61
  z84 := Tryz.sizeOf61
  v84 := Tryz.zeroValue61 }
open Go Go.RowKit Go.Proofs Go.Shelf Go.Ab
theorem arrA_ren (σ : Nat → Nat) (n : Nat) (L : List Int) : (Blk.arr 3 1 n (cellsA L)).ren σ = .arr 3 1 n (cellsA L) := arr_ren0 σ _ _ _ _
def ascL (L : List Int) : List Int := L.mergeSort fun x y => decide (x ≤ y)
theorem intsF_enc (L : List Int) : (L.map fun z => Value.int .i64 z).map FV.v = intsF L := by unfold intsF iv; rw [List.map_map]; rfl
theorem sortI_g (L : List Int) (n : Nat) (hn : n = L.length) (hl : L.length ≤ 1000000) : SummG Tryz.prog GG 117 [.arr 3 1 n (cellsA L)] [.ow 0] (.f (.tup [])) [.arr 3 1 n (cellsA (ascL L))] :=
  sortOrdG (f := 117) (enc := fun z : Int => Value.int .i64 z) ascL (fun d => (List.mergeSort_perm d _).length_eq) (fun _ => rfl) (enters_of Tryz.func117 (by kernel_rfl) rfl) (fun blk off cap d w h1 h2 h3 => AnyG.slices_Sort_int sortI blk off cap d w h1 h2 h3) (fun p cap w => AnyG.slices_Sort_int_none sortI p cap w) L (by omega) 3 hn (intsF_enc L) (intsF_enc _)
set_option maxRecDepth 100000 in
set_option maxHeartbeats 1600000 in
theorem stable_few (m L : List Int) (hn : L.length ≤ 19) (ha : L.Pairwise (· < ·)) (hm : ∀ z, z ∈ L → 0 ≤ z ∧ z < m.length) : SummG Tryz.prog GG 160 [.arr 3 1 L.length (cellsA L)] [.ow 0, .f (iv (L.length : Nat)), .f (.fn 115 [.pt [.sl m.length (intsF m)] 0])] (.f (.tup [])) [.arr 3 1 L.length (cellsA (sortO (wI m) L))] := by
  have HI := insertion_g m [] L [] L.length (by simp) (by omega) ha hm
  simp only [List.length_nil, Nat.zero_add, List.nil_append, List.append_nil] at HI
  refine summG_of Tryz.func160 rfl rfl 63 rfl (by simp) (by simp) (fun i B B' h1 h2 => by
    match i, h1, h2 with
    | 0, h1, h2 => cases h1; cases h2; rfl
    | _ + 1, h1, _ => simp at h1) (fun M X J => ?_)
  repeat (first
    | (apply s_a TY; exact rfl)
    | apply w_seq
    | apply w_region
    | apply s_nil
    | apply t_norm
    | apply w_block)
  apply w_loop (fun k : Nat => ⟨(Ab.upd (Ab.upd (Ab.upd (Ab.upd (Ab.upd (Ab.upd (fun _ => .bot) 0 (.ow 0)) 1 (.f (iv (L.length : Nat)))) 2 (.f (.fn 115 [.pt [.sl m.length (intsF m)] 0]))) 6 (.f (iv 20))) 7 (.f (iv 0))) 8 (.f (iv 20))), (Ab.upd (fun _ => none) 0 (some (.arr 3 1 L.length (cellsA L)))), 1⟩) (fun k => k = 0) (fun k => 0) 0 (rfl) (gh_le ⟨le_upd rfl trivial (le_upd rfl trivial (le_upd rfl trivial (le_upd rfl trivial (le_upd rfl trivial (le_upd rfl rfl (le_nil _)))))), le_hupd rfl (cl_arr _) (le_h0 _ _)⟩)
  intro k hk
  repeat (first
    | (apply s_callG [0] HI; exact rfl; exact rfl; exact rfl; exact ⟨congrArg some (arrA_ren _ _ _).symm, trivial⟩; exact rfl; exact ⟨rfl, rfl⟩)
    | (apply s_a TY; exact rfl)
    | (apply s_f; exact rfl; (first | assumption | omega))
    | apply w_seq
    | apply w_region
    | apply s_nil
    | apply t_norm
    | apply t_exit
    | apply k_hit
    | apply w_block
    | apply w_exit
    | (apply w_condF; exact rfl; exact rfl))
  apply w_loop (fun k : Nat => ⟨(Ab.upd (Ab.upd (Ab.upd (Ab.upd (fun _ => .bot) 0 (.ow 0)) 1 (.f (iv (L.length : Nat)))) 2 (.f (.fn 115 [.pt [.sl m.length (intsF m)] 0]))) 6 (.f (iv 20))), (Ab.upd (fun _ => none) 0 (some (.arr 3 1 L.length (cellsA (sortO (wI m) L))))), 1⟩) (fun k => k = 0) (fun k => 0) 0 (rfl) (gh_le ⟨le_upd rfl trivial (le_upd rfl trivial (le_upd rfl trivial (le_upd rfl rfl (le_nil _)))), le_hupd (congrArg some (arrA_ren _ _ _)) (cl_arr _) (le_h0 _ _)⟩)
  intro k hk
  repeat (first
    | (apply s_a TY; exact rfl)
    | (apply s_f; exact rfl; (first | assumption | omega))
    | apply w_seq
    | apply w_region
    | apply s_nil
    | apply t_norm
    | apply t_exit
    | apply k_hit
    | apply w_exit
    | (apply w_condF; exact rfl; exact rfl))
  exact lvG_norm (L' := [.arr 3 1 L.length (cellsA (sortO (wI m) L))]) (s := (fun _ => .bot)) (nx := 1) (gh_le ⟨le_nil _, le_hupd rfl (cl_arr _) (le_h0 _ _)⟩) (rg0 rfl)
theorem sortStable_of (m L : List Int) (HI : SummG Tryz.prog GG 160 [.arr 3 1 L.length (cellsA L)] [.ow 0, .f (iv (L.length : Nat)), .f (.fn 115 [.pt [.sl m.length (intsF m)] 0])] (.f (.tup [])) [.arr 3 1 L.length (cellsA (sortO (wI m) L))]) : SummG Tryz.prog GG 114 [.arr 3 1 L.length (cellsA L)] [.ow 0, .f (.fn 115 [.pt [.sl m.length (intsF m)] 0])] (.f (.tup [])) [.arr 3 1 L.length (cellsA (sortO (wI m) L))] := by
  refine summG_of Tryz.func114 rfl rfl 9 rfl (by simp) (by simp) (fun i B B' h1 h2 => by
    match i, h1, h2 with
    | 0, h1, h2 => cases h1; cases h2; rfl
    | _ + 1, h1, _ => simp at h1) (fun M X J => ?_)
  repeat (first
    | (apply s_lenArr TY; exact rfl; exact rfl; exact rfl; exact rfl; exact rfl)
    | (apply s_callG [0] HI; exact rfl; exact rfl; exact rfl; exact ⟨congrArg some (arrA_ren _ _ _).symm, trivial⟩; exact rfl; exact ⟨rfl, rfl⟩)
    | (apply s_a TY; exact rfl)
    | apply w_region
    | apply s_nil)
  exact lvG_norm (L' := [.arr 3 1 L.length (cellsA (sortO (wI m) L))]) (s := (fun _ => .bot)) (nx := 1) (gh_le ⟨le_nil _, le_hupd (congrArg some (arrA_ren _ _ _)) (cl_arr _) (le_h0 _ _)⟩) (rg0 rfl)
end Go.Proofs.YtenkgipcblfocaaGreat
namespace Go.Proofs.YtenkgipcblfocaaGreat
open Go Go.RowKit Go.Proofs Go.Shelf Go.Ab
theorem idxL_succ (k : Nat) : idxL (k + 1) = idxL k ++ [(k : Int)] := by unfold idxL; rw [List.range_succ, List.map_append]; rfl
theorem idxL_len (k : Nat) : (idxL k).length = k := by simp [idxL]
theorem rowI_snoc {a b : List Int} {x : Int} (h : b = a ++ [x]) : some (Blk.row 3 1 (a.length + 1) (intsF a ++ [iv x])) = some (Blk.row 3 1 b.length (intsF b)) := by rw [h, intsF_snoc, List.length_append]; rfl
theorem intsF_take (L : List Int) (k : Nat) : (intsF L).take (k * 1) = intsF (L.take k) := by unfold intsF; rw [Nat.mul_one, List.map_take]
def sortedW (m : List Int) : List Int := sortO (wI m) (idxL m.length)
def wantV (m : List Int) (pct : Int) : Int := pct * sumI (wI m) (idxL m.length)
def regV (m : List Int) (pct : Int) : List Int := ascL ((sortedW m).take (regC (wI m) (sortedW m) (wantV m pct)))
theorem want_ok {n : Int} {m : List Int} (o : MapOk n m) {pct : Int} (hp : 1 ≤ pct ∧ pct ≤ 100) : wantV m pct ≤ 100 * sumI (wI m) (sortedW m) := by
  unfold wantV sortedW
  rw [sumI_perm (sortO_perm _)]
  have := (sumW_bd o (l := idxL m.length) (fun z hz => idxL_mem.1 hz) (Nat.le_refl _)).1
  rw [List.take_length] at this
  exact Int.mul_le_mul_of_nonneg_right hp.2 this
def StabOk (m : List Int) : Prop := SummG Tryz.prog GG 114 [.arr 3 1 (idxL m.length).length (cellsA (idxL m.length))] [.ow 0, .f (.fn 115 [.pt [.sl m.length (intsF m)] 0])] (.f (.tup [])) [.arr 3 1 (idxL m.length).length (cellsA (sortedW m))]
theorem stab_few {m : List Int} (h : m.length ≤ 19) : StabOk m := sortStable_of m (idxL m.length) (stable_few m _ (by rw [idxL_len]; omega) (idxL_asc _) (fun z hz => idxL_mem.1 hz))
set_option maxRecDepth 100000 in
set_option maxHeartbeats 3200000 in
theorem RegionOf_of (rs m : List Int) (pct : Int) (o : SkyOk rs) (om : MapOk (befK rs rs.length) m) (hp : 1 ≤ pct ∧ pct ≤ 100) (HST : StabOk m) : Summ Tryz.prog GG 42 [skF rs, skF m, iv pct] (.tup [.sl (regV m pct).length (intsF (regV m pct)), iv 0]) := by
  unfold StabOk at HST
  have hm0 := mapChk_ok om
  have hcl := skyC_len o
  have hcb := skyC_bd o
  have hml : m.length = (skyC rs).length := by have := om.len; omega
  have HO := openMap_sky rs m o (by omega)
  rw [hm0] at HO
  have hmem : ∀ z, z ∈ idxL m.length → 0 ≤ z ∧ z < m.length := fun z hz => idxL_mem.1 hz
  have HW := weight_s m (idxL m.length) om (by rw [idxL_len]; omega) hmem
  have hsb := sumW_bd om hmem (Nat.le_refl _)
  rw [List.take_length, idxL_len] at hsb
  have hpm := mul_nn (a := pct) (A := 100) (b := sumI (wI m) (idxL m.length)) (B := 96000000) (by omega) (by omega)
  refine summW Tryz.func42 rfl rfl 64 rfl (by simp) (fun M0 => ?_)
  repeat (first
    | (apply s_a TY; exact rfl)
    | (apply s_t; exact rfl; (first | assumption | omega))
    | apply w_seq
    | apply w_region
    | apply s_nil
    | apply t_norm
    | apply w_block
    | apply w_skip
    | (apply w_condF; exact rfl; exact rfl)
    | (apply s_k (HO); exact rfl)
    | (apply s_k1 (first2_1 _ _); exact rfl; (first | assumption | omega | decide))
    | (apply s_k (unless_T _); exact rfl)
    | (apply s_k1 (within_T _ _ _); exact rfl; (first | assumption | omega | decide)))
  apply w_gh (gh_own 10 3 1 rfl rfl)
  apply w_loop (fun k : Nat => ⟨(Ab.upd (Ab.upd (Ab.upd (Ab.upd (Ab.upd (Ab.upd (Ab.upd (fun _ => .bot) 2 (.f (iv pct))) 4 (.f (.pt [.sl m.length (intsF m)] 0))) 8 (.f (xF (skyC rs)))) 10 (.ow 0)) 30 (.f (xF (skyC rs)))) 31 (.f (iv (skyC rs).length))) 32 (.f (iv (k : Nat)))), (Ab.upd (fun _ => none) 0 (some (.row 3 1 (idxL k).length (intsF (idxL k))))), 1⟩) (fun k => k ≤ (skyC rs).length) (fun k => (skyC rs).length - k) 0 (Nat.zero_le _) (gh_le ⟨le_upd rfl trivial (le_upd rfl trivial (le_upd rfl trivial (le_upd rfl rfl (le_upd rfl trivial (le_upd rfl trivial (le_upd rfl trivial (le_nil _))))))), le_hupd rfl trivial (le_h0 _ _)⟩)
  intro k hk
  by_cases hc : k < (skyC rs).length
  · have hil := idxL_len k
    repeat (first
    | (apply s_a TY; exact rfl)
    | (apply s_t; exact rfl; (first | assumption | omega))
    | apply w_seq
    | apply w_region
    | apply s_nil
    | apply t_norm
    | apply k_norm
    | apply w_block
    | apply w_skip
    | (apply w_condT; exact rfl; exact rfl)
    | (apply s_c TY; exact rfl; omega)
    | (apply s_append TY; exact rfl; exact rfl; exact rfl; exact rfl; exact rfl; exact rfl; exact rfl; exact rfl; exact rfl; (unfold maxLen; omega); omega))
    exact ⟨k + 1, by omega, by omega, gh_le ⟨le_upd rfl trivial (le_upd rfl trivial (le_upd rfl trivial (le_upd rfl rfl (le_upd rfl trivial (le_upd rfl trivial (le_upd rfl trivial (le_nil _))))))), le_hupd (rowI_snoc (idxL_succ k)) trivial (le_h0 _ _)⟩⟩
  · have hke : k = m.length := by omega
    subst hke
    repeat (first
    | (apply s_callS HW (fun _ => rfl); exact rfl; exact rfl; exact rfl; exact ⟨sees_f _, sees_row rfl, trivial⟩)
    | (apply s_a TY; exact rfl)
    | (apply s_makefn; exact rfl; exact rfl)
    | (apply s_f; exact rfl; (first | assumption | omega))
    | apply w_seq
    | apply w_region
    | apply s_nil
    | apply t_norm
    | apply t_exit
    | apply k_hit
    | apply w_exit
    | (apply w_condF; exact rfl; exact rfl)
    | (apply s_c TY; exact rfl; omega))
    refine s_ghost rfl (gh_arr 0 (cs := intsF (idxL m.length)) rfl rfl) ?_
    repeat (first
    | (apply s_callG [0] HST; exact rfl; exact rfl; exact rfl; exact ⟨congrArg some (arrA_ren _ _ _).symm, trivial⟩; exact rfl; exact ⟨rfl, rfl⟩)
    | (apply s_a TY; exact rfl)
    | apply w_seq
    | apply w_region
    | apply s_nil
    | apply t_norm
    | apply w_block)
    refine w_gh (gh_unarr 0 (e := 3) (sz := 1) (n := (idxL m.length).length) (cs := intsF (sortedW m)) (congrArg some (arr_ren0 _ _ _ _ _))) ?_
    have hwo := want_ok om hp
    obtain ⟨g1, g2, g3⟩ := regC_spec hwo
    have hreg : regV m pct = ascL ((sortedW m).take (regC (wI m) (sortedW m) (wantV m pct))) := rfl
    have hswl : (sortedW m).length = m.length := by unfold sortedW; rw [sortO_len, idxL_len]
    have hswm : ∀ z, z ∈ (sortedW m) → 0 ≤ z ∧ z < m.length := fun z hz => hmem z ((sortO_perm _).mem_iff.1 hz)
    have hwv : 0 ≤ (wantV m pct) ∧ (wantV m pct) ≤ 9600000000 := hpm
    generalize hC : regC (wI m) (sortedW m) (wantV m pct) = c at *
    rw [hreg]
    apply w_loop (fun k : Nat => ⟨(Ab.upd (Ab.upd (Ab.upd (Ab.upd (fun _ => .bot) 4 (.f (.pt [.sl m.length (intsF m)] 0))) 10 (.ow 0)) 12 (.f (iv (wantV m pct)))) 13 (.f (iv (k : Nat)))), (Ab.upd (fun _ => none) 0 (some (.row 3 1 (sortedW m).length (intsF (sortedW m))))), 1⟩) (fun k => k ≤ c) (fun k => c - k) 0 (Nat.zero_le _) (gh_le ⟨le_upd rfl trivial (le_upd rfl trivial (le_upd rfl rfl (le_upd rfl trivial (le_nil _)))), le_hupd (show some (Blk.row _ 1 (idxL m.length).length (intsF (sortedW m))) = _ by rw [hswl, idxL_len]) trivial (le_h0 _ _)⟩)
    intro k hk
    have hbd := sumW_bd om hswm (k := k) (by omega)
    have HWk : Summ Tryz.prog GG 113 [skF m, .sl ((k : Nat) : Int).toNat (((intsF (sortedW m)).drop 0).take (((k : Nat) : Int).toNat * 1))] (iv (sumI (wI m) ((sortedW m).take k))) := by
      have := weight_s m ((sortedW m).take k) om (by rw [List.length_take]; omega) (fun z hz => hswm z (List.mem_of_mem_take hz))
      rw [List.drop_zero, Int.toNat_natCast, intsF_take]
      rwa [List.length_take, Nat.min_eq_left (by omega)] at this
    have hle : 0 + ((k : Nat) : Int).toNat * 1 ≤ (intsF (sortedW m)).length := by rw [intsF_len]; omega
    by_cases hkc : k < c
    · have hlt := g3 k hkc
      repeat (first
    | (apply s_slice_pre TY; exact rfl; exact rfl; exact rfl; exact rfl; exact rfl; exact rfl; omega; omega)
    | (apply s_callS HWk (fun _ => rfl); exact rfl; exact rfl; exact rfl; exact ⟨sees_f _, sees_sv rfl hle (by decide), trivial⟩)
    | (apply s_a TY; exact rfl)
    | (apply s_t; exact rfl; (first | assumption | omega))
    | apply w_seq
    | apply w_region
    | (apply w_draw (id := 14) 7 rfl (by kernel_rfl))
    | apply s_nil
    | apply t_norm
    | apply k_norm
    | apply w_block
    | apply w_skip
    | (apply w_condT; exact rfl; exact rfl)
    | (apply s_c TY; exact rfl; omega))
      exact ⟨k + 1, by omega, by omega, gh_le ⟨le_upd rfl trivial (le_upd rfl trivial (le_upd rfl rfl (le_upd rfl trivial (le_nil _)))), le_hupd rfl trivial (le_h0 _ _)⟩⟩
    · have hkce : k = c := by omega
      subst hkce
      have hge : ¬ 100 * sumI (wI m) ((sortedW m).take k) < (wantV m pct) := by omega
      have HS := sortI_g ((sortedW m).take k) k (by rw [List.length_take]; omega) (by rw [List.length_take]; omega)
      have hlk : (ascL ((sortedW m).take k)).length = k := by rw [show (ascL ((sortedW m).take k)).length = ((sortedW m).take k).length from (List.mergeSort_perm _ _).length_eq, List.length_take]; omega
      have hrw : some (Blk.row 3 1 ((k : Nat) : Int).toNat ((intsF (sortedW m)).take (((k : Nat) : Int).toNat * 1))) = some (Blk.row 3 1 k (intsF ((sortedW m).take k))) := by rw [Int.toNat_natCast, intsF_take]
      rw [hlk]
      repeat (first
    | (apply s_callS HWk (fun _ => rfl); exact rfl; exact rfl; exact rfl; exact ⟨sees_f _, sees_sv rfl hle (by decide), trivial⟩)
    | (apply s_slice_head TY; exact rfl; exact rfl; exact rfl; exact rfl; exact rfl; omega; omega; omega; exact rfl)
    | (apply s_slice_pre TY; exact rfl; exact rfl; exact rfl; exact rfl; exact rfl; exact rfl; omega; omega)
    | (apply s_a TY; exact rfl)
    | (apply s_f; exact rfl; (first | assumption | omega))
    | apply w_seq
    | apply w_region
    | (apply w_draw (id := 14) 7 rfl (by kernel_rfl))
    | apply s_nil
    | apply t_norm
    | apply t_exit
    | apply k_hit
    | apply w_exit
    | (apply w_condF; exact rfl; exact rfl)
    | (apply s_c TY; exact rfl; omega))
      refine s_ghost rfl (gh_arr 0 hrw rfl) ?_
      repeat (first
    | (apply s_callG [0] HS; exact rfl; exact rfl; exact rfl; exact ⟨congrArg some (arrA_ren _ _ _).symm, trivial⟩; exact rfl; exact ⟨rfl, rfl⟩)
    | (apply s_a TY; exact rfl)
    | apply w_seq
    | apply w_region
    | apply s_nil
    | apply t_norm
    | apply w_ret)
      exact lv_ret (ret_gh (gh_trans (gh_trans (b := _) (c := ⟨(Ab.upd (Ab.upd (fun _ => .bot) 6 (.ow 0)) 7 (.f (iv 0))), (Ab.upd (fun _ => none) 0 (some (.row 3 1 k (intsF (ascL ((sortedW m).take k)))))), 1⟩) (gh_unarr 0 (e := 3) (sz := 1) (n := k) (cs := intsF (ascL ((sortedW m).take k))) (congrArg some (arr_ren0 _ _ _ _ _))) (gh_le ⟨le_upd rfl trivial (le_upd rfl rfl (le_nil _)), le_hupd rfl trivial (le_h0 _ _)⟩)) (gh_row 0 rfl)) (ret2 rfl (res_tmp rfl) (res_tmp rfl)))
end Go.Proofs.YtenkgipcblfocaaGreat
namespace Go.Proofs.YtenkgipcblfocaaGreat
open Go Go.RowKit Go.Proofs Go.Shelf Go.Ab
section
variable {near : Int → Int → Bool}
structure MkOk (near : Int → Int → Bool) (X mk : List Int) : Prop where
  len : mk.length = X.length
  each : ∀ i, i < X.length → mk.getD i default ∈ X ∧ Conn near X (X.getD i default) (mk.getD i default) ∧ mk.getD i default ≤ X.getD i default
def stillM (near : Int → Int → Bool) (X mk : List Int) (i k : Nat) : Prop := ¬ (mk.getD i default < mk.getD k default ∧ near (X.getD i default) (X.getD k default) = true)
def sumM (mk : List Int) : Nat := (mk.map Int.toNat).sum
structure Sweep (near : Int → Int → Bool) (X m0 : List Int) (i k : Nat) (mk : List Int) (c : Bool) : Prop where
  ok : MkOk near X mk
  low : c = true → sumM mk < sumM m0
  same : c = false → mk = m0
  still : c = false → ∀ a b, a < X.length → b < X.length → (a < i ∨ (a = i ∧ b < k)) → stillM near X m0 a b
end
end Go.Proofs.YtenkgipcblfocaaGreat
