/- Laws on which the proofs of this seat stand. No condition. -/
import Derived.Test.YtnmaabejdmaahaaGreatDoorIcStr1
import Derived.Maps.AppendAt
import Derived.Laws.IdiomCopy
import Derived.Laws.MakeOwn
namespace Go.Proofs.YtnmaabejdmaahaaGreatDoor.Ice
open Go.RowKit Go.Proofs Go.Shelf
attribute [local go_sem] Oper.semAt_some
noncomputable def distOf (x : Grid) (fr : Cel) : Cel → Int := open Classical in if h : ∃ d, IsDist x fr d then h.choose else fun _ => 0
theorem distOf_is {x : Grid} {fr : Cel} {d : Cel → Int} (h : IsDist x fr d) : IsDist x fr (distOf x fr) := by
  have h' : ∃ d, IsDist x fr d := ⟨d, h⟩
  unfold distOf
  rw [dif_pos h']
  exact h'.choose_spec
structure MatAt (W : World) (a : Option Addr) (ss : List Sl) (M : List (List Int)) : Prop where
  row : RowS Sl.enc W a ss
  len : ss.length = M.length
  rows : ∀ (r : Nat) (h : r < ss.length) (h' : r < M.length), ss[r].n = M[r].length ∧ RowS encI W ss[r].a M[r]
theorem MatAt.ext {W W' : World} {a : Option Addr} {ss : List Sl} {M : List (List Int)} (h : MatAt W a ss M) (e : Ext W W') : MatAt W' a ss M :=
  ⟨h.row.ext e, h.len, fun r h1 h2 => ⟨(h.rows r h1 h2).1, (h.rows r h1 h2).2.ext e⟩⟩
theorem MatAt.keeps {n : Nat} {W W' : World} {a : Option Addr} {ss : List Sl} {M : List (List Int)} (h : MatAt W a ss M) (e : Keeps n W W') : MatAt W' a ss M :=
  ⟨e.row h.row, h.len, fun r h1 h2 => ⟨(h.rows r h1 h2).1, e.row (h.rows r h1 h2).2⟩⟩
theorem MatAt.nil (W : World) : MatAt W none [] [] := ⟨⟨fun h => absurd rfl h⟩, rfl, fun r h => absurd h (Nat.not_lt_zero r)⟩
noncomputable def timesM (x : Grid) (fr : Cel) : List (List Int) := (List.range x.rows.toNat).map fun r => (List.range x.tilt.length).map fun c => distOf x fr ⟨(c : Nat), (r : Nat)⟩
def fromE (x : Grid) (fr : Cel) : Int := firstE [iceErrE x, cellErrE x fr]
theorem fromE_zero {x : Grid} {fr : Cel} : fromE x fr = 0 ↔ Valid x ∧ InG x fr := by
  unfold fromE
  rw [firstE_zero]
  simp only [List.mem_cons, List.not_mem_nil, or_false, forall_eq_or_imp, forall_eq]
  constructor
  · rintro ⟨h1, h2⟩
    have v := (checkIce_zero x).1 h1
    exact ⟨v, (cellB_in v).1 ((unlessE_zero (by decide)).1 h2)⟩
  · rintro ⟨v, hi⟩
    exact ⟨(checkIce_zero x).2 v, (unlessE_zero (by decide)).2 ((cellB_in v).2 hi)⟩
theorem Tryz.info43 : (Tryz.prog.info? 43).map (fun i => (i.zero, i.size, i.bytes)) = some (some (.slice none 0 0), 1, 24) := by kernel_rfl
def matPost (M : List (List Int)) (z : Int) (w : World) (e : Ending) (w' : World) : Prop := ∃ a ss c, e = .returned (.tuple #[.slice a M.length c, .int .i64 z]) ∧ MatAt w' a ss M ∧ Ext w w' ∧ M.length ≤ c ∧ (∀ ad, a = some ad → w.heap.size ≤ ad.block) ∧ ∀ r (hr : r < ss.length), ss[r].n ≤ ss[r].c ∧ ∀ ad, ss[r].a = some ad → w.heap.size ≤ ad.block
theorem matPost_of {M : List (List Int)} {z : Int} {w : World} {e : Ending} {w' : World} (a : Option Addr) (ss : List Sl) (c : Nat) (h1 : e = .returned (.tuple #[.slice a M.length c, .int .i64 z])) (h2 : MatAt w' a ss M) (h3 : Ext w w') (h4 : M.length ≤ c) (h5 : ∀ ad, a = some ad → w.heap.size ≤ ad.block) (h6 : ∀ r (hr : r < ss.length), ss[r].n ≤ ss[r].c ∧ ∀ ad, ss[r].a = some ad → w.heap.size ≤ ad.block) : matPost M z w e w' := ⟨a, ss, c, h1, h2, h3, h4, h5, h6⟩
noncomputable def timesR (x : Grid) (fr : Cel) : List (List Int) × Int := if (fromE x fr != 0) = true then ([], fromE x fr) else (timesM x fr, 0)
theorem exists_list {α : Type} (P : Nat → α → Prop) : ∀ n, (∀ r, r < n → ∃ s, P r s) → ∃ l : List α, l.length = n ∧ ∀ r (h : r < l.length), P r l[r]
  | 0, _ => ⟨[], rfl, fun r h => absurd h (Nat.not_lt_zero r)⟩
  | n + 1, h => by
    obtain ⟨l, h1, h2⟩ := exists_list P n (fun r hr => h r (by omega))
    obtain ⟨s, hs⟩ := h n (by omega)
    refine ⟨l ++ [s], by simp [h1], fun r hr => ?_⟩
    by_cases e : r < l.length
    · rw [List.getElem_append_left e]; exact h2 r e
    · have e2 : r = l.length := by simp at hr; omega
      subst e2
      rw [List.getElem_append_right (Nat.le_refl _)]
      simp only [Nat.sub_self, List.getElem_cons_zero]
      rw [h1]; exact hs
def rowV (V : Nat → Nat → Int) (r n : Nat) : List Int := (List.range n).map fun c => V c r
theorem rowV_len (V : Nat → Nat → Int) (r n : Nat) : (rowV V r n).length = n := by simp [rowV]
theorem rowV_succ (V : Nat → Nat → Int) (r n : Nat) : (rowV V r (n + 1)).flatMap encI = (rowV V r n).flatMap encI ++ [.int .i64 (V n r)] := by
  simp [rowV, List.range_succ, encI]
structure Fill (OB R C : Nat) (V : Nat → Nat → Int) (N0 r c : Nat) (v : Value) (W : World) : Prop where
  ob : OB + 1 < N0 ∧ N0 ≤ W.heap.size
  done : ∀ r', r' < r → ∃ a cp, W.cell? ⟨OB, r', none⟩ = some (.slice a C cp) ∧ RowS encI W a (rowV V r' C) ∧ (∀ ad, a = some ad → ad.block < N0 ∧ OB < ad.block) ∧ C ≤ cp
  act : r < R → W.cell? ⟨OB, r, none⟩ = some v
  own : W.ownsRow N0 3 1 v c ((rowV V r c).flatMap encI)
  rest : ∀ r', r < r' → r' < R → W.cell? ⟨OB, r', none⟩ = some (.slice none 0 0)
  frz : ∀ r', r' < R → W.frozen? ⟨OB, r', none⟩ = false
  cel : ∀ r', r' < R → ∃ u, W.cell? ⟨OB, r', none⟩ = some u
theorem Fill.keeps {n OB R C : Nat} {V : Nat → Nat → Int} {N0 r c : Nat} {v : Value} {W W' : World} (h : Fill OB R C V N0 r c v W) (k : Keeps n W W') : Fill OB R C V N0 r c v W' :=
  ⟨⟨h.ob.1, Nat.le_trans h.ob.2 k.size⟩, fun r' hr => let ⟨a, cp, h1, h2, h3⟩ := h.done r' hr; ⟨a, cp, k.cell h1, k.row h2, h3⟩, fun hr => k.cell (h.act hr), k.ownsRow h.own, fun r' h1 h2 => k.cell (h.rest r' h1 h2), fun r' hr => let ⟨_u, hu⟩ := h.cel r' hr; k.frozen hu (h.frz r' hr), fun r' hr => let ⟨u, hu⟩ := h.cel r' hr; ⟨u, k.cell hu⟩⟩
theorem Fill.next {OB R C : Nat} {V : Nat → Nat → Int} {N0 r c : Nat} {v v' : Value} {W W1 W2 : World} (h : Fill OB R C V N0 r c v W) (hr : r < R) (hc : c < C) (e : Ext W W1) (g : W1.grownBy W2 v.ownBlock) (o : W2.ownsRow N0 3 1 v' (c + 1) ((rowV V r (c + 1)).flatMap encI)) :
    ∃ N0' r' c' v'', N0 ≤ N0' ∧ r' * C + c' = r * C + c + 1 ∧ c' < C ∧ r' ≤ R ∧ (r' = R → c' = 0) ∧ Fill OB R C V N0' r' c' v'' (W2.setCell ⟨OB, r, none⟩ v') := by
  have hob := h.ob
  have hk : ∀ k, v.ownBlock = some k → N0 ≤ k := h.own.ge
  have sz : W.heap.size ≤ W2.heap.size := Nat.le_trans e.le g.size
  have cellK : ∀ {b o : Nat} {u : Value}, b < N0 → W.cell? ⟨b, o, none⟩ = some u → W2.cell? ⟨b, o, none⟩ = some u := fun hb hu => g.cellOf (e.cell_of hu) (fun he => by have := hk _ he.symm; omega)
  have hv' : ∀ k, v'.ownBlock = some k → N0 ≤ k := o.ge
  have cel2 : ∀ r', r' < R → ∃ u, W2.cell? ⟨OB, r', none⟩ = some u := fun r' hr' => let ⟨u, hu⟩ := h.cel r' hr'; ⟨u, cellK (by omega) hu⟩
  have rowSet : ∀ {a : Option Addr} {l : List Int}, RowS encI W2 a l → (∀ ad, a = some ad → ad.block ≠ OB) → RowS encI (W2.setCell ⟨OB, r, none⟩ v') a l := fun {a l} h4 h3 => ⟨fun hn => by
    obtain ⟨b, off, e1, hb, hcc⟩ := h4.at_ hn
    have hne : b ≠ OB := h3 _ e1
    exact ⟨b, off, e1, by simpa using hb, fun k hk' => by
      have := hcc k hk'
      rw [List.getElem?_eq_getElem hk'] at this ⊢
      exact World.cell_other this hne⟩⟩
  have ownSet : (W2.setCell ⟨OB, r, none⟩ v').ownsRow N0 3 1 v' (c + 1) ((rowV V r (c + 1)).flatMap encI) := by
    refine ⟨o.1, ?_⟩
    rcases o.2 with h2 | ⟨g0, cap, cur, e1, h3, h4, h5⟩
    · exact .inl h2
    · refine .inr ⟨g0, cap, cur, e1, h3, ?_, h5⟩
      rw [Below.heap_setCell _ _ _ _ (by show g0 ≠ OB; omega)]; exact h4
  have don : ∀ r', r' < r → ∃ a cp, (W2.setCell ⟨OB, r, none⟩ v').cell? ⟨OB, r', none⟩ = some (.slice a C cp) ∧ RowS encI (W2.setCell ⟨OB, r, none⟩ v') a (rowV V r' C) ∧ (∀ ad, a = some ad → ad.block < N0 ∧ OB < ad.block) ∧ C ≤ cp := by
    intro r' hr'
    obtain ⟨a, cp, h1, h2, h3⟩ := h.done r' hr'
    refine ⟨a, cp, cell_off (cellK (by omega) h1) (by omega), rowSet ?_ (fun ad had => by have := (h3.1 ad had).2; omega), h3⟩
    exact g.row (Row.ext h2 e) (fun x hx he => by have := hk _ he.symm; have := (h3.1 x hx).1; omega)
  have act' : (W2.setCell ⟨OB, r, none⟩ v').cell? ⟨OB, r, none⟩ = some v' := by obtain ⟨u, hu⟩ := cel2 r hr; exact World.cell_same hu
  have rest' : ∀ r', r < r' → r' < R → (W2.setCell ⟨OB, r, none⟩ v').cell? ⟨OB, r', none⟩ = some (.slice none 0 0) := fun r' h1 h2 => cell_off (cellK (by omega) (h.rest r' h1 h2)) (by omega)
  have frz' : ∀ r', r' < R → (W2.setCell ⟨OB, r, none⟩ v').frozen? ⟨OB, r', none⟩ = false := fun r' hr' => by
    obtain ⟨u, hu⟩ := h.cel r' hr'
    have hlt := cell_lt (e.cell_of hu)
    rw [World.frozen?_setCell, World.frozen?_of_block (w := W1) (g.block OB hlt (fun he => by have := hk _ he.symm; omega))]
    exact e.frozen_of (cell_lt hu) (h.frz r' hr')
  have cel' : ∀ r', r' < R → ∃ u, (W2.setCell ⟨OB, r, none⟩ v').cell? ⟨OB, r', none⟩ = some u := fun r' hr' => by
    by_cases e : r' = r
    · subst e; exact ⟨_, act'⟩
    · obtain ⟨u, hu⟩ := cel2 r' hr'; exact ⟨u, cell_off hu e⟩
  by_cases hcc : c + 1 < C
  · exact ⟨N0, r, c + 1, v', Nat.le_refl _, by omega, hcc, by omega, by omega, ⟨⟨hob.1, by simp; omega⟩, don, fun _ => act', ownSet, rest', frz', cel'⟩⟩
  · have hC : c + 1 = C := by omega
    refine ⟨W2.heap.size, r + 1, 0, .slice none 0 0, by omega, by rw [Nat.add_mul]; omega, by omega, hr, fun _ => rfl, ⟨⟨by omega, by simp⟩, fun r' hr' => ?_, fun h1 => rest' _ (by omega) h1, World.ownsRow_nil _ _ _ _, fun r' h1 h2 => rest' r' (by omega) h2, frz', cel'⟩⟩
    by_cases e : r' < r
    · obtain ⟨a, cp, h1, h2, h3⟩ := don r' e
      exact ⟨a, cp, h1, h2, fun ad had => ⟨by have := (h3.1 ad had).1; omega, (h3.1 ad had).2⟩, h3.2⟩
    · have e2 : r' = r := by omega
      subst e2
      obtain ⟨a, cp, rfl⟩ := o.isSlice
      subst hC
      refine ⟨a, cp, act', ownSet.toRow, fun ad had => ?_, ?_⟩
      · rcases o.2 with ⟨h2, _⟩ | ⟨g0, cap, cur, e1, h3, h4, h5⟩
        · simp at h2
        · simp at e1
          rw [e1.1] at had
          cases had
          exact ⟨(Array.getElem?_eq_some_iff.1 h4).1, by show OB < g0; omega⟩
      · rcases o.2 with ⟨h2, _⟩ | ⟨g0, cap, cur, e1, h3, h4, h5, _⟩
        · simp at h2
        · simp at e1; omega
theorem Fill.mat {OB R C : Nat} {V : Nat → Nat → Int} {N0 : Nat} {v : Value} {W : World} (h : Fill OB R C V N0 R 0 v W) : ∃ ss, MatAt W (some ⟨OB, 0, none⟩) ss ((List.range R).map fun r => rowV V r C) ∧ ∀ r (hr : r < ss.length), ss[r].n ≤ ss[r].c ∧ ∀ ad, ss[r].a = some ad → OB < ad.block := by
  obtain ⟨ss, h1, h2⟩ := exists_list (fun r (s : Sl) => W.cell? ⟨OB, r, none⟩ = some (.slice s.a s.n s.c) ∧ s.n = C ∧ RowS encI W s.a (rowV V r C) ∧ s.n ≤ s.c ∧ ∀ ad, s.a = some ad → OB < ad.block) R (fun r hr => by
    obtain ⟨a, cp, q1, q2, q3, q4⟩ := h.done r hr
    exact ⟨⟨a, C, cp⟩, q1, rfl, q2, q4, fun ad had => (q3 ad had).2⟩)
  refine ⟨ss, ?_, fun r hr => (h2 r hr).2.2.2⟩
  refine ⟨⟨fun _ => ⟨OB, 0, rfl, by have := h.ob; omega, fun k hk => ?_⟩⟩, by simpa using h1, fun r hr hr' => ?_⟩
  · have hk' : k < ss.length := by rw [flatMap_length (s := 1) (fun _ => rfl)] at hk; omega
    have := flatMap_getElem? (enc := Sl.enc) (s := 1) (fun _ => rfl) ss k 0 hk' (by decide)
    rw [show k = k * 1 + 0 by omega, this]
    have := (h2 k hk').1
    simpa [Sl.enc] using this
  · obtain ⟨q1, q2, q3, _⟩ := h2 r hr
    simp only [List.getElem_map, List.getElem_range]
    exact ⟨by rw [q2, rowV_len], q3⟩
def upd (u : Nat → Value) (i : Nat) (v : Value) : Nat → Value := fun j => if j = i then v else u j
def rdVals (OB R r b9 M : Nat) (v : Value) (c : Nat) (z : Int) : Nat → Value
  | 0 => .slice (some ⟨OB, 0, none⟩) R R
  | 1 => .pointer (some ⟨b9, 1, none⟩)
  | 2 => .int .i64 r
  | 3 => .slice (some ⟨OB, 0, none⟩) R R
  | 4 => .pointer (some ⟨b9, 1, none⟩)
  | 5 => .int .i64 r
  | 6 => .pointer (some ⟨OB, r, none⟩)
  | 7 => v
  | 8 => .map (some M)
  | 9 => .agg #[.int .i64 c, .int .i64 r]
  | 10 => .int .i64 z
  | _ => undef
structure RdAt (b7 b8 b9 OB M R r c : Nat) (v : Value) (D : List Ent) (W : World) : Prop where
  c7 : W.cell? ⟨b7, 0, none⟩ = some (.map (some M))
  c8 : W.cell? ⟨b8, 0, none⟩ = some (.slice (some ⟨OB, 0, none⟩) R R)
  h9 : W.heap[b9]? = some (.cells #[.int .i64 c, .int .i64 r] 61)
  co : W.cell? ⟨OB, r, none⟩ = some v
  m : MapAt W M D
  fo : W.frozen? ⟨OB, r, none⟩ = false
theorem RdAt.ext {b7 b8 b9 OB M R r c : Nat} {v : Value} {D : List Ent} {W W' : World} (h : RdAt b7 b8 b9 OB M R r c v D W) (e : Ext W W') : RdAt b7 b8 b9 OB M R r c v D W' :=
  ⟨e.cell_of h.c7, e.cell_of h.c8, e.heap h.h9, e.cell_of h.co, h.m.ext e, e.frozen_of (cell_lt h.co) h.fo⟩
theorem RdAt.c90 {b7 b8 b9 OB M R r c : Nat} {v : Value} {D : List Ent} {W : World} (h : RdAt b7 b8 b9 OB M R r c v D W) : W.cell? ⟨b9, 0, none⟩ = some (.int .i64 c) := by simp [World.cell?, h.h9]
theorem RdAt.c91 {b7 b8 b9 OB M R r c : Nat} {v : Value} {D : List Ent} {W : World} (h : RdAt b7 b8 b9 OB M R r c v D W) : W.cell? ⟨b9, 1, none⟩ = some (.int .i64 r) := by simp [World.cell?, h.h9]
def Mid (V : Nat → Nat → Int) (N0 r c : Nat) (v : Value) (W0 : World) (v' : Value) (W2 : World) : Prop :=
  ∃ W1, Ext W0 W1 ∧ W1.grownBy W2 v.ownBlock ∧ W2.ownsRow N0 3 1 v' (c + 1) ((rowV V r (c + 1)).flatMap encI)
structure RegInv (V : Nat → Nat → Int) (b7 b8 b9 OB M R r c N0 : Nat) (v : Value) (D : List Ent) (W0 : World) (s : Nat → Bool) (u : Nat → Value) (W : World) : Prop where
  reads : ∀ i, i < 11 → s i = true → u i = rdVals OB R r b9 M v c (V c r) i
  rd : s 14 = false → RdAt b7 b8 b9 OB M R r c v D W
  ext : s 12 = false → Ext W0 W
  new : s 11 = true → s 12 = false → ∃ g, u 11 = .slice (some ⟨g, 0, none⟩) 1 1 ∧ W.cell? ⟨g, 0, none⟩ = some (.int .i64 (V c r))
  mid : s 12 = true → s 14 = false → Mid V N0 r c v W0 (u 12) W
  ad : s 13 = true → u 13 = .pointer (some ⟨OB, r, none⟩)
  fin : s 14 = true → ∃ v' W2, Mid V N0 r c v W0 v' W2 ∧ W = W2.setCell ⟨OB, r, none⟩ v'
  d12 : s 12 = true → s 7 = true ∧ s 11 = true
  d13 : s 13 = true → ∀ j, j < 13 → s j = true
  d14 : s 14 = true → s 13 = true
section
variable {V : Nat → Nat → Int} {b7 b8 b9 OB M R r c N0 : Nat} {v : Value} {D : List Ent} {W0 : World} {s : Nat → Bool} {u : Nat → Value} {W : World}
theorem RegInv.begin (e : Ext W0 W) (h : RdAt b7 b8 b9 OB M R r c v D W) : RegInv V b7 b8 b9 OB M R r c N0 v D W0 (fun _ => false) u W :=
  ⟨by simp, fun _ => h, fun _ => e, by simp, by simp, by simp, by simp, by simp, by simp, by simp⟩
theorem RegInv.read (h : RegInv V b7 b8 b9 OB M R r c N0 v D W0 s u W) {i : Nat} (hi : i < 11) : RegInv V b7 b8 b9 OB M R r c N0 v D W0 (fun j => decide (j = i) || s j) (upd u i (rdVals OB R r b9 M v c (V c r) i)) W := by
  have ne : ∀ j, 11 ≤ j → (decide (j = i) || s j) = s j := fun j hj => by rw [show decide (j = i) = false by simp; omega]; rfl
  have un : ∀ j, 11 ≤ j → upd u i (rdVals OB R r b9 M v c (V c r) i) j = u j := fun j hj => by unfold upd; rw [if_neg (by omega)]
  refine ⟨fun j hj hs => ?_, ?_, ?_, ?_, ?_, ?_, ?_, ?_, ?_, ?_⟩
  · unfold upd
    by_cases e : j = i
    · subst e; simp
    · rw [if_neg e]; exact h.reads j hj (by simpa [e] using hs)
  · rw [ne 14 (by omega)]; exact h.rd
  · rw [ne 12 (by omega)]; exact h.ext
  · rw [ne 11 (by omega), ne 12 (by omega), un 11 (by omega)]; exact h.new
  · rw [ne 12 (by omega), ne 14 (by omega), un 12 (by omega)]; exact h.mid
  · rw [ne 13 (by omega), un 13 (by omega)]; exact h.ad
  · rw [ne 14 (by omega)]; exact h.fin
  · rw [ne 12 (by omega), ne 11 (by omega)]; intro h1; have := h.d12 h1; exact ⟨by simp [this.1], this.2⟩
  · rw [ne 13 (by omega)]; intro h1 j hj; rw [h.d13 h1 j hj]; simp
  · rw [ne 14 (by omega), ne 13 (by omega)]; exact h.d14
theorem RegInv.build (h : RegInv V b7 b8 b9 OB M R r c N0 v D W0 s u W) (h11 : s 11 = false) {o : Obj} {g : Nat} (hg : (W.alloc o).cell? ⟨g, 0, none⟩ = some (.int .i64 (V c r))) :
    RegInv V b7 b8 b9 OB M R r c N0 v D W0 (fun j => decide (j = 11) || s j) (upd u 11 (.slice (some ⟨g, 0, none⟩) 1 1)) (W.alloc o) := by
  have h12 : s 12 = false := by cases e : s 12 with | false => rfl | true => have := (h.d12 e).2; simp_all
  have h13 : s 13 = false := by cases e : s 13 with | false => rfl | true => have := h.d13 e 11 (by omega); simp_all
  have h14 : s 14 = false := by cases e : s 14 with | false => rfl | true => have := (h.d14 e); simp_all
  refine ⟨fun j hj hs => ?_, fun _ => (h.rd h14).ext (Ext.alloc _ _), fun _ => (h.ext h12).toAlloc _, fun _ _ => ⟨g, by simp [upd], hg⟩, by simp [h12], by simp [h13], by simp [h14], by simp [h12], by simp [h13], by simp [h14]⟩
  have e : ¬ j = 11 := by omega
  unfold upd
  rw [if_neg e]; exact h.reads j hj (by simpa [e] using hs)
theorem RegInv.app (h : RegInv V b7 b8 b9 OB M R r c N0 v D W0 s u W) (h12 : s 12 = false) (h7 : s 7 = true) (h11 : s 11 = true) (own : W0.ownsRow N0 3 1 v c ((rowV V r c).flatMap encI)) (hN : N0 ≤ W0.heap.size) (hb7 : b7 < N0) (hb8 : b8 < N0) (hOB : OB < N0)
    (hc : c < 8) :
    ∃ v' W', (Builtin.append_ #[43, 43] 43 #[u 7, u 11]).run Tryz.prog W = .ok v' W' ∧ RegInv V b7 b8 b9 OB M R r c N0 v D W0 (fun j => decide (j = 12) || s j) (upd u 12 v') W' := by
  have h13 : s 13 = false := by cases e : s 13 with | false => rfl | true => have := h.d13 e 12 (by omega); simp_all
  have h14 : s 14 = false := by cases e : s 14 with | false => rfl | true => have := (h.d14 e); simp_all
  obtain ⟨g, hu, hg⟩ := h.new h11 h12
  have e7 := h.reads 7 (by omega) h7
  simp only [rdVals] at e7
  have ex := h.ext h12
  have own1 := own.ext ex
  obtain ⟨i0, hi, hz0, hz1, hz2⟩ := info_parts Tryz.info3
  obtain ⟨v', W', hrun, o', gr, _, _⟩ := run_append_own_at (P := Tryz.prog) (w := W) N0 43 43 3 i0 (.int .i64 0) 1 8 Tryz.underlying43 hi hz0 hz1 hz2 rfl (by decide) v c _ own1 ⟨g, 0, none⟩ 1 1 [.int .i64 (V c r)] rfl (fun j u hj => by
    cases j with
    | zero => simp at hj; subst hj; simpa [Addr.add] using hg
    | succ j => simp at hj) (by simp [Value.oneCell']) (by unfold maxLen; omega) (by omega) (Nat.le_trans hN ex.le)
  refine ⟨v', W', by rw [e7, hu]; exact hrun, ⟨fun j hj hs => ?_, fun _ => ?_, by simp, by simp, fun _ _ => ⟨W, ex, gr, by simpa [upd, rowV_succ] using o'⟩, by simp [h13], by simp [h14], fun _ => by simp [h7, h11], by simp [h13], by simp [h14]⟩⟩
  · have e : ¬ j = 12 := by omega
    unfold upd
    rw [if_neg e]; exact h.reads j hj (by simpa [e] using hs)
  · have rd := h.rd h14
    have hk : ∀ k, v.ownBlock = some k → N0 ≤ k := own.ge
    have hown : ∀ k, v.ownBlock = some k → ∃ cur, W.heap[k]? = some (.cells cur 3 (0, 0)) := by
      intro k hk
      rcases own1.2 with ⟨e, _⟩ | ⟨g0, cap, cur, e1, _, h4, _⟩
      · subst e; simp [Value.ownBlock] at hk
      · subst e1; simp [Value.ownBlock] at hk; subst hk; exact ⟨cur, h4⟩
    refine ⟨gr.cellOf rd.c7 (fun he => by have := hk _ he.symm; omega), gr.cellOf rd.c8 (fun he => by have := hk _ he.symm; omega), ?_, gr.cellOf rd.co (fun he => by have := hk _ he.symm; omega), rd.m.heap ?_, by rw [World.frozen?_of_block (w := W) (gr.block OB (cell_lt rd.co) (fun he => by have := hk _ he.symm; omega))]; exact rd.fo⟩
    · rw [gr.block b9 (Array.getElem?_eq_some_iff.1 rd.h9).1 (fun he => by obtain ⟨cur, hcur⟩ := hown _ he.symm; rw [rd.h9] at hcur; simp at hcur)]
      exact rd.h9
    · exact gr.block M rd.m.lt (fun he => by
        obtain ⟨cur, hcur⟩ := hown _ he.symm
        obtain ⟨o, h1, h2⟩ := rd.m.notCells
        rw [h1] at hcur; cases hcur; simp [Obj.isCells] at h2)
theorem RegInv.addr (h : RegInv V b7 b8 b9 OB M R r c N0 v D W0 s u W) (h13 : s 13 = false) (hall : ∀ j, j < 13 → s j = true) : RegInv V b7 b8 b9 OB M R r c N0 v D W0 (fun j => decide (j = 13) || s j) (upd u 13 (.pointer (some ⟨OB, r, none⟩))) W := by
  have h14 : s 14 = false := by cases e : s 14 with | false => rfl | true => have := (h.d14 e); simp_all
  have h12 := hall 12 (by omega)
  refine ⟨fun j hj hs => ?_, by simpa using h.rd, by simpa using h.ext, by simp [h12], by simpa [upd] using h.mid, by simp [upd], by simp [h14], by simpa using h.d12, fun _ j hj => by rw [hall j hj]; simp, by simp⟩
  have e : ¬ j = 13 := by omega
  unfold upd
  rw [if_neg e]; exact h.reads j hj (by simpa [e] using hs)
theorem RegInv.store (h : RegInv V b7 b8 b9 OB M R r c N0 v D W0 s u W) (h14 : s 14 = false) (h12 : s 12 = true) (h13 : s 13 = true) : RegInv V b7 b8 b9 OB M R r c N0 v D W0 (fun j => decide (j = 14) || s j) u (W.setCell ⟨OB, r, none⟩ (u 12)) := by
  refine ⟨fun j hj hs => h.reads j hj (by simpa [show ¬ j = 14 by omega] using hs), by simp, by simp [h12], by simp [h12], by simp, by simpa using h.ad, fun _ => ⟨u 12, W, h.mid h12 h14, rfl⟩, by simpa using h.d12, fun h1 j hj => by rw [h.d13 (by simpa using h1) j hj]; simp, by simp [h13]⟩
end
set_option maxRecDepth 100000 in
set_option maxHeartbeats 1000000 in
theorem TimesFrom_any (la ta : Option Addr) (lc tc : Nat) (x : Grid) (fr : Cel) (w : World) (hg : GridAt w la ta x) (hs : Sides w) :
    Calls Tryz.prog 21 #[.agg #[.slice la x.layers.length lc, .int .i64 x.rows, .slice ta x.tilt.length tc], .agg #[.int .i64 fr.col, .int .i64 fr.row]] w fun e w' => matPost (timesR x fr).1 (timesR x fr).2 w e w' := by
  have HG := Lib.hid hg
  have HS := Lib.hid hs
  clear hg hs
  refine calls_of_wp_marks Tryz.func21 rfl ?_
  simp only [Tryz.ntmps21, List.size_toArray, List.length_cons, List.length_nil, Nat.reduceAdd, Nat.reduceSub, Array.replicate_succ, Array.replicate_zero, List.push_toArray, List.append_toArray, List.nil_append, List.cons_append]
  go_wp2_with fail
  generalize hW : World.alloc (World.alloc w _) _ = W0
  have e0 := Lib.hid (show Ext w W0 by rw [← hW]; exact (Ext.alloc _ _).toAlloc _)
  have q0 : w.heap.size < W0.heap.size := by rw [← hW]; simp <;> omega
  have b00 : W0.cell? ⟨w.heap.size, 0, none⟩ = some (.slice la x.layers.length lc) := by rw [← hW]; exact ((Ext.alloc _ _).cell_of ((World.cell_at (by simp)).trans rfl))
  have b01 : W0.cell? ⟨w.heap.size, 1, none⟩ = some (.int .i64 x.rows) := by rw [← hW]; exact ((Ext.alloc _ _).cell_of ((World.cell_at (by simp)).trans rfl))
  have b02 : W0.cell? ⟨w.heap.size, 2, none⟩ = some (.slice ta x.tilt.length tc) := by rw [← hW]; exact ((Ext.alloc _ _).cell_of ((World.cell_at (by simp)).trans rfl))
  have q1 : w.heap.size + 1 < W0.heap.size := by rw [← hW]; simp <;> omega
  have b10 : W0.cell? ⟨w.heap.size + 1, 0, none⟩ = some (.int .i64 fr.col) := by rw [← hW]; exact ((World.cell_at (by simp)).trans rfl)
  have b11 : W0.cell? ⟨w.heap.size + 1, 1, none⟩ = some (.int .i64 fr.row) := by rw [← hW]; exact ((World.cell_at (by simp)).trans rfl)
  clear hW
  have LA : Hid (∀ y, Calls Tryz.prog 52 #[.agg #[.slice la x.layers.length lc, .int .i64 x.rows, .slice ta x.tilt.length tc]] (W0.over y) fun e w' => e = .returned (.int .i64 (iceErrE x)) ∧ Ext (W0.over y) w') := Lib.hid (fun y => iceErr_any la ta lc tc x _ (HG.out.ext (e0.out.trans (W0.over_ext y))))
  have LB : Hid (∀ y, Calls Tryz.prog 59 #[.agg #[.slice la x.layers.length lc, .int .i64 x.rows, .slice ta x.tilt.length tc], .agg #[.int .i64 fr.col, .int .i64 fr.row]] (W0.over y) fun e w' => e = .returned (.int .i64 (cellErrE x fr)) ∧ Ext (W0.over y) w') := Lib.hid (fun y => cellErr_any la ta lc tc x fr _ (HG.out.ext (e0.out.trans (W0.over_ext y))))
  refine wp_region_over 5 (by kernel_rfl) (by kernel_rfl) ?_
  simp only [List.take_succ_cons, List.take_zero, List.drop_succ_cons, List.drop_zero]
  repeat (quiet_step ((first | (go_at_call 52; exact Calls.over_ext (LA.out _)) | (go_at_call 59; exact Calls.over_ext (LB.out _)))))
  refine wpQuiet_nil ?_
  rintro _ ⟨x1, rfl⟩
  go_wp2_with fail
  refine (first_two _ _ _).mono ?_
  rintro e w1 ⟨rfl, hw1⟩
  have hx : Ext W0 w1 := by rw [← hw1]; exact (W0.over_ext x1).toAlloc _
  clear hw1
  replace b00 := hx.cell_of b00
  replace b01 := hx.cell_of b01
  replace b02 := hx.cell_of b02
  replace b10 := hx.cell_of b10
  replace b11 := hx.cell_of b11
  replace q0 := Nat.lt_of_lt_of_le q0 hx.le
  replace q1 := Nat.lt_of_lt_of_le q1 hx.le
  have e1 := Lib.hid (e0.out.trans hx)
  clear hx e0
  rw [show firstE [iceErrE x, cellErrE x fr] = fromE x fr from rfl]
  by_cases t1 : (fromE x fr != 0) = true
  · go_wp2_with fail
    refine bodyPostM_two rfl w.heap.size trivial (fun W' hk => ?_)
    refine matPost_of none [] 0 ?_ ?_ (hk.ext e1.out (Nat.le_refl _)) (by rw [timesR, if_pos t1]; exact Nat.le_refl _) (fun ad h => by cases h) (fun r hr => absurd hr (Nat.not_lt_zero r))
    · rw [timesR, if_pos t1]; rfl
    · rw [timesR, if_pos t1]; exact MatAt.nil _
  have T1 := Lib.hid t1
  replace t1 : (fromE x fr != 0) = false := by simpa using t1
  have V := Lib.hid (fromE_zero.1 (by simpa using t1))
  go_wp2_with fail
  refine (times_any la ta lc tc x fr _ (HG.out.ext e1.out) (HS.out.ext e1.out) V.out.1 V.out.2).mono ?_
  rintro e w2 ⟨M, D, d, rfl, hM, hd, hval, hx⟩
  replace b00 := hx.cell_of b00
  replace b01 := hx.cell_of b01
  replace b02 := hx.cell_of b02
  replace b10 := hx.cell_of b10
  replace b11 := hx.cell_of b11
  replace q0 := Nat.lt_of_lt_of_le q0 hx.le
  replace q1 := Nat.lt_of_lt_of_le q1 hx.le
  have e2 := Lib.hid (e1.out.trans hx)
  clear hx e1
  have HM := Lib.hid hM
  have HD := Lib.hid hd
  have HVAL := Lib.hid hval
  clear hM hd hval
  obtain ⟨R, hR⟩ := Int.eq_ofNat_of_zero_le (show 0 ≤ x.rows by have := V.out.1.r1; omega)
  have HRW := Lib.hid hR
  have g6 := V.out.1.r12
  have B01 := Lib.hid b01
  rw [hR] at g6 b01
  clear hR
  obtain ⟨i0, hi, hz0, hz1, hz2⟩ := info_parts Tryz.info43
  have hmk := run_makeSlice (P := Tryz.prog) (w2.alloc (.cells #[.map (some M)] 119)) 56 43 i0 _ Tryz.underlying56 hi hz0 .i64 .i64 R R (by omega) (by omega) (by rw [hz1]; simp; omega) (by rw [hz2]; omega) (by omega)
  rw [hz1] at hmk
  simp only [Int.toNat_natCast, Nat.mul_one] at hmk
  rw [World.size_alloc] at hmk
  clear hi hz0 hz1 hz2
  have x3 : Ext w2 (((w2.alloc (.cells #[.map (some M)] 119)).alloc (.cells (madeCells #[.slice none 0 0] R) 43)).alloc (.cells #[.slice (some ⟨w2.heap.size + 1, 0, none⟩) R R] 56)) := ((Ext.alloc _ _).toAlloc _).toAlloc _
  have X3 := Lib.hid x3
  have d00 := x3.cell_of b00
  have d01 := x3.cell_of B01.out
  have d02 := x3.cell_of b02
  clear x3
  go_wp2_with fail
  generalize hw3 : World.alloc (World.alloc (World.alloc w2 _) _) _ = w3 at X3 d00 d01 d02
  have C7 : Hid (w3.cell? ⟨w2.heap.size, 0, none⟩ = some (.map (some M))) := Lib.hid (by rw [← hw3]; exact (Ext.alloc _ _).cell_of ((Ext.alloc _ _).cell_of ((World.cell_at rfl).trans rfl)))
  have C8 : Hid (w3.cell? ⟨w2.heap.size + 1 + 1, 0, none⟩ = some (.slice (some ⟨w2.heap.size + 1, 0, none⟩) R R)) := Lib.hid (by rw [← hw3]; exact (World.cell_at (by simp)).trans rfl)
  have CO : Hid (∀ r', r' < R → w3.cell? ⟨w2.heap.size + 1, r', none⟩ = some (.slice none 0 0) ∧ w3.frozen? ⟨w2.heap.size + 1, r', none⟩ = false) := Lib.hid (fun r' hr' => by
    rw [← hw3]
    refine ⟨(Ext.alloc _ _).cell_of ((World.cell_at (by simp)).trans ?_), (Ext.alloc _ _).frozen_of (by simp) (World.frozen_at (by simp))⟩
    rw [← Array.getElem?_toList, toList_madeCells_one, List.getElem?_replicate, if_pos hr'])
  have sz3 : w3.heap.size = w2.heap.size + 1 + 1 + 1 := by rw [← hw3]; simp
  clear hw3 hmk b00 b01 b02
  refine (cells_any la ta lc tc x _).mono ?_
  rintro e w4 ⟨Bx, hBx, rfl, hrd, hx⟩
  have sz4 : w3.heap.size ≤ w4.heap.size := hx.le
  have C7' := hx.cell_of C7.out
  have C8' := hx.cell_of C8.out
  have HRD := Lib.hid hrd
  have X4 := Lib.hid (X3.out.trans hx)
  have HM4 := Lib.hid (HM.out.ext X4.out)
  have e4 := Lib.hid (e2.out.trans X4.out)
  have HF : Hid (Fill (w2.heap.size + 1) R x.tilt.length (fun c r => distOf x fr ⟨c, r⟩) w4.heap.size 0 0 (.slice none 0 0) w4) := Lib.hid ⟨⟨by omega, Nat.le_refl _⟩, fun r' h => absurd h (Nat.not_lt_zero _), fun h => hx.cell_of (CO.out 0 h).1, World.ownsRow_nil _ _ _ _, fun r' _ h => hx.cell_of (CO.out r' h).1, fun r' h => hx.frozen_of (by omega) (CO.out r' h).2, fun r' h => ⟨_, hx.cell_of (CO.out r' h).1⟩⟩
  have hBlt : Bx < w4.heap.size := cell_lt hrd.x1
  clear hrd hx d00 d01 d02 C7 C8 CO
  have ML := HM.out.lt
  have TP : 1 ≤ x.tilt.length := V.out.1.t1
  have RP : 1 ≤ R := by have := V.out.1.r1; have := HRW.out; omega
  go_wp2_with fail
  refine wp_range (gf := 90) (lb := #[.pointer (some ⟨Bx, 0, none⟩)]) rfl (enters_of Tryz.func90 (by kernel_rfl) rfl) (cells_seq Bx ta tc x V.out.1) (fun _ => rfl)
    (fun k W => (∃ N0 r c v, w4.heap.size ≤ N0 ∧ r * x.tilt.length + c = k ∧ c < x.tilt.length ∧ r ≤ R ∧ (r = R → c = 0) ∧ Fill (w2.heap.size + 1) R x.tilt.length (fun c r => distOf x fr ⟨c, r⟩) N0 r c v W) ∧ CellsRd Bx ta tc x W ∧ W.cell? ⟨w2.heap.size, 0, none⟩ = some (.map (some M)) ∧ W.cell? ⟨w2.heap.size + 1 + 1, 0, none⟩ = some (.slice (some ⟨w2.heap.size + 1, 0, none⟩) R R) ∧ MapAt W M D ∧ Ext w W)
    (fun _ _ _ => False)
    (fun k A A' hk ⟨⟨N0, r, c, v, qN, q0, q1, q2, q3, q4⟩, p1, p2, p3, p4, p5⟩ => ⟨⟨N0, r, c, v, qN, q0, q1, q2, q3, q4.keeps hk⟩, p1.keeps hk, hk.cell p2, hk.cell p3, hk.map p4 (by omega), hk.ext p5 e4.out.le⟩)
    (fun _ _ _ _ _ h => h)
    (fun k A h => h.2.1)
    ⟨⟨w4.heap.size, 0, 0, _, Nat.le_refl _, by omega, TP, Nat.zero_le _, fun _ => rfl, HF.out⟩, HRD.out, C7', C8', HM4.out, e4.out⟩
    (fun a k a' W => ∃ b9 n, (cellsL x)[k]? = some n ∧ a' = { tmps := (a.tmps.setIfInBounds 28 (.agg #[.int .i64 n.col, .int .i64 n.row])).setIfInBounds 9 (.pointer (some ⟨b9, 0, none⟩)), defers := [] } ∧ W.heap[b9]? = some (.cells #[.int .i64 n.col, .int .i64 n.row] 61))
    (fun k a' A A' hk ⟨b9, n, q1, q2, q3⟩ => ⟨b9, n, q1, q2, hk.same _ _ q3 (.inr rfl)⟩) ?assign ?body ?done ?stop
  case assign =>
    intro l k hk W K hi hK
    obtain ⟨n, hp⟩ : ∃ p, (cellsL x)[k] = p := ⟨_, rfl⟩
    have hp' : (cellsL x)[k]? = some n := by rw [List.getElem?_eq_getElem hk, hp]
    rw [hp]
    simp only [encCel]
    gi_wp2
    have xa := Ext.alloc W (.cells #[.int .i64 n.col, .int .i64 n.row] 61)
    refine hK _ _ ((KeepsOthers.alloc _ _).from _) ?_ ⟨W.heap.size, n, hp', rfl, World.alloc_heap_new _ _⟩
    obtain ⟨⟨N0, r, c, v, qN, q0, q1, q2, q3, q4⟩, p1, p2, p3, p4, p5⟩ := hi
    exact ⟨⟨N0, r, c, v, qN, q0, q1, q2, q3, q4.keeps (xa.keeps 0)⟩, p1.ext xa, xa.cell_of p2, xa.cell_of p3, p4.ext xa, p5.trans xa⟩
  case body =>
    rintro l k hk a' W hl ⟨⟨N0, r, c, v, qN, q0, q1, q2, q3, q4⟩, p1, p2, p3, p4, p5⟩ ⟨b9, n, hn, rfl, h9⟩
    simp only [List.setIfInBounds_toArray, List.set_cons_succ, List.set_cons_zero]
    have hkl : k < R * x.tilt.length := by rw [cellsL_len, HRW.out, Int.toNat_natCast] at hk; exact hk
    have hr : r < R := by
      refine Classical.byContradiction fun hn => ?_
      have := Nat.mul_le_mul_right x.tilt.length (Nat.le_of_not_lt hn)
      omega
    have hnc : n = ⟨c, r⟩ := by
      obtain ⟨h1, h2⟩ := cellsL_get (x := x) (r := r) (c := c) (by rw [HRW.out, Int.toNat_natCast]; exact hr) q1
      rw [q0] at h1
      have := (List.getElem?_eq_some_iff.1 hn).2
      simp only [← q0] at this
      rw [← this, h2]
    subst hnc
    have RD0 : RdAt w2.heap.size (w2.heap.size + 1 + 1) b9 (w2.heap.size + 1) M R r c v D W := ⟨p2, p3, h9, q4.act hr, p4, q4.frz r hr⟩
    have FL := Lib.hid q4
    have CR := Lib.hid p1
    have EW := Lib.hid p5
    have C7W := Lib.hid p2
    have C8W := Lib.hid p3
    have MW := Lib.hid p4
    clear p1 p2 p3 p4 p5 q4 h9 hn
    have hri : (r : Int) < R := by omega
    have hri0 : (0 : Int) ≤ r := by omega
    have HZ : Hid ((valOf D ⟨(c : Int), (r : Int)⟩).getD 0 = distOf x fr ⟨c, r⟩) := Lib.hid (by
      have hig : InG x ⟨(c : Int), (r : Int)⟩ := ⟨⟨by simp, by simp; omega⟩, by simp, by have := HRW.out; simp only; omega⟩
      rw [(HVAL.out _ hig).1]
      exact IsDist.unique V.out.1 HD.out (distOf_is HD.out) hig)
    gi_wp2
    generalize hA : Act.mk _ _ = a0
    refine wpIn_region_inv rfl (by kernel_rfl) (fun s a W' => ∃ u : Nat → Value, a = { tmps := ((((((((((((((a0.tmps).setIfInBounds 29 (u 0)).setIfInBounds 30 (u 1)).setIfInBounds 31 (u 2)).setIfInBounds 32 (u 3)).setIfInBounds 33 (u 4)).setIfInBounds 34 (u 5)).setIfInBounds 35 (u 6)).setIfInBounds 36 (u 7)).setIfInBounds 37 (u 8)).setIfInBounds 38 (u 9)).setIfInBounds 39 (u 10)).setIfInBounds 40 (u 11)).setIfInBounds 41 (u 12)).setIfInBounds 42 (u 13), defers := [] } ∧ RegInv (fun c r => distOf x fr ⟨c, r⟩) w2.heap.size (w2.heap.size + 1 + 1) b9 (w2.heap.size + 1) M R r c N0 v D W s u W') ?h0 ?hstep ?hend
    case h0 => exact ⟨fun _ => undef, by subst hA; simp only [List.setIfInBounds_toArray, List.set_cons_succ, List.set_cons_zero], RegInv.begin ⟨rfl, rfl, rfl, Nat.le_refl _, fun _ _ => rfl⟩ (RD0.ext ⟨rfl, rfl, rfl, Nat.le_refl _, fun _ _ => rfl⟩)⟩
    case hstep =>
      rintro s a W' i o ho hi hb ⟨u, rfl, RI⟩
      subst hA
      simp only [List.setIfInBounds_toArray, List.set_cons_succ, List.set_cons_zero]
      have hlt : i < 15 := by have := (Array.getElem?_eq_some_iff.1 ho).1; simpa using this
      obtain rfl | rfl | rfl | rfl | rfl | rfl | rfl | rfl | rfl | rfl | rfl | rfl | rfl | rfl | rfl : i = 0 ∨ i = 1 ∨ i = 2 ∨ i = 3 ∨ i = 4 ∨ i = 5 ∨ i = 6 ∨ i = 7 ∨ i = 8 ∨ i = 9 ∨ i = 10 ∨ i = 11 ∨ i = 12 ∨ i = 13 ∨ i = 14 := by omega
      all_goals
        obtain rfl := (Option.some.inj ho)
        simp only [wpOpIn, List.getElem?_toArray, List.getElem?_cons_zero, List.getElem?_cons_succ]
        rw [if_pos (by simp [Region.wanted])]
        unfold Oper.wpIn
        refine ⟨fun _ _ => trivial, ?_⟩
      · have rd := RI.rd (by cases e : s 14 with | false => rfl | true => have := RI.d13 (RI.d14 e) 0 (by omega); simp_all)
        have c7 := rd.c7
        have c8 := rd.c8
        have c90 := rd.c90
        have c91 := rd.c91
        have co := rd.co
        have l10 := lookup_plain rd.m ⟨(c : Int), (r : Int)⟩
        rw [HZ.out] at l10
        simp [go_sem, execOp, c8]
        exact ⟨_, by simp [upd, rdVals], RI.read (i := 0) (by omega)⟩
      · have rd := RI.rd (by cases e : s 14 with | false => rfl | true => have := RI.d13 (RI.d14 e) 1 (by omega); simp_all)
        have c7 := rd.c7
        have c8 := rd.c8
        have c90 := rd.c90
        have c91 := rd.c91
        have co := rd.co
        have l10 := lookup_plain rd.m ⟨(c : Int), (r : Int)⟩
        rw [HZ.out] at l10
        simp [go_sem, execOp]
        exact ⟨_, by simp [upd, rdVals], RI.read (i := 1) (by omega)⟩
      · have rd := RI.rd (by cases e : s 14 with | false => rfl | true => have := RI.d13 (RI.d14 e) 2 (by omega); simp_all)
        have g1 := RI.reads 1 (by omega) (hb ⟨1, .data⟩ (by simp) rfl)
        simp only [rdVals] at g1
        have c7 := rd.c7
        have c8 := rd.c8
        have c90 := rd.c90
        have c91 := rd.c91
        have co := rd.co
        have l10 := lookup_plain rd.m ⟨(c : Int), (r : Int)⟩
        rw [HZ.out] at l10
        simp [go_sem, execOp, g1, c91]
        exact ⟨_, by simp [upd, rdVals, g1], RI.read (i := 2) (by omega)⟩
      · have rd := RI.rd (by cases e : s 14 with | false => rfl | true => have := RI.d13 (RI.d14 e) 3 (by omega); simp_all)
        have c7 := rd.c7
        have c8 := rd.c8
        have c90 := rd.c90
        have c91 := rd.c91
        have co := rd.co
        have l10 := lookup_plain rd.m ⟨(c : Int), (r : Int)⟩
        rw [HZ.out] at l10
        simp [go_sem, execOp, c8]
        exact ⟨_, by simp [upd, rdVals], RI.read (i := 3) (by omega)⟩
      · have rd := RI.rd (by cases e : s 14 with | false => rfl | true => have := RI.d13 (RI.d14 e) 4 (by omega); simp_all)
        have c7 := rd.c7
        have c8 := rd.c8
        have c90 := rd.c90
        have c91 := rd.c91
        have co := rd.co
        have l10 := lookup_plain rd.m ⟨(c : Int), (r : Int)⟩
        rw [HZ.out] at l10
        simp [go_sem, execOp]
        exact ⟨_, by simp [upd, rdVals], RI.read (i := 4) (by omega)⟩
      · have rd := RI.rd (by cases e : s 14 with | false => rfl | true => have := RI.d13 (RI.d14 e) 5 (by omega); simp_all)
        have g4 := RI.reads 4 (by omega) (hb ⟨4, .data⟩ (by simp) rfl)
        simp only [rdVals] at g4
        have c7 := rd.c7
        have c8 := rd.c8
        have c90 := rd.c90
        have c91 := rd.c91
        have co := rd.co
        have l10 := lookup_plain rd.m ⟨(c : Int), (r : Int)⟩
        rw [HZ.out] at l10
        simp [go_sem, execOp, g4, c91]
        exact ⟨_, by simp [upd, rdVals, g4], RI.read (i := 5) (by omega)⟩
      · have rd := RI.rd (by cases e : s 14 with | false => rfl | true => have := RI.d13 (RI.d14 e) 6 (by omega); simp_all)
        have g3 := RI.reads 3 (by omega) (hb ⟨3, .data⟩ (by simp) rfl)
        simp only [rdVals] at g3
        have g5 := RI.reads 5 (by omega) (hb ⟨5, .data⟩ (by simp) rfl)
        simp only [rdVals] at g5
        have c7 := rd.c7
        have c8 := rd.c8
        have c90 := rd.c90
        have c91 := rd.c91
        have co := rd.co
        have l10 := lookup_plain rd.m ⟨(c : Int), (r : Int)⟩
        rw [HZ.out] at l10
        simp [go_sem, execOp, g3, g5, hri, hri0]
        exact ⟨_, by simp [upd, rdVals, g3, g5], RI.read (i := 6) (by omega)⟩
      · have rd := RI.rd (by cases e : s 14 with | false => rfl | true => have := RI.d13 (RI.d14 e) 7 (by omega); simp_all)
        have g6 := RI.reads 6 (by omega) (hb ⟨6, .data⟩ (by simp) rfl)
        simp only [rdVals] at g6
        have c7 := rd.c7
        have c8 := rd.c8
        have c90 := rd.c90
        have c91 := rd.c91
        have co := rd.co
        have l10 := lookup_plain rd.m ⟨(c : Int), (r : Int)⟩
        rw [HZ.out] at l10
        simp [go_sem, execOp, g6, co]
        exact ⟨_, by simp [upd, rdVals, g6], RI.read (i := 7) (by omega)⟩
      · have rd := RI.rd (by cases e : s 14 with | false => rfl | true => have := RI.d13 (RI.d14 e) 8 (by omega); simp_all)
        have c7 := rd.c7
        have c8 := rd.c8
        have c90 := rd.c90
        have c91 := rd.c91
        have co := rd.co
        have l10 := lookup_plain rd.m ⟨(c : Int), (r : Int)⟩
        rw [HZ.out] at l10
        simp [go_sem, execOp, c7]
        exact ⟨_, by simp [upd, rdVals], RI.read (i := 8) (by omega)⟩
      · have rd := RI.rd (by cases e : s 14 with | false => rfl | true => have := RI.d13 (RI.d14 e) 9 (by omega); simp_all)
        have c7 := rd.c7
        have c8 := rd.c8
        have c90 := rd.c90
        have c91 := rd.c91
        have co := rd.co
        have l10 := lookup_plain rd.m ⟨(c : Int), (r : Int)⟩
        rw [HZ.out] at l10
        simp [go_sem, execOp, c90, c91]
        exact ⟨_, by simp [upd, rdVals], RI.read (i := 9) (by omega)⟩
      · have rd := RI.rd (by cases e : s 14 with | false => rfl | true => have := RI.d13 (RI.d14 e) 10 (by omega); simp_all)
        have g8 := RI.reads 8 (by omega) (hb ⟨8, .data⟩ (by simp) rfl)
        simp only [rdVals] at g8
        have g9 := RI.reads 9 (by omega) (hb ⟨9, .data⟩ (by simp) rfl)
        simp only [rdVals] at g9
        have c7 := rd.c7
        have c8 := rd.c8
        have c90 := rd.c90
        have c91 := rd.c91
        have co := rd.co
        have l10 := lookup_plain rd.m ⟨(c : Int), (r : Int)⟩
        rw [HZ.out] at l10
        simp [go_sem, execOp, g8, g9, l10]
        exact ⟨_, by simp [upd, rdVals, g8, g9], RI.read (i := 10) (by omega)⟩
      · have g10 := RI.reads 10 (by omega) (hb ⟨10, .data⟩ (by simp) rfl)
        simp only [rdVals] at g10
        simp [go_sem, execOp, g10]
        exact ⟨_, by simp [upd, g10], RI.build hi (World.cell_at rfl)⟩
      · obtain ⟨v', W2, hrun, RI2⟩ := RI.app hi (hb ⟨7, .data⟩ (by simp) rfl) (hb ⟨11, .data⟩ (by simp) rfl) FL.out.own FL.out.ob.2 (by have := FL.out.ob.1; omega) (by have := FL.out.ob.1; omega) (by have := FL.out.ob.1; omega) (by have := V.out.1.t8; omega)
        simp [execOp, resolve, invoke, builtin, Oper.semAt_some, Act.eval, hrun, Result.andThen, Oper.uponIn, Act.put]
        exact ⟨_, by simp [upd], RI2⟩
      · have g0 := RI.reads 0 (by omega) (hb ⟨0, .data⟩ (by simp) rfl)
        have g2 := RI.reads 2 (by omega) (hb ⟨2, .data⟩ (by simp) rfl)
        simp only [rdVals] at g0 g2
        simp [go_sem, execOp, g0, g2, hri, hri0]
        exact ⟨_, by simp [upd, g0, g2], RI.addr hi (fun j hj => by
          obtain rfl | rfl | rfl | rfl | rfl | rfl | rfl | rfl | rfl | rfl | rfl | rfl | rfl : j = 0 ∨ j = 1 ∨ j = 2 ∨ j = 3 ∨ j = 4 ∨ j = 5 ∨ j = 6 ∨ j = 7 ∨ j = 8 ∨ j = 9 ∨ j = 10 ∨ j = 11 ∨ j = 12 := by omega
          · exact hb ⟨0, .phase⟩ (by simp) rfl
          · exact hb ⟨1, .phase⟩ (by simp) rfl
          · exact hb ⟨2, .phase⟩ (by simp) rfl
          · exact hb ⟨3, .phase⟩ (by simp) rfl
          · exact hb ⟨4, .phase⟩ (by simp) rfl
          · exact hb ⟨5, .phase⟩ (by simp) rfl
          · exact hb ⟨6, .phase⟩ (by simp) rfl
          · exact hb ⟨7, .phase⟩ (by simp) rfl
          · exact hb ⟨8, .phase⟩ (by simp) rfl
          · exact hb ⟨9, .phase⟩ (by simp) rfl
          · exact hb ⟨10, .phase⟩ (by simp) rfl
          · exact hb ⟨11, .phase⟩ (by simp) rfl
          · exact hb ⟨12, .phase⟩ (by simp) rfl)⟩
      · have rd := RI.rd hi
        have co := rd.co
        have fo := rd.fo
        have h13 := (hb ⟨13, .data⟩ (by simp) rfl)
        have h12 := (hb ⟨12, .data⟩ (by simp) rfl)
        obtain ⟨_, _, _, hown⟩ := RI.mid h12 hi
        obtain ⟨a9, c9, h9⟩ := hown.isSlice
        have RI2 := RI.store hi h12 h13
        rw [h9] at RI2
        simp [go_sem, execOp, RI.ad h13, h9, co, fo]
        exact ⟨_, by simp [h9, RI.ad h13], RI2⟩
    case hend =>
      rintro s a W' hall ⟨u, rfl, RI⟩
      obtain ⟨v2, W2, ⟨W1, e1, g1, o1⟩, rfl⟩ := RI.fin (hall 14 (by decide))
      have NX := Lib.hid (FL.out.next hr q1 e1 g1 o1)
      have hk : ∀ k, v.ownBlock = some k → N0 ≤ k := FL.out.own.ge
      have cK : ∀ {b o : Nat} {z : Value}, b < N0 → b ≠ w2.heap.size + 1 → W.cell? ⟨b, o, none⟩ = some z → (W2.setCell ⟨w2.heap.size + 1, r, none⟩ v2).cell? ⟨b, o, none⟩ = some z := fun hb hne hz => World.cell_other (g1.cellOf (e1.cell_of hz) (fun he => by have := hk _ he.symm; omega)) hne
      have k7 := Lib.hid (cK (by omega) (by omega) C7W.out)
      have k8 := Lib.hid (cK (by omega) (by omega) C8W.out)
      have kx : Hid (CellsRd Bx ta tc x (W2.setCell ⟨w2.heap.size + 1, r, none⟩ v2)) := Lib.hid ⟨cK (by omega) (by omega) CR.out.x1, cK (by omega) (by omega) CR.out.x2⟩
      have km : Hid (MapAt (W2.setCell ⟨w2.heap.size + 1, r, none⟩ v2) M D) := Lib.hid (MapAt.setCell ((MW.out.ext e1).heap (g1.block M (by have := e1.le; have := MW.out.lt; omega) (fun he => by have := hk _ he.symm; omega))) _ _ _)
      have kw : Hid (Ext w (W2.setCell ⟨w2.heap.size + 1, r, none⟩ v2)) := Lib.hid (((EW.out.trans e1).grown g1 (fun k he => by have := hk _ he; have := e2.out.le; omega)).setCell (by have := e2.out.le; omega) _)
      have kf : Hid (KeepsFrom w4.heap.size W (W2.setCell ⟨w2.heap.size + 1, r, none⟩ v2)) := Lib.hid ⟨by simp; exact Nat.le_trans e1.le g1.size, fun j o hB ho hc => by
        have h1 := e1.heap ho
        refine (KeepsOthers.setCell W2 ⟨w2.heap.size + 1, r, none⟩ v2).same j o ?_ hc
        rw [g1.block j (Array.getElem?_eq_some_iff.1 h1).1 (fun he => ?_)]
        · exact h1
        · rcases (FL.out.own.ext e1).2 with ⟨q, _⟩ | ⟨g0, cap, cur, q, _, h4, _⟩
          · rw [q] at he; simp [Value.ownBlock] at he
          · rw [q] at he; simp [Value.ownBlock] at he; subst he; rw [h1] at h4; cases h4; simp [Obj.isCells] at hc⟩
      clear cK hk e1 g1 o1 RI
      simp only [← hA, List.setIfInBounds_toArray, List.set_cons_succ, List.set_cons_zero]
      gi_wp2
      obtain ⟨N9, r9, c9, v9, n1, n2, n3, n4, n5, n6⟩ := NX.out
      exact ⟨kf.out, ⟨N9, r9, c9, v9, Nat.le_trans qN n1, by omega, n3, n4, n5, n6⟩, kx.out, k7.out, k8.out, km.out, kw.out⟩
  case done =>
    rintro Dm W hD ⟨⟨N0, r, c, v, qN, q0, q1, q2, q3, q4⟩, p1, p2, p3, p4, p5⟩ hKD
    rw [cellsL_len, HRW.out, Int.toNat_natCast] at q0
    have hrR : r = R := by
      refine Classical.byContradiction fun hn => ?_
      have h1 : (r + 1) * x.tilt.length ≤ R * x.tilt.length := Nat.mul_le_mul_right _ (by omega)
      rw [Nat.add_mul] at h1
      omega
    obtain rfl := q3 hrR
    subst hrR
    obtain ⟨ss, hmat, hfr⟩ := q4.mat
    have HMAT := Lib.hid hmat
    have HFR := Lib.hid hfr
    have e2e := e2.out.le
    have HKD := Lib.hid hKD
    have P5 := Lib.hid p5
    have w4e := e4.out.le
    clear q4 hmat hfr p1 p4 p5 hKD
    go_wp2_with fail
    refine bodyPostM_two rfl w.heap.size ⟨⟨Dm, rfl, by omega, HKD.out, by simp⟩, trivial⟩ (fun W' hk => ?_)
    have hM : timesM x fr = (List.range r).map fun q => rowV (fun c r => distOf x fr ⟨c, r⟩) q x.tilt.length := by
      unfold timesM rowV
      rw [HRW.out, Int.toNat_natCast]
    refine matPost_of (some ⟨w2.heap.size + 1, 0, none⟩) ss r ?_ ?_ (hk.ext P5.out (Nat.le_refl _)) (by rw [timesR, if_neg T1.out, hM]; simp) (fun ad h => by cases h; show w.heap.size ≤ w2.heap.size + 1; omega) (fun q hq => ⟨(HFR.out q hq).1, fun ad h => by have := (HFR.out q hq).2 ad h; omega⟩)
    · rw [timesR, if_neg T1.out, hM]
      simp
    · rw [timesR, if_neg T1.out, hM]
      exact HMAT.out.keeps hk
  case stop =>
    rintro D c k W hD hk h
    exact h.elim
end Go.Proofs.YtnmaabejdmaahaaGreatDoor.Ice
namespace Go.Proofs.YtnmaabejdmaahaaGreatDoor.Ice
open Go.RowKit Go.Proofs Go.Shelf
theorem eql_cel (a b : Cel) (W : World) : (binOp .eql 61 (.agg #[.int .i64 a.col, .int .i64 a.row]) (.agg #[.int .i64 b.col, .int .i64 b.row])).run Tryz.prog W = .ok (.bool (decide (a = b))) W := by
  rw [run_eql_struct, show Value.agg #[.int .i64 a.col, .int .i64 a.row] = celV a from rfl, show Value.agg #[.int .i64 b.col, .int .i64 b.row] = celV b from rfl, equalIn_cel 9998 a b W]
  rfl
theorem neq_cel (a b : Cel) (W : World) : (binOp .neq 61 (.agg #[.int .i64 a.col, .int .i64 a.row]) (.agg #[.int .i64 b.col, .int .i64 b.row])).run Tryz.prog W = .ok (.bool (!decide (a = b))) W := by
  rw [run_neq_struct, show Value.agg #[.int .i64 a.col, .int .i64 a.row] = celV a from rfl, show Value.agg #[.int .i64 b.col, .int .i64 b.row] = celV b from rfl, equalIn_cel 9998 a b W]
  rfl
attribute [local go_sem] Oper.semAt_some
attribute [local go_sem ↓] eql_cel neq_cel
noncomputable def nextC (x : Grid) (to c : Cel) : Option Cel := (nbrs x c).find? fun n => decide (distOf x to n + stepI x c n = distOf x to c)
noncomputable def wayGo (x : Grid) (to : Cel) : Nat → Cel → List Cel
  | 0, _ => []
  | k + 1, c => if c = to then [] else match nextC x to c with
    | some n => n :: wayGo x to k n
    | none => []
noncomputable def wayM (x : Grid) (fr to : Cel) : List Cel := fr :: wayGo x to (distOf x to fr).toNat fr
theorem nextC_some {x : Grid} {to c : Cel} (v : Valid x) (hd : IsDist x to (distOf x to)) (hc : InG x c) (hne : c ≠ to) : ∃ n, nextC x to c = some n ∧ InG x n ∧ distOf x to n + stepI x c n = distOf x to c ∧ distOf x to n < distOf x to c ∧ 0 ≤ distOf x to n := by
  obtain ⟨n, hn, e⟩ := hd.tight c hc hne
  cases h : nextC x to c with
  | none =>
    have := List.find?_eq_none.1 h n hn
    have e2 := stepI_symm x n c
    simp at this
    omega
  | some m =>
    have h1 := List.find?_some h
    have h2 := List.mem_of_find?_eq_some h
    have h3 := nbrs_in v h2
    have := stepI_bd v c m
    have := hd.nonneg m h3
    simp at h1
    exact ⟨m, rfl, h3, h1, by omega, by omega⟩
theorem wayGo_fuel {x : Grid} {to : Cel} (v : Valid x) (hd : IsDist x to (distOf x to)) : ∀ (k j : Nat) (c : Cel), InG x c → (distOf x to c).toNat ≤ k → (distOf x to c).toNat ≤ j → wayGo x to k c = wayGo x to j c
  | 0, 0, _, _, _, _ => rfl
  | 0, j + 1, c, hc, h, _ => by
    have : c = to := (hd.pos v hc).1 (by have := hd.nonneg c hc; omega)
    simp [wayGo, this]
  | k + 1, 0, c, hc, _, h => by
    have : c = to := (hd.pos v hc).1 (by have := hd.nonneg c hc; omega)
    simp [wayGo, this]
  | k + 1, j + 1, c, hc, h1, h2 => by
    unfold wayGo
    by_cases e : c = to
    · simp [e]
    · obtain ⟨n, q1, q2, q3, q4, q5⟩ := nextC_some v hd hc e
      simp only [if_neg e, q1]
      rw [wayGo_fuel v hd k j n q2 (by omega) (by omega)]
theorem wayGo_step {x : Grid} {to c n : Cel} (v : Valid x) (hd : IsDist x to (distOf x to)) (hc : InG x c) (hne : c ≠ to) (hn : nextC x to c = some n) : wayGo x to (distOf x to c).toNat c = n :: wayGo x to (distOf x to n).toNat n := by
  obtain ⟨m, q1, q2, q3, q4, q5⟩ := nextC_some v hd hc hne
  rw [hn] at q1
  cases q1
  obtain ⟨k, hk⟩ : ∃ k, (distOf x to c).toNat = k + 1 := ⟨(distOf x to c).toNat - 1, by omega⟩
  rw [hk, wayGo, if_neg hne]
  simp only [hn]
  rw [wayGo_fuel v hd k (distOf x to n).toNat n q2 (by omega) (Nat.le_refl _)]
theorem wayGo_end {x : Grid} {to : Cel} (k : Nat) : wayGo x to k to = [] := by cases k <;> simp [wayGo]
def wayE (x : Grid) (fr to : Cel) : Int := firstE [iceErrE x, cellErrE x fr, cellErrE x to]
theorem wayE_zero {x : Grid} {fr to : Cel} : wayE x fr to = 0 ↔ Valid x ∧ InG x fr ∧ InG x to := by
  unfold wayE
  rw [firstE_zero]
  simp only [List.mem_cons, List.not_mem_nil, or_false, forall_eq_or_imp, forall_eq]
  constructor
  · rintro ⟨h1, h2, h3⟩
    have v := (checkIce_zero x).1 h1
    exact ⟨v, (cellB_in v).1 ((unlessE_zero (by decide)).1 h2), (cellB_in v).1 ((unlessE_zero (by decide)).1 h3)⟩
  · rintro ⟨v, hi, hj⟩
    exact ⟨(checkIce_zero x).2 v, (unlessE_zero (by decide)).2 ((cellB_in v).2 hi), (unlessE_zero (by decide)).2 ((cellB_in v).2 hj)⟩
noncomputable def wayR (x : Grid) (fr to : Cel) : List Cel × Int := if (wayE x fr to != 0) = true then ([], wayE x fr to) else (wayM x fr to, 0)
def rowPost {α : Type} (enc : α → List Value) (l : List α) (z : Int) (w : World) (e : Ending) (w' : World) : Prop := ∃ a c, e = .returned (.tuple #[.slice a l.length c, .int .i64 z]) ∧ RowS enc w' a l ∧ Ext w w' ∧ l.length ≤ c ∧ ∀ ad, a = some ad → w.heap.size ≤ ad.block
theorem rowPost_of {α : Type} {enc : α → List Value} {l : List α} {z : Int} {w : World} {e : Ending} {w' : World} (a : Option Addr) (c : Nat) (h1 : e = .returned (.tuple #[.slice a l.length c, .int .i64 z])) (h2 : RowS enc w' a l) (h3 : Ext w w') (h4 : l.length ≤ c) (h5 : ∀ ad, a = some ad → w.heap.size ≤ ad.block) : rowPost enc l z w e w' := ⟨a, c, h1, h2, h3, h4, h5⟩
theorem rowS_nil {α : Type} {enc : α → List Value} (w : World) (a : Option Addr) : RowS enc w a ([] : List α) := ⟨fun h => absurd rfl h⟩
theorem encC_one (l : List Cel) : ∀ u ∈ l.flatMap Cel.enc, u.oneCell' = true := by
  intro u hu
  obtain ⟨z, _, h⟩ := List.mem_flatMap.1 hu
  simp [Cel.enc] at h
  rcases h with rfl | rfl <;> rfl
theorem Tryz.info61 : (Tryz.prog.info? 61).map (fun i => (i.zero, i.size, i.bytes)) = some (some (.agg #[.int .i64 0, .int .i64 0]), 2, 16) := by kernel_rfl
def curCel (a : Act) (W : World) : Cel := match a.tmps.getD 11 undef with
  | .pointer (some ad) => ⟨intOf ((W.cell? ⟨ad.block, 0, none⟩).getD undef), intOf ((W.cell? ⟨ad.block, 1, none⟩).getD undef)⟩
  | _ => ⟨0, 0⟩
structure WS (w : World) (la ta : Option Addr) (lc tc : Nat) (x : Grid) (to : Cel) (b9 M N0 : Nat) (D : List Ent) (ds : List Deferred) (v : Value) (path : List Cel) (W : World) : Prop where
  st : M < N0 ∧ b9 < N0 ∧ w.heap.size + 1 + 1 < N0 ∧ N0 ≤ W.heap.size
  b00 : W.cell? ⟨w.heap.size, 0, none⟩ = some (.slice la x.layers.length lc)
  b01 : W.cell? ⟨w.heap.size, 1, none⟩ = some (.int .i64 x.rows)
  b02 : W.cell? ⟨w.heap.size, 2, none⟩ = some (.slice ta x.tilt.length tc)
  b20 : W.cell? ⟨w.heap.size + 1 + 1, 0, none⟩ = some (.int .i64 to.col)
  b21 : W.cell? ⟨w.heap.size + 1 + 1, 1, none⟩ = some (.int .i64 to.row)
  c9 : W.cell? ⟨b9, 0, none⟩ = some (.map (some M))
  m : MapAt W M D
  own : W.ownsRow N0 61 2 v path.length (path.flatMap Cel.enc)
  hx : Ext w W
  marks : Marks N0 W ds
section
variable {w : World} {la ta : Option Addr} {lc tc : Nat} {x : Grid} {to : Cel} {b9 M N0 : Nat} {D : List Ent} {ds : List Deferred} {v : Value} {path : List Cel} {W W' : World}
theorem WS.ext (h : WS w la ta lc tc x to b9 M N0 D ds v path W) (e : Ext W W') : WS w la ta lc tc x to b9 M N0 D ds v path W' :=
  ⟨⟨h.st.1, h.st.2.1, h.st.2.2.1, Nat.le_trans h.st.2.2.2 e.le⟩, e.cell_of h.b00, e.cell_of h.b01, e.cell_of h.b02, e.cell_of h.b20, e.cell_of h.b21, e.cell_of h.c9, h.m.ext e, h.own.ext e, h.hx.trans e, ext_marks e h.marks⟩
theorem WS.keeps {n : Nat} (h : WS w la ta lc tc x to b9 M N0 D ds v path W) (e : Keeps n W W') (hn : N0 ≤ n) (hd : ∀ D, markOf D ∈ ds → D < n) : WS w la ta lc tc x to b9 M N0 D ds v path W' := by
  obtain ⟨s1, s2, s3, s4⟩ := h.st
  exact ⟨⟨s1, s2, s3, Nat.le_trans s4 e.size⟩, e.cell h.b00, e.cell h.b01, e.cell h.b02, e.cell h.b20, e.cell h.b21, e.cell h.c9, e.map h.m (by omega), e.ownsRow h.own, e.ext h.hx (by omega), h.marks.keeps fun D hD hm => e.heap (hd D hD) hm⟩
theorem WS.grown {v' : Value} {p : Cel} (h : WS w la ta lc tc x to b9 M N0 D ds v path W) (g : W.grownBy W' v.ownBlock) (o : W'.ownsRow N0 61 2 v' (path.length + 1) ((path ++ [p]).flatMap Cel.enc)) : WS w la ta lc tc x to b9 M N0 D ds v' (path ++ [p]) W' := by
  obtain ⟨s1, s2, s3, s4⟩ := h.st
  have hk : ∀ k, v.ownBlock = some k → N0 ≤ k := h.own.ge
  have cK : ∀ {b o : Nat} {z : Value}, b < N0 → W.cell? ⟨b, o, none⟩ = some z → W'.cell? ⟨b, o, none⟩ = some z := fun hb hz => g.cellOf hz (fun he => by have := hk _ he.symm; omega)
  exact ⟨⟨s1, s2, s3, Nat.le_trans s4 g.size⟩, cK (by omega) h.b00, cK (by omega) h.b01, cK (by omega) h.b02, cK (by omega) h.b20, cK (by omega) h.b21, cK (by omega) h.c9, h.m.heap (g.block M h.m.lt (fun he => by have := hk _ he.symm; omega)), by simpa using o, h.hx.grown g (fun k he => by have := hk _ he; omega), h.marks.keeps fun D hD hm => by
    rw [g.block D (Array.getElem?_eq_some_iff.1 hm).1 (fun he => by
      rcases h.own.2 with ⟨q, _⟩ | ⟨g0, cap, cur, q, _, h4, _⟩
      · rw [q] at he; simp [Value.ownBlock] at he
      · rw [q] at he; simp [Value.ownBlock] at he; subst he; rw [hm] at h4; cases h4)]
    exact hm⟩
theorem WS.setCell (h : WS w la ta lc tc x to b9 M N0 D ds v path W) (b o : Nat) (z : Value) (hb : N0 ≤ b) (hv : ∀ k, v.ownBlock = some k → k ≠ b) : WS w la ta lc tc x to b9 M N0 D ds v path (W.setCell ⟨b, o, none⟩ z) := by
  obtain ⟨s1, s2, s3, s4⟩ := h.st
  have cK : ∀ {b' o' : Nat} {u : Value}, b' < N0 → W.cell? ⟨b', o', none⟩ = some u → (W.setCell ⟨b, o, none⟩ z).cell? ⟨b', o', none⟩ = some u := fun hb' hz => World.cell_other hz (by omega)
  refine ⟨⟨s1, s2, s3, by simpa using s4⟩, cK (by omega) h.b00, cK (by omega) h.b01, cK (by omega) h.b02, cK (by omega) h.b20, cK (by omega) h.b21, cK (by omega) h.c9, h.m.setCell _ _ _, ⟨h.own.1, ?_⟩, h.hx.setCell (by omega) _, h.marks.keeps fun D hD hm => (KeepsOthers.setCell W ⟨b, o, none⟩ z).same _ _ hm rfl⟩
  rcases h.own.2 with q | ⟨g0, cap, cur, q, q1, h4, h5⟩
  · exact .inl q
  · refine .inr ⟨g0, cap, cur, q, q1, ?_, h5⟩
    rw [Below.heap_setCell _ _ _ _ (by show g0 ≠ b; exact hv g0 (by rw [q]; rfl))]; exact h4
end
set_option maxRecDepth 100000 in
set_option maxHeartbeats 1000000 in
theorem WayTo_any (la ta : Option Addr) (lc tc : Nat) (x : Grid) (fr to : Cel) (w : World) (hg : GridAt w la ta x) (hs : Sides w) :
    Calls Tryz.prog 23 #[.agg #[.slice la x.layers.length lc, .int .i64 x.rows, .slice ta x.tilt.length tc], .agg #[.int .i64 fr.col, .int .i64 fr.row], .agg #[.int .i64 to.col, .int .i64 to.row]] w fun e w' => rowPost Cel.enc (wayR x fr to).1 (wayR x fr to).2 w e w' := by
  have HG := Lib.hid hg
  have HS := Lib.hid hs
  clear hg hs
  refine calls_of_wp_marks Tryz.func23 rfl ?_
  simp only [Tryz.ntmps23, List.size_toArray, List.length_cons, List.length_nil, Nat.reduceAdd, Nat.reduceSub, Array.replicate_succ, Array.replicate_zero, List.push_toArray, List.append_toArray, List.nil_append, List.cons_append]
  go_wp2_with fail
  generalize hW : World.alloc (World.alloc (World.alloc w _) _) _ = W0
  have e0 := Lib.hid (show Ext w W0 by rw [← hW]; exact ((Ext.alloc _ _).toAlloc _).toAlloc _)
  have q0 : w.heap.size < W0.heap.size := by rw [← hW]; simp <;> omega
  have b00 : W0.cell? ⟨w.heap.size, 0, none⟩ = some (.slice la x.layers.length lc) := by rw [← hW]; exact ((Ext.alloc _ _).cell_of ((Ext.alloc _ _).cell_of ((World.cell_at (by simp)).trans rfl)))
  have b01 : W0.cell? ⟨w.heap.size, 1, none⟩ = some (.int .i64 x.rows) := by rw [← hW]; exact ((Ext.alloc _ _).cell_of ((Ext.alloc _ _).cell_of ((World.cell_at (by simp)).trans rfl)))
  have b02 : W0.cell? ⟨w.heap.size, 2, none⟩ = some (.slice ta x.tilt.length tc) := by rw [← hW]; exact ((Ext.alloc _ _).cell_of ((Ext.alloc _ _).cell_of ((World.cell_at (by simp)).trans rfl)))
  have q1 : w.heap.size + 1 < W0.heap.size := by rw [← hW]; simp <;> omega
  have b10 : W0.cell? ⟨w.heap.size + 1, 0, none⟩ = some (.int .i64 fr.col) := by rw [← hW]; exact ((Ext.alloc _ _).cell_of ((World.cell_at (by simp)).trans rfl))
  have b11 : W0.cell? ⟨w.heap.size + 1, 1, none⟩ = some (.int .i64 fr.row) := by rw [← hW]; exact ((Ext.alloc _ _).cell_of ((World.cell_at (by simp)).trans rfl))
  have q2 : w.heap.size + 1 + 1 < W0.heap.size := by rw [← hW]; simp <;> omega
  have b20 : W0.cell? ⟨w.heap.size + 1 + 1, 0, none⟩ = some (.int .i64 to.col) := by rw [← hW]; exact ((World.cell_at (by simp)).trans rfl)
  have b21 : W0.cell? ⟨w.heap.size + 1 + 1, 1, none⟩ = some (.int .i64 to.row) := by rw [← hW]; exact ((World.cell_at (by simp)).trans rfl)
  clear hW
  have LA : Hid (∀ y, Calls Tryz.prog 52 #[.agg #[.slice la x.layers.length lc, .int .i64 x.rows, .slice ta x.tilt.length tc]] (W0.over y) fun e w' => e = .returned (.int .i64 (iceErrE x)) ∧ Ext (W0.over y) w') := Lib.hid (fun y => iceErr_any la ta lc tc x _ (HG.out.ext (e0.out.trans (W0.over_ext y))))
  have LB : Hid (∀ c y, Calls Tryz.prog 59 #[.agg #[.slice la x.layers.length lc, .int .i64 x.rows, .slice ta x.tilt.length tc], .agg #[.int .i64 c.col, .int .i64 c.row]] (W0.over y) fun e w' => e = .returned (.int .i64 (cellErrE x c)) ∧ Ext (W0.over y) w') := Lib.hid (fun c y => cellErr_any la ta lc tc x c _ (HG.out.ext (e0.out.trans (W0.over_ext y))))
  refine wp_region_over 8 (by kernel_rfl) (by kernel_rfl) ?_
  simp only [List.take_succ_cons, List.take_zero, List.drop_succ_cons, List.drop_zero]
  repeat (quiet_step ((first | (go_at_call 52; exact Calls.over_ext (LA.out _)) | (go_at_call 59; exact Calls.over_ext (LB.out _ _)))))
  refine wpQuiet_nil ?_
  rintro _ ⟨x1, rfl⟩
  go_wp2_with fail
  refine (first_three _ _ _ _).mono ?_
  rintro e w1 ⟨rfl, hw1⟩
  have hx : Ext W0 w1 := by rw [← hw1]; exact (W0.over_ext x1).toAlloc _
  clear hw1
  replace b00 := hx.cell_of b00
  replace b01 := hx.cell_of b01
  replace b02 := hx.cell_of b02
  replace b10 := hx.cell_of b10
  replace b11 := hx.cell_of b11
  replace b20 := hx.cell_of b20
  replace b21 := hx.cell_of b21
  replace q0 := Nat.lt_of_lt_of_le q0 hx.le
  replace q1 := Nat.lt_of_lt_of_le q1 hx.le
  replace q2 := Nat.lt_of_lt_of_le q2 hx.le
  have e1 := Lib.hid (e0.out.trans hx)
  clear hx e0
  rw [show firstE [iceErrE x, cellErrE x fr, cellErrE x to] = wayE x fr to from rfl]
  by_cases t1 : (wayE x fr to != 0) = true
  · go_wp2_with fail
    refine bodyPostM_two rfl w.heap.size trivial (fun W' hk => ?_)
    refine rowPost_of none 0 ?_ ?_ (hk.ext e1.out (Nat.le_refl _)) (by rw [wayR, if_pos t1]; exact Nat.le_refl _) (fun ad h => by cases h)
    · rw [wayR, if_pos t1]; rfl
    · rw [wayR, if_pos t1]; exact rowS_nil _ _
  have T1 := Lib.hid t1
  replace t1 : (wayE x fr to != 0) = false := by simpa using t1
  have V := Lib.hid (wayE_zero.1 (by simpa using t1))
  go_wp2_with fail
  refine (times_any la ta lc tc x to _ (HG.out.ext e1.out) (HS.out.ext e1.out) V.out.1 V.out.2.2).mono ?_
  rintro e w2 ⟨M, D, d, rfl, hM, hd, hval, hx⟩
  replace b00 := hx.cell_of b00
  replace b01 := hx.cell_of b01
  replace b02 := hx.cell_of b02
  replace b10 := hx.cell_of b10
  replace b11 := hx.cell_of b11
  replace b20 := hx.cell_of b20
  replace b21 := hx.cell_of b21
  replace q0 := Nat.lt_of_lt_of_le q0 hx.le
  replace q1 := Nat.lt_of_lt_of_le q1 hx.le
  replace q2 := Nat.lt_of_lt_of_le q2 hx.le
  have e2 := Lib.hid (e1.out.trans hx)
  clear hx e1
  have HM := Lib.hid hM
  have HDD := Lib.hid (distOf_is hd)
  have HVAL : Hid (∀ c, InG x c → valOf D c = some (distOf x to c) ∧ distOf x to c ≤ 192000) := Lib.hid (fun c hc => by have := hval c hc; rw [IsDist.unique V.out.1 hd (distOf_is hd) hc] at this; exact this)
  clear hM hd hval
  go_wp2_with fail
  obtain ⟨i0, hi, hz0, hz1, hz2⟩ := info_parts Tryz.info61
  have HI := Lib.hid hi
  have HZ0 := Lib.hid hz0
  have HZ1 := Lib.hid hz1
  have HZ2 := Lib.hid hz2
  clear hi hz0 hz1 hz2
  generalize hw3 : World.alloc (World.alloc (World.alloc w2 _) _) _ = w3
  have HWS : Hid (WS w la ta lc tc x to w2.heap.size M (w2.heap.size + 1) D [] (.slice (some ⟨w2.heap.size + 1, 0, none⟩) 1 1) [fr] w3) := Lib.hid (by
    have x3 : Ext w2 w3 := by rw [← hw3]; exact ((Ext.alloc _ _).toAlloc _).toAlloc _
    refine ⟨⟨by have := HM.out.lt; omega, by omega, by omega, by rw [← hw3]; simp⟩, x3.cell_of b00, x3.cell_of b01, x3.cell_of b02, x3.cell_of b20, x3.cell_of b21, ?_, HM.out.ext x3, ⟨rfl, .inr ⟨w2.heap.size + 1, 1, #[.int .i64 fr.col, .int .i64 fr.row], rfl, Nat.le_refl _, ?_, Nat.le_refl _, by unfold maxLen; omega, rfl, rfl⟩⟩, e2.out.trans x3, trivial⟩
    · rw [← hw3]; exact (Ext.alloc _ _).cell_of ((Ext.alloc _ _).cell_of ((World.cell_at rfl).trans rfl))
    · rw [← hw3]; exact (Ext.alloc _ _).heap (by have := World.alloc_heap_new (w2.alloc (.cells #[.map (some M)] 119)) (.cells #[.int .i64 fr.col, .int .i64 fr.row] 61); rwa [World.size_alloc] at this))
  have HCC : Hid ((w3.cell? ⟨w2.heap.size + 1 + 1, 0, none⟩ = some (.int .i64 fr.col) ∧ w3.cell? ⟨w2.heap.size + 1 + 1, 1, none⟩ = some (.int .i64 fr.row) ∧ w3.frozen? ⟨w2.heap.size + 1 + 1, 0, none⟩ = false ∧ w3.frozen? ⟨w2.heap.size + 1 + 1, 1, none⟩ = false)) := Lib.hid (by
    rw [← hw3]
    exact ⟨(World.cell_at (by simp)).trans rfl, (World.cell_at (by simp)).trans rfl, World.frozen_at (by simp), World.frozen_at (by simp)⟩)
  clear hw3 b00 b01 b02 b10 b11 b20 b21
  obtain ⟨I, hI⟩ : ∃ I : Act → World → Prop, I = (fun a' W' => ∃ v b11 c path ds, a' = { tmps := ((.agg #[.slice la x.layers.length lc, .int .i64 x.rows, .slice ta x.tilt.length tc]) :: (.agg #[.int .i64 fr.col, .int .i64 fr.row]) :: (.agg #[.int .i64 to.col, .int .i64 to.row]) :: (.pointer (some ⟨w.heap.size, 0, none⟩)) :: (.pointer (some ⟨w.heap.size + 1, 0, none⟩)) :: (.pointer (some ⟨w.heap.size + 1 + 1, 0, none⟩)) :: (.slice none 0 0) :: (.int .i64 0) :: (.int .i64 (wayE x fr to)) :: (.pointer (some ⟨w2.heap.size, 0, none⟩)) :: (v) :: (.pointer (some ⟨b11, 0, none⟩)) :: (slotsOf a' 12) :: (slotsOf a' 13) :: (slotsOf a' 14) :: (slotsOf a' 15) :: (slotsOf a' 16) :: (slotsOf a' 17) :: (slotsOf a' 18) :: (slotsOf a' 19) :: (slotsOf a' 20) :: (slotsOf a' 21) :: (slotsOf a' 22) :: (slotsOf a' 23) :: (slotsOf a' 24) :: (slotsOf a' 25) :: (slotsOf a' 26) :: (slotsOf a' 27) :: (slotsOf a' 28) :: (slotsOf a' 29) :: (slotsOf a' 30) :: (slotsOf a' 31) :: (slotsOf a' 32) :: (slotsOf a' 33) :: (slotsOf a' 34) :: (slotsOf a' 35) :: (slotsOf a' 36) :: (slotsOf a' 37) :: (slotsOf a' 38) :: (slotsOf a' 39) :: (slotsOf a' 40) :: (slotsOf a' 41) :: (slotsOf a' 42) :: (slotsOf a' 43) :: (slotsOf a' 44) :: (slotsOf a' 45) :: (slotsOf a' 46) :: (slotsOf a' 47) :: (slotsOf a' 48) :: (slotsOf a' 49) :: (slotsOf a' 50) :: (slotsOf a' 51) :: (slotsOf a' 52) :: (slotsOf a' 53) :: (slotsOf a' 54) :: (slotsOf a' 55) :: (slotsOf a' 56) :: []).toArray, defers := ds } ∧ Hid (WS w la ta lc tc x to w2.heap.size M (w2.heap.size + 1) D ds v path W') ∧ Hid ((W'.cell? ⟨b11, 0, none⟩ = some (.int .i64 c.col) ∧ W'.cell? ⟨b11, 1, none⟩ = some (.int .i64 c.row) ∧ W'.frozen? ⟨b11, 0, none⟩ = false ∧ W'.frozen? ⟨b11, 1, none⟩ = false) ∧ w2.heap.size + 1 ≤ b11 ∧ ∀ k, v.ownBlock = some k → k ≠ b11) ∧ Hid (InG x c ∧ path ++ wayGo x to (distOf x to c).toNat c = wayM x fr to ∧ path.length + (distOf x to c).toNat ≤ 192001)) := ⟨_, rfl⟩
  refine wp_loop I (fun a' W' => (distOf x to (curCel a' W')).toNat) ?_ ?_
  · rw [hI]
    refine ⟨_, _, fr, _, _, rfl, HWS, Lib.hid ⟨HCC.out, by omega, fun k hk => by simp [Value.ownBlock] at hk; omega⟩, Lib.hid ⟨V.out.2.1, rfl, ?_⟩⟩
    have := (HVAL.out fr V.out.2.1).2
    simp only [List.length_cons, List.length_nil]
    omega
  clear HWS HCC
  have HINV := Lib.hid hI
  intro a0 wr hrel
  rw [hI] at hrel
  clear hI
  obtain ⟨v, b11, c, path, ds, hrel, H, HC, HB⟩ := hrel
  have HCUR : Hid (curCel a0 wr = c) := Lib.hid (by
    have h11 : a0.tmps.getD 11 undef = .pointer (some ⟨b11, 0, none⟩) := by rw [hrel]; rfl
    simp [curCel, h11, HC.out.1.1, HC.out.1.2.1, intOf])
  generalize slotsOf a0 = u at hrel
  subst hrel
  obtain ⟨st, b00, b01, b02, b20, b21, c9, mm, own, hx, mk⟩ := H.out
  obtain ⟨⟨d0, d1, f0, f1⟩, hb11, hvb⟩ := HC.out
  have q0 := cell_lt b00
  have q2 := cell_lt b20
  have q9 := cell_lt c9
  have qb := cell_lt d0
  by_cases hct : c = to
  · subst hct
    have HPATH : Hid (path = wayM x fr c) := Lib.hid (by have := HB.out.2.1; rw [wayGo_end, List.append_nil] at this; exact this)
    have OWN := Lib.hid own
    have HX := Lib.hid hx
    have MK := Lib.hid mk
    have hN0 : w.heap.size ≤ w2.heap.size + 1 := by have := e2.out.le; omega
    clear own hx mk mm st
    obtain ⟨av, cv, rfl⟩ := OWN.out.isSlice
    go_wp2_with fail
    refine bodyPostM_two rfl (w2.heap.size + 1) MK.out (fun W' hk => ?_)
    refine rowPost_of av cv ?_ ?_ (hk.ext HX.out (by have := e2.out.le; omega)) ?_ ?_
    · rw [wayR, if_neg T1.out, ← HPATH.out]; simp
    · rw [wayR, if_neg T1.out, ← HPATH.out]; exact (hk.ownsRow OWN.out).toRow
    · rw [wayR, if_neg T1.out, ← HPATH.out]
      rcases OWN.out.2 with ⟨q1, q2⟩ | ⟨g, cap, cur, q1, q2, q3, q4, _⟩
      · simp at q1; simp only; omega
      · simp at q1; simp only; omega
    · intro ad had
      subst had
      have := OWN.out.ge ad.block rfl
      omega
  go_wp2_with fail
  refine (neighbours_any la ta lc tc x c _ (HG.out.ext hx) (HS.out.ext hx)).mono ?_
  rintro e w4 ⟨Bc, Bx, hBc, hBx, rfl, hrd, hx4⟩
  have HW4 := Lib.hid (H.out.ext hx4)
  have HC4 : Hid ((w4.cell? ⟨b11, 0, none⟩ = some (.int .i64 c.col) ∧ w4.cell? ⟨b11, 1, none⟩ = some (.int .i64 c.row) ∧ w4.frozen? ⟨b11, 0, none⟩ = false ∧ w4.frozen? ⟨b11, 1, none⟩ = false)) := Lib.hid ⟨hx4.cell_of d0, hx4.cell_of d1, hx4.frozen_of qb f0, hx4.frozen_of qb f1⟩
  have HRD := Lib.hid hrd
  have HML : Hid (∀ D, markOf D ∈ ds → D < w4.heap.size) := Lib.hid (fun D hD => (HW4.out.marks.lt D hD).2)
  have HD0 := HDD.out.nonneg c HB.out.1
  have HD1 := (HVAL.out c HB.out.1).2
  have Q9 : w2.heap.size < w4.heap.size := Nat.lt_of_lt_of_le q9 hx4.le
  have QB : b11 < w4.heap.size := Nat.lt_of_lt_of_le qb hx4.le
  clear hrd hx4 st b00 b01 b02 b20 b21 c9 mm own hx mk d0 d1 f0 f1 q0 q2 q9 qb
  go_wp2_with fail
  refine wp_range (gf := 91) (lb := #[.pointer (some ⟨Bc, 0, none⟩), .pointer (some ⟨Bx, 0, none⟩)]) rfl (enters_of Tryz.func91 (by kernel_rfl) rfl) (nbs_seq Bc Bx la ta lc tc x c V.out.1 HB.out.1) (fun _ => rfl)
    (fun k W => WS w la ta lc tc x to w2.heap.size M (w2.heap.size + 1) D ds v path W ∧ NbRd Bc Bx la ta lc tc x c W ∧ (W.cell? ⟨b11, 0, none⟩ = some (.int .i64 c.col) ∧ W.cell? ⟨b11, 1, none⟩ = some (.int .i64 c.row) ∧ W.frozen? ⟨b11, 0, none⟩ = false ∧ W.frozen? ⟨b11, 1, none⟩ = false) ∧ ∀ n ∈ (nbrs x c).take k, ¬ distOf x to n + stepI x c n = distOf x to c)
    (fun cd k W => cd = .exit 2 ∧ ∃ n, nextC x to c = some n ∧ WS w la ta lc tc x to w2.heap.size M (w2.heap.size + 1) D ds v path W ∧ (W.cell? ⟨b11, 0, none⟩ = some (.int .i64 n.col) ∧ W.cell? ⟨b11, 1, none⟩ = some (.int .i64 n.row) ∧ W.frozen? ⟨b11, 0, none⟩ = false ∧ W.frozen? ⟨b11, 1, none⟩ = false))
    (fun k A A' hk ⟨q1, q2, ⟨q3, q4, q5, q6⟩, q7⟩ => ⟨q1.keeps hk HW4.out.st.2.2.2 HML.out, q2.keeps hk, ⟨hk.cell q3, hk.cell q4, hk.frozen q3 q5, hk.frozen q4 q6⟩, q7⟩)
    (fun cd k A A' hk ⟨e, n, q0, q1, ⟨q3, q4, q5, q6⟩⟩ => ⟨e, n, q0, q1.keeps hk HW4.out.st.2.2.2 HML.out, hk.cell q3, hk.cell q4, hk.frozen q3 q5, hk.frozen q4 q6⟩)
    (fun k A h => h.2.1)
    ⟨HW4.out, HRD.out, HC4.out, fun n hn => by simp at hn⟩
    (fun a k a' W => ∃ b12 n z, (nbTimes x c)[k]? = some (n, z) ∧ a' = { tmps := (((a.tmps.setIfInBounds 39 (.agg #[.int .i64 n.col, .int .i64 n.row])).setIfInBounds 40 (.int .i64 z)).setIfInBounds 12 (.pointer (some ⟨b12, 0, none⟩))).setIfInBounds 13 (.int .i64 z), defers := [] } ∧ W.cell? ⟨b12, 0, none⟩ = some (.int .i64 n.col) ∧ W.cell? ⟨b12, 1, none⟩ = some (.int .i64 n.row))
    (fun k a' A A' hk ⟨b12, n, z, q1, q2, q3, q4⟩ => ⟨b12, n, z, q1, q2, hk.cell q3, hk.cell q4⟩) ?assign ?body ?done ?stop
  case assign =>
    intro l k hk W K hi hK
    obtain ⟨⟨n, z⟩, hp⟩ : ∃ p, (nbTimes x c)[k] = p := ⟨_, rfl⟩
    have hp' : (nbTimes x c)[k]? = some (n, z) := by rw [List.getElem?_eq_getElem hk, hp]
    rw [hp]
    simp only [encNb]
    gi_wp2
    have xa := Ext.alloc W (.cells #[.int .i64 n.col, .int .i64 n.row] 61)
    obtain ⟨q1, q2, ⟨q3, q4, q5, q6⟩, q7⟩ := hi
    exact hK _ _ ((KeepsOthers.alloc _ _).from _) ⟨q1.ext xa, q2.ext xa, ⟨xa.cell_of q3, xa.cell_of q4, xa.frozen_of (cell_lt q3) q5, xa.frozen_of (cell_lt q4) q6⟩, q7⟩ ⟨W.heap.size, n, z, hp', rfl, (World.cell_at (by simp)).trans rfl, (World.cell_at (by simp)).trans rfl⟩
  case body =>
    rintro l k hk a' W hl ⟨T, hrd, ⟨c0, c1, f0, f1⟩, hno⟩ ⟨b12, n, z, hp, rfl, g0, g1⟩
    simp only [List.setIfInBounds_toArray, List.set_cons_succ, List.set_cons_zero]
    obtain ⟨hz, hmem, htake⟩ := nb_at hp
    subst hz
    have hin := nbrs_in V.out.1 hmem
    have e0n := HDD.out.nonneg n hin
    have e1n := (HVAL.out n hin).2
    have sb := stepI_bd V.out.1 c n
    have hw : IntKind.i64.wrap (distOf x to n + stepI x c n) = distOf x to n + stepI x c n := IntWalk.i64_in _ (by omega)
    have c9 := T.c9
    have q9 := cell_lt c9
    have qb := cell_lt c0
    have q12 := cell_lt g0
    have ln : ∀ y, (Instr.lookup 119 (.map (some M)) (.agg #[.int .i64 n.col, .int .i64 n.row]) false).run Tryz.prog (W.over y) = .ok (.int .i64 (distOf x to n)) (W.over y) := fun y => by
      have := lookup_plain (T.m.ext (W.over_ext y)) n
      rwa [(HVAL.out n hin).1] at this
    have lc' : ∀ y, (Instr.lookup 119 (.map (some M)) (.agg #[.int .i64 c.col, .int .i64 c.row]) false).run Tryz.prog (W.over y) = .ok (.int .i64 (distOf x to c)) (W.over y) := fun y => by
      have := lookup_plain (T.m.ext (W.over_ext y)) c
      rwa [(HVAL.out c HB.out.1).1] at this
    have HT := Lib.hid T
    have HR2 := Lib.hid hrd
    have HNO := Lib.hid hno
    have HC2 : Hid ((W.cell? ⟨b11, 0, none⟩ = some (.int .i64 c.col) ∧ W.cell? ⟨b11, 1, none⟩ = some (.int .i64 c.row) ∧ W.frozen? ⟨b11, 0, none⟩ = false ∧ W.frozen? ⟨b11, 1, none⟩ = false)) := Lib.hid ⟨c0, c1, f0, f1⟩
    have HTK := Lib.hid htake
    have HMEM := Lib.hid hmem
    have HP := Lib.hid hp
    clear T hrd hno htake hmem hp
    gi_wp2
    refine wpIn_region_over_all_round (by kernel_rfl) (by kernel_rfl) ?_
    repeat (quiet_step (fail))
    refine wpQuiet_nil ?_
    rintro _ ⟨y, rfl⟩
    have xy := W.over_ext y
    have y0 := xy.cell_of c0
    have y1 := xy.cell_of c1
    have yf0 := xy.frozen_of qb f0
    have yf1 := xy.frozen_of qb f1
    have z0 := xy.cell_of g0
    have z1 := xy.cell_of g1
    have TY := Lib.hid (HT.out.ext xy)
    have RY := Lib.hid (HR2.out.ext xy)
    have KY := Lib.hid (xy.keepsOthers)
    clear ln lc' c0 c1 f0 f1 g0 g1 c9 xy
    by_cases ht : distOf x to n + stepI x c n = distOf x to c
    · have HN : Hid (nextC x to c = some n) := Lib.hid (by
        unfold nextC
        rw [List.find?_eq_some_iff_append]
        refine ⟨by simpa using ht, (nbrs x c).take k, (nbrs x c).drop (k + 1), ?_, fun m hm => by simpa using HNO.out m hm⟩
        conv => lhs; rw [← List.take_append_drop (k + 1) (nbrs x c), HTK.out]
        simp)
      have fin : Hid (KeepsFrom w4.heap.size W (((W.over y).setCell ⟨b11, 0, none⟩ (.int .i64 n.col)).setCell ⟨b11, 1, none⟩ (.int .i64 n.row)) ∧ (((((W.over y).setCell ⟨b11, 0, none⟩ (.int .i64 n.col)).setCell ⟨b11, 1, none⟩ (.int .i64 n.row)).cell? ⟨b11, 0, none⟩ = some (.int .i64 n.col) ∧ (((W.over y).setCell ⟨b11, 0, none⟩ (.int .i64 n.col)).setCell ⟨b11, 1, none⟩ (.int .i64 n.row)).cell? ⟨b11, 1, none⟩ = some (.int .i64 n.row) ∧ (((W.over y).setCell ⟨b11, 0, none⟩ (.int .i64 n.col)).setCell ⟨b11, 1, none⟩ (.int .i64 n.row)).frozen? ⟨b11, 0, none⟩ = false ∧ (((W.over y).setCell ⟨b11, 0, none⟩ (.int .i64 n.col)).setCell ⟨b11, 1, none⟩ (.int .i64 n.row)).frozen? ⟨b11, 1, none⟩ = false)) ∧ WS w la ta lc tc x to w2.heap.size M (w2.heap.size + 1) D ds v path (((W.over y).setCell ⟨b11, 0, none⟩ (.int .i64 n.col)).setCell ⟨b11, 1, none⟩ (.int .i64 n.row))) := Lib.hid
        ⟨((KY.out.trans (KeepsOthers.setCell _ _ _)).trans (KeepsOthers.setCell _ _ _)).from _, ⟨cell_off (World.cell_same y0) (by decide), World.cell_same (cell_off y1 (by decide)), by simp only [World.frozen?_setCell]; exact yf0, by simp only [World.frozen?_setCell]; exact yf1⟩, (TY.out.setCell _ _ _ hb11 hvb).setCell _ _ _ hb11 hvb⟩
      gi_wp2
      exact ⟨fin.out.1, rfl, n, HN.out, fin.out.2.2, fin.out.2.1⟩
    · have fin : Hid (KeepsFrom w4.heap.size W (W.over y) ∧ WS w la ta lc tc x to w2.heap.size M (w2.heap.size + 1) D ds v path (W.over y) ∧ NbRd Bc Bx la ta lc tc x c (W.over y) ∧ (((W.over y).cell? ⟨b11, 0, none⟩ = some (.int .i64 c.col) ∧ (W.over y).cell? ⟨b11, 1, none⟩ = some (.int .i64 c.row) ∧ (W.over y).frozen? ⟨b11, 0, none⟩ = false ∧ (W.over y).frozen? ⟨b11, 1, none⟩ = false)) ∧ ∀ m ∈ (nbrs x c).take (k + 1), ¬ distOf x to m + stepI x c m = distOf x to c) := Lib.hid
        ⟨KY.out.from _, TY.out, RY.out, ⟨y0, y1, yf0, yf1⟩, fun m hm => by
          rw [HTK.out] at hm
          rcases List.mem_append.1 hm with hm | hm
          · exact HNO.out m hm
          · simp at hm; subst hm; exact ht⟩
      gi_wp2
      exact fin.out
  case done =>
    rintro Dm W hD ⟨T, hrd, hcc, hno⟩ hKD
    rw [nb_len, List.take_length] at hno
    obtain ⟨m, hm, e⟩ := HDD.out.tight c HB.out.1 hct
    exact absurd (by rw [stepI_symm x c m]; exact e.symm) (hno m hm)
  case stop =>
    rintro Dm cd k W hD hk ⟨rfl, n, hn, T, hcc⟩ hKD
    obtain ⟨m, q1, q2, q3, q4, q5⟩ := nextC_some V.out.1 HDD.out HB.out.1 hct
    rw [hn] at q1
    cases q1
    have HTD : Hid (WS w la ta lc tc x to w2.heap.size M (w2.heap.size + 1) D (markOf Dm :: ds) v path W) := Lib.hid ⟨T.st, T.b00, T.b01, T.b02, T.b20, T.b21, T.c9, T.m, T.own, T.hx, ⟨⟨Dm, rfl, Nat.le_trans HW4.out.st.2.2.2 hD, hKD, fun hm => absurd (HML.out Dm hm) (by omega)⟩, T.marks⟩⟩
    have HB2 : Hid (path ++ [n] ++ wayGo x to (distOf x to n).toNat n = wayM x fr to ∧ path.length + 1 + (distOf x to n).toNat ≤ 192001) := Lib.hid (by
      have := HB.out.2.1
      rw [wayGo_step V.out.1 HDD.out HB.out.1 hct hn] at this
      exact ⟨by simpa using this, by have := HB.out.2.2; omega⟩)
    have hpl : path.length ≤ 192001 := by have := HB.out.2.2; omega
    obtain ⟨c0, c1, f0, f1⟩ := hcc
    have qb := cell_lt c0
    have X := Lib.hid T.own
    have szW := T.st.2.2.2
    clear T hKD
    go_wp2_with (refine wpList_append_row rfl (.tmp 51) (.tmp 53) 62 rfl (w2.heap.size + 1) 61 i0 (.agg #[.int .i64 0, .int .i64 0]) 2 16 Tryz.underlying62 HI.out HZ0.out HZ1.out HZ2.out rfl (by decide) v path.length _ rfl (X.out.ext (Ext.alloc _ _)) (some ⟨W.heap.size, 0, none⟩) 1 1 [.int .i64 n.col, .int .i64 n.row] rfl rfl ?m0 (encC_one [n]) ?m1 ?m2 ?m3 ?_)
    case m0 => exact ⟨fun _ => ⟨_, _, rfl, by simp, fun k hk => by rw [Nat.zero_add]; exact (World.cell_at rfl).trans (by simp)⟩⟩
    case m1 => unfold maxLen; omega
    case m2 => omega
    case m3 => simp; omega
    intro v' w5 hown hgrow
    have HW5 := Lib.hid (WS.grown (p := n) (HTD.out.ext (Ext.alloc W (.cells #[.int .i64 n.col, .int .i64 n.row] 61))) hgrow (by simpa [Cel.enc] using hown))
    have xa := Ext.alloc W (.cells #[.int .i64 n.col, .int .i64 n.row] 61)
    have y0 := hgrow.cellOf (xa.cell_of c0) (fun he => hvb _ he.symm rfl)
    have y1 := hgrow.cellOf (xa.cell_of c1) (fun he => hvb _ he.symm rfl)
    have HC5 : Hid (((w5.alloc (.cells #[.int .i64 n.col, .int .i64 n.row] 61)).cell? ⟨w5.heap.size, 0, none⟩ = some (.int .i64 n.col) ∧ (w5.alloc (.cells #[.int .i64 n.col, .int .i64 n.row] 61)).cell? ⟨w5.heap.size, 1, none⟩ = some (.int .i64 n.row) ∧ (w5.alloc (.cells #[.int .i64 n.col, .int .i64 n.row] 61)).frozen? ⟨w5.heap.size, 0, none⟩ = false ∧ (w5.alloc (.cells #[.int .i64 n.col, .int .i64 n.row] 61)).frozen? ⟨w5.heap.size, 1, none⟩ = false) ∧ w2.heap.size + 1 ≤ w5.heap.size ∧ ∀ k, v'.ownBlock = some k → k ≠ w5.heap.size) := Lib.hid ⟨⟨(World.cell_at (by simp)).trans rfl, (World.cell_at (by simp)).trans rfl, World.frozen_at (by simp), World.frozen_at (by simp)⟩, HW5.out.st.2.2.2, fun k hk => by have := (hown.lt k hk).2; omega⟩
    have qb5 := cell_lt y0
    clear hown hgrow xa c0 c1 f0 f1 X
    go_wp2_with fail
    refine ⟨by rw [HINV.out]; exact ⟨v', w5.heap.size, n, path ++ [n], _, rfl, Lib.hid (HW5.out.ext (Ext.alloc _ _)), HC5, Lib.hid ⟨q2, HB2.out.1, by simpa using HB2.out.2⟩⟩, ?_⟩
    rw [HCUR.out]
    have hcur : ∀ a : Act, a.tmps.getD 11 undef = .pointer (some ⟨w5.heap.size, 0, none⟩) → curCel a (w5.alloc (.cells #[.int .i64 n.col, .int .i64 n.row] 61)) = n := fun a ha => by
      unfold curCel
      rw [ha]
      simp only [HC5.out.1.1, HC5.out.1.2.1, Option.getD_some, intOf]
    rw [hcur _ rfl]
    omega
end Go.Proofs.YtnmaabejdmaahaaGreatDoor.Ice
namespace Go.Proofs.YtnmaabejdmaahaaGreatDoor.Ice
open Go.RowKit Go.Proofs Go.Shelf
def rngE (r : Rng) : Int := firstE [unlessE (withinB r.lo 1 1000 && withinB r.hi 1 1000) 2, unlessE (decide (r.lo ≤ r.hi)) 9]
theorem rngE_zero {r : Rng} : rngE r = 0 ↔ 1 ≤ r.lo ∧ r.lo ≤ r.hi ∧ r.hi ≤ 1000 := by
  unfold rngE
  rw [firstE_zero]
  simp only [List.mem_cons, List.not_mem_nil, or_false, forall_eq_or_imp, forall_eq]
  rw [unlessE_zero (by decide), unlessE_zero (by decide)]
  simp [withinB]
  omega
def classScan (l : List Rng) : Nat → Nat → Int → Int × Int
  | 0, _, n => (0, unlessE (decide (n ≤ 300)) 8)
  | f + 1, i, n => if (rngE (l.getD i ⟨0, 0⟩) != 0) = true then (i, rngE (l.getD i ⟨0, 0⟩)) else classScan l f (i + 1) (n * ((l.getD i ⟨0, 0⟩).hi - (l.getD i ⟨0, 0⟩).lo + 1))
def checkClass (x : Grid) (l : List Rng) : Int × Int := if ((checkIce x).2 != 0) = true then checkIce x else if ((l.length : Int) != (x.layers.length : Int)) = true then (0, 10) else classScan l l.length 0 1
theorem getDR {l : List Rng} {k : Nat} (h : k < l.length) : l.getD k ⟨0, 0⟩ = l[k] := by simp [List.getD, h]
theorem pow_bd : ∀ k : Nat, k ≤ 5 → (1000 : Int) ^ k ≤ 1000000000000000 := by decide
set_option maxRecDepth 100000 in
set_option maxHeartbeats 1000000 in
theorem CheckClass_any (la ta ra : Option Addr) (lc tc rc : Nat) (x : Grid) (l : List Rng) (w : World) (hg : GridAt w la ta x) (hr : RowS Rng.enc w ra l) (hn : l.length ≤ 140737488355328) :
    Calls Tryz.prog 150 #[.agg #[.slice la x.layers.length lc, .int .i64 x.rows, .slice ta x.tilt.length tc, .slice ra l.length rc]] w fun e w' => e = .returned (.tuple #[.int .i64 (checkClass x l).1, .int .i64 (checkClass x l).2]) ∧ Ext w w' := by
  have HG := Lib.hid hg
  have HR := Lib.hid hr
  clear hg hr
  go_enter Tryz.func150, Tryz.ntmps150
  go_wp2_with fail
  generalize hW : World.alloc w _ = W0
  have e0 := Lib.hid (show Ext w W0 by rw [← hW]; exact Ext.alloc _ _)
  have q0 : w.heap.size < W0.heap.size := by rw [← hW]; simp <;> omega
  have b00 : W0.cell? ⟨w.heap.size, 0, none⟩ = some (.slice la x.layers.length lc) := by rw [← hW]; exact ((World.cell_at (by simp)).trans rfl)
  have b01 : W0.cell? ⟨w.heap.size, 1, none⟩ = some (.int .i64 x.rows) := by rw [← hW]; exact ((World.cell_at (by simp)).trans rfl)
  have b02 : W0.cell? ⟨w.heap.size, 2, none⟩ = some (.slice ta x.tilt.length tc) := by rw [← hW]; exact ((World.cell_at (by simp)).trans rfl)
  have b03 : W0.cell? ⟨w.heap.size, 3, none⟩ = some (.slice ra l.length rc) := by rw [← hW]; exact ((World.cell_at (by simp)).trans rfl)
  clear hW
  go_wp2_with fail
  refine (CheckIce_any la ta lc tc x _ (HG.out.ext e0.out)).mono ?_
  rintro e w1 ⟨rfl, hx⟩
  replace b00 := hx.cell_of b00
  replace b01 := hx.cell_of b01
  replace b02 := hx.cell_of b02
  replace b03 := hx.cell_of b03
  replace q0 := Nat.lt_of_lt_of_le q0 hx.le
  have e1 := Lib.hid (e0.out.trans hx)
  clear hx e0
  by_cases t1 : ((checkIce x).2 != 0) = true
  · go_wp2_with fail
    go_ret2
    exact ⟨ret_pair (by rw [checkClass, if_pos t1]), e1.out⟩
  have T1 := Lib.hid t1
  have V := Lib.hid ((checkIce_zero x).1 (by simpa using t1))
  replace t1 : ((checkIce x).2 != 0) = false := by simpa using t1
  by_cases t2 : ((l.length : Int) != (x.layers.length : Int)) = true
  · go_wp2_with fail
    go_ret2
    exact ⟨ret_pair (by rw [checkClass, if_neg T1.out, if_pos t2]), e1.out⟩
  have T2 := Lib.hid t2
  have hl6 : l.length ≤ 6 := by
    have := V.out.l6
    have : (l.length : Int) = x.layers.length := by simpa using t2
    omega
  replace t2 : ((l.length : Int) != (x.layers.length : Int)) = false := by simpa using t2
  go_wp2_with fail
  have HB0 := Lib.hid b00
  clear b00 b01 b02 b03 q0
  go_loopw [31, 6] (fun i n wr => ∃ (k : Nat) (m : Int), k ≤ l.length ∧ i = .int .i64 k ∧ n = .int .i64 m ∧ Hid (Ext w1 wr) ∧ Hid (checkClass x l = classScan l (l.length - k) k m) ∧ Hid (1 ≤ m ∧ m ≤ 1000 ^ k)) (fun i _ _ => l.length - (intOf i).toNat)
  case atStart => exact ⟨0, 1, Nat.zero_le _, rfl, rfl, Lib.hid (Ext.refl _), Lib.hid (by rw [checkClass, if_neg T1.out, if_neg T2.out]; rfl), Lib.hid (by decide)⟩
  case round =>
    obtain ⟨k, m, hk, rfl, rfl, Hx, HS, HM⟩ := hrel
    by_cases hlt : k < l.length
    · obtain ⟨b1, o1, rfl, _, hc1⟩ := (HR.out.ext (e1.out.trans Hx.out)).get Rng.enc_length (by decide) hlt
      have c1 : wr.cell? ⟨b1, o1 + k * 2, none⟩ = some (.int .i64 l[k].lo) := hc1 k 0 hlt (by decide)
      have c2 : wr.cell? ⟨b1, o1 + k * 2 + 1, none⟩ = some (.int .i64 l[k].hi) := hc1 k 1 hlt (by decide)
      have HA : Hid (rngE l[k] = firstE [unlessE (withinB l[k].lo 1 1000 && withinB l[k].hi 1 1000) 2, unlessE (decide (l[k].lo ≤ l[k].hi)) 9]) := Lib.hid rfl
      have hm : l.length - k = (l.length - (k + 1)) + 1 := by omega
      rw [hm, classScan, getDR hlt] at HS
      clear hc1 hm
      go_wp2_with fail
      generalize hwb : World.alloc wr _ = wb
      have hxb : Ext wr wb := by rw [← hwb]; exact Ext.alloc _ _
      have d0 : wb.cell? ⟨wr.heap.size, 0, none⟩ = some (.int .i64 l[k].lo) := by rw [← hwb]; exact (World.cell_at rfl).trans rfl
      have d1 : wb.cell? ⟨wr.heap.size, 1, none⟩ = some (.int .i64 l[k].hi) := by rw [← hwb]; exact (World.cell_at rfl).trans rfl
      have qb : wr.heap.size < wb.heap.size := cell_lt d0
      clear hwb c1 c2
      cases hb : withinB l[k].lo 1 1000
      all_goals
        rw [hb] at HA
        first | rw [Bool.false_and] at HA | rw [Bool.true_and] at HA
        have LD : Hid (∀ y, Calls Tryz.prog 123 #[.int .i64 l[k].lo] (wb.over y) fun e w' => e = .returned (.bool (withinB l[k].lo 1 1000)) ∧ wb.over y = w') := Lib.hid (fun y => isDelay_any _ _)
        rw [hb] at LD
        clear hb
        refine wp_region_over 15 (by kernel_rfl) (by kernel_rfl) ?_
        simp only [List.take_succ_cons, List.take_zero, List.drop_succ_cons, List.drop_zero]
        repeat (quiet_step ((first | (go_at_call 36; exact Calls.over_same (unless_any _ _ _)) | (go_at_call 123; exact Calls.over_same (LD.out _)) | (go_at_call 123; exact Calls.over_same (isDelay_any _ _)))))
        refine wpQuiet_nil ?_
        rintro _ ⟨x2, rfl⟩
        go_wp2_with fail
        refine (first_two _ _ _).mono ?_
        rintro e wn ⟨rfl, hwn⟩
        have hx : Ext wb wn := by rw [← hwn]; exact (wb.over_ext x2).toAlloc _
        clear hwn
        have Hx2 := Lib.hid (Hx.out.trans (hxb.trans hx))
        replace d0 := hx.cell_of d0
        replace d1 := hx.cell_of d1
        replace qb := Nat.lt_of_lt_of_le qb hx.le
        clear hx hxb
        rw [show firstE _ = rngE l[k] from HA.out.symm]
        by_cases t3 : (rngE l[k] != 0) = true
        · go_wp2_with fail
          go_ret2
          exact ⟨ret_pair (by rw [HS.out, if_pos t3]), e1.out.trans Hx2.out⟩
        · have T3 := Lib.hid t3
          have hz := rngE_zero.1 (show rngE l[k] = 0 by simpa using t3)
          have HB9 : Hid (1 ≤ m * (l[k].hi - l[k].lo + 1) ∧ m * (l[k].hi - l[k].lo + 1) ≤ 1000 ^ (k + 1)) := Lib.hid (by
            have h1 := HM.out.1
            have h2 := HM.out.2
            constructor
            · have := Int.mul_le_mul h1 (show 1 ≤ l[k].hi - l[k].lo + 1 by omega) (by decide) (by omega)
              simpa using this
            · rw [Int.pow_succ]
              exact Int.mul_le_mul h2 (by omega) (by omega) (by omega))
          have w1' : IntKind.i64.wrap (l[k].hi - l[k].lo) = l[k].hi - l[k].lo := IntWalk.i64_in _ (by omega)
          have w2' : IntKind.i64.wrap (l[k].hi - l[k].lo + 1) = l[k].hi - l[k].lo + 1 := IntWalk.i64_in _ (by omega)
          have w4' : wrap64 (m * (l[k].hi - l[k].lo + 1)) = m * (l[k].hi - l[k].lo + 1) := by
            have h1 := HB9.out
            have h2 := pow_bd k (by omega)
            rw [Int.pow_succ] at h1
            have h3 : (1000 : Int) ^ k * 1000 ≤ 1000000000000000 * 1000 := Int.mul_le_mul_of_nonneg_right h2 (by decide)
            exact IntWalk.wrap64_in _ ⟨by omega, by omega⟩
          replace t3 : (rngE l[k] != 0) = false := by simpa using t3
          go_wp2_with fail
          go_roundw
          case rel => exact ⟨k + 1, m * (l[k].hi - l[k].lo + 1), by omega, by go_num, by rw [w4'], Hx2, Lib.hid (by rw [HS.out, if_neg T3.out]), HB9⟩
          case measure => simp [intOf]; omega
    · have hk0 : l.length - k = 0 := by omega
      rw [hk0, classScan] at HS
      clear hk0
      go_wp2_with (go_at_call 36; refine (unless_any _ _ _).mono ?_; rintro e w' ⟨rfl, rfl⟩)
      go_ret2
      exact ⟨ret_pair HS.out, e1.out.trans Hx.out⟩
end Go.Proofs.YtnmaabejdmaahaaGreatDoor.Ice
namespace Go.Proofs.YtnmaabejdmaahaaGreatDoor.Ice
open Go.RowKit Go.Proofs Go.Shelf
def byteI (s : ByteArray) (i : Nat) : Int := ((s.data.getD i 0).toNat : Int)
def letterB (c : Int) : Bool := withinB c 97 122 || withinB c 65 90
def badB (s : ByteArray) (i : Nat) : Bool := !letterB (byteI s i) && (decide (i = 0) || (byteI s i != 45 && !withinB (byteI s i) 48 57))
def nameScan (s : ByteArray) : Nat → Nat → Bool
  | 0, _ => withinB s.size 1 12
  | f + 1, i => if badB s i = true then false else nameScan s f (i + 1)
def nameB (s : ByteArray) : Bool := nameScan s s.size 0
set_option maxRecDepth 100000 in
set_option maxHeartbeats 1000000 in
theorem isName_any (s : ByteArray) (w : World) (hs : s.size ≤ 9223372036854775807) :
    Calls Tryz.prog 154 #[.string s] w fun e w' => e = .returned (.bool (nameB s)) ∧ w = w' := by
  go_enter Tryz.func154, Tryz.ntmps154
  go_wp2_with fail
  go_loop [8] (fun i => ∃ k : Nat, k ≤ s.size ∧ i = .int .i64 k ∧ Hid (nameB s = nameScan s (s.size - k) k)) (fun i => s.size - (intOf i).toNat)
  case atStart => exact ⟨0, Nat.zero_le _, rfl, Lib.hid rfl⟩
  case round =>
    obtain ⟨k, hk, rfl, HS⟩ := hrel
    by_cases hlt : k < s.size
    · have hm : s.size - k = (s.size - (k + 1)) + 1 := by omega
      rw [hm, nameScan] at HS
      clear hm
      have hlt8 : s[k].toNat < 256 := s[k].toNat_lt
      have HC : Hid (byteI s k = (s[k].toNat : Int)) := Lib.hid (by unfold byteI; simp only [Array.getD_eq_getD_getElem?]; rw [Array.getElem?_eq_getElem (by exact hlt)]; rfl)
      cases h1 : withinB (s[k].toNat : Int) 97 122
      · cases h2 : withinB (s[k].toNat : Int) 65 90
        · by_cases h5 : k = 0
          · have H1 := Lib.hid h1
            have H2 := Lib.hid h2
            have H3 := Lib.hid h2
            have HBD : Hid (badB s k = true) := Lib.hid (by unfold badB letterB; rw [HC.out, h1, h2]; simp [h5])
            clear h1 h2
            subst h5
            go_wp2_with (go_at_call 69; refine (within_any _ _ _ _).mono ?_; rintro e w' ⟨rfl, rfl⟩; try simp only [H1.out, H2.out])
            go_ret
            exact ⟨ret_bool (by rw [HS.out, if_pos HBD.out]), rfl⟩
          · by_cases h4 : (s[k].toNat : Int) = 45
            · have h4b : ((s[k].toNat : Int) != 45) = false := by simpa using h4
              have h5b : ((k : Int) == 0) = false := by simpa using h5
              have H1 := Lib.hid h1
              have H2 := Lib.hid h2
              have H3 := Lib.hid h2
              have HBD : Hid (¬ badB s k = true) := Lib.hid (by unfold badB letterB; rw [HC.out]; simp [h5, h4])
              clear h1 h2
              go_wp2_with (go_at_call 69; refine (within_any _ _ _ _).mono ?_; rintro e w' ⟨rfl, rfl⟩; try simp only)
              go_round
              case rel => exact ⟨k + 1, by omega, by go_num, Lib.hid (by rw [HS.out, if_neg HBD.out])⟩
              case measure => simp [intOf]; omega
            · have h4b : ((s[k].toNat : Int) != 45) = true := by simpa using h4
              have h5b : ((k : Int) == 0) = false := by simpa using h5
              cases h3 : withinB (s[k].toNat : Int) 48 57
              · have H1 := Lib.hid h1
                have H2 := Lib.hid h2
                have H3 := Lib.hid h3
                have HBD : Hid (badB s k = true) := Lib.hid (by unfold badB letterB; rw [HC.out]; simp [h1, h2, h5, h4, h3])
                clear h1 h2 h3
                go_wp2_with (go_at_call 69; refine (within_any _ _ _ _).mono ?_; rintro e w' ⟨rfl, rfl⟩; try simp only [H1.out, H2.out, H3.out])
                go_ret
                exact ⟨ret_bool (by rw [HS.out, if_pos HBD.out]), rfl⟩
              · have H1 := Lib.hid h1
                have H2 := Lib.hid h2
                have H3 := Lib.hid h3
                have HBD : Hid (¬ badB s k = true) := Lib.hid (by unfold badB letterB; rw [HC.out]; simp [h1, h2, h5, h3])
                clear h1 h2 h3
                go_wp2_with (go_at_call 69; refine (within_any _ _ _ _).mono ?_; rintro e w' ⟨rfl, rfl⟩; try simp only [H1.out, H2.out, H3.out])
                go_round
                case rel => exact ⟨k + 1, by omega, by go_num, Lib.hid (by rw [HS.out, if_neg HBD.out])⟩
                case measure => simp [intOf]; omega
        · have H1 := Lib.hid h1
          have H2 := Lib.hid h2
          have H3 := Lib.hid h2
          have HBD : Hid (¬ badB s k = true) := Lib.hid (by unfold badB letterB; rw [HC.out]; simp [h1, h2])
          clear h1 h2
          go_wp2_with (go_at_call 69; refine (within_any _ _ _ _).mono ?_; rintro e w' ⟨rfl, rfl⟩; try simp only [H1.out, H2.out])
          go_round
          case rel => exact ⟨k + 1, by omega, by go_num, Lib.hid (by rw [HS.out, if_neg HBD.out])⟩
          case measure => simp [intOf]; omega
      · have H1 := Lib.hid h1
        have H2 := Lib.hid h1
        have H3 := Lib.hid h1
        have HBD : Hid (¬ badB s k = true) := Lib.hid (by unfold badB letterB; rw [HC.out]; simp [h1])
        clear h1
        go_wp2_with (go_at_call 69; refine (within_any _ _ _ _).mono ?_; rintro e w' ⟨rfl, rfl⟩; try simp only [H1.out])
        go_round
        case rel => exact ⟨k + 1, by omega, by go_num, Lib.hid (by rw [HS.out, if_neg HBD.out])⟩
        case measure => simp [intOf]; omega
    · have hk0 : s.size - k = 0 := by omega
      rw [hk0, nameScan] at HS
      clear hk0
      go_wp2_with (go_at_call 69; refine (within_any _ _ _ _).mono ?_; rintro e w' ⟨rfl, rfl⟩)
      go_ret
      exact ⟨ret_bool HS.out.symm, rfl⟩
def sameName (a b : ByteArray) : Bool := a.toList == b.toList
set_option maxRecDepth 100000 in
set_option maxHeartbeats 1000000 in
theorem isTime_any (n : Int) (w : World) :
    Calls Tryz.prog 151 #[.int .i64 n] w fun e w' => e = .returned (.bool (withinB n 0 1000000)) ∧ w = w' := by
  go_enter Tryz.func151, Tryz.ntmps151
  go_wp2_with fail
  refine (within_any _ _ _ _).mono ?_
  rintro e w' ⟨rfl, rfl⟩
  go_wp2_with fail
  go_ret
  exact ⟨rfl, rfl⟩
set_option maxRecDepth 100000 in
set_option maxHeartbeats 1000000 in
theorem sameName_any (o : Flash) (s : ByteArray) (b : Nat) (w : World) (hc : w.cell? ⟨b, 0, none⟩ = some (.string s)) :
    Calls Tryz.prog 153 #[.agg #[.string o.name, .int .i64 o.frm.col, .int .i64 o.frm.row, .int .i64 o.to.col, .int .i64 o.to.row, .int .i64 o.time.lo, .int .i64 o.time.hi], .pointer (some ⟨b, 0, none⟩)] w fun e w' => e = .returned (.bool (sameName o.name s)) ∧ Ext w w' := by
  have q := cell_lt hc
  go_enter Tryz.func153, Tryz.ntmps153
  go_wp2_with fail
  go_ret
  exact ⟨rfl, Ext.alloc _ _⟩
end Go.Proofs.YtnmaabejdmaahaaGreatDoor.Ice
namespace Go.Proofs.YtnmaabejdmaahaaGreatDoor.Ice
open Go.RowKit Go.Proofs Go.Shelf
structure FlashesAt (w : World) (fa : Option Addr) (l : List Flash) : Prop where
  row : RowS Flash.enc w fa l
  n : l.length ≤ 140737488355328
  name : ∀ f ∈ l, f.name.size ≤ 9223372036854775807
theorem FlashesAt.ext {w w' : World} {fa : Option Addr} {l : List Flash} (h : FlashesAt w fa l) (e : Ext w w') : FlashesAt w' fa l := ⟨h.row.ext e, h.n, h.name⟩
def flash0 : Flash := ⟨ByteArray.empty, ⟨0, 0⟩, ⟨0, 0⟩, ⟨0, 0⟩⟩
theorem getDF {l : List Flash} {k : Nat} (h : k < l.length) : l.getD k flash0 = l[k] := by simp [List.getD, h]
def flashE (x : Grid) (pre : List Flash) (f : Flash) : Int := firstE [unlessE (nameB f.name) 4, unlessE (!pre.any fun o => sameName o.name f.name) 5, cellErrE x f.frm, cellErrE x f.to, unlessE (withinB f.time.lo 0 1000000 && withinB f.time.hi 0 1000000) 2, unlessE (decide (f.time.lo ≤ f.time.hi)) 9]
def flashScan (x : Grid) (l : List Flash) : Nat → Nat → Int × Int
  | 0, _ => (0, 0)
  | f + 1, i => if (flashE x (l.take i) (l.getD i flash0) != 0) = true then (i, flashE x (l.take i) (l.getD i flash0)) else flashScan x l f (i + 1)
def flashE0 (x : Grid) (rs : List Rng) (l : List Flash) : Int := firstE [(checkClass x rs).2, unlessE (decide ((l.length : Int) ≤ 8)) 8]
def checkFlashes (x : Grid) (rs : List Rng) (l : List Flash) : Int × Int := if (flashE0 x rs l != 0) = true then (0, flashE0 x rs l) else flashScan x l l.length 0
theorem RowS.take {α : Type} {enc : α → List Value} {s : Nat} (hs : ∀ x, (enc x).length = s) {w : World} {a : Option Addr} {l : List α} (h : RowS enc w a l) (k : Nat) : RowS enc w a (l.take k) := by
  refine ⟨fun hn => ?_⟩
  have hn2 : l.flatMap enc ≠ [] := by
    intro e
    apply hn
    have h1 := flatMap_length hs l
    rw [e] at h1
    have h2 := flatMap_length hs (l.take k)
    refine List.eq_nil_of_length_eq_zero ?_
    rw [h2]
    simp only [List.length_nil] at h1
    rcases Nat.mul_eq_zero.1 h1.symm with h3 | h3
    · rw [List.eq_nil_of_length_eq_zero h3]; simp
    · rw [h3, Nat.mul_zero]
  obtain ⟨b, off, e, hb, hc⟩ := h.at_ hn2
  refine ⟨b, off, e, hb, fun j hj => ?_⟩
  have e2 : l.flatMap enc = (l.take k).flatMap enc ++ (l.drop k).flatMap enc := by rw [← List.flatMap_append, List.take_append_drop]
  rw [hc j (by rw [e2, List.length_append]; omega), e2, List.getElem?_append_left hj]
set_option maxRecDepth 100000 in
set_option maxHeartbeats 1000000 in
theorem CheckFlashes_any (la ta ra fa : Option Addr) (lc tc rc fc : Nat) (x : Grid) (rs : List Rng) (l : List Flash) (w : World) (hg : GridAt w la ta x) (hr : RowS Rng.enc w ra rs) (hn : rs.length ≤ 140737488355328) (hf : FlashesAt w fa l) (hfc : l.length ≤ fc) :
    Calls Tryz.prog 128 #[.agg #[.slice la x.layers.length lc, .int .i64 x.rows, .slice ta x.tilt.length tc, .slice ra rs.length rc], .slice fa l.length fc] w fun e w' => e = .returned (.tuple #[.int .i64 (checkFlashes x rs l).1, .int .i64 (checkFlashes x rs l).2]) ∧ Ext w w' := by
  have HG := Lib.hid hg
  have HR := Lib.hid hr
  have HF := Lib.hid hf
  have hfn := hf.n
  clear hg hr hf
  go_enter Tryz.func128, Tryz.ntmps128
  go_wp2_with fail
  generalize hW : World.alloc w _ = W0
  have e0 := Lib.hid (show Ext w W0 by rw [← hW]; exact Ext.alloc _ _)
  have q0 : w.heap.size < W0.heap.size := by rw [← hW]; simp <;> omega
  have b00 : W0.cell? ⟨w.heap.size, 0, none⟩ = some (.slice la x.layers.length lc) := by rw [← hW]; exact ((World.cell_at (by simp)).trans rfl)
  have b01 : W0.cell? ⟨w.heap.size, 1, none⟩ = some (.int .i64 x.rows) := by rw [← hW]; exact ((World.cell_at (by simp)).trans rfl)
  have b02 : W0.cell? ⟨w.heap.size, 2, none⟩ = some (.slice ta x.tilt.length tc) := by rw [← hW]; exact ((World.cell_at (by simp)).trans rfl)
  have b03 : W0.cell? ⟨w.heap.size, 3, none⟩ = some (.slice ra rs.length rc) := by rw [← hW]; exact ((World.cell_at (by simp)).trans rfl)
  clear hW
  go_wp2_with fail
  refine (CheckClass_any la ta ra lc tc rc x rs _ (HG.out.ext e0.out) (HR.out.ext e0.out) hn).mono ?_
  rintro e w1 ⟨rfl, hx⟩
  replace b00 := hx.cell_of b00
  replace b01 := hx.cell_of b01
  replace b02 := hx.cell_of b02
  replace b03 := hx.cell_of b03
  replace q0 := Nat.lt_of_lt_of_le q0 hx.le
  have e1 := Lib.hid (e0.out.trans hx)
  clear hx e0
  go_wp2_with (go_at_call 36; refine (unless_any _ _ _).mono ?_; rintro e w' ⟨rfl, rfl⟩)
  refine (first_two _ _ _).mono ?_
  rintro e w2 ⟨rfl, hw2⟩
  have hx : Ext w1 w2 := by rw [← hw2]; exact Ext.alloc _ _
  clear hw2
  replace b00 := hx.cell_of b00
  replace b01 := hx.cell_of b01
  replace b02 := hx.cell_of b02
  replace b03 := hx.cell_of b03
  replace q0 := Nat.lt_of_lt_of_le q0 hx.le
  have e2 := Lib.hid (e1.out.trans hx)
  clear hx e1
  rw [show firstE _ = flashE0 x rs l from rfl]
  by_cases t1 : (flashE0 x rs l != 0) = true
  · go_wp2_with fail
    go_ret2
    exact ⟨ret_pair (by rw [checkFlashes, if_pos t1]), e2.out⟩
  have T1 := Lib.hid t1
  replace t1 : (flashE0 x rs l != 0) = false := by simpa using t1
  go_wp2_with fail
  have B0 := Lib.hid b00
  have B1 := Lib.hid b01
  have B2 := Lib.hid b02
  clear b00 b01 b02 b03 q0
  go_loopw [30] (fun i wr => ∃ k : Nat, k ≤ l.length ∧ i = .int .i64 k ∧ Hid (Ext w2 wr) ∧ Hid (checkFlashes x rs l = flashScan x l (l.length - k) k)) (fun i _ => l.length - (intOf i).toNat)
  case atStart => exact ⟨0, Nat.zero_le _, rfl, Lib.hid (Ext.refl _), Lib.hid (by rw [checkFlashes, if_neg T1.out]; rfl)⟩
  case round =>
    obtain ⟨k, hk, rfl, Hx, HS⟩ := hrel
    by_cases hlt : k < l.length
    · obtain ⟨b1, o1, rfl, hlb, hc1⟩ := (HF.out.row.ext (e2.out.trans Hx.out)).get Flash.enc_length (by decide) hlt
      have c0 : wr.cell? ⟨b1, o1 + k * 7, none⟩ = some (.string l[k].name) := hc1 k 0 hlt (by decide)
      have c1 : wr.cell? ⟨b1, o1 + k * 7 + 1, none⟩ = some (.int .i64 l[k].frm.col) := hc1 k 1 hlt (by decide)
      have c2 : wr.cell? ⟨b1, o1 + k * 7 + 2, none⟩ = some (.int .i64 l[k].frm.row) := hc1 k 2 hlt (by decide)
      have c3 : wr.cell? ⟨b1, o1 + k * 7 + 3, none⟩ = some (.int .i64 l[k].to.col) := hc1 k 3 hlt (by decide)
      have c4 : wr.cell? ⟨b1, o1 + k * 7 + 4, none⟩ = some (.int .i64 l[k].to.row) := hc1 k 4 hlt (by decide)
      have c5 : wr.cell? ⟨b1, o1 + k * 7 + 5, none⟩ = some (.int .i64 l[k].time.lo) := hc1 k 5 hlt (by decide)
      have c6 : wr.cell? ⟨b1, o1 + k * 7 + 6, none⟩ = some (.int .i64 l[k].time.hi) := hc1 k 6 hlt (by decide)
      have hm : l.length - k = (l.length - (k + 1)) + 1 := by omega
      rw [hm, flashScan, getDF hlt] at HS
      clear hc1 hm
      go_wp2_with fail
      generalize hwb : World.alloc wr _ = wb
      have hxb : Ext wr wb := by rw [← hwb]; exact Ext.alloc _ _
      have d0 : wb.cell? ⟨wr.heap.size, 0, none⟩ = some (.string l[k].name) := by rw [← hwb]; exact (World.cell_at rfl).trans rfl
      have d1 : wb.cell? ⟨wr.heap.size, 1, none⟩ = some (.int .i64 l[k].frm.col) := by rw [← hwb]; exact (World.cell_at rfl).trans rfl
      have d2 : wb.cell? ⟨wr.heap.size, 2, none⟩ = some (.int .i64 l[k].frm.row) := by rw [← hwb]; exact (World.cell_at rfl).trans rfl
      have d3 : wb.cell? ⟨wr.heap.size, 3, none⟩ = some (.int .i64 l[k].to.col) := by rw [← hwb]; exact (World.cell_at rfl).trans rfl
      have d4 : wb.cell? ⟨wr.heap.size, 4, none⟩ = some (.int .i64 l[k].to.row) := by rw [← hwb]; exact (World.cell_at rfl).trans rfl
      have d5 : wb.cell? ⟨wr.heap.size, 5, none⟩ = some (.int .i64 l[k].time.lo) := by rw [← hwb]; exact (World.cell_at rfl).trans rfl
      have d6 : wb.cell? ⟨wr.heap.size, 6, none⟩ = some (.int .i64 l[k].time.hi) := by rw [← hwb]; exact (World.cell_at rfl).trans rfl
      clear hwb c0 c1 c2 c3 c4 c5 c6
      have htl : (l.take k).length = k := by simp; omega
      have LC := containsFlash (fun o => sameName o.name l[k].name) 153 #[.pointer (some ⟨wr.heap.size, 0, none⟩)] (enters_of Tryz.func153 (by kernel_rfl) rfl) (some ⟨b1, o1, none⟩) (l.take k) fc wb (by rw [htl]; unfold maxLen; omega) (RowS.take Flash.enc_length (HF.out.row.ext (e2.out.trans (Hx.out.trans hxb))) k) (fun o w' _ he => sameName_any o _ _ w' (he.cell_of d0))
      rw [htl] at LC
      refine LC.mono ?_
      rintro e w3 ⟨rfl, hx3⟩
      have X3 := Lib.hid (hxb.trans hx3)
      replace d0 := hx3.cell_of d0
      replace d1 := hx3.cell_of d1
      replace d2 := hx3.cell_of d2
      replace d3 := hx3.cell_of d3
      replace d4 := hx3.cell_of d4
      replace d5 := hx3.cell_of d5
      replace d6 := hx3.cell_of d6
      have b00 := (Hx.out.trans X3.out).cell_of B0.out
      have b01 := (Hx.out.trans X3.out).cell_of B1.out
      have b02 := (Hx.out.trans X3.out).cell_of B2.out
      have q0 := cell_lt b00
      have qb := cell_lt d0
      clear LC hxb hx3 htl
      have LA : Hid (∀ y, Calls Tryz.prog 154 #[.string l[k].name] (w3.over y) fun e w' => e = .returned (.bool (nameB l[k].name)) ∧ w3.over y = w') := Lib.hid (fun y => isName_any _ _ (HF.out.name _ (List.getElem_mem hlt)))
      have LB : Hid (∀ c y, Calls Tryz.prog 59 #[.agg #[.slice la x.layers.length lc, .int .i64 x.rows, .slice ta x.tilt.length tc], .agg #[.int .i64 c.col, .int .i64 c.row]] (w3.over y) fun e w' => e = .returned (.int .i64 (cellErrE x c)) ∧ Ext (w3.over y) w') := Lib.hid (fun c y => cellErr_any la ta lc tc x c _ (HG.out.ext (e2.out.trans (Hx.out.trans (X3.out.trans (w3.over_ext y))))))
      cases hb : withinB l[k].time.lo 0 1000000
      all_goals
        have HA : Hid (flashE x (l.take k) l[k] = firstE [unlessE (nameB l[k].name) 4, unlessE (!(l.take k).any fun o => sameName o.name l[k].name) 5, cellErrE x l[k].frm, cellErrE x l[k].to, unlessE (withinB l[k].time.lo 0 1000000 && withinB l[k].time.hi 0 1000000) 2, unlessE (decide (l[k].time.lo ≤ l[k].time.hi)) 9]) := Lib.hid rfl
        rw [hb] at HA
        first | rw [Bool.false_and] at HA | rw [Bool.true_and] at HA
        have LD : Hid (∀ y, Calls Tryz.prog 151 #[.int .i64 l[k].time.lo] (w3.over y) fun e w' => e = .returned (.bool (withinB l[k].time.lo 0 1000000)) ∧ w3.over y = w') := Lib.hid (fun y => isTime_any _ _)
        rw [hb] at LD
        clear hb
        go_wp2_with fail
        refine wp_region_over 38 (by kernel_rfl) (by kernel_rfl) ?_
        simp only [List.take_succ_cons, List.take_zero, List.drop_succ_cons, List.drop_zero]
        repeat (quiet_step ((first | (go_at_call 36; exact Calls.over_same (unless_any _ _ _)) | (go_at_call 154; exact Calls.over_same (LA.out _)) | (go_at_call 59; exact Calls.over_ext (LB.out _ _)) | (go_at_call 151; exact Calls.over_same (LD.out _)) | (go_at_call 151; exact Calls.over_same (isTime_any _ _)))))
        refine wpQuiet_nil ?_
        rintro _ ⟨x2, rfl⟩
        go_wp2_with fail
        refine (first_six _ _ _ _ _ _ _).mono ?_
        rintro e wn ⟨rfl, hwn⟩
        have hx : Ext w3 wn := by rw [← hwn]; exact (w3.over_ext x2).toAlloc _
        clear hwn
        have Hx2 := Lib.hid (Hx.out.trans (X3.out.trans hx))
        clear hx d0 d1 d2 d3 d4 d5 d6 b00 b01 b02 q0 qb
        rw [show firstE _ = flashE x (l.take k) l[k] from HA.out.symm]
        by_cases t3 : (flashE x (l.take k) l[k] != 0) = true
        · go_wp2_with fail
          go_ret2
          exact ⟨ret_pair (by rw [HS.out, if_pos t3]), e2.out.trans Hx2.out⟩
        · have T3 := Lib.hid t3
          replace t3 : (flashE x (l.take k) l[k] != 0) = false := by simpa using t3
          go_wp2_with fail
          go_roundw
          case rel => exact ⟨k + 1, by omega, by go_num, Hx2, Lib.hid (by rw [HS.out, if_neg T3.out])⟩
          case measure => simp [intOf]; omega
    · have hk0 : l.length - k = 0 := by omega
      rw [hk0, flashScan] at HS
      clear hk0
      go_wp2_with fail
      go_ret2
      exact ⟨ret_pair HS.out, e2.out.trans Hx.out⟩
end Go.Proofs.YtnmaabejdmaahaaGreatDoor.Ice
namespace Go.Proofs.YtnmaabejdmaahaaGreatDoor.Ice
open Go.RowKit Go.Proofs Go.Shelf
def encB (b : Bool) : List Value := [.bool b]
theorem encB_length (b : Bool) : (encB b).length = 1 := rfl
set_option maxRecDepth 100000 in
theorem indexBool (v : Bool) (a : Option Addr) (l : List Bool) (cap : Nat) (w : World) (hl : l.length ≤ 140737488355328) (hr : RowS encB w a l) :
    Calls Tryz.prog 130 #[.slice a l.length cap, .bool v] w fun e w' => e = .returned (.int .i64 (idxI (l.findIdx? fun b => v == b))) ∧ w = w' := by
  have HR := Lib.hid hr
  clear hr
  go_enter Tryz.func130, Tryz.ntmps130
  go_wp2
  go_loop [8] (fun i => ∃ k : Nat, k ≤ l.length ∧ i = .int .i64 k ∧ Hid (∀ j, (h : j < l.length) → j < k → (v == l[j]) = false)) (fun i => l.length - (intOf i).toNat)
  case atStart => exact ⟨0, Nat.zero_le _, rfl, Lib.hid (fun _ _ h => absurd h (Nat.not_lt_zero _))⟩
  case round =>
    obtain ⟨k, hk, rfl, Hf⟩ := hrel
    by_cases hlt : k < l.length
    · obtain ⟨b, off, rfl, hb, hc⟩ := HR.out.get encB_length (by decide) hlt
      have c1 : w.cell? ⟨b, off + k, none⟩ = some (.bool l[k]) := by have := hc k 0 hlt (by decide); rwa [Nat.mul_one] at this
      clear hc
      cases hpk : (v == l[k])
      · have Hpk := Lib.hid hpk
        go_wp2_with fail
        go_round
        case rel => exact ⟨k + 1, by omega, by go_num, Lib.hid (fun j h hj => by rcases Nat.lt_succ_iff_lt_or_eq.1 hj with h' | rfl; exact Hf.out j h h'; exact Hpk.out)⟩
        case measure => simp [intOf]; omega
      · have Hpk := Lib.hid hpk
        go_wp2_with fail
        go_ret
        exact ⟨ret_int (by rw [findIdx_some hlt Hpk.out Hf.out]; rfl), rfl⟩
    · go_wp2_with fail
      go_ret
      exact ⟨ret_int (by rw [findIdx_none (fun j hj => Hf.out j hj (by omega))]; rfl), rfl⟩
set_option maxRecDepth 100000 in
theorem containsBool (v : Bool) (a : Option Addr) (l : List Bool) (cap : Nat) (w : World) (hl : l.length ≤ 140737488355328) (hr : RowS encB w a l) :
    Calls Tryz.prog 96 #[.slice a l.length cap, .bool v] w fun e w' => e = .returned (.bool (l.any fun b => v == b)) ∧ w = w' := by
  have HC := Lib.hid (indexBool v a l cap w hl hr)
  clear hl hr
  go_enter Tryz.func96, Tryz.ntmps96
  go_wp2_with fail
  refine HC.out.mono ?_
  rintro e w1 ⟨rfl, rfl⟩
  go_wp2_with fail
  go_ret
  exact ⟨ret_bool (by rw [← findIdx_any, ← idxI_ge]), rfl⟩
end Go.Proofs.YtnmaabejdmaahaaGreatDoor.Ice
namespace Go.Proofs.YtnmaabejdmaahaaGreatDoor.Ice
open Go.RowKit Go.Proofs Go.Shelf
def upTo (lo hi : Int) : List Int := (List.range (hi + 1 - lo).toNat).map fun (k : Nat) => lo + k
def assigns : List Rng → List Int → List (List Int)
  | [], pre => [pre]
  | r :: rs, pre => (upTo r.lo r.hi).flatMap fun n => assigns rs (pre ++ [n])
def own (x : Grid) (ds : List Int) : Grid := { x with layers := x.layers.mapIdx fun i y => { y with delay := ds.getD i y.delay } }
noncomputable def explains (x : Grid) (l : List Flash) : List Bool := l.map fun f => withinB (distOf x f.frm f.to) f.time.lo f.time.hi
structure ModelsAt (W : World) (zs : List (Sl × Sl)) (ms : List (List Int × List Bool)) : Prop where
  len : zs.length = ms.length
  row : ∀ (i : Nat) (h : i < zs.length) (h' : i < ms.length), (zs[i].1.n = ms[i].1.length ∧ W.ownsRow 0 3 1 (.slice zs[i].1.a zs[i].1.n zs[i].1.c) zs[i].1.n (ms[i].1.flatMap encI)) ∧
    zs[i].2.n = ms[i].2.length ∧ W.ownsRow 0 4 1 (.slice zs[i].2.a zs[i].2.n zs[i].2.c) zs[i].2.n (ms[i].2.flatMap encB)
theorem ModelsAt.ext {W W' : World} {zs : List (Sl × Sl)} {ms : List (List Int × List Bool)} (h : ModelsAt W zs ms) (e : Ext W W') : ModelsAt W' zs ms :=
  ⟨h.len, fun i h1 h2 => ⟨⟨(h.row i h1 h2).1.1, (h.row i h1 h2).1.2.ext e⟩, (h.row i h1 h2).2.1, (h.row i h1 h2).2.2.ext e⟩⟩
theorem ModelsAt.nil (W : World) : ModelsAt W [] [] := ⟨rfl, fun i h => absurd h (Nat.not_lt_zero i)⟩
end Go.Proofs.YtnmaabejdmaahaaGreatDoor.Ice
namespace Go.Proofs.YtnmaabejdmaahaaGreatDoor.Ice
open Go.RowKit Go.Proofs Go.Shelf
theorem layersErrE_zero {x : Grid} {l : List Int} : layersErrE x l = 0 ↔ l.length ≤ 40 ∧ ∀ k ∈ l, 0 ≤ k ∧ k < x.layers.length := by
  have h1 : layersB x l = false ↔ ∀ k ∈ l, 0 ≤ k ∧ k < x.layers.length := by
    unfold layersB
    rw [List.any_eq_false]
    constructor
    · intro h k hk
      have := h k hk
      simp [withinB] at this
      omega
    · intro h k hk
      have := h k hk
      simp [withinB]
      omega
  unfold layersErrE
  rw [firstE_zero]
  simp only [List.mem_cons, List.not_mem_nil, or_false, forall_eq_or_imp, forall_eq]
  rw [unlessE_zero (by decide), unlessE_zero (by decide), ← h1]
  simp
  omega
def survE (x : Grid) (n : Int) (l : List Int) : Int := firstE [iceErrE x, unlessE (withinB n 0 1000000) 2, layersErrE x l]
theorem survE_zero {x : Grid} {n : Int} {l : List Int} : survE x n l = 0 ↔ Valid x ∧ (0 ≤ n ∧ n ≤ 1000000) ∧ l.length ≤ 40 ∧ ∀ k ∈ l, 0 ≤ k ∧ k < x.layers.length := by
  unfold survE
  rw [firstE_zero]
  simp only [List.mem_cons, List.not_mem_nil, or_false, forall_eq_or_imp, forall_eq]
  rw [unlessE_zero (by decide), layersErrE_zero, show iceErrE x = 0 ↔ Valid x from checkIce_zero x]
  simp [withinB]
def survR (x : Grid) (n : Int) (l : List Int) : Int × Int := if (survE x n l != 0) = true then (0, survE x n l) else ((spreadL x (beamL n) l).sum, 0)
theorem beamL_nonneg {n : Int} (h : 0 ≤ n) : ∀ z ∈ beamL n, 0 ≤ z := set_all (fun z hz => by simp at hz; omega) h
theorem beamL_sum (n : Int) : (beamL n).sum = n := by
  unfold beamL
  rw [sum_set _ _ _ (by simp)]
  simp
set_option maxRecDepth 100000 in
set_option maxHeartbeats 1000000 in
theorem SurvivalOf_any (la ta : Option Addr) (lc tc : Nat) (x : Grid) (n : Int) (la0 : Option Addr) (lc0 : Nat) (l : List Int) (w : World) (hg : GridAt w la ta x) (hl : RowS encI w la0 l) (hm : l.length ≤ 140737488355328) :
    Calls Tryz.prog 24 #[.agg #[.slice la x.layers.length lc, .int .i64 x.rows, .slice ta x.tilt.length tc], .int .i64 n, .slice la0 l.length lc0] w fun e w' => e = .returned (.tuple #[.int .i64 (survR x n l).1, .int .i64 (survR x n l).2]) ∧ Ext w w' := by
  have HG := Lib.hid hg
  have HL := Lib.hid hl
  clear hg hl
  go_enter Tryz.func24, Tryz.ntmps24
  go_wp2_with fail
  generalize hW : World.alloc w _ = W0
  have e0 := Lib.hid (show Ext w W0 by rw [← hW]; exact Ext.alloc _ _)
  have q0 : w.heap.size < W0.heap.size := by rw [← hW]; simp <;> omega
  have b00 : W0.cell? ⟨w.heap.size, 0, none⟩ = some (.slice la x.layers.length lc) := by rw [← hW]; exact ((World.cell_at (by simp)).trans rfl)
  have b01 : W0.cell? ⟨w.heap.size, 1, none⟩ = some (.int .i64 x.rows) := by rw [← hW]; exact ((World.cell_at (by simp)).trans rfl)
  have b02 : W0.cell? ⟨w.heap.size, 2, none⟩ = some (.slice ta x.tilt.length tc) := by rw [← hW]; exact ((World.cell_at (by simp)).trans rfl)
  clear hW
  have LA : Hid (∀ y, Calls Tryz.prog 52 #[.agg #[.slice la x.layers.length lc, .int .i64 x.rows, .slice ta x.tilt.length tc]] (W0.over y) fun e w' => e = .returned (.int .i64 (iceErrE x)) ∧ Ext (W0.over y) w') := Lib.hid (fun y => iceErr_any la ta lc tc x _ (HG.out.ext (e0.out.trans (W0.over_ext y))))
  have LB : Hid (∀ y, Calls Tryz.prog 64 #[.agg #[.slice la x.layers.length lc, .int .i64 x.rows, .slice ta x.tilt.length tc], .slice la0 l.length lc0] (W0.over y) fun e w' => e = .returned (.int .i64 (layersErrE x l)) ∧ Ext (W0.over y) w') := Lib.hid (fun y => layersErr_any la ta lc tc x la0 lc0 l _ (HG.out.ext (e0.out.trans (W0.over_ext y))) (HL.out.ext (e0.out.trans (W0.over_ext y))) hm)
  refine wp_region_over 8 (by kernel_rfl) (by kernel_rfl) ?_
  simp only [List.take_succ_cons, List.take_zero, List.drop_succ_cons, List.drop_zero]
  repeat (quiet_step ((first | (go_at_call 52; exact Calls.over_ext (LA.out _)) | (go_at_call 64; exact Calls.over_ext (LB.out _)) | (go_at_call 63; exact Calls.over_same (isPhotons_any _ _)) | (go_at_call 36; exact Calls.over_same (unless_any _ _ _)))))
  refine wpQuiet_nil ?_
  rintro _ ⟨x1, rfl⟩
  go_wp2_with fail
  refine (first_three _ _ _ _).mono ?_
  rintro e w1 ⟨rfl, hw1⟩
  have hx : Ext W0 w1 := by rw [← hw1]; exact (W0.over_ext x1).toAlloc _
  clear hw1
  replace b00 := hx.cell_of b00
  replace b01 := hx.cell_of b01
  replace b02 := hx.cell_of b02
  replace q0 := Nat.lt_of_lt_of_le q0 hx.le
  have e1 := Lib.hid (e0.out.trans hx)
  clear hx e0
  rw [show firstE _ = survE x n l from rfl]
  by_cases t1 : (survE x n l != 0) = true
  · go_wp2_with fail
    go_ret2
    exact ⟨ret_pair (by rw [survR, if_pos t1]), e1.out⟩
  have T1 := Lib.hid t1
  replace t1 : (survE x n l != 0) = false := by simpa using t1
  have V := Lib.hid (survE_zero.1 (by simpa using t1 : survE x n l = 0))
  have BN := Lib.hid (beamL_nonneg (V.out.2.1.1))
  have BS := Lib.hid (beamL_sum n)
  have n1 := V.out.2.1.2
  go_wp2_with fail
  go_region_with (first
    | (go_at_call 66; refine (flash_any n _).mono ?_; rintro e w3 ⟨a', c', rfl, hrow, hx⟩; have e3 := Lib.hid ((Ext.toDrew e1.out).trans hx); have HO := Lib.hid hrow; have q3 := (Ext.toDrew (Ext.refl w1)).trans hx; have b00' := q3.cell_of b00; have b01' := q3.cell_of b01; have b02' := q3.cell_of b02; clear hrow hx q3)
    | (go_at_call 65; refine (spread_any la ta lc tc x a' la0 c' lc0 (beamL n) l _ (HG.out.ext e3.out) V.out.1 HO.out (HL.out.ext e3.out) (by rw [beamL_len]; decide) (by have := V.out.2.2.1; omega) V.out.2.2.2 BN.out (by rw [BS.out]; omega)).mono ?_; rintro e w4 ⟨a4, c4, rfl, hrow, hx⟩; rw [beamL_len]; have e4 := Lib.hid (e3.out.trans hx); have HR4 := Lib.hid hrow; clear hrow hx))
  all_goals
    simp only [List.getElem_toArray, List.getElem_cons_succ, List.getElem_cons_zero, Act.put, List.setIfInBounds_toArray, List.set_cons_succ, List.set_cons_zero]
    have TB := spreadL_bd V.out.1 l (beamL n) V.out.2.2.2 BN.out
    obtain ⟨T, hT⟩ : ∃ T, T = spreadL x (beamL n) l := ⟨_, rfl⟩
    have hTl : T.length = 30 := by rw [hT, spreadL_len, beamL_len]
    rw [← hT, BS.out] at TB
    rw [← hT] at HR4
    obtain ⟨TB1, TB2⟩ := TB
    have HT := Lib.hid hT
    have HTL := Lib.hid hTl
    have HTB := Lib.hid TB1
    clear hT hTl TB1
    go_wp2_with fail
    go_loop [9, 31] (fun s i => ∃ k : Nat, k ≤ 30 ∧ i = .int .i64 k ∧ s = .int .i64 (T.take k).sum) (fun _ i => 30 - (intOf i).toNat)
    case atStart => exact ⟨0, Nat.zero_le _, rfl, by simp⟩
    case round =>
      obtain ⟨k, hk, rfl, rfl⟩ := hrel
      have s0 : 0 ≤ (T.take k).sum := sum_nonneg (fun z hz => HTB.out z (List.mem_of_mem_take hz))
      have s1 : (T.take k).sum ≤ T.sum := take_sum_le HTB.out k
      by_cases hlt : k < 30
      · have hkT : k < T.length := by rw [HTL.out]; exact hlt
        obtain ⟨b, off, rfl, hb, hc⟩ := HR4.out.get encI_length (by decide) hkT
        have cz : w4.cell? ⟨b, off + k, none⟩ = some (.int .i64 T[k]) := by have := hc k 0 hkT (by decide); rwa [Nat.mul_one] at this
        have z0 := HTB.out _ (List.getElem_mem hkT)
        have z1 := Int.le_trans (le_sum HTB.out (List.getElem_mem hkT)) TB2
        have HSU := Lib.hid (take_sum_succ hkT)
        clear hc hb
        go_wp2_with fail
        go_round
        case rel => exact ⟨k + 1, by omega, by go_num, by rw [HSU.out, getD_get hkT]⟩
        case measure => simp [intOf]; omega
      · have hSU : Hid ((T.take k).sum = T.sum) := Lib.hid (by rw [List.take_of_length_le (by rw [HTL.out]; omega)])
        go_wp2_with fail
        go_ret2
        exact ⟨ret_pair (by rw [survR, if_neg T1.out, ← HT.out, hSU.out]), e4.out⟩
end Go.Proofs.YtnmaabejdmaahaaGreatDoor.Ice
namespace Go.Proofs.YtnmaabejdmaahaaGreatDoor.Ice
open Go.RowKit Go.Proofs Go.Shelf
structure Hole where
  widths : List Int
  shrinks : List Int
  need : Int
structure HoleAt (w : World) (wa sa : Option Addr) (h : Hole) : Prop where
  widths : RowS encI w wa h.widths
  shrinks : RowS encI w sa h.shrinks
  nw : h.widths.length ≤ 140737488355328
  ns : h.shrinks.length ≤ 140737488355328
theorem HoleAt.ext {w w' : World} {wa sa : Option Addr} {h : Hole} (x : HoleAt w wa sa h) (hx : Ext w w') : HoleAt w' wa sa h := ⟨x.widths.ext hx, x.shrinks.ext hx, x.nw, x.ns⟩
def holeShape (h : Hole) : Bool := decide (0 < h.widths.length) && decide (h.widths.length = h.shrinks.length)
def holeE1 (h : Hole) : Int := firstE [unlessE (holeShape h) 10, unlessE (decide ((h.widths.length : Int) ≤ 20)) 8, unlessE (withinB h.need 1 1000000) 2]
def holeAt (h : Hole) (i : Nat) : Int := firstE [unlessE (withinB (h.widths.getD i 0) 0 1000000 && withinB (h.shrinks.getD i 0) 1 1000000) 2, unlessE (decide (h.need ≤ h.widths.getD i 0)) 22]
def holeScan (h : Hole) : Nat → Nat → Int × Int
  | 0, _ => (0, 0)
  | f + 1, i => if (holeAt h i != 0) = true then (i, holeAt h i) else holeScan h f (i + 1)
def checkHole (h : Hole) : Int × Int := if (holeE1 h != 0) = true then (0, holeE1 h) else holeScan h h.widths.length 0
theorem holeE1_zero {h : Hole} (e : holeE1 h = 0) : h.widths.length = h.shrinks.length ∧ h.widths.length ≤ 20 := by
  have e := firstE_zero.1 e
  have a := (unlessE_zero (by decide)).1 (e (unlessE (holeShape h) 10) (by simp))
  have b := (unlessE_zero (by decide)).1 (e (unlessE (decide ((h.widths.length : Int) ≤ 20)) 8) (by simp))
  simp [holeShape] at a b
  omega
set_option maxRecDepth 100000 in
set_option maxHeartbeats 1000000 in
theorem CheckHole_any (wa sa : Option Addr) (wc sc : Nat) (h : Hole) (w : World) (hh : HoleAt w wa sa h) :
    Calls Tryz.prog 97 #[.agg #[.slice wa h.widths.length wc, .slice sa h.shrinks.length sc, .int .i64 h.need]] w fun e w' => e = .returned (.tuple #[.int .i64 (checkHole h).1, .int .i64 (checkHole h).2]) ∧ Ext w w' := by
  have HH := Lib.hid hh
  have h1 := hh.nw
  have h2 := hh.ns
  clear hh
  go_enter Tryz.func97, Tryz.ntmps97
  go_wp2_with fail
  generalize hW : World.alloc w _ = W0
  have e0 := Lib.hid (show Ext w W0 by rw [← hW]; exact Ext.alloc _ _)
  have q0 : w.heap.size < W0.heap.size := by rw [← hW]; simp <;> omega
  have b00 : W0.cell? ⟨w.heap.size, 0, none⟩ = some (.slice wa h.widths.length wc) := by rw [← hW]; exact ((World.cell_at (by simp)).trans rfl)
  have b01 : W0.cell? ⟨w.heap.size, 1, none⟩ = some (.slice sa h.shrinks.length sc) := by rw [← hW]; exact ((World.cell_at (by simp)).trans rfl)
  have b02 : W0.cell? ⟨w.heap.size, 2, none⟩ = some (.int .i64 h.need) := by rw [← hW]; exact ((World.cell_at (by simp)).trans rfl)
  clear hW
  by_cases hn : 0 < h.widths.length
  · skip
    have hS : Hid (holeShape h = decide (h.widths.length = h.shrinks.length)) := Lib.hid (by unfold holeShape; rw [decide_eq_true hn, Bool.true_and])
    refine wp_region_over 17 (by kernel_rfl) (by kernel_rfl) ?_
    simp only [List.take_succ_cons, List.take_zero, List.drop_succ_cons, List.drop_zero]
    repeat (quiet_step ((first | (go_at_call 36; exact Calls.over_same (unless_any _ _ _)) | (go_at_call 69; exact Calls.over_same (within_any _ _ _ _)))))
    refine wpQuiet_nil ?_
    rintro _ ⟨x1, rfl⟩
    go_wp2_with fail
    refine (first_three _ _ _ _).mono ?_
    rintro e w1 ⟨rfl, hw1⟩
    have hx : Ext W0 w1 := by rw [← hw1]; exact (W0.over_ext x1).toAlloc _
    clear hw1
    replace b00 := hx.cell_of b00
    replace b01 := hx.cell_of b01
    replace b02 := hx.cell_of b02
    replace q0 := Nat.lt_of_lt_of_le q0 hx.le
    have e1 := Lib.hid (e0.out.trans hx)
    clear hx e0
    have hS2 : ((h.widths.length : Int) == (h.shrinks.length : Int)) = holeShape h := by rw [hS.out]; by_cases e : h.widths.length = h.shrinks.length <;> simp [e]; omega
    rw [hS2, show firstE _ = holeE1 h from rfl]
    clear hS2 hS
    by_cases t1 : (holeE1 h != 0) = true
    · go_wp2_with fail
      go_ret2
      exact ⟨ret_pair (by rw [checkHole, if_pos t1]), e1.out⟩
    have T1 := Lib.hid t1
    obtain ⟨hnm, hn20⟩ := holeE1_zero (by simpa using t1)
    have HNM := Lib.hid hnm
    replace t1 : (holeE1 h != 0) = false := by simpa using t1
    clear hnm
    go_wp2_with fail
    have HB0 := Lib.hid b00
    have HB1 := Lib.hid b01
    have HB2 := Lib.hid b02
    clear b00 b01 b02 q0
    go_loopw [38] (fun i wr => ∃ k : Nat, k ≤ h.widths.length ∧ i = .int .i64 k ∧ Hid (Ext w1 wr) ∧ Hid (checkHole h = holeScan h (h.widths.length - k) k)) (fun i _ => h.widths.length - (intOf i).toNat)
    case atStart => exact ⟨0, Nat.zero_le _, rfl, Lib.hid (Ext.refl _), Lib.hid (by rw [checkHole, if_neg T1.out]; rfl)⟩
    case round =>
      obtain ⟨k, hk, rfl, Hx, HS⟩ := hrel
      by_cases hlt : k < h.widths.length
      · have hlt2 : k < h.shrinks.length := by rw [← HNM.out]; exact hlt
        obtain ⟨b1, o1, rfl, _, hc1⟩ := (HH.out.widths.ext (e1.out.trans Hx.out)).get encI_length (by decide) hlt
        obtain ⟨b2, o2, rfl, _, hc2⟩ := (HH.out.shrinks.ext (e1.out.trans Hx.out)).get encI_length (by decide) hlt2
        have c1 : wr.cell? ⟨b1, o1 + k, none⟩ = some (.int .i64 h.widths[k]) := by have := hc1 k 0 hlt (by decide); rwa [Nat.mul_one] at this
        have c2 : wr.cell? ⟨b2, o2 + k, none⟩ = some (.int .i64 h.shrinks[k]) := by have := hc2 k 0 hlt2 (by decide); rwa [Nat.mul_one] at this
        have d0 := Hx.out.cell_of HB0.out
        have d1 := Hx.out.cell_of HB1.out
        have d2 := Hx.out.cell_of HB2.out
        have HA : Hid (holeAt h k = firstE [unlessE (withinB h.widths[k] 0 1000000 && withinB h.shrinks[k] 1 1000000) 2, unlessE (decide (h.need ≤ h.widths[k])) 22]) := Lib.hid (by unfold holeAt; rw [getD_get hlt, getD_get hlt2])
        have hm : h.widths.length - k = (h.widths.length - (k + 1)) + 1 := by omega
        rw [hm, holeScan] at HS
        clear hc1 hc2 hm
        have hq0 : w.heap.size < wr.heap.size := World.block_lt_of_cell? _ _ d2
        cases hb : withinB h.widths[k] 0 1000000
        all_goals
          have HB := Lib.hid hb
          rw [hb] at HA
          first | rw [Bool.false_and] at HA | rw [Bool.true_and] at HA
          go_wp2_with (go_at_call 69; refine (within_any _ _ _ _).mono ?_; rintro e w' ⟨rfl, rfl⟩; try rw [HB.out])
          clear hb
          refine wp_region_over 7 (by kernel_rfl) (by kernel_rfl) ?_
          simp only [List.take_succ_cons, List.take_zero, List.drop_succ_cons, List.drop_zero]
          repeat (quiet_step ((go_at_call 36; exact Calls.over_same (unless_any _ _ _))))
          refine wpQuiet_nil ?_
          rintro _ ⟨x2, rfl⟩
          go_wp2_with fail
          refine (first_two _ _ _).mono ?_
          rintro e wn ⟨rfl, hwn⟩
          have hx : Ext wr wn := by rw [← hwn]; exact (wr.over_ext x2).toAlloc _
          clear hwn
          have Hx2 := Lib.hid (Hx.out.trans hx)
          clear hx d0 d1 d2 c1 c2
          rw [show firstE _ = holeAt h k from HA.out.symm]
          by_cases t2 : (holeAt h k != 0) = true
          · go_wp2_with fail
            go_ret2
            exact ⟨ret_pair (by rw [HS.out, if_pos t2]), e1.out.trans Hx2.out⟩
          · have T2 := Lib.hid t2
            replace t2 : (holeAt h k != 0) = false := by simpa using t2
            go_wp2_with fail
            go_roundw
            case rel => exact ⟨k + 1, by omega, by go_num, Hx2, Lib.hid (by rw [HS.out, if_neg T2.out])⟩
            case measure => simp [intOf]; omega
      · have hk0 : h.widths.length - k = 0 := by omega
        rw [hk0, holeScan] at HS
        clear hk0
        go_wp2_with fail
        go_ret2
        exact ⟨ret_pair HS.out, e1.out.trans Hx.out⟩
  · skip
    have hS : Hid (false = holeShape h) := Lib.hid (by unfold holeShape; rw [decide_eq_false hn, Bool.false_and])
    have hd : decide (0 < h.widths.length) = false := decide_eq_false hn
    refine wp_region_over 17 (by kernel_rfl) (by kernel_rfl) ?_
    simp only [List.take_succ_cons, List.take_zero, List.drop_succ_cons, List.drop_zero]
    repeat (quiet_step ((first | (go_at_call 36; exact Calls.over_same (unless_any _ _ _)) | (go_at_call 69; exact Calls.over_same (within_any _ _ _ _)))))
    refine wpQuiet_nil ?_
    rintro _ ⟨x1, rfl⟩
    go_wp2_with fail
    refine (first_three _ _ _ _).mono ?_
    rintro e w1 ⟨rfl, hw1⟩
    have hx : Ext W0 w1 := by rw [← hw1]; exact (W0.over_ext x1).toAlloc _
    clear hw1
    replace b00 := hx.cell_of b00
    replace b01 := hx.cell_of b01
    replace b02 := hx.cell_of b02
    replace q0 := Nat.lt_of_lt_of_le q0 hx.le
    have e1 := Lib.hid (e0.out.trans hx)
    clear hx e0
    rw [hS.out, show firstE _ = holeE1 h from rfl]
    have t1 : (holeE1 h != 0) = true := by unfold holeE1; rw [← hS.out]; rfl
    go_wp2_with fail
    go_ret2
    exact ⟨ret_pair (by rw [checkHole, if_pos t1]), e1.out⟩
end Go.Proofs.YtnmaabejdmaahaaGreatDoor.Ice
namespace Go.Proofs.YtnmaabejdmaahaaGreatDoor.Ice
open Go.RowKit Go.Proofs Go.Shelf
attribute [local go_sem] Oper.semAt_some
structure HoleV (h : Hole) : Prop where
  n1 : 1 ≤ h.widths.length
  n20 : h.widths.length ≤ 20
  len : h.shrinks.length = h.widths.length
  need1 : 1 ≤ h.need
  need2 : h.need ≤ 1000000
  all : ∀ k, (hk : k < h.widths.length) → (0 ≤ h.widths[k] ∧ h.widths[k] ≤ 1000000) ∧ (1 ≤ h.shrinks[k]'(by omega) ∧ h.shrinks[k]'(by omega) ≤ 1000000) ∧ h.need ≤ h.widths[k]
theorem holeAt_zero {h : Hole} {k : Nat} (hk : k < h.widths.length) (hk2 : k < h.shrinks.length) : holeAt h k = 0 ↔ (0 ≤ h.widths[k] ∧ h.widths[k] ≤ 1000000) ∧ (1 ≤ h.shrinks[k] ∧ h.shrinks[k] ≤ 1000000) ∧ h.need ≤ h.widths[k] := by
  unfold holeAt
  rw [firstE_zero]
  simp only [List.mem_cons, List.not_mem_nil, or_false, forall_eq_or_imp, forall_eq]
  rw [unlessE_zero (by decide), unlessE_zero (by decide), getD_get hk, getD_get hk2]
  simp [withinB, and_assoc]
theorem holeScan_zero {h : Hole} : ∀ (f i : Nat), (holeScan h f i).2 = 0 ↔ ∀ k, i ≤ k → k < i + f → holeAt h k = 0
  | 0, i => by simp [holeScan]; intro k h1 h2; omega
  | f + 1, i => by
    rw [holeScan]
    split
    · rename_i t
      constructor
      · intro e; simp at e t; exact absurd e t
      · intro a; simp at t; exact absurd (a i (Nat.le_refl _) (by omega)) t
    · rename_i t
      rw [holeScan_zero f (i + 1)]
      constructor
      · intro a k h1 h2
        rcases Nat.eq_or_lt_of_le h1 with rfl | h1
        · simpa using t
        · exact a k h1 (by omega)
      · intro a k h1 h2
        exact a k (by omega) (by omega)
theorem checkHole_zero {h : Hole} : (checkHole h).2 = 0 ↔ HoleV h := by
  have e1 : holeE1 h = 0 ↔ (1 ≤ h.widths.length ∧ h.widths.length = h.shrinks.length) ∧ h.widths.length ≤ 20 ∧ 1 ≤ h.need ∧ h.need ≤ 1000000 := by
    unfold holeE1
    rw [firstE_zero]
    simp only [List.mem_cons, List.not_mem_nil, or_false, forall_eq_or_imp, forall_eq]
    rw [unlessE_zero (by decide), unlessE_zero (by decide), unlessE_zero (by decide)]
    simp [holeShape, withinB]
    omega
  unfold checkHole
  constructor
  · intro e
    split at e
    · rename_i t; simp at e t; exact absurd e t
    · rename_i t
      obtain ⟨⟨a, b⟩, c, d1, d2⟩ := e1.1 (by simpa using t)
      have hs := (holeScan_zero _ _).1 e
      exact ⟨a, c, b.symm, d1, d2, fun k hk => (holeAt_zero hk (by omega)).1 (hs k (by omega) (by omega))⟩
  · intro v
    rw [if_neg (by simpa using e1.2 ⟨⟨v.n1, v.len.symm⟩, v.n20, v.need1, v.need2⟩), holeScan_zero]
    intro k _ hk
    exact (holeAt_zero (by omega) (by have := v.len; omega)).2 (v.all k (by omega))
def holeErrE (h : Hole) : Int := (checkHole h).2
def tickAt (h : Hole) (k : Nat) : Int := (h.widths.getD k 0 - h.need) / h.shrinks.getD k 0
theorem tick_bd {h : Hole} (v : HoleV h) {k : Nat} (hk : k < h.widths.length) : 0 ≤ tickAt h k ∧ tickAt h k ≤ 1000000 := by
  have hk2 : k < h.shrinks.length := by have := v.len; omega
  have a := v.all k hk
  have n1 := v.need1
  unfold tickAt
  rw [getD_get hk, getD_get hk2]
  have p : 0 ≤ (h.widths[k] - h.need) / h.shrinks[k] := Int.ediv_nonneg (by omega) (by omega)
  have q : (h.widths[k] - h.need) / h.shrinks[k] ≤ h.widths[k] - h.need := Int.ediv_le_self _ (by omega)
  exact ⟨p, by omega⟩
def ticksOf (h : Hole) : List (Nat × Int) := (List.range h.widths.length).map fun k => (k, tickAt h k)
theorem ticksOf_len (h : Hole) : (ticksOf h).length = h.widths.length := by simp [ticksOf]
theorem ticksOf_get (h : Hole) {k : Nat} (hk : k < (ticksOf h).length) : (ticksOf h)[k] = (k, tickAt h k) := by simp [ticksOf]
def encTick (p : Nat × Int) : Array Value := #[.int .i64 p.1, .int .i64 p.2]
structure HoleRd (B : Nat) (wa sa : Option Addr) (wc sc : Nat) (h : Hole) (w : World) : Prop where
  c0 : w.cell? ⟨B, 0, none⟩ = some (.slice wa h.widths.length wc)
  c1 : w.cell? ⟨B, 1, none⟩ = some (.slice sa h.shrinks.length sc)
  c2 : w.cell? ⟨B, 2, none⟩ = some (.int .i64 h.need)
  at_ : HoleAt w wa sa h
theorem HoleRd.ext {B : Nat} {wa sa : Option Addr} {wc sc : Nat} {h : Hole} {w w' : World} (r : HoleRd B wa sa wc sc h w) (hx : Ext w w') : HoleRd B wa sa wc sc h w' :=
  ⟨hx.cell_of r.c0, hx.cell_of r.c1, hx.cell_of r.c2, r.at_.ext hx⟩
theorem HoleRd.keeps {n B : Nat} {wa sa : Option Addr} {wc sc : Nat} {h : Hole} {w w' : World} (r : HoleRd B wa sa wc sc h w) (hx : Keeps n w w') : HoleRd B wa sa wc sc h w' :=
  ⟨hx.cell r.c0, hx.cell r.c1, hx.cell r.c2, ⟨hx.row r.at_.widths, hx.row r.at_.shrinks, r.at_.nw, r.at_.ns⟩⟩
set_option maxRecDepth 100000 in
set_option maxHeartbeats 1000000 in
theorem holeErr_any (wa sa : Option Addr) (wc sc : Nat) (h : Hole) (w : World) (hh : HoleAt w wa sa h) :
    Calls Tryz.prog 68 #[.agg #[.slice wa h.widths.length wc, .slice sa h.shrinks.length sc, .int .i64 h.need]] w fun e w' => e = .returned (.int .i64 (holeErrE h)) ∧ Ext w w' := by
  have HH := Lib.hid hh
  clear hh
  go_enter Tryz.func68, Tryz.ntmps68
  go_wp2_with fail
  generalize hW : World.alloc w _ = W0
  have e0 := Lib.hid (show Ext w W0 by rw [← hW]; exact Ext.alloc _ _)
  have q0 : w.heap.size < W0.heap.size := by rw [← hW]; simp <;> omega
  have b00 : W0.cell? ⟨w.heap.size, 0, none⟩ = some (.slice wa h.widths.length wc) := by rw [← hW]; exact ((World.cell_at (by simp)).trans rfl)
  have b01 : W0.cell? ⟨w.heap.size, 1, none⟩ = some (.slice sa h.shrinks.length sc) := by rw [← hW]; exact ((World.cell_at (by simp)).trans rfl)
  have b02 : W0.cell? ⟨w.heap.size, 2, none⟩ = some (.int .i64 h.need) := by rw [← hW]; exact ((World.cell_at (by simp)).trans rfl)
  clear hW
  refine (CheckHole_any wa sa wc sc h W0 (HH.out.ext e0.out)).mono ?_
  rintro e w1 ⟨rfl, hx⟩
  replace b00 := hx.cell_of b00
  replace b01 := hx.cell_of b01
  replace b02 := hx.cell_of b02
  replace q0 := Nat.lt_of_lt_of_le q0 hx.le
  have e1 := Lib.hid (e0.out.trans hx)
  clear hx e0
  go_wp2_with fail
  go_ret
  exact ⟨rfl, e1.out⟩
set_option maxRecDepth 100000 in
set_option maxHeartbeats 1000000 in
theorem closes_any (wa sa : Option Addr) (wc sc : Nat) (h : Hole) (w : World) (hh : HoleAt w wa sa h) :
    Calls Tryz.prog 70 #[.agg #[.slice wa h.widths.length wc, .slice sa h.shrinks.length sc, .int .i64 h.need]] w fun e w' => ∃ B, w.heap.size ≤ B ∧ e = .returned (.func (.func 98) #[] #[.pointer (some ⟨B, 0, none⟩)]) ∧ HoleRd B wa sa wc sc h w' ∧ Ext w w' := by
  have HH := Lib.hid hh
  clear hh
  go_enter Tryz.func70, Tryz.ntmps70
  go_wp2_with fail
  go_ret
  exact ⟨w.heap.size, Nat.le_refl _, rfl, ⟨by simp, by simp, by simp, HH.out.ext (Ext.alloc _ _)⟩, Ext.alloc _ _⟩
set_option maxRecDepth 100000 in
set_option maxHeartbeats 1000000 in
theorem closes_seq (B : Nat) (wa sa : Option Addr) (wc sc : Nat) (h : Hole) (v : HoleV h) : SeqL Tryz.prog 98 #[.pointer (some ⟨B, 0, none⟩)] encTick (ticksOf h) (HoleRd B wa sa wc sc h) := by
  intro l J Jx W hJ hJx hRd hY h0
  have HV := Lib.hid v
  have n20 := v.n20
  have HJ := Lib.hid hJ
  have HY := Lib.hid hY
  have HRD := Lib.hid hRd
  have H0 := Lib.hid h0
  have r0 := hRd 0 W h0
  have c0 := r0.c0
  clear hJ hJx hY hRd h0 r0 v
  refine callsIn_of_wp Tryz.func98 rfl trivial ?_ rfl
  simp only [Tryz.ntmps98, List.size_toArray, List.length_cons, List.length_nil, Nat.reduceAdd, Nat.reduceSub, Array.replicate_succ, Array.replicate_zero, List.push_toArray, List.append_toArray, List.nil_append, List.cons_append]
  gi_wp2
  gi_loopw [8] (fun i wr => ∃ k : Nat, k ≤ h.widths.length ∧ i = .int .i64 k ∧ Hid (J k wr)) (fun i _ => h.widths.length - (intOf i).toNat)
  case atStart => exact ⟨0, Nat.zero_le _, rfl, H0⟩
  case round =>
    obtain ⟨k, hk, rfl, Hj⟩ := hrel
    by_cases hlt : k < h.widths.length
    · have hlt2 : k < h.shrinks.length := by have := HV.out.len; omega
      have hkl : k < (ticksOf h).length := by rw [ticksOf_len]; exact hlt
      have hr := HRD.out k wr Hj.out
      obtain ⟨b1, o1, rfl, hb1, hc1⟩ := hr.at_.widths.get encI_length (by decide) hlt
      obtain ⟨b2, o2, rfl, hb2, hc2⟩ := hr.at_.shrinks.get encI_length (by decide) hlt2
      have cw : wr.cell? ⟨b1, o1 + k, none⟩ = some (.int .i64 h.widths[k]) := by have := hc1 k 0 hlt (by decide); rwa [Nat.mul_one] at this
      have cs : wr.cell? ⟨b2, o2 + k, none⟩ = some (.int .i64 h.shrinks[k]) := by have := hc2 k 0 hlt2 (by decide); rwa [Nat.mul_one] at this
      have d0 := hr.c0
      have d1 := hr.c1
      have d2 := hr.c2
      have hb := World.block_lt_of_cell? _ _ d2
      simp only at hb
      obtain ⟨⟨a1, a2⟩, ⟨a3, a4⟩, a5⟩ := HV.out.all k hlt
      have a6 := HV.out.need1
      have T : Hid ((h.widths[k] - h.need) / h.shrinks[k] = tickAt h k) := Lib.hid (by unfold tickAt; rw [getD_get hlt, getD_get hlt2])
      have s1 : IntKind.i64.wrap (h.widths[k] - h.need) = h.widths[k] - h.need := IntWalk.i64_in _ (by omega)
      clear hc1 hc2 hr c0
      have s2 : IntKind.i64.wrap ((h.widths[k] - h.need).tdiv h.shrinks[k]) = (h.widths[k] - h.need) / h.shrinks[k] := by
        rw [Int.tdiv_eq_ediv_of_nonneg (by omega), T.out]
        have := tick_bd HV.out hlt
        exact IntWalk.i64_in _ (by omega)
      have z1 : (h.shrinks[k] == 0) = false := by simp; omega
      have z2 : ¬ h.shrinks[k] = 0 := by omega
      gi_wp2
      refine wpIn_region_over 12 (by kernel_rfl) (by kernel_rfl) ?_
      simp only [List.take_succ_cons, List.take_zero, List.drop_succ_cons, List.drop_zero]
      repeat (quiet_step (fail))
      refine wpQuiet_nil ?_
      rintro _ ⟨x1, rfl⟩
      clear s1 s2 z1 z2 cw cs d0 d1 d2
      have Hj2 := Lib.hid (HJ.out k wr (wr.over x1) (wr.over_ext x1) Hj.out)
      generalize wr.over x1 = w1 at Hj2
      have HYk := HY.out k hkl w1 Hj2.out
      rw [ticksOf_get, encTick, ← T.out] at HYk
      obtain ⟨fn, tmps, assign, body, hy, hR⟩ := HYk
      replace hR := Lib.hid hR
      gi_wp2
      refine hR.out.mono ?_
      rintro e W' (⟨rfl, hJ'⟩ | ⟨rfl, hJx'⟩)
      · have Hj3 := Lib.hid hJ'
        clear hJ' hy
        gi_wp2
        go_roundw
        case rel => exact ⟨k + 1, by omega, by go_num, Hj3⟩
        case measure => simp [intOf]; omega
      · have Hx3 := Lib.hid hJx'
        clear hJx' hy
        gi_wp2
        refine bodyPost_ret (results_none rfl _ _ _) rfl ?_
        exact ⟨⟨_, rfl⟩, .inr ⟨k + 1, by omega, Hx3.out⟩⟩
    · gi_wp2
      refine bodyPost_end (results_none rfl _ _ _) rfl ?_
      refine ⟨⟨_, rfl⟩, .inl ?_⟩
      have hk0 : (ticksOf h).length = k := by rw [ticksOf_len]; omega
      rw [hk0]
      exact Hj.out
end Go.Proofs.YtnmaabejdmaahaaGreatDoor.Ice
namespace Go.Proofs.YtnmaabejdmaahaaGreatDoor.Ice
open Go.RowKit Go.Proofs Go.Shelf
attribute [local go_sem] Oper.semAt_some
theorem checkHole_ok {h : Hole} : holeErrE h = 0 ↔ HoleV h := checkHole_zero
def startE (h : Hole) (n : Int) : Int := firstE [holeErrE h, unlessE (withinB n 0 1000000) 2]
theorem startE_zero {h : Hole} {n : Int} : startE h n = 0 ↔ HoleV h ∧ 0 ≤ n ∧ n ≤ 1000000 := by
  unfold startE
  rw [firstE_zero]
  simp only [List.mem_cons, List.not_mem_nil, or_false, forall_eq_or_imp, forall_eq]
  rw [checkHole_ok, unlessE_zero (by decide)]
  simp [withinB]
def latestTo (h : Hole) (pace : Int) : Nat → Int
  | 0 => 1000000
  | k + 1 => min (latestTo h pace k) (tickAt h k - k * pace)
def latestR (h : Hole) (pace : Int) : Int × Int :=
  if (startE h pace != 0) = true then (0, startE h pace) else if latestTo h pace h.widths.length < 0 then (0, 12) else (latestTo h pace h.widths.length, 0)
theorem latest_bd {h : Hole} (v : HoleV h) {pace : Int} (h0 : 0 ≤ pace) (h1 : pace ≤ 1000000) : ∀ k, k ≤ h.widths.length → -100000000 ≤ latestTo h pace k ∧ latestTo h pace k ≤ 1000000
  | 0, _ => by simp [latestTo]
  | k + 1, hk => by
    have ih := latest_bd v h0 h1 k (by omega)
    have t := tick_bd v (k := k) (by omega)
    have n := v.n20
    have m : (k : Int) * pace ≤ 20 * 1000000 := Int.mul_le_mul (by omega) h1 h0 (by omega)
    simp only [latestTo]
    omega
set_option maxRecDepth 100000 in
set_option maxHeartbeats 1000000 in
theorem LatestStart_any (wa sa : Option Addr) (wc sc : Nat) (h : Hole) (n : Int) (w : World) (hh : HoleAt w wa sa h) :
    Calls Tryz.prog 27 #[.agg #[.slice wa h.widths.length wc, .slice sa h.shrinks.length sc, .int .i64 h.need], .int .i64 n] w fun e w' => e = .returned (.tuple #[.int .i64 (latestR h n).1, .int .i64 (latestR h n).2]) ∧ Ext w w' := by
  have HH := Lib.hid hh
  have h1 := hh.nw
  clear hh
  refine calls_of_wp_marks Tryz.func27 rfl ?_
  simp only [Tryz.ntmps27, List.size_toArray, List.length_cons, List.length_nil, Nat.reduceAdd, Nat.reduceSub, Array.replicate_succ, Array.replicate_zero, List.push_toArray, List.append_toArray, List.nil_append, List.cons_append]
  go_wp2_with fail
  generalize hW : World.alloc (World.alloc w _) _ = W0
  have e0 := Lib.hid (show Ext w W0 by rw [← hW]; exact (Ext.alloc _ _).toAlloc _)
  have q0 : w.heap.size < W0.heap.size := by rw [← hW]; simp <;> omega
  have b00 : W0.cell? ⟨w.heap.size, 0, none⟩ = some (.slice wa h.widths.length wc) := by rw [← hW]; exact ((Ext.alloc _ _).cell_of ((World.cell_at (by simp)).trans rfl))
  have b01 : W0.cell? ⟨w.heap.size, 1, none⟩ = some (.slice sa h.shrinks.length sc) := by rw [← hW]; exact ((Ext.alloc _ _).cell_of ((World.cell_at (by simp)).trans rfl))
  have b02 : W0.cell? ⟨w.heap.size, 2, none⟩ = some (.int .i64 h.need) := by rw [← hW]; exact ((Ext.alloc _ _).cell_of ((World.cell_at (by simp)).trans rfl))
  have q1 : w.heap.size + 1 < W0.heap.size := by rw [← hW]; simp <;> omega
  have b10 : W0.cell? ⟨w.heap.size + 1, 0, none⟩ = some (.int .i64 n) := by rw [← hW]; exact ((World.cell_at (by simp)).trans rfl)
  clear hW
  have LA : Hid (∀ y, Calls Tryz.prog 68 #[.agg #[.slice wa h.widths.length wc, .slice sa h.shrinks.length sc, .int .i64 h.need]] (W0.over y) fun e w' => e = .returned (.int .i64 (holeErrE h)) ∧ Ext (W0.over y) w') := Lib.hid (fun y => holeErr_any wa sa wc sc h _ (HH.out.ext (e0.out.trans (W0.over_ext y))))
  refine wp_region_over 5 (by kernel_rfl) (by kernel_rfl) ?_
  simp only [List.take_succ_cons, List.take_zero, List.drop_succ_cons, List.drop_zero]
  repeat (quiet_step ((first | (go_at_call 68; exact Calls.over_ext (LA.out _)) | (go_at_call 69; exact Calls.over_same (within_any _ _ _ _)) | (go_at_call 36; exact Calls.over_same (unless_any _ _ _)))))
  refine wpQuiet_nil ?_
  rintro _ ⟨x1, rfl⟩
  go_wp2_with fail
  refine (first_two _ _ _).mono ?_
  rintro e w1 ⟨rfl, hw1⟩
  have hx : Ext W0 w1 := by rw [← hw1]; exact (W0.over_ext x1).toAlloc _
  clear hw1
  replace b00 := hx.cell_of b00
  replace b01 := hx.cell_of b01
  replace b02 := hx.cell_of b02
  replace b10 := hx.cell_of b10
  replace q0 := Nat.lt_of_lt_of_le q0 hx.le
  replace q1 := Nat.lt_of_lt_of_le q1 hx.le
  have e1 := Lib.hid (e0.out.trans hx)
  clear hx e0
  rw [show firstE _ = startE h n from rfl]
  by_cases t1 : (startE h n != 0) = true
  · go_wp2_with fail
    refine bodyPostM_two rfl w.heap.size trivial (fun W' hk => ?_)
    exact ⟨ret_pair (by rw [latestR, if_pos t1]), hk.ext e1.out (Nat.le_refl _)⟩
  have T1 := Lib.hid t1
  have V := Lib.hid (startE_zero.1 (by simpa using t1 : startE h n = 0))
  have n0 := V.out.2.1
  have n1 := V.out.2.2
  replace t1 : (startE h n != 0) = false := by simpa using t1
  go_wp2_with fail
  refine (closes_any wa sa wc sc h _ (HH.out.ext (e1.out.toAlloc _))).mono ?_
  rintro e w2 ⟨B, hB, rfl, hrd, hx⟩
  have cS : w2.cell? ⟨w1.heap.size, 0, none⟩ = some (.int .i64 1000000) := hx.cell_of ((World.cell_at rfl).trans rfl)
  have fS : w2.frozen? ⟨w1.heap.size, 0, none⟩ = false := (hx.frozen (by simp)).trans (by simp)
  have x2 : Ext w1 w2 := (Ext.alloc _ _).trans hx
  have cP := x2.cell_of b10
  have X2 := Lib.hid (e1.out.trans x2)
  have hs : w.heap.size + 1 < w1.heap.size := q1
  have hBs : w1.heap.size < B := by simp at hB; omega
  have HRD := Lib.hid hrd
  clear hrd hx x2 b00 b01 b02 b10 q0 q1
  go_wp2_with fail
  refine wp_range (gf := 98) (lb := #[.pointer (some ⟨B, 0, none⟩)]) rfl (enters_of Tryz.func98 (by kernel_rfl) rfl) (closes_seq B wa sa wc sc h V.out.1) (fun _ => rfl)
    (fun k W => W.cell? ⟨w1.heap.size, 0, none⟩ = some (.int .i64 (latestTo h n k)) ∧ W.frozen? ⟨w1.heap.size, 0, none⟩ = false ∧ W.cell? ⟨w.heap.size + 1, 0, none⟩ = some (.int .i64 n) ∧ HoleRd B wa sa wc sc h W ∧ Ext w W)
    (fun _ _ _ => False)
    (fun k A A' hk hs => ⟨hk.cell hs.1, hk.frozen hs.1 hs.2.1, hk.cell hs.2.2.1, hs.2.2.2.1.keeps hk, hk.ext hs.2.2.2.2 X2.out.le⟩)
    (fun _ _ _ _ _ h => h)
    (fun k A hs => hs.2.2.2.1)
    ⟨cS, fS, cP, HRD.out, X2.out⟩
    (fun a k a' W => a' = { tmps := (((a.tmps.setIfInBounds 22 (.int .i64 k)).setIfInBounds 23 (.int .i64 (tickAt h k))).setIfInBounds 8 (.int .i64 k)).setIfInBounds 9 (.int .i64 (tickAt h k)), defers := [] })
    (fun _ _ _ _ _ h => h) ?assign ?body ?done ?stop
  case assign =>
    intro l k hk W K hi hK
    rw [ticksOf_get h hk]
    simp only [encTick]
    gi_wp2
    exact hK _ _ (KeepsFrom.refl _ _) hi rfl
  case body =>
    rintro l k hk a' W hl ⟨c1, c2, c3, c4, c5⟩ rfl
    simp only [List.setIfInBounds_toArray, List.set_cons_succ, List.set_cons_zero]
    rw [ticksOf_len] at hk
    have lb := latest_bd V.out.1 n0 n1 k (by omega)
    have tb := tick_bd V.out.1 hk
    have n20 := V.out.1.n20
    have m1 : (k : Int) * n ≤ 20 * 1000000 := Int.mul_le_mul (by omega) n1 n0 (by omega)
    have m0 : 0 ≤ (k : Int) * n := Int.mul_nonneg (by omega) n0
    have fin : Hid (∀ z : Int, z = latestTo h n (k + 1) → KeepsFrom w2.heap.size W (W.setCell ⟨w1.heap.size, 0, none⟩ (.int .i64 z)) ∧ (W.setCell ⟨w1.heap.size, 0, none⟩ (.int .i64 z)).cell? ⟨w1.heap.size, 0, none⟩ = some (.int .i64 (latestTo h n (k + 1))) ∧ (W.setCell ⟨w1.heap.size, 0, none⟩ (.int .i64 z)).frozen? ⟨w1.heap.size, 0, none⟩ = false ∧ (W.setCell ⟨w1.heap.size, 0, none⟩ (.int .i64 z)).cell? ⟨w.heap.size + 1, 0, none⟩ = some (.int .i64 n) ∧ HoleRd B wa sa wc sc h (W.setCell ⟨w1.heap.size, 0, none⟩ (.int .i64 z)) ∧ Ext w (W.setCell ⟨w1.heap.size, 0, none⟩ (.int .i64 z))) := Lib.hid (fun z hz => by
      have x' : Ext w (W.setCell ⟨w1.heap.size, 0, none⟩ (.int .i64 z)) := c5.setCell (by omega) _
      exact ⟨(KeepsOthers.setCell _ _ _).from _, by rw [World.cell_same c1, hz], by rw [World.frozen?_setCell]; exact c2, World.cell_other c3 (by omega), ⟨World.cell_other c4.c0 (by omega), World.cell_other c4.c1 (by omega), World.cell_other c4.c2 (by omega), HH.out.ext x'⟩, x'⟩)
    clear c4 c5
    gi_wp2
    all_goals exact fin.out _ (by simp only [latestTo]; omega)
  case done =>
    rintro D W hD ⟨c1, c2, c3, c4, c5⟩ hKD
    have C5 := Lib.hid c5
    have HKD := Lib.hid hKD
    have hw2 := X2.out.le
    rw [ticksOf_len] at c1
    clear c4 c5 hKD
    by_cases t2 : latestTo h n h.widths.length < 0
    all_goals
      go_wp2_with fail
      refine bodyPostM_two rfl w.heap.size ⟨⟨D, rfl, by omega, HKD.out, by simp⟩, trivial⟩ (fun W' hk => ?_)
      exact ⟨ret_pair (by rw [latestR, if_neg T1.out]; first | rw [if_pos t2] | rw [if_neg (by omega)]), hk.ext C5.out (Nat.le_refl _)⟩
  case stop =>
    rintro D c k W hD hk h
    exact h.elim
end Go.Proofs.YtnmaabejdmaahaaGreatDoor.Ice
namespace Go.Ab
open Go Go.RowKit
inductive FV where
  | v (x : Value)
  | sl (n : Nat) (cells : List FV)
  | agg (cells : List FV)
  | tup (l : List FV)
  | pt (cells : List FV) (off : Nat)
  | fn (f : Nat) (caps : List FV)
  | slc (n : Nat) (cells : List FV)
  | mp (G : Obj → Prop)
  | any (G : Value → Prop)
  | tab (l : List Value)
instance : Inhabited FV := ⟨.v undef⟩
theorem addr_add (b o j : Nat) : (⟨b, o, none⟩ : Addr).add j = ⟨b, o + j, none⟩ := by unfold Addr.add; split <;> simp_all
structure Lies (w : World) (M : Nat → Prop) (b off : Nat) (us : List Value) : Prop where
  lt : b < w.heap.size
  free : ¬ M b
  at_ : ∀ k, k < us.length → w.cell? ⟨b, off + k, none⟩ = us[k]?
theorem Lies.mono {w w' : World} {M M' : Nat → Prop} {b off : Nat} {us : List Value} (h : Lies w M b off us) (hk : ∀ b, b < w.heap.size → ¬ M b → w'.heap[b]? = w.heap[b]?) (hs : w.heap.size ≤ w'.heap.size) (hM : ∀ b, b < w.heap.size → M' b → M b) : Lies w' M' b off us :=
  ⟨Nat.lt_of_lt_of_le h.lt hs, fun hm => h.free (hM b h.lt hm), fun k hlt => (World.cell?_of_block (w := w) (w' := w') (a := ⟨b, off + k, none⟩) (hk b h.lt h.free)).trans (h.at_ k hlt)⟩
def _root_.Go.Obj.isMap : Obj → Bool
  | .map .. => true
  | _ => false
def _root_.Go.Obj.isIter : Obj → Bool
  | .mapIter .. => true
  | _ => false
structure LiesO (w : World) (M : Nat → Prop) (r : Nat) (G : Obj → Prop) : Prop where
  lt : r < w.heap.size
  free : ¬ M r
  at_ : ∃ o, w.heap[r]? = some o ∧ G o ∧ o.isMap = true
theorem LiesO.mono {w w' : World} {M M' : Nat → Prop} {r : Nat} {G : Obj → Prop} (h : LiesO w M r G) (hk : ∀ b, b < w.heap.size → ¬ M b → w'.heap[b]? = w.heap[b]?) (hs : w.heap.size ≤ w'.heap.size) (hM : ∀ b, b < w.heap.size → M' b → M b) : LiesO w' M' r G :=
  ⟨Nat.lt_of_lt_of_le h.lt hs, fun hm => h.free (hM r h.lt hm), let ⟨o, h1, h2⟩ := h.at_; ⟨o, (hk r h.lt h.free).trans h1, h2⟩⟩
inductive RepF (w : World) (M : Nat → Prop) : Value → FV → Prop
  | v (x : Value) : RepF w M x (.v x)
  | sl (a : Option Addr) (n c : Nat) (cs : List FV) (us : List Value) : n ≤ c → us.length = cs.length → (∀ u ∈ us, u.oneCell' = true) → (us ≠ [] → ∃ b off, a = some ⟨b, off, none⟩ ∧ Lies w M b off us) →
      (∀ (k : Nat) (u : Value) (x : FV), us[k]? = some u → cs[k]? = some x → RepF w M u x) → RepF w M (.slice a n c) (.sl n cs)
  | agg (cs : List FV) (us : List Value) : us.length = cs.length → (∀ u ∈ us, u.oneCell' = true) → (∀ (k : Nat) (u : Value) (x : FV), us[k]? = some u → cs[k]? = some x → RepF w M u x) → RepF w M (.agg us.toArray) (.agg cs)
  | tup (cs : List FV) (us : List Value) : us.length = cs.length → (∀ (k : Nat) (u : Value) (x : FV), us[k]? = some u → cs[k]? = some x → RepF w M u x) → RepF w M (.tuple us.toArray) (.tup cs)
  | pt (b off o : Nat) (cs : List FV) (us : List Value) : us.length = cs.length → (∀ u ∈ us, u.oneCell' = true) → Lies w M b off us → (∀ (k : Nat) (u : Value) (x : FV), us[k]? = some u → cs[k]? = some x → RepF w M u x) → RepF w M (.pointer (some ⟨b, off + o, none⟩)) (.pt cs o)
  | fn (f : Nat) (cs : List FV) (us : List Value) : us.length = cs.length → (∀ (k : Nat) (u : Value) (x : FV), us[k]? = some u → cs[k]? = some x → RepF w M u x) → RepF w M (.func (.func f) #[] us.toArray) (.fn f cs)
  | slc (a : Option Addr) (n : Nat) (cs : List FV) (us : List Value) : us.length = cs.length → (a = none → n = 0) → (∀ u ∈ us, u.oneCell' = true) → (us ≠ [] → ∃ b off, a = some ⟨b, off, none⟩ ∧ Lies w M b off us) →
      (∀ (k : Nat) (u : Value) (x : FV), us[k]? = some u → cs[k]? = some x → RepF w M u x) → RepF w M (.slice a n n) (.slc n cs)
  | mp (r : Nat) (G : Obj → Prop) : LiesO w M r G → RepF w M (.map (some r)) (.mp G)
  | any (u : Value) (G : Value → Prop) : G u → u.oneCell' = true → RepF w M u (.any G)
  | tab (b : Nat) (l : List Value) : ¬ M b → (∃ T fr, w.heap[b]? = some (.cells l.toArray T fr)) → RepF w M (.pointer (some ⟨b, 0, none⟩)) (.tab l)
theorem RepF.mono {w w' : World} {M M' : Nat → Prop} {u : Value} {x : FV} (h : RepF w M u x) (hk : ∀ b, b < w.heap.size → ¬ M b → w'.heap[b]? = w.heap[b]?) (hs : w.heap.size ≤ w'.heap.size) (hM : ∀ b, b < w.heap.size → M' b → M b) : RepF w' M' u x := by
  induction h with
  | v x => exact .v x
  | sl a n c cs us h1 h2 h3 h4 h5 ih => exact .sl a n c cs us h1 h2 h3 (fun hn => let ⟨b, off, e, l⟩ := h4 hn; ⟨b, off, e, l.mono hk hs hM⟩) ih
  | agg cs us h1 h2 h3 ih => exact .agg cs us h1 h2 ih
  | tup cs us h1 h2 ih => exact .tup cs us h1 ih
  | pt b off o cs us h1 h2 h3 h4 ih => exact .pt b off o cs us h1 h2 (h3.mono hk hs hM) ih
  | fn f cs us h1 h2 ih => exact .fn f cs us h1 ih
  | slc a n cs us h1 h1' h2 h3 h4 ih => exact .slc a n cs us h1 h1' h2 (fun hn => let ⟨b, off, e, l⟩ := h3 hn; ⟨b, off, e, l.mono hk hs hM⟩) ih
  | mp r G h => exact .mp r G (h.mono hk hs hM)
  | any u G h1 h2 => exact .any u G h1 h2
  | tab b l h1 h2 => exact .tab b l (fun hm => h1 (hM b (Array.getElem?_eq_some_iff.1 h2.choose_spec.choose_spec).1 hm)) (let ⟨T, fr, e⟩ := h2; ⟨T, fr, (hk b (Array.getElem?_eq_some_iff.1 h2.choose_spec.choose_spec).1 h1).trans e⟩)
theorem RepF.ext {w w' : World} {M M' : Nat → Prop} {u : Value} {x : FV} (h : RepF w M u x) (e : Ext w w') (hM : ∀ b, b < w.heap.size → M' b → M b) : RepF w' M' u x :=
  h.mono (fun b hb _ => e.block b hb) e.le hM
theorem Lies.keeps {B : Nat} {w w' : World} {M M' : Nat → Prop} {b off : Nat} {us : List Value} (h : Lies w M b off us) (k : KeepsP Obj.stays B w w') (hM : ∀ b, b < w.heap.size → M' b → M b) : Lies w' M' b off us :=
  ⟨Nat.lt_of_lt_of_le h.lt k.size, fun hm => h.free (hM b h.lt hm), fun j hj => by
    have := h.at_ j hj
    rw [List.getElem?_eq_getElem hj] at this ⊢
    exact k.cell (fun _ _ _ => rfl) this⟩
theorem LiesO.keeps {B : Nat} {w w' : World} {M M' : Nat → Prop} {r : Nat} {G : Obj → Prop} (h : LiesO w M r G) (k : KeepsP Obj.stays B w w') (hM : ∀ b, b < w.heap.size → M' b → M b) : LiesO w' M' r G :=
  ⟨Nat.lt_of_lt_of_le h.lt k.size, fun hm => h.free (hM r h.lt hm), let ⟨o, h1, h2, h3⟩ := h.at_; ⟨o, k.same r o h1 (.inr (by cases o <;> simp [Obj.isMap] at h3; rfl)), h2, h3⟩⟩
theorem RepF.keeps {B : Nat} {w w' : World} {M M' : Nat → Prop} {u : Value} {x : FV} (h : RepF w M u x) (k : KeepsP Obj.stays B w w') (hM : ∀ b, b < w.heap.size → M' b → M b) : RepF w' M' u x := by
  induction h with
  | v x => exact .v x
  | sl a n c cs us h1 h2 h3 h4 h5 ih => exact .sl a n c cs us h1 h2 h3 (fun hn => let ⟨b, off, e, l⟩ := h4 hn; ⟨b, off, e, l.keeps k hM⟩) ih
  | agg cs us h1 h2 h3 ih => exact .agg cs us h1 h2 ih
  | tup cs us h1 h2 ih => exact .tup cs us h1 ih
  | pt b off o cs us h1 h2 h3 h4 ih => exact .pt b off o cs us h1 h2 (h3.keeps k hM) ih
  | fn f cs us h1 h2 ih => exact .fn f cs us h1 ih
  | slc a n cs us h1 h1' h2 h3 h4 ih => exact .slc a n cs us h1 h1' h2 (fun hn => let ⟨b, off, e, l⟩ := h3 hn; ⟨b, off, e, l.keeps k hM⟩) ih
  | mp r G h => exact .mp r G (h.keeps k hM)
  | any u G h1 h2 => exact .any u G h1 h2
  | tab b l h1 h2 => exact .tab b l (fun hm => h1 (hM b (Array.getElem?_eq_some_iff.1 h2.choose_spec.choose_spec).1 hm)) (let ⟨T, fr, e⟩ := h2; ⟨T, fr, k.same b _ e (.inr rfl)⟩)
def RepL (w : World) (M : Nat → Prop) (us : List Value) (xs : List FV) : Prop := us.length = xs.length ∧ ∀ (k : Nat) (u : Value) (x : FV), us[k]? = some u → xs[k]? = some x → RepF w M u x
theorem RepL.nil (w : World) (M : Nat → Prop) : RepL w M [] [] := ⟨rfl, fun k u x h => by simp at h⟩
theorem RepL.cons {w : World} {M : Nat → Prop} {u : Value} {x : FV} {us : List Value} {xs : List FV} (h : RepF w M u x) (hs : RepL w M us xs) : RepL w M (u :: us) (x :: xs) :=
  ⟨by simp [hs.1], fun k u' x' h1 h2 => by
    cases k with
    | zero => simp at h1 h2; subst h1; subst h2; exact h
    | succ k => exact hs.2 k u' x' (by simpa using h1) (by simpa using h2)⟩
theorem RepL.head {w : World} {M : Nat → Prop} {us : List Value} {x : FV} {xs : List FV} (h : RepL w M us (x :: xs)) : ∃ u us', us = u :: us' ∧ RepF w M u x ∧ RepL w M us' xs := by
  obtain ⟨hl, hr⟩ := h
  cases us with
  | nil => simp at hl
  | cons u us => exact ⟨u, us, rfl, hr 0 u x rfl rfl, by simpa using hl, fun k u' x' h1 h2 => hr (k + 1) u' x' (by simpa using h1) (by simpa using h2)⟩
theorem RepL.end {w : World} {M : Nat → Prop} {us : List Value} (h : RepL w M us []) : us = [] := List.eq_nil_of_length_eq_zero h.1
theorem RepL.append {w : World} {M : Nat → Prop} {us vs : List Value} {xs ys : List FV} (h : RepL w M us xs) (k : RepL w M vs ys) : RepL w M (us ++ vs) (xs ++ ys) := by
  refine ⟨by simp [h.1, k.1], fun j u x h1 h2 => ?_⟩
  by_cases hj : j < us.length
  · rw [List.getElem?_append_left hj] at h1
    rw [List.getElem?_append_left (by rw [← h.1]; exact hj)] at h2
    exact h.2 j u x h1 h2
  · rw [List.getElem?_append_right (by omega)] at h1
    rw [List.getElem?_append_right (by rw [← h.1]; omega), ← h.1] at h2
    exact k.2 _ u x h1 h2
theorem RepL.ext {w w' : World} {M M' : Nat → Prop} {us : List Value} {xs : List FV} (h : RepL w M us xs) (e : Ext w w') (hM : ∀ b, b < w.heap.size → M' b → M b) : RepL w' M' us xs :=
  ⟨h.1, fun k u x h1 h2 => (h.2 k u x h1 h2).ext e hM⟩
theorem RepL.mono {w w' : World} {M M' : Nat → Prop} {us : List Value} {xs : List FV} (h : RepL w M us xs) (hk : ∀ b, b < w.heap.size → ¬ M b → w'.heap[b]? = w.heap[b]?) (hs : w.heap.size ≤ w'.heap.size) (hM : ∀ b, b < w.heap.size → M' b → M b) : RepL w' M' us xs :=
  ⟨h.1, fun k u x h1 h2 => (h.2 k u x h1 h2).mono hk hs hM⟩
theorem RepL.conv {w w' : World} {M M' : Nat → Prop} {us : List Value} {xs : List FV} (R : RepL w M us xs) (f : ∀ u x, RepF w M u x → RepF w' M' u x) : RepL w' M' us xs := ⟨R.1, fun k u x a b => f u x (R.2 k u x a b)⟩
theorem RepL.drop {w : World} {M : Nat → Prop} {us : List Value} {xs : List FV} (h : RepL w M us xs) (n : Nat) : RepL w M (us.drop n) (xs.drop n) :=
  ⟨by simp [h.1], fun k u x h1 h2 => h.2 (n + k) u x (by rwa [List.getElem?_drop] at h1) (by rwa [List.getElem?_drop] at h2)⟩
theorem RepL.take {w : World} {M : Nat → Prop} {us : List Value} {xs : List FV} (h : RepL w M us xs) (n : Nat) : RepL w M (us.take n) (xs.take n) :=
  ⟨by simp [h.1], fun k u x h1 h2 => by
    rw [List.getElem?_take] at h1 h2
    split at h1
    · rename_i hk; rw [if_pos hk] at h2; exact h.2 k u x h1 h2
    · cases h1⟩
theorem RepL.get {w : World} {M : Nat → Prop} {us : List Value} {xs : List FV} (h : RepL w M us xs) {k : Nat} {x : FV} (hx : xs[k]? = some x) : ∃ u, us[k]? = some u ∧ RepF w M u x := by
  have hk : k < us.length := by rw [h.1]; exact (List.getElem?_eq_some_iff.1 hx).1
  exact ⟨us[k], List.getElem?_eq_getElem hk, h.2 k _ x (List.getElem?_eq_getElem hk) hx⟩
inductive Cap where
  | f (x : FV)
  | bx (i off : Nat)
  | ow (i : Nat)
  | sv (i off n : Nat)
inductive AV where
  | f (x : FV)
  | bx (i off : Nat)
  | ow (i : Nat)
  | bot
  | sv (i off n : Nat)
  | ag (l : List Cap)
  | tp (l : List Cap)
  | fb (f : Nat) (l : List Cap)
def Cap.toA : Cap → AV
  | .f x => .f x
  | .bx i off => .bx i off
  | .ow i => .ow i
  | .sv i off n => .sv i off n
inductive Blk where
  | box (cells : List AV)
  | row (e sz n : Nat) (cells : List FV)
  | rowA (e sz n : Nat) (cells : List AV)
  | arr (e sz n : Nat) (cells : List AV)
  | map (G : Obj → Prop)
  | it (x : AV) (G : Nat → Obj → Prop)
structure St where
  s : Nat → AV
  h : Nat → Option Blk
  nx : Nat
structure Ctx where
  P : Program
  G : Nat → Option FV
  M0 : Nat → Prop
  X : Nat → Prop
  ro : Option Nat
  J0 : Nat → Option Value
structure Grew (X : Nat → Prop) (w0 w : World) : Prop where
  os : w.os = w0.os
  tape : w.tape = w0.tape
  output : w.output = w0.output
  le : w0.heap.size ≤ w.heap.size
  block : ∀ k, k < w0.heap.size → ¬ X k → w.heap[k]? = w0.heap[k]?
theorem Grew.refl (X : Nat → Prop) (w : World) : Grew X w w := ⟨rfl, rfl, rfl, Nat.le_refl _, fun _ _ _ => rfl⟩
theorem Grew.trans {X : Nat → Prop} {a b c : World} (h : Grew X a b) (k : Ext b c) : Grew X a c :=
  ⟨k.os.trans h.os, k.tape.trans h.tape, k.output.trans h.output, Nat.le_trans h.le k.le, fun i hi hx => (k.block i (Nat.lt_of_lt_of_le hi h.le)).trans (h.block i hi hx)⟩
theorem Grew.grown {X : Nat → Prop} {a b c : World} {row : Option Nat} (h : Grew X a b) (g : b.grownBy c row) (hr : ∀ k, row = some k → a.heap.size ≤ k ∨ X k) : Grew X a c :=
  ⟨g.os.trans h.os, g.tape.trans h.tape, g.output.trans h.output, Nat.le_trans h.le g.size, fun i hi hx => (g.block i (Nat.lt_of_lt_of_le hi h.le) (fun e => by
    rcases hr i e.symm with h1 | h1
    · omega
    · exact hx h1)).trans (h.block i hi hx)⟩
theorem Grew.toExt {a b : World} (h : Grew (fun _ => False) a b) : Ext a b := ⟨h.os, h.tape, h.output, h.le, fun k hk => h.block k hk id⟩
def upd {α : Type} (s : Nat → α) (k : Nat) (a : α) : Nat → α := fun t => bif Nat.beq t k then a else s t
theorem upd_same {α : Type} (s : Nat → α) (k : Nat) (a : α) : upd s k a k = a := by simp [upd]
theorem upd_other {α : Type} (s : Nat → α) {k t : Nat} (a : α) (h : t ≠ k) : upd s k a t = s t := by
  have : Nat.beq t k = false := by cases e : Nat.beq t k; rfl; exact absurd (Nat.eq_of_beq_eq_true e) h
  simp [upd, this]
def St.put (st : St) (d : Option Tmp) (a : AV) : St := match d with | some d => { st with s := upd st.s d a } | none => st
def St.al (st : St) (B : Blk) : St := { st with h := upd st.h st.nx (some B), nx := st.nx + 1 }
def St.ev (C : Ctx) (st : St) : Operand → AV
  | .tmp t => st.s t
  | .const v => .f (.v v)
  | .global g => match C.G g with | some cs => .f cs | none => .bot
  | .func f => .f (.fn f [])
def bk : Value → Option Nat
  | .pointer (some a) => some a.block
  | .slice (some a) _ _ => some a.block
  | .map (some r) => some r
  | _ => none
def Mb (C : Ctx) (h : Nat → Option Blk) (J : Nat → Value) (b : Nat) : Prop := C.M0 b ∨ ∃ i, (h i).isSome = true ∧ bk (J i) = some b
def RepC (C : Ctx) (w : World) (h : Nat → Option Blk) (J : Nat → Value) (v : Value) : Cap → Prop
  | .f x => RepF w (Mb C h J) v x
  | .bx i off => (h i).isSome = true ∧ ∃ b, bk (J i) = some b ∧ v = .pointer (some ⟨b, off, none⟩)
  | .ow i => (h i).isSome = true ∧ v = J i
  | .sv i off n => (h i).isSome = true ∧ ∃ a c, v = .slice a n c ∧ n ≤ c ∧ (n ≠ 0 → ∃ b, bk (J i) = some b ∧ a = some ⟨b, off, none⟩)
def RepCs (C : Ctx) (w : World) (h : Nat → Option Blk) (J : Nat → Value) (us : List Value) (l : List Cap) : Prop := us.length = l.length ∧ ∀ (k : Nat) (u : Value) (c : Cap), us[k]? = some u → l[k]? = some c → RepC C w h J u c
def RepA (C : Ctx) (w : World) (h : Nat → Option Blk) (J : Nat → Value) (v : Value) : AV → Prop
  | .f x => RepC C w h J v (.f x)
  | .bx i off => RepC C w h J v (.bx i off)
  | .ow i => RepC C w h J v (.ow i)
  | .bot => True
  | .sv i off n => RepC C w h J v (.sv i off n)
  | .ag l => ∃ us : List Value, v = .agg us.toArray ∧ (∀ u ∈ us, u.oneCell' = true) ∧ RepCs C w h J us l
  | .tp l => ∃ us : List Value, v = .tuple us.toArray ∧ RepCs C w h J us l
  | .fb f l => ∃ us : List Value, v = .func (.func f) #[] us.toArray ∧ RepCs C w h J us l
theorem repA_toA {C : Ctx} {w : World} {h : Nat → Option Blk} {J : Nat → Value} {v : Value} (c : Cap) : RepA C w h J v c.toA = RepC C w h J v c := by cases c <;> rfl
def Cap.trL (φ : Cap → Option Cap) : List Cap → Option (List Cap)
  | [] => some []
  | c :: l => match φ c, Cap.trL φ l with | some c', some l' => some (c' :: l') | _, _ => none
def AV.ofC : Option Cap → AV
  | some c => c.toA
  | none => .bot
def Cap.allF : List Cap → Option (List FV)
  | [] => some []
  | .f x :: l => match Cap.allF l with | some xs => some (x :: xs) | none => none
  | _ :: _ => none
theorem Cap.allF_eq : ∀ {l : List Cap} {xs : List FV}, Cap.allF l = some xs → l = xs.map Cap.f
  | [], xs, h => by simp only [Cap.allF, Option.some.injEq] at h; subst h; rfl
  | .f x :: l, xs, h => by
    unfold Cap.allF at h
    cases e : Cap.allF l with
    | none => rw [e] at h; cases h
    | some ys => rw [e] at h; cases h; rw [Cap.allF_eq e]; rfl
  | .bx _ _ :: _, _, h => by simp [Cap.allF] at h
  | .ow _ :: _, _, h => by simp [Cap.allF] at h
  | .sv _ _ _ :: _, _, h => by simp [Cap.allF] at h
theorem RepCs.toL {C : Ctx} {w : World} {h : Nat → Option Blk} {J : Nat → Value} {us : List Value} {xs : List FV} (r : RepCs C w h J us (xs.map Cap.f)) : RepL w (Mb C h J) us xs :=
  ⟨by simpa using r.1, fun k u x h1 h2 => r.2 k u (.f x) h1 (by simp [h2])⟩
def AV.agN (l : List Cap) : AV := match Cap.allF l with | some xs => .f (.agg xs) | none => .ag l
def AV.tpN (l : List Cap) : AV := match Cap.allF l with | some xs => .f (.tup xs) | none => .tp l
def AV.fbN (g : Nat) (l : List Cap) : AV := match Cap.allF l with | some xs => .f (.fn g xs) | none => .fb g l
theorem RepA.agN {C : Ctx} {w : World} {h : Nat → Option Blk} {J : Nat → Value} {v : Value} {l : List Cap} (r : RepA C w h J v (.ag l)) : RepA C w h J v (AV.agN l) := by
  unfold AV.agN
  split
  · rename_i xs e
    have := Cap.allF_eq e; subst this
    obtain ⟨us, rfl, ho, q⟩ := r
    exact RepF.agg _ _ q.toL.1 ho q.toL.2
  · exact r
theorem RepA.tpN {C : Ctx} {w : World} {h : Nat → Option Blk} {J : Nat → Value} {v : Value} {l : List Cap} (r : RepA C w h J v (.tp l)) : RepA C w h J v (AV.tpN l) := by
  unfold AV.tpN
  split
  · rename_i xs e
    have := Cap.allF_eq e; subst this
    obtain ⟨us, rfl, q⟩ := r
    exact RepF.tup _ _ q.toL.1 q.toL.2
  · exact r
theorem RepA.fbN {C : Ctx} {w : World} {h : Nat → Option Blk} {J : Nat → Value} {v : Value} {f : Nat} {l : List Cap} (r : RepA C w h J v (.fb f l)) : RepA C w h J v (AV.fbN f l) := by
  unfold AV.fbN
  split
  · rename_i xs e
    have := Cap.allF_eq e; subst this
    obtain ⟨us, rfl, q⟩ := r
    exact RepF.fn _ _ _ q.toL.1 q.toL.2
  · exact r
def AV.tr (φ : Cap → Option Cap) : AV → AV
  | .f x => AV.ofC (φ (.f x))
  | .bx i off => AV.ofC (φ (.bx i off))
  | .ow i => AV.ofC (φ (.ow i))
  | .bot => .bot
  | .sv i off n => AV.ofC (φ (.sv i off n))
  | .ag l => (match Cap.trL φ l with | some l' => AV.agN l' | none => .bot)
  | .tp l => (match Cap.trL φ l with | some l' => AV.tpN l' | none => .bot)
  | .fb g l => (match Cap.trL φ l with | some l' => AV.fbN g l' | none => .bot)
theorem RepCs.tr {C C' : Ctx} {w w' : World} {h h' : Nat → Option Blk} {J J' : Nat → Value} {φ : Cap → Option Cap} (hφ : ∀ v c c', φ c = some c' → RepC C w h J v c → RepC C' w' h' J' v c') : ∀ {l l' : List Cap} {us : List Value}, Cap.trL φ l = some l' → RepCs C w h J us l → RepCs C' w' h' J' us l'
  | [], l', us, e, r => by
    simp only [Cap.trL, Option.some.injEq] at e; subst e
    exact ⟨r.1, fun k u c h1 h2 => by simp at h2⟩
  | c :: l, l', us, e, r => by
    unfold Cap.trL at e
    cases h1 : φ c with
    | none => rw [h1] at e; cases e
    | some c' =>
      cases h2 : Cap.trL φ l with
      | none => rw [h1, h2] at e; cases e
      | some l2 =>
        rw [h1, h2] at e; cases e
        cases us with
        | nil => have := r.1; simp at this
        | cons u us =>
          have ih := RepCs.tr hφ (us := us) h2 ⟨by simpa using r.1, fun k u' c2 q1 q2 => r.2 (k + 1) u' c2 (by simpa using q1) (by simpa using q2)⟩
          refine ⟨by simp [ih.1], fun k u' c2 q1 q2 => ?_⟩
          cases k with
          | zero => simp at q1 q2; subst q1; subst q2; exact hφ _ _ _ h1 (r.2 0 u c rfl rfl)
          | succ k => exact ih.2 k u' c2 (by simpa using q1) (by simpa using q2)
theorem RepA.tr {C C' : Ctx} {w w' : World} {h h' : Nat → Option Blk} {J J' : Nat → Value} {φ : Cap → Option Cap} (hφ : ∀ v c c', φ c = some c' → RepC C w h J v c → RepC C' w' h' J' v c') {v : Value} {x : AV} (r : RepA C w h J v x) : RepA C' w' h' J' v (x.tr φ) := by
  have one : ∀ c : Cap, RepC C w h J v c → RepA C' w' h' J' v (AV.ofC (φ c)) := fun c q => by
    cases e : φ c with
    | none => trivial
    | some c' => show RepA C' w' h' J' v c'.toA; rw [repA_toA]; exact hφ _ _ _ e q
  cases x with
  | f x => exact one (.f x) r
  | bx i off => exact one (.bx i off) r
  | ow i => exact one (.ow i) r
  | bot => trivial
  | sv i off n => exact one (.sv i off n) r
  | ag l =>
    obtain ⟨us, e, ho, q⟩ := r
    show RepA _ _ _ _ _ (match Cap.trL φ l with | some l' => AV.agN l' | none => .bot)
    cases h1 : Cap.trL φ l with
    | none => trivial
    | some l' => exact RepA.agN ⟨us, e, ho, q.tr hφ h1⟩
  | tp l =>
    obtain ⟨us, e, q⟩ := r
    show RepA _ _ _ _ _ (match Cap.trL φ l with | some l' => AV.tpN l' | none => .bot)
    cases h1 : Cap.trL φ l with
    | none => trivial
    | some l' => exact RepA.tpN ⟨us, e, q.tr hφ h1⟩
  | fb f l =>
    obtain ⟨us, e, q⟩ := r
    show RepA _ _ _ _ _ (match Cap.trL φ l with | some l' => AV.fbN f l' | none => .bot)
    cases h1 : Cap.trL φ l with
    | none => trivial
    | some l' => exact RepA.fbN ⟨us, e, q.tr hφ h1⟩
theorem RepCs.same {C C' : Ctx} {w w' : World} {h h' : Nat → Option Blk} {J J' : Nat → Value} {us : List Value} {l : List Cap} (r : RepCs C w h J us l) (hφ : ∀ v c, c ∈ l → RepC C w h J v c → RepC C' w' h' J' v c) : RepCs C' w' h' J' us l :=
  ⟨r.1, fun k u c h1 h2 => hφ u c (List.mem_of_getElem? h2) (r.2 k u c h1 h2)⟩
def AV.parts : AV → List Cap
  | .f x => [.f x]
  | .bx i off => [.bx i off]
  | .ow i => [.ow i]
  | .bot => []
  | .sv i off n => [.sv i off n]
  | .ag l => l
  | .tp l => l
  | .fb _ l => l
theorem RepA.sameP {C C' : Ctx} {w w' : World} {h h' : Nat → Option Blk} {J J' : Nat → Value} {v : Value} {x : AV} (r : RepA C w h J v x) (hφ : ∀ v c, c ∈ x.parts → RepC C w h J v c → RepC C' w' h' J' v c) : RepA C' w' h' J' v x := by
  cases x with
  | f x => exact hφ _ (.f x) (by simp [AV.parts]) r
  | bx i off => exact hφ _ (.bx i off) (by simp [AV.parts]) r
  | ow i => exact hφ _ (.ow i) (by simp [AV.parts]) r
  | bot => trivial
  | sv i off n => exact hφ _ (.sv i off n) (by simp [AV.parts]) r
  | ag l => obtain ⟨us, e, ho, q⟩ := r; exact ⟨us, e, ho, q.same hφ⟩
  | tp l => obtain ⟨us, e, q⟩ := r; exact ⟨us, e, q.same hφ⟩
  | fb f l => obtain ⟨us, e, q⟩ := r; exact ⟨us, e, q.same hφ⟩
theorem RepA.same {C C' : Ctx} {w w' : World} {h h' : Nat → Option Blk} {J J' : Nat → Value} {v : Value} {x : AV} (r : RepA C w h J v x) (hφ : ∀ v c, RepC C w h J v c → RepC C' w' h' J' v c) : RepA C' w' h' J' v x := r.sameP fun v c _ => hφ v c
theorem RepC.conv {C C' : Ctx} {w w' : World} {h h' : Nat → Option Blk} {J J' : Nat → Value} {v : Value} {c : Cap} (r : RepC C w h J v c) (hl : ∀ i, (h i).isSome = true → (h' i).isSome = true ∧ J' i = J i) (hF : ∀ u x, RepF w (Mb C h J) u x → RepF w' (Mb C' h' J') u x) : RepC C' w' h' J' v c := by
  cases c with
  | f x => exact hF _ _ r
  | bx i off => exact ⟨(hl i r.1).1, by rw [(hl i r.1).2]; exact r.2⟩
  | ow i => exact ⟨(hl i r.1).1, by rw [(hl i r.1).2]; exact r.2⟩
  | sv i off n => exact ⟨(hl i r.1).1, by rw [(hl i r.1).2]; exact r.2⟩
def RepB (C : Ctx) (w : World) (base : Nat) (h : Nat → Option Blk) (J : Nat → Value) (v : Value) : Blk → Prop
  | .box cells => ∃ b T us, v = .pointer (some ⟨b, 0, none⟩) ∧ (base ≤ b ∨ C.X b) ∧ w.heap[b]? = some (.cells us T (0, 0)) ∧ us.size = cells.length ∧ (∀ u ∈ us.toList, u.oneCell' = true) ∧ ∀ (k : Nat) (u : Value) (x : AV), us[k]? = some u → cells[k]? = some x → RepA C w h J u x
  | .row e sz n cells => ∃ xs, w.ownsRow 0 e sz v n xs ∧ (∀ b, bk v = some b → base ≤ b ∨ C.X b) ∧ (∀ u ∈ xs, u.oneCell' = true) ∧ RepL w (Mb C h J) xs cells
  | .rowA e sz n cells => ∃ xs, w.ownsRow 0 e sz v n xs ∧ (∀ b, bk v = some b → base ≤ b ∨ C.X b) ∧ (∀ u ∈ xs, u.oneCell' = true) ∧ xs.length = cells.length ∧ ∀ (k : Nat) (u : Value) (x : AV), xs[k]? = some u → cells[k]? = some x → RepA C w h J u x
  | .arr e sz n cells => ∃ xs, w.ownsRow 0 e sz v n xs ∧ (∀ b, bk v = some b → base ≤ b ∨ C.X b) ∧ (∀ u ∈ xs, u.oneCell' = true) ∧ xs.length = cells.length ∧ ∀ (k : Nat) (u : Value) (x : AV), xs[k]? = some u → cells[k]? = some x → RepA C w h J u x
  | .map G => ∃ b o, v = .map (some b) ∧ (base ≤ b ∨ C.X b) ∧ w.heap[b]? = some o ∧ G o ∧ o.isMap = true
  | .it x G => ∃ b o m, v = .pointer (some ⟨b, 0, none⟩) ∧ (base ≤ b ∨ C.X b) ∧ w.heap[b]? = some o ∧ RepA C w h J (.map (some m)) x ∧ G m o ∧ o.isIter = true
def Blk.mapA (f : AV → AV) : Blk → Blk
  | .box cs => .box (cs.map f)
  | .row e sz n cs => .row e sz n cs
  | .rowA e sz n cs => .rowA e sz n (cs.map f)
  | .arr e sz n cs => .arr e sz n (cs.map f)
  | .map G => .map G
  | .it x G => .it (f x) G
def Blk.stays : Blk → Bool
  | .box _ => true
  | .arr .. => true
  | .map _ => true
  | .it .. => true
  | _ => false
structure Sim (C : Ctx) (w0 : World) (N : Nat) (st : St) (a : Act) (w : World) (J : Nat → Value) : Prop where
  ext : Grew C.X w0 w
  size : a.tmps.size = N
  defs : Marks w0.heap.size w a.defers ∧ (C.ro.isSome = true → a.defers = [])
  slot : ∀ t, RepA C w st.h J (a.tmps.getD t undef) (st.s t)
  blk : ∀ i B, st.h i = some B → RepB C w w0.heap.size st.h J (J i) B
  apart : ∀ i j b, (st.h i).isSome = true → (st.h j).isSome = true → bk (J i) = some b → bk (J j) = some b → i = j
  old : ∀ b, C.M0 b → b < w0.heap.size ∧ ¬ C.X b
  glob : ∀ g cs, C.G g = some cs → RepF w (Mb C st.h J) (.pointer (some ⟨g, 0, none⟩)) cs
  fix : ∀ i p B, C.J0 i = some p → st.h i = some B → B.stays = true → J i = p
theorem row_bk {w : World} {base e sz n : Nat} {v : Value} {xs : List Value} (h : w.ownsRow base e sz v n xs) : bk v = v.ownBlock := by
  obtain ⟨a, c, rfl⟩ := h.isSlice
  cases a <;> rfl
theorem row_cells {w : World} {base e sz n : Nat} {v : Value} {xs : List Value} (h : w.ownsRow base e sz v n xs) {b : Nat} (hb : bk v = some b) : ∃ us T, w.heap[b]? = some (.cells us T (0, 0)) := by
  rcases h.2 with ⟨e1, _⟩ | ⟨g, cap, cur, e1, _, h2, _⟩
  · rw [e1] at hb; cases hb
  · rw [e1] at hb; simp [bk] at hb; subst hb; exact ⟨cur, _, h2⟩
theorem row_same {w w' : World} {base e sz n : Nat} {v : Value} {xs : List Value} (h : w.ownsRow base e sz v n xs) (hh : ∀ b, bk v = some b → w'.heap[b]? = w.heap[b]?) : w'.ownsRow base e sz v n xs :=
  ⟨h.1, h.2.imp id fun ⟨g, cap, cur, e1, h1, h2, h3⟩ => ⟨g, cap, cur, e1, h1, (hh g (by rw [e1]; rfl)).trans h2, h3⟩⟩
theorem RepB.obj {C : Ctx} {w : World} {base : Nat} {h : Nat → Option Blk} {J : Nat → Value} {v : Value} {B : Blk} (r : RepB C w base h J v B) {b : Nat} (hb : bk v = some b) : ∃ o, w.heap[b]? = some o ∧ o.stays = true := by
  cases B with
  | box cells =>
    obtain ⟨b', T, us, rfl, h1, h2, _⟩ := r
    simp [bk] at hb; subst hb
    exact ⟨_, h2, rfl⟩
  | row e sz n cells => obtain ⟨xs, h1, _⟩ := r; obtain ⟨us, T, h2⟩ := row_cells h1 hb; exact ⟨_, h2, rfl⟩
  | rowA e sz n cells => obtain ⟨xs, h1, _⟩ := r; obtain ⟨us, T, h2⟩ := row_cells h1 hb; exact ⟨_, h2, rfl⟩
  | arr e sz n cells => obtain ⟨xs, h1, _⟩ := r; obtain ⟨us, T, h2⟩ := row_cells h1 hb; exact ⟨_, h2, rfl⟩
  | map G =>
    obtain ⟨b', o, rfl, h1, h2, h3, h4⟩ := r
    simp [bk] at hb; subst hb
    exact ⟨o, h2, by cases o <;> simp [Obj.isMap] at h4; rfl⟩
  | it x G =>
    obtain ⟨b', o, m, rfl, h1, h2, h3, h4, h5⟩ := r
    simp [bk] at hb; subst hb
    exact ⟨o, h2, by cases o <;> simp [Obj.isIter] at h5; rfl⟩
theorem RepB.conv {C C' : Ctx} {w w' : World} {base base' : Nat} {h h' : Nat → Option Blk} {J J' : Nat → Value} {v : Value} {B : Blk} (r : RepB C w base h J v B) (f : AV → AV) (hh : ∀ b, bk v = some b → w'.heap[b]? = w.heap[b]?)
    (hb : ∀ b, bk v = some b → (base ≤ b ∨ C.X b) → (base' ≤ b ∨ C'.X b)) (hA : ∀ v x, RepA C w h J v x → RepA C' w' h' J' v (f x)) (hF : ∀ v x, RepF w (Mb C h J) v x → RepF w' (Mb C' h' J') v x) : RepB C' w' base' h' J' v (B.mapA f) := by
  have cs : ∀ {xs : List Value} {cells : List AV}, (∀ (k : Nat) (u : Value) (x : AV), xs[k]? = some u → cells[k]? = some x → RepA C w h J u x) → ∀ (k : Nat) (u : Value) (x : AV), xs[k]? = some u → (cells.map f)[k]? = some x → RepA C' w' h' J' u x := by
    intro xs cells hc k u x h1 h2
    rw [List.getElem?_map] at h2
    cases hk : cells[k]? with
    | none => simp [hk] at h2
    | some y => simp [hk] at h2; subst h2; exact hA _ _ (hc k u y h1 hk)
  cases B with
  | box cells =>
    obtain ⟨b, T, us, q1, q2, q3, q4, q5, q6⟩ := r
    have hv : bk v = some b := by rw [q1]; rfl
    refine ⟨b, T, us, q1, hb b hv q2, (hh b hv).trans q3, by simpa using q4, q5, fun k u x h1 h2 => cs (xs := us.toList) (fun k u x a c => q6 k u x (by simpa using a) c) k u x (by simpa using h1) h2⟩
  | row e sz n cells =>
    obtain ⟨xs, q1, q0, q2, q3⟩ := r
    exact ⟨xs, row_same q1 hh, fun b hv => hb b hv (q0 b hv), q2, q3.1, fun k u x h1 h2 => hF _ _ (q3.2 k u x h1 h2)⟩
  | rowA e sz n cells =>
    obtain ⟨xs, q1, q0, q2, q3, q4⟩ := r
    exact ⟨xs, row_same q1 hh, fun b hv => hb b hv (q0 b hv), q2, by simpa using q3, cs q4⟩
  | arr e sz n cells =>
    obtain ⟨xs, q1, q0, q2, q3, q4⟩ := r
    exact ⟨xs, row_same q1 hh, fun b hv => hb b hv (q0 b hv), q2, by simpa using q3, cs q4⟩
  | map G =>
    obtain ⟨b, o, q1, q2, q3, q4⟩ := r
    have hv : bk v = some b := by rw [q1]; rfl
    exact ⟨b, o, q1, hb b hv q2, (hh b hv).trans q3, q4⟩
  | it x G =>
    obtain ⟨b, o, m, q1, q2, q3, q4, q5⟩ := r
    have hv : bk v = some b := by rw [q1]; rfl
    exact ⟨b, o, m, q1, hb b hv q2, (hh b hv).trans q3, hA _ _ q4, q5⟩
theorem Blk.map_id (B : Blk) : B.mapA (fun x => x) = B := by cases B <;> simp [Blk.mapA]
theorem RepB.conv0 {C C' : Ctx} {w w' : World} {base base' : Nat} {h h' : Nat → Option Blk} {J J' : Nat → Value} {v : Value} {B : Blk} (r : RepB C w base h J v B) (hh : ∀ b, bk v = some b → w'.heap[b]? = w.heap[b]?)
    (hb : ∀ b, bk v = some b → (base ≤ b ∨ C.X b) → (base' ≤ b ∨ C'.X b)) (hA : ∀ v x, RepA C w h J v x → RepA C' w' h' J' v x) (hF : ∀ v x, RepF w (Mb C h J) v x → RepF w' (Mb C' h' J') v x) : RepB C' w' base' h' J' v B := by
  have := r.conv (fun x => x) hh hb hA hF
  rwa [Blk.map_id] at this
theorem RepB.ge {C : Ctx} {w : World} {base : Nat} {h : Nat → Option Blk} {J : Nat → Value} {v : Value} {B : Blk} (r : RepB C w base h J v B) {b : Nat} (hb : bk v = some b) : (base ≤ b ∨ C.X b) ∧ b < w.heap.size := by
  cases B with
  | box cells =>
    obtain ⟨b', T, us, rfl, h1, h2, _⟩ := r
    simp [bk] at hb; subst hb
    exact ⟨h1, (Array.getElem?_eq_some_iff.1 h2).1⟩
  | row e sz n cells =>
    obtain ⟨xs, h1, h0, _⟩ := r
    exact ⟨h0 b hb, (h1.lt b (by rw [← row_bk h1]; exact hb)).2⟩
  | rowA e sz n cells =>
    obtain ⟨xs, h1, h0, _⟩ := r
    exact ⟨h0 b hb, (h1.lt b (by rw [← row_bk h1]; exact hb)).2⟩
  | arr e sz n cells =>
    obtain ⟨xs, h1, h0, _⟩ := r
    exact ⟨h0 b hb, (h1.lt b (by rw [← row_bk h1]; exact hb)).2⟩
  | map G =>
    obtain ⟨b', o, rfl, h1, h2, _⟩ := r
    simp [bk] at hb; subst hb
    exact ⟨h1, (Array.getElem?_eq_some_iff.1 h2).1⟩
  | it x G =>
    obtain ⟨b', o, m, rfl, h1, h2, _⟩ := r
    simp [bk] at hb; subst hb
    exact ⟨h1, (Array.getElem?_eq_some_iff.1 h2).1⟩
theorem Sim.own_at {C : Ctx} {w0 : World} {N : Nat} {st : St} {a : Act} {w : World} {J : Nat → Value} (S : Sim C w0 N st a w J) {b i : Nat} (hi : (st.h i).isSome = true) (hb : bk (J i) = some b) : (w0.heap.size ≤ b ∨ C.X b) ∧ b < w.heap.size := by
  obtain ⟨B, hB⟩ := Option.isSome_iff_exists.1 hi
  exact (S.blk i B hB).ge hb
theorem Sim.mb {C : Ctx} {w0 : World} {N : Nat} {st : St} {a : Act} {w : World} {J : Nat → Value} (S : Sim C w0 N st a w J) {b : Nat} (h : Mb C st.h J b) : b < w.heap.size := by
  rcases h with h | ⟨i, hi, hb⟩
  · exact Nat.lt_of_lt_of_le (S.old b h).1 S.ext.le
  · exact (S.own_at hi hb).2
theorem RepA.ext {C : Ctx} {w w' : World} {h : Nat → Option Blk} {J : Nat → Value} {v : Value} {x : AV} (r : RepA C w h J v x) (e : Ext w w') : RepA C w' h J v x :=
  r.same fun _ _ q => q.conv (fun _ hi => ⟨hi, rfl⟩) fun _ _ h => RepF.ext h e (fun _ _ h => h)
theorem RepB.ext {C : Ctx} {w w' : World} {base : Nat} {h : Nat → Option Blk} {J : Nat → Value} {v : Value} {B : Blk} (r : RepB C w base h J v B) (e : Ext w w') : RepB C w' base h J v B :=
  r.conv0 (fun b hb => e.block b (r.ge hb).2) (fun _ _ h => h) (fun _ _ h => h.ext e) (fun _ _ h => h.ext e (fun _ _ h => h))
theorem Sim.toExt {C : Ctx} {w0 : World} {N : Nat} {st : St} {a : Act} {w w' : World} {J : Nat → Value} (S : Sim C w0 N st a w J) (e : Ext w w') : Sim C w0 N st a w' J :=
  ⟨S.ext.trans e, S.size, ⟨S.defs.1.keeps fun _ _ h => e.heap h, S.defs.2⟩, fun t => (S.slot t).ext e, fun i B h => (S.blk i B h).ext e, S.apart, S.old, fun g cs h => (S.glob g cs h).ext e (fun _ _ h => h), S.fix⟩
theorem Sim.keeps0 {C : Ctx} {w0 : World} {N B : Nat} {st : St} {a : Act} {w w' : World} {J : Nat → Value} (S : Sim C w0 N st a w J) (k : KeepsP Obj.stays B w w') (hB : w0.heap.size ≤ B) {ds : List Deferred} (hd : Marks w0.heap.size w' ds ∧ (C.ro.isSome = true → ds = [])) : Sim C w0 N st { a with defers := ds } w' J := by
  have conv : ∀ (v : Value) (x : AV), RepA C w st.h J v x → RepA C w' st.h J v x := fun v x h => h.same fun _ _ q => q.conv (fun _ hi => ⟨hi, rfl⟩) fun _ _ h => RepF.keeps h k (fun _ _ h => h)
  refine ⟨⟨k.os.trans S.ext.os, k.tape.trans S.ext.tape, k.output.trans S.ext.output, Nat.le_trans S.ext.le k.size, fun j hj hx => ?_⟩, S.size, hd, fun t => conv _ _ (S.slot t), fun i B' hB' => ?_, S.apart, S.old, fun g cs hg => (S.glob g cs hg).keeps k (fun _ _ h => h), S.fix⟩
  · have h1 := S.ext.block j hj hx
    rw [← h1]
    cases ho : w.heap[j]? with
    | none =>
      have h2 := Array.getElem?_eq_none_iff.1 ho
      have := S.ext.le; omega
    | some o => exact k.same j o ho (.inl (by omega))
  · have hb0 := S.blk i B' hB'
    exact hb0.conv0 (fun b hb => let ⟨o, h, hs⟩ := hb0.obj hb; (k.same _ _ h (.inr hs)).trans h.symm) (fun _ _ h => h) conv (fun _ _ h => RepF.keeps h k (fun _ _ h => h))
theorem Sim.marks {C : Ctx} {w0 : World} {N : Nat} {st : St} {a : Act} {w w' : World} {J : Nat → Value} (S : Sim C w0 N st a w J) {i : Nat} (hi : (st.h i).isSome = true) (g : w.grownBy w' (bk (J i))) : Marks w0.heap.size w' a.defers ∧ (C.ro.isSome = true → a.defers = []) :=
  ⟨S.defs.1.keeps fun D _ h => (g.block D (Array.getElem?_eq_some_iff.1 h).1 (fun e => by
    obtain ⟨B, hB⟩ := Option.isSome_iff_exists.1 hi
    obtain ⟨o, h2, h3⟩ := (S.blk i B hB).obj e.symm
    rw [h] at h2; cases h2; cases h3)).trans h, S.defs.2⟩
def dstB (N : Nat) : Option Tmp → Bool
  | some d => Nat.blt d N
  | none => true
theorem getD_put {a : Act} {N d : Nat} (hs : a.tmps.size = N) (hd : d < N) (v : Value) (t : Nat) : (a.put (some d) v).tmps.getD t undef = if t = d then v else a.tmps.getD t undef := by
  simp only [Act.put, Array.getD_eq_getD_getElem?]
  by_cases e : t = d
  · subst e; simp [hs, hd]
  · rw [if_neg e, Array.getElem?_setIfInBounds_ne (by omega)]
theorem Sim.put {C : Ctx} {w0 : World} {N : Nat} {st : St} {a : Act} {w : World} {J : Nat → Value} (S : Sim C w0 N st a w J) {d : Option Tmp} (hd : dstB N d = true) {v : Value} {r : AV} (hr : RepA C w st.h J v r) : Sim C w0 N (st.put d r) (a.put d v) w J := by
  cases d with
  | none => exact S
  | some d =>
    have hd' : d < N := Nat.lt_of_lt_of_le (Nat.le_of_ble_eq_true hd) (Nat.le_refl _)
    refine ⟨S.ext, by simpa [Act.put] using S.size, S.defs, fun t => ?_, S.blk, S.apart, S.old, S.glob, S.fix⟩
    rw [getD_put S.size hd']
    by_cases e : t = d
    · subst e; simp only [St.put, upd_same, if_true]; exact hr
    · simp only [St.put, upd_other _ _ e, if_neg e]; exact S.slot t
theorem Sim.eval {C : Ctx} {w0 : World} {N : Nat} {st : St} {a : Act} {w : World} {J : Nat → Value} (S : Sim C w0 N st a w J) (x : Operand) : RepA C w st.h J (a.eval x) (st.ev C x) := by
  cases x with
  | tmp t => exact S.slot t
  | const v => exact RepF.v v
  | global g =>
    show RepA C w st.h J (.pointer (some ⟨g, 0, none⟩)) (match C.G g with | some cs => .f cs | none => .bot)
    cases hg : C.G g with
    | none => trivial
    | some cs => exact S.glob g cs hg
  | func f => exact RepF.fn f [] [] rfl (fun k u x h => by simp at h)
end Go.Ab
namespace Go.Ab
open Go Go.RowKit
structure TyD where
  scal : Bool := false
  agg : Option Nat := none
  fld : List Nat := []
  sl : Option (Nat × Nat × Nat) := none
  zero : Option (List Value) := none
  pl : Option (List (Nat × Nat)) := none
  str : Bool := false
def strB (P : Program) (T : TypeId) : Bool := match P.underlying T with | some .string => true | _ => false
def plC (P : Program) (T : TypeId) : Option (List (Nat × Nat)) := match P.underlying T with
  | some (.struct fields) => fields.toList.mapM (fun f => (P.info? f.type).map fun i => (f.offset, i.size))
  | _ => none
def scalB (P : Program) (T : TypeId) : Bool := match P.underlying T, P.info? T with
  | some (.struct _), _ => false
  | some (.array _ _), _ => false
  | some _, some i => Nat.beq i.size 1
  | _, _ => false
def aggN (P : Program) (T : TypeId) : Option Nat := match P.underlying T, P.info? T with
  | some (.struct _), some i => some i.size
  | some (.array _ _), some i => some i.size
  | _, _ => none
def fldO (P : Program) (T f : Nat) : Option Nat := match P.underlying T with
  | some (.struct fs) => match fs[f]? with
    | some fd => match P.info? fd.type with
      | some i => bif Nat.beq i.size 0 then none else some fd.offset
      | none => none
    | none => none
  | _ => none
def slE (P : Program) (T : TypeId) : Option (Nat × Nat × Nat) := match P.underlying T with
  | some (.slice E) => match P.info? E with
    | some i => some (E, i.size, i.bytes)
    | none => none
  | _ => none
def zeroC (P : Program) (T : TypeId) : Option (List Value) := match P.info? T with
  | some i => i.zero.map fun z => z.cells.toList
  | none => none
structure TyOk (P : Program) (T : TypeId) (d : TyD) : Prop where
  scal : d.scal = true → scalB P T = true
  agg : ∀ n, d.agg = some n → aggN P T = some n
  fld : ∀ f o, d.fld[f]? = some o → fldO P T f = some o
  sl : ∀ x, d.sl = some x → slE P T = some x
  zero : ∀ z, d.zero = some z → zeroC P T = some z
  one : ∀ z, d.zero = some z → ∀ u ∈ z, u.oneCell' = true
  pl : ∀ x, d.pl = some x → plC P T = some x
  str : d.str = true → strB P T = true
structure Ty (P : Program) where
  ty : Nat → TyD
  ok : ∀ T, TyOk P T (ty T)
theorem slE_spec {P : Program} {T E s b : Nat} (h : slE P T = some (E, s, b)) : P.underlying T = some (.slice E) ∧ ∃ i, P.info? E = some i ∧ i.size = s ∧ i.bytes = b := by
  unfold slE at h
  split at h
  · split at h
    · rename_i hi
      simp only [Option.some.injEq, Prod.mk.injEq] at h
      obtain ⟨rfl, rfl, rfl⟩ := h
      exact ⟨‹_›, _, hi, rfl, rfl⟩
    · cases h
  · cases h
theorem run_load_scal {P : Program} {T b off : Nat} {v : Value} {w : World} (hT : scalB P T = true) (hc : w.cell? ⟨b, off, none⟩ = some v) : (Instr.loadAt T (.pointer (some ⟨b, off, none⟩))).run P w = .ok v w := by
  unfold scalB at hT
  cases hu : P.underlying T with
  | none => simp [hu] at hT
  | some d =>
    have hagg : (isAgg T).run P w = .ok false w := by
      unfold isAgg
      rw [Sem.run_bind, run_underlying hu w]
      cases d <;> simp_all
    simp [Instr.loadAt, Instr.sureAddr, loadVar, hagg, hc]
theorem run_load_agg {P : Program} {T b off n : Nat} {w : World} (hT : aggN P T = some n) (us : List Value) (hl : us.length = n) (hc : ∀ k, k < us.length → w.cell? ⟨b, off + k, none⟩ = us[k]?) : (Instr.loadAt T (.pointer (some ⟨b, off, none⟩))).run P w = .ok (.agg us.toArray) w := by
  unfold aggN at hT
  have hload := run_loadCells_list (P := P) w ⟨b, off, none⟩ us (fun j v hj => by
    rw [addr_add, hc j (List.getElem?_eq_some_iff.1 hj).1]; exact hj)
  cases hu : P.underlying T with
  | none => simp [hu] at hT
  | some d =>
    cases hi : P.info? T with
    | none => cases d <;> simp [hu, hi] at hT
    | some i =>
      have hs : i.size = us.length := by rw [hl]; cases d <;> simp_all
      have hagg : (isAgg T).run P w = .ok true w := by
        unfold isAgg
        rw [Sem.run_bind, run_underlying hu w]
        cases d <;> simp_all
      simp [Instr.loadAt, Instr.sureAddr, loadVar, hagg, sizeOf, typeInfo, hi, hs, hload]
theorem run_field {P : Program} {T f o b off : Nat} {w : World} (hT : fldO P T f = some o) : (Instr.fieldAt T (.pointer (some ⟨b, off, none⟩)) f).run P w = .ok (.pointer (some ⟨b, off + o, none⟩)) w := by
  unfold fldO at hT
  split at hT
  · rename_i fs hu
    split at hT
    · rename_i fd hf
      split at hT
      · rename_i i hi
        cases hz : Nat.beq i.size 0 with
        | true => simp [hz] at hT
        | false =>
          have hz' : ¬ i.size = 0 := fun e => by rw [e] at hz; cases hz
          simp [hz] at hT
          subst hT
          simp [Instr.fieldAt, run_underlying hu, hf, Instr.sureAddr, fieldPlace, sizeOf, typeInfo, hi, hz', addr_add]
      · cases hT
    · cases hT
  · cases hT
theorem run_idx {P : Program} {T E s bs b off n c : Nat} {k : IntKind} {z : Int} {w : World} (hT : slE P T = some (E, s, bs)) (h0 : 0 ≤ z) (hn : z < n) :
    (Instr.indexAt T (.slice (some ⟨b, off, none⟩) n c) (.int k z)).run P w = .ok (.pointer (some ⟨b, off + z.toNat * s, none⟩)) w := by
  obtain ⟨hu, i, hi, rfl, _⟩ := slE_spec hT
  simp [Instr.indexAt, asIntOf, run_underlying hu, h0, hn, sizeOf, typeInfo, hi, addr_add]
section
variable {C : Ctx} {N : Nat}
def More (B B' : Blk) : Prop := B' = B ∨ ∃ cs cs', B = .box cs ∧ B' = .box cs' ∧ cs'.length = cs.length ∧ ∀ (k : Nat) (x : AV), cs[k]? = some x → x = .bot ∨ cs'[k]? = some x
theorem More.rep {w : World} {base : Nat} {h : Nat → Option Blk} {J : Nat → Value} {v : Value} {B B' : Blk} (m : More B B') (r : RepB C w base h J v B') : RepB C w base h J v B := by
  rcases m with rfl | ⟨cs, cs', rfl, rfl, e, m⟩
  · exact r
  · obtain ⟨b, T, us, q1, q2, q3, q4, q5, q6⟩ := r
    refine ⟨b, T, us, q1, q2, q3, q4.trans e, q5, fun k u x h1 h2 => ?_⟩
    rcases m k x h2 with rfl | h3
    · trivial
    · exact q6 k u x h1 h3
structure Agree (C : Ctx) (o : Oper) (st st' : St) : Prop where
  ev : ∀ x ∈ o.op.operands.toList, st'.ev C x = st.ev C x
  hp : ∀ i B, st.h i = some B → st'.h i = none ∨ ∃ B', st'.h i = some B' ∧ More B B'
def SimE (C : Ctx) (w0 : World) (N : Nat) (st : St) (a : Act) (w : World) : Prop := ∃ J, Sim C w0 N st a w J
def ValOp (C : Ctx) (N : Nat) (o : Oper) (st : St) (r : AV) : Prop :=
  ∀ w0 a w st', Agree C o st st' → SimE C w0 N st' a w → ∀ K Q, (∀ v w', SimE C w0 N (st'.put o.dst r) (a.put o.dst v) w' → K (a.put o.dst v) w') → o.wpIn (Fence.wr C.ro) 7 C.P a w K Q
def AllOp (C : Ctx) (N : Nat) (o : Oper) (st : St) (r : AV) (B : Blk) : Prop :=
  ∀ w0 a w st', Agree C o st st' → st'.h st.nx = none → SimE C w0 N st' a w → ∀ K Q,
    (∀ v w', SimE C w0 N { s := (st'.put o.dst r).s, h := upd st'.h st.nx (some B), nx := st'.nx } (a.put o.dst v) w' → K (a.put o.dst v) w') → o.wpIn (Fence.wr C.ro) 7 C.P a w K Q
def EffOp (C : Ctx) (N : Nat) (o : Oper) (st st1 : St) : Prop :=
  ∀ w0 a w, SimE C w0 N st a w → ∀ K Q, (∀ v w', SimE C w0 N st1 (a.put o.dst v) w' → K (a.put o.dst v) w') → o.wpIn (Fence.wr C.ro) 7 C.P a w K Q
theorem not_defer {P : Program} {a : Act} {o : Oper} {w w' : World} {x : Next} (h : (execOp a.eval o).run P w = .ok x w') (hx : ∀ d, x ≠ .defer d) : ∀ c, o.op ≠ .defer c := by
  intro c hc
  unfold execOp at h
  rw [hc] at h
  simp only [Sem.run_bind] at h
  cases hr : (resolve a.eval c o.type).run P w with
  | ok d w' => simp [hr, Result.andThen, Sem.run_pure] at h; exact hx _ h.1.symm
  | halt x w' => simp [hr, Result.andThen] at h
theorem op_value {P : Program} {ro : Option Nat} {n : Nat} {a : Act} {o : Oper} {w w' : World} {v : Value} {K : Act → World → Prop} {Q : Exit → Act → World → Prop} (hr : (execOp a.eval o).run P w = .ok (.value v) w') (h : K (a.put o.dst v) w') : o.wpIn (Fence.wr ro) n P a w K Q := by
  refine ⟨fun _ _ => trivial, ?_⟩
  rw [Oper.semAt_eq _ _ _ (not_defer hr (fun _ e => by cases e)), hr]
  exact h
theorem op_skip {P : Program} {ro : Option Nat} {n : Nat} {a : Act} {o : Oper} {w w' : World} {K : Act → World → Prop} {Q : Exit → Act → World → Prop} (hr : (execOp a.eval o).run P w = .ok .skip w') (h : K (a.put o.dst undef) w') : o.wpIn (Fence.wr ro) n P a w K Q := by
  refine ⟨fun _ _ => trivial, ?_⟩
  rw [Oper.semAt_eq _ _ _ (not_defer hr (fun _ e => by cases e)), hr]
  exact h
theorem op_enter {P : Program} {ro : Option Nat} {n f : Nat} {args : Array Value} {a : Act} {o : Oper} {w w' : World} {K : Act → World → Prop} {Q : Exit → Act → World → Prop} (hr : (execOp a.eval o).run P w = .ok (.enter f args) w') (h : Calls P f args w' fun
      | .returned v, w'' => K (a.put o.dst v) w''
      | .panicked chain, w'' => Q (.panic chain) a w''
      | .outgrown, _ => LetsOut Q) : o.wpIn (Fence.wr ro) n P a w K Q := by
  refine ⟨fun _ _ => trivial, ?_⟩
  rw [Oper.semAt_eq _ _ _ (not_defer hr (fun _ e => by cases e)), hr]
  exact ⟨fun hd => by simp [Fence.wr, Fence.wide] at hd, callsIn_wr h⟩
theorem valop_run {o : Oper} {st : St} {r : AV} (hd : dstB N o.dst = true)
    (h : ∀ w0 a w J st', Agree C o st st' → Sim C w0 N st' a w J → ∃ v w', (execOp a.eval o).run C.P w = .ok (.value v) w' ∧ Ext w w' ∧ RepA C w' st'.h J v r) : ValOp C N o st r := by
  intro w0 a w st' hA ⟨J, S⟩ K Q hK
  obtain ⟨v, w', hr, he, hv⟩ := h w0 a w J st' hA S
  exact op_value hr (hK v w' ⟨J, (S.toExt he).put hd hv⟩)
theorem effop_run {o : Oper} {st st1 : St}
    (h : ∀ w0 a w J, Sim C w0 N st a w J → ∃ x v w', (execOp a.eval o).run C.P w = .ok x w' ∧ (x = .value v ∨ (x = .skip ∧ v = undef)) ∧ SimE C w0 N st1 (a.put o.dst v) w') : EffOp C N o st st1 := by
  intro w0 a w ⟨J, S⟩ K Q hK
  obtain ⟨x, v, w', hr, hx, hS⟩ := h w0 a w J S
  rcases hx with rfl | ⟨rfl, rfl⟩
  · exact op_value hr (hK v w' hS)
  · exact op_skip hr (hK _ w' hS)
theorem v_move {o : Oper} {st : St} {x : Operand} (ho : o.op = .move x) (hd : dstB N o.dst = true) : ValOp C N o st (st.ev C x) :=
  valop_run hd fun w0 a w J st' hA S => ⟨a.eval x, w, by simp [execOp, ho], Ext.refl _, by rw [← hA.ev x (by simp [ho, Op.operands])]; exact S.eval x⟩
theorem v_assign {o : Oper} {st : St} {x : Operand} (ho : o.op = .assign x) (hd : dstB N o.dst = true) : ValOp C N o st (st.ev C x) :=
  valop_run hd fun w0 a w J st' hA S => ⟨a.eval x, w, by simp [execOp, ho], Ext.refl _, by rw [← hA.ev x (by simp [ho, Op.operands])]; exact S.eval x⟩
theorem evF {w0 : World} {a : Act} {w : World} {J : Nat → Value} {st' : St} (S : Sim C w0 N st' a w J) {x : Operand} {y : FV} (h : st'.ev C x = .f y) : RepF w (Mb C st'.h J) (a.eval x) y := by
  have := S.eval x; rw [h] at this; exact this
theorem repV {w : World} {M : Nat → Prop} {u v : Value} (h : RepF w M u (.v v)) : u = v := by cases h; rfl
theorem evV {w0 : World} {a : Act} {w : World} {J : Nat → Value} {st' : St} (S : Sim C w0 N st' a w J) {x : Operand} {v : Value} (h : st'.ev C x = .f (.v v)) : a.eval x = v := repV (evF S h)
theorem v_pick {o : Oper} {st : St} {c x y : Operand} {t : Bool} (ho : o.op = .pick c x y) (hd : dstB N o.dst = true) (hc : st.ev C c = .f (.v (.bool t))) : ValOp C N o st (bif t then st.ev C x else st.ev C y) :=
  valop_run hd fun w0 a w J st' hA S => by
    have e1 := evV S ((hA.ev c (by simp [ho, Op.operands])).trans hc)
    have e2 := hA.ev x (by simp [ho, Op.operands])
    have e3 := hA.ev y (by simp [ho, Op.operands])
    refine ⟨if t then a.eval x else a.eval y, w, by simp [execOp, ho, e1, asBool], Ext.refl _, ?_⟩
    cases t
    · simp only [cond_false]; rw [← e3]; exact S.eval y
    · simp only [cond_true]; rw [← e2]; exact S.eval x
theorem v_bin {o : Oper} {st : St} {op : BinOp} {T T' : TypeId} {x y : Operand} {vx vy v : Value} (ho : o.op = .binOp op T x y T') (hd : dstB N o.dst = true) (hx : st.ev C x = .f (.v vx)) (hy : st.ev C y = .f (.v vy))
    (hrun : ∀ w, (do eqGuard op T x y vx vy; binOp op T vx vy : Sem Value).run C.P w = .ok v w) : ValOp C N o st (.f (.v v)) :=
  valop_run hd fun w0 a w J st' hA S => by
    have e1 := evV S ((hA.ev x (by simp [ho, Op.operands])).trans hx)
    have e2 := evV S ((hA.ev y (by simp [ho, Op.operands])).trans hy)
    have := hrun w
    refine ⟨v, w, ?_, Ext.refl _, RepF.v v⟩
    simp only [execOp, ho, e1, e2, Sem.run_bind] at this ⊢
    rw [this]
    rfl
theorem v_un {o : Oper} {st : St} {op : UnOp} {T : TypeId} {x : Operand} {vx v : Value} (ho : o.op = .unOp op T x) (hd : dstB N o.dst = true) (hx : st.ev C x = .f (.v vx))
    (hrun : ∀ w, (Op.unary op vx).run C.P w = .ok v w) : ValOp C N o st (.f (.v v)) :=
  valop_run hd fun w0 a w J st' hA S => by
    have e1 := evV S ((hA.ev x (by simp [ho, Op.operands])).trans hx)
    refine ⟨v, w, ?_, Ext.refl _, RepF.v v⟩
    simp [execOp, ho, e1, hrun w]
theorem v_conv {o : Oper} {st : St} {T T' : TypeId} {x : Operand} {vx v : Value} (ho : o.op = .convert T T' x) (hd : dstB N o.dst = true) (hx : st.ev C x = .f (.v vx))
    (hrun : ∀ w, (convert T T' vx).run C.P w = .ok v w) : ValOp C N o st (.f (.v v)) :=
  valop_run hd fun w0 a w J st' hA S => by
    have e1 := evV S ((hA.ev x (by simp [ho, Op.operands])).trans hx)
    refine ⟨v, w, ?_, Ext.refl _, RepF.v v⟩
    simp [execOp, ho, e1, hrun w]
theorem v_extract {o : Oper} {st : St} {x : Operand} {i : Nat} {l : List FV} {y : FV} (ho : o.op = .extract x i) (hd : dstB N o.dst = true) (hx : st.ev C x = .f (.tup l)) (hi : l[i]? = some y) : ValOp C N o st (.f y) :=
  valop_run hd fun w0 a w J st' hA S => by
    have e1 := evF S ((hA.ev x (by simp [ho, Op.operands])).trans hx)
    generalize hv : a.eval x = v at e1
    cases e1 with
    | tup _ us h1 h2 =>
      obtain ⟨u, hu, hru⟩ := RepL.get ⟨h1, h2⟩ hi
      exact ⟨u, w, by simp [execOp, ho, hv, Instr.extract, hu], Ext.refl _, hru⟩
theorem v_load_pt {o : Oper} {st : St} {T : TypeId} {x : Operand} {cs : List FV} {off : Nat} {c : FV} (ty : Ty C.P) (ho : o.op = .load T x) (hd : dstB N o.dst = true) (hT : (ty.ty T).scal = true) (hx : st.ev C x = .f (.pt cs off)) (hc : cs[off]? = some c) : ValOp C N o st (.f c) :=
  valop_run hd fun w0 a w J st' hA S => by
    have e1 := evF S ((hA.ev x (by simp [ho, Op.operands])).trans hx)
    generalize hv : a.eval x = v at e1
    cases e1 with
    | pt b of _ _ us h1 h2 h3 h4 =>
      obtain ⟨u, hu, hru⟩ := RepL.get ⟨h1, h4⟩ hc
      have := h3.at_ off (List.getElem?_eq_some_iff.1 hu).1
      rw [hu] at this
      exact ⟨u, w, by simp [execOp, ho, hv, run_load_scal ((ty.ok T).scal hT) this], Ext.refl _, hru⟩
theorem v_load_pts {o : Oper} {st : St} {T : TypeId} {x : Operand} {cs sub : List FV} {off n : Nat} (ty : Ty C.P) (ho : o.op = .load T x) (hd : dstB N o.dst = true) (hT : (ty.ty T).agg = some n) (hx : st.ev C x = .f (.pt cs off)) (hc : (cs.drop off).take n = sub) (hl : sub.length = n) : ValOp C N o st (.f (.agg sub)) :=
  valop_run hd fun w0 a w J st' hA S => by
    have e1 := evF S ((hA.ev x (by simp [ho, Op.operands])).trans hx)
    generalize hv : a.eval x = v at e1
    cases e1 with
    | pt b of _ _ us h1 h2 h3 h4 =>
      have R := (RepL.drop (n := off) ⟨h1, h4⟩).take n
      rw [hc] at R
      have hlen : ((us.drop off).take n).length = n := R.1.trans hl
      refine ⟨.agg ((us.drop off).take n).toArray, w, ?_, Ext.refl _, RepF.agg _ _ R.1 (fun u hu => h2 u (List.mem_of_mem_drop (List.mem_of_mem_take hu))) R.2⟩
      simp only [execOp, ho, hv, Sem.run_bind]
      rw [run_load_agg ((ty.ok T).agg n hT) ((us.drop off).take n) hlen (fun k hk => ?_)]
      · rfl
      · rw [hlen] at hk
        have hl2 : off + k < us.length := by simp [List.length_take, List.length_drop] at hlen; omega
        rw [Nat.add_assoc, h3.at_ (off + k) hl2, List.getElem?_take, if_pos hk, List.getElem?_drop]
theorem blkOf {w0 : World} {a : Act} {w : World} {J : Nat → Value} {st st' : St} {o : Oper} (hA : Agree C o st st') (S : Sim C w0 N st' a w J) {i : Nat} {B : Blk} (h : st.h i = some B) (hl : (st'.h i).isSome = true) : RepB C w w0.heap.size st'.h J (J i) B := by
  rcases hA.hp i B h with e | ⟨B', e, m⟩
  · rw [e] at hl; cases hl
  · exact m.rep (S.blk i B' e)
theorem v_load_bx {o : Oper} {st : St} {T : TypeId} {x : Operand} {cs : List AV} {i off : Nat} {c : AV} (ty : Ty C.P) (ho : o.op = .load T x) (hd : dstB N o.dst = true) (hT : (ty.ty T).scal = true) (hx : st.ev C x = .bx i off) (hi : st.h i = some (.box cs)) (hc : cs[off]? = some c) : ValOp C N o st c :=
  valop_run hd fun w0 a w J st' hA S => by
    have e1 := S.eval x
    rw [hA.ev x (by simp [ho, Op.operands]), hx] at e1
    obtain ⟨hl, b, hb, hv⟩ := e1
    obtain ⟨b', T', us, q1, q2, q3, q4, q5, q6⟩ := blkOf hA S hi hl
    rw [q1] at hb; simp [bk] at hb; subst hb
    have hlt : off < us.size := by rw [q4]; exact (List.getElem?_eq_some_iff.1 hc).1
    have hcell : w.cell? ⟨b', off, none⟩ = some us[off] := by simp [World.cell?, q3, hlt]
    exact ⟨us[off], w, by simp [execOp, ho, hv, run_load_scal ((ty.ok T).scal hT) hcell], Ext.refl _, q6 off _ _ (by simp [hlt]) hc⟩
theorem repA_f {w : World} {h : Nat → Option Blk} {J : Nat → Value} {us : List Value} {xs : List FV} (hr : ∀ (k : Nat) (u : Value) (x : AV), us[k]? = some u → (xs.map AV.f)[k]? = some x → RepA C w h J u x) (hl : us.length = xs.length) : RepL w (Mb C h J) us xs :=
  ⟨hl, fun k u x h1 h2 => hr k u (.f x) h1 (by simp [h2])⟩
theorem v_load_bxs {o : Oper} {st : St} {T : TypeId} {x : Operand} {cs : List AV} {i off n : Nat} {sub : List FV} (ty : Ty C.P) (ho : o.op = .load T x) (hd : dstB N o.dst = true) (hT : (ty.ty T).agg = some n) (hx : st.ev C x = .bx i off) (hi : st.h i = some (.box cs)) (hc : (cs.drop off).take n = sub.map AV.f) (hn : sub.length = n) : ValOp C N o st (.f (.agg sub)) :=
  valop_run hd fun w0 a w J st' hA S => by
    have e1 := S.eval x
    rw [hA.ev x (by simp [ho, Op.operands]), hx] at e1
    obtain ⟨hl, b, hb, hv⟩ := e1
    obtain ⟨b', T', us, q1, q2, q3, q4, q5, q6⟩ := blkOf hA S hi hl
    rw [q1] at hb; simp [bk] at hb; subst hb
    have hlen : ((us.toList.drop off).take n).length = n := by
      have := congrArg List.length hc
      simp [List.length_take, List.length_drop] at this ⊢
      omega
    have R : RepL w (Mb C st'.h J) ((us.toList.drop off).take n) sub := repA_f (fun k u x h1 h2 => by
      rw [← hc, List.getElem?_take] at h2
      rw [List.getElem?_take] at h1
      split at h1
      · rename_i hk
        rw [if_pos hk, List.getElem?_drop] at h2
        rw [List.getElem?_drop] at h1
        exact q6 _ u x (by simpa using h1) h2
      · cases h1) (hlen.trans hn.symm)
    refine ⟨.agg ((us.toList.drop off).take n).toArray, w, ?_, Ext.refl _, RepF.agg _ _ R.1 (fun u hu => q5 u (List.mem_of_mem_drop (List.mem_of_mem_take hu))) R.2⟩
    simp only [execOp, ho, hv, Sem.run_bind]
    rw [run_load_agg ((ty.ok T).agg n hT) ((us.toList.drop off).take n) hlen (fun k hk => ?_)]
    · rfl
    · rw [hlen] at hk
      rw [List.getElem?_take, if_pos hk, List.getElem?_drop]
      simp [World.cell?, q3]
theorem v_load_row {o : Oper} {st : St} {T : TypeId} {x : Operand} {cs : List FV} {e sz m i off : Nat} {c : FV} (ty : Ty C.P) (ho : o.op = .load T x) (hd : dstB N o.dst = true) (hT : (ty.ty T).scal = true) (hx : st.ev C x = .bx i off) (hi : st.h i = some (.row e sz m cs)) (hc : cs[off]? = some c) : ValOp C N o st (.f c) :=
  valop_run hd fun w0 a w J st' hA S => by
    have e1 := S.eval x
    rw [hA.ev x (by simp [ho, Op.operands]), hx] at e1
    obtain ⟨hl, b, hb, hv⟩ := e1
    obtain ⟨xs, q1, q0, q2, q3⟩ := blkOf hA S hi hl
    obtain ⟨u, hu, hru⟩ := q3.get hc
    have hlt := (List.getElem?_eq_some_iff.1 hu).1
    have hown : (J i).ownBlock = some b := by
      obtain ⟨a1, c1, e2⟩ := q1.isSlice
      rw [e2] at hb ⊢
      cases a1 <;> simp [bk, Value.ownBlock] at hb ⊢; exact hb
    have hcell := q1.cells hown off u hu
    rw [addr_add, Nat.zero_add] at hcell
    exact ⟨u, w, by simp [execOp, ho, hv, run_load_scal ((ty.ok T).scal hT) hcell], Ext.refl _, hru⟩
theorem v_fld_pt {o : Oper} {st : St} {T f : Nat} {x : Operand} {cs : List FV} {off fo : Nat} (ty : Ty C.P) (ho : o.op = .fieldAddr T x f) (hd : dstB N o.dst = true) (hT : (ty.ty T).fld[f]? = some fo) (hx : st.ev C x = .f (.pt cs off)) : ValOp C N o st (.f (.pt cs (off + fo))) :=
  valop_run hd fun w0 a w J st' hA S => by
    have e1 := evF S ((hA.ev x (by simp [ho, Op.operands])).trans hx)
    generalize hv : a.eval x = v at e1
    cases e1 with
    | pt b of _ _ us h1 h2 h3 h4 =>
      refine ⟨_, w, by simp [execOp, ho, hv, run_field ((ty.ok T).fld f fo hT)]; rfl, Ext.refl _, ?_⟩
      rw [Nat.add_assoc]
      exact RepF.pt b of _ _ us h1 h2 h3 h4
theorem v_fld_bx {o : Oper} {st : St} {T f : Nat} {x : Operand} {i off fo : Nat} (ty : Ty C.P) (ho : o.op = .fieldAddr T x f) (hd : dstB N o.dst = true) (hT : (ty.ty T).fld[f]? = some fo) (hx : st.ev C x = .bx i off) : ValOp C N o st (.bx i (off + fo)) :=
  valop_run hd fun w0 a w J st' hA S => by
    have e1 := S.eval x
    rw [hA.ev x (by simp [ho, Op.operands]), hx] at e1
    obtain ⟨hl, b, hb, hv⟩ := e1
    exact ⟨_, w, by simp [execOp, ho, hv, run_field ((ty.ok T).fld f fo hT)], Ext.refl _, hl, b, hb, rfl⟩
theorem v_idx {o : Oper} {st : St} {T : TypeId} {x y : Operand} {cs : List FV} {n E s bs : Nat} {k : IntKind} {z : Int} (ty : Ty C.P) (ho : o.op = .indexAddr T x y) (hd : dstB N o.dst = true) (hT : (ty.ty T).sl = some (E, s, bs)) (hx : st.ev C x = .f (.sl n cs)) (hy : st.ev C y = .f (.v (.int k z)))
    (h0 : 0 ≤ z) (hn : z < n) (hc : cs ≠ []) : ValOp C N o st (.f (.pt cs (z.toNat * s))) :=
  valop_run hd fun w0 a w J st' hA S => by
    have e1 := evF S ((hA.ev x (by simp [ho, Op.operands])).trans hx)
    have e2 := evV S ((hA.ev y (by simp [ho, Op.operands])).trans hy)
    generalize hv : a.eval x = v at e1
    cases e1 with
    | sl ad _ c _ us h0' h1 h2 h3 h4 =>
      obtain ⟨b, off, rfl, hl⟩ := h3 (fun e => by rw [e] at h1; exact hc (List.eq_nil_of_length_eq_zero h1.symm))
      exact ⟨_, w, by simp [execOp, ho, hv, e2, run_idx ((ty.ok T).sl _ hT) h0 hn], Ext.refl _, RepF.pt b off _ _ us h1 h2 hl h4⟩
theorem v_idx_ow {o : Oper} {st : St} {T : TypeId} {x y : Operand} {cs : List FV} {i n e sz E s bs : Nat} {k : IntKind} {z : Int} (ty : Ty C.P) (ho : o.op = .indexAddr T x y) (hd : dstB N o.dst = true) (hT : (ty.ty T).sl = some (E, s, bs)) (hx : st.ev C x = .ow i) (hi : st.h i = some (.row e sz n cs)) (hy : st.ev C y = .f (.v (.int k z)))
    (h0 : 0 ≤ z) (hn : z < n) : ValOp C N o st (.bx i (z.toNat * s)) :=
  valop_run hd fun w0 a w J st' hA S => by
    have e1 := S.eval x
    rw [hA.ev x (by simp [ho, Op.operands]), hx] at e1
    have e2 := evV S ((hA.ev y (by simp [ho, Op.operands])).trans hy)
    obtain ⟨hl, hv⟩ := e1
    obtain ⟨xs, q1, q0, q2, q3⟩ := blkOf hA S hi hl
    rcases q1.2 with ⟨_, h⟩ | ⟨g, cap, cur, hj, _⟩
    · omega
    · refine ⟨_, w, by simp [execOp, ho, hv, e2, hj, run_idx ((ty.ok T).sl _ hT) h0 hn]; rfl, Ext.refl _, hl, g, by rw [hj]; rfl, by simp⟩
theorem v_len {o : Oper} {st : St} {T : TypeId} {x : Operand} {cs : List FV} {n E s bs : Nat} (ty : Ty C.P) (ho : o.op = .call { callee := .builtin .len, args := #[x], argTypes := #[T] }) (hd : dstB N o.dst = true) (hT : (ty.ty T).sl = some (E, s, bs)) (hx : st.ev C x = .f (.sl n cs)) : ValOp C N o st (.f (.v (.int .i64 n))) :=
  valop_run hd fun w0 a w J st' hA S => by
    have e1 := evF S ((hA.ev x (by simp [ho, Op.operands, Call.operands])).trans hx)
    have hu := (slE_spec ((ty.ok T).sl _ hT)).1
    generalize hv : a.eval x = v at e1
    cases e1 with
    | sl ad _ c _ us h0 h1 h2 h3 h4 =>
      exact ⟨_, w, by simp [execOp, ho, resolve, invoke, builtin, Builtin.len_, hv, run_underlying hu, goInt], Ext.refl _, RepF.v _⟩
theorem v_len_nil {o : Oper} {st : St} {T : TypeId} {x : Operand} {ad : Option Addr} {n c E s bs : Nat} (ty : Ty C.P) (ho : o.op = .call { callee := .builtin .len, args := #[x], argTypes := #[T] }) (hd : dstB N o.dst = true) (hT : (ty.ty T).sl = some (E, s, bs)) (hx : st.ev C x = .f (.v (.slice ad n c))) : ValOp C N o st (.f (.v (.int .i64 n))) :=
  valop_run hd fun w0 a w J st' hA S => by
    have e1 := evV S ((hA.ev x (by simp [ho, Op.operands, Call.operands])).trans hx)
    have hu := (slE_spec ((ty.ok T).sl _ hT)).1
    exact ⟨_, w, by simp [execOp, ho, resolve, invoke, builtin, Builtin.len_, e1, run_underlying hu, goInt], Ext.refl _, RepF.v _⟩
theorem v_len_ow {o : Oper} {st : St} {T : TypeId} {x : Operand} {cs : List FV} {i n e sz E s bs : Nat} (ty : Ty C.P) (ho : o.op = .call { callee := .builtin .len, args := #[x], argTypes := #[T] }) (hd : dstB N o.dst = true) (hT : (ty.ty T).sl = some (E, s, bs)) (hx : st.ev C x = .ow i) (hi : st.h i = some (.row e sz n cs)) : ValOp C N o st (.f (.v (.int .i64 n))) :=
  valop_run hd fun w0 a w J st' hA S => by
    have e1 := S.eval x
    rw [hA.ev x (by simp [ho, Op.operands, Call.operands]), hx] at e1
    obtain ⟨hl, hv⟩ := e1
    have hu := (slE_spec ((ty.ok T).sl _ hT)).1
    obtain ⟨xs, q1, q0, q2, q3⟩ := blkOf hA S hi hl
    rcases q1.2 with ⟨e2, rfl⟩ | ⟨g, cap, cur, e2, _⟩
    · exact ⟨_, w, by simp [execOp, ho, resolve, invoke, builtin, Builtin.len_, hv, e2, run_underlying hu, goInt], Ext.refl _, RepF.v _⟩
    · exact ⟨_, w, by simp [execOp, ho, resolve, invoke, builtin, Builtin.len_, hv, e2, run_underlying hu, goInt], Ext.refl _, RepF.v _⟩
end
end Go.Ab
namespace Go.Ab
open Go Go.RowKit
def cellsF : FV → Option (List FV)
  | .agg cs => some cs
  | .tup _ => none
  | .v x => bif x.oneCell' then some [.v x] else none
  | x => some [x]
theorem repCells {w : World} {M : Nat → Prop} {u : Value} {x : FV} {xs : List FV} (h : RepF w M u x) (hc : cellsF x = some xs) : RepL w M u.cells.toList xs ∧ ∀ y ∈ u.cells.toList, y.oneCell' = true := by
  cases h with
  | v _ =>
    simp only [cellsF] at hc
    cases ho : u.oneCell' with
    | false => simp [ho] at hc
    | true =>
      simp [ho] at hc; subst hc
      have e : u.cells = #[u] := by cases u <;> simp_all [Value.oneCell', Value.cells]
      rw [e]
      exact ⟨RepL.cons (RepF.v u) (RepL.nil _ _), by simpa using ho⟩
  | sl a n c cs us h1 h2 h3 h4 h5 =>
    simp only [cellsF, Option.some.injEq] at hc; subst hc
    exact ⟨RepL.cons (RepF.sl a n c cs us h1 h2 h3 h4 h5) (RepL.nil _ _), by simp [Value.cells, Value.oneCell']⟩
  | agg cs us h1 h2 h3 =>
    simp only [cellsF, Option.some.injEq] at hc; subst hc
    exact ⟨⟨by simpa [Value.cells] using h1, fun k u x a b => h3 k u x (by simpa [Value.cells] using a) b⟩, by simpa [Value.cells] using h2⟩
  | tup cs us h1 h2 => simp [cellsF] at hc
  | pt b off o cs us h1 h2 h3 h4 =>
    simp only [cellsF, Option.some.injEq] at hc; subst hc
    exact ⟨RepL.cons (RepF.pt b off o cs us h1 h2 h3 h4) (RepL.nil _ _), by simp [Value.cells, Value.oneCell']⟩
  | fn f cs us h1 h2 =>
    simp only [cellsF, Option.some.injEq] at hc; subst hc
    exact ⟨RepL.cons (RepF.fn f cs us h1 h2) (RepL.nil _ _), by simp [Value.cells, Value.oneCell']⟩
  | slc a n cs us h1 h1' h2 h3 h4 =>
    simp only [cellsF, Option.some.injEq] at hc; subst hc
    exact ⟨RepL.cons (RepF.slc a n cs us h1 h1' h2 h3 h4) (RepL.nil _ _), by simp [Value.cells, Value.oneCell']⟩
  | mp r G h =>
    simp only [cellsF, Option.some.injEq] at hc; subst hc
    exact ⟨RepL.cons (RepF.mp r G h) (RepL.nil _ _), by simp [Value.cells, Value.oneCell']⟩
  | any u G h1 h2 =>
    simp only [cellsF, Option.some.injEq] at hc; subst hc
    have e : u.cells = #[u] := by cases u <;> simp_all [Value.oneCell', Value.cells]
    rw [e]
    exact ⟨RepL.cons (RepF.any u G h1 h2) (RepL.nil _ _), by simpa using h2⟩
  | tab b l h1 h2 =>
    simp only [cellsF, Option.some.injEq] at hc; subst hc
    exact ⟨RepL.cons (RepF.tab b l h1 h2) (RepL.nil _ _), by simp [Value.cells, Value.oneCell']⟩
def setAt {α : Type} : List α → Nat → List α → List α
  | cs, _, [] => cs
  | cs, o, x :: r => setAt (cs.set o x) (o + 1) r
theorem setAt_length {α : Type} : ∀ (r cs : List α) (o : Nat), (setAt cs o r).length = cs.length
  | [], _, _ => rfl
  | _ :: r, cs, o => by rw [setAt, setAt_length r]; simp
theorem RepL.set {w : World} {M : Nat → Prop} {us : List Value} {xs : List FV} (h : RepL w M us xs) {u : Value} {x : FV} (hu : RepF w M u x) (k : Nat) : RepL w M (us.set k u) (xs.set k x) :=
  ⟨by simp [h.1], fun j u' x' h1 h2 => by
    rw [List.getElem?_set] at h1 h2
    by_cases e : k = j
    · subst e
      by_cases hk : k < us.length
      · simp only [if_true, hk] at h1; simp only [if_true, ← h.1, hk] at h2; cases h1; cases h2; exact hu
      · simp only [if_true, hk, if_false] at h1; cases h1
    · rw [if_neg e] at h1 h2; exact h.2 j u' x' h1 h2⟩
theorem RepL.setAt {w : World} {M : Nat → Prop} : ∀ {us' : List Value} {xs' : List FV} {us : List Value} {xs : List FV} (o : Nat), RepL w M us xs → RepL w M us' xs' → RepL w M (Ab.setAt us o us') (Ab.setAt xs o xs')
  | [], [], _, _, _, h, _ => h
  | [], _ :: _, _, _, _, _, h => by have := h.1; simp at this
  | u :: us', [], _, _, _, _, h => by have := h.1; simp at this
  | u :: us', x :: xs', us, xs, o, h, h' => by
    obtain ⟨u0, us0, e, h1, h2⟩ := h'.head
    cases e
    exact RepL.setAt (o + 1) (h.set h1 o) h2
theorem setAt_mem {α : Type} {p : α → Prop} : ∀ {r cs : List α} {o : Nat}, (∀ u ∈ cs, p u) → (∀ u ∈ r, p u) → ∀ u ∈ setAt cs o r, p u
  | [], _, _, h, _ => h
  | x :: r, cs, o, h, h' => setAt_mem (r := r) (fun u hu => by
      rcases List.mem_or_eq_of_mem_set hu with h1 | h1
      · exact h u h1
      · subst h1; exact h' u (by simp)) (fun u hu => h' u (by simp [hu]))
def fillF (place : Nat → Option (Nat × Nat)) : List FV → List (Nat × FV) → Option (List FV)
  | cs, [] => some cs
  | cs, (i, x) :: r => match place i, cellsF x with
    | some (off, size), some xs => bif Nat.beq xs.length size && Nat.ble (off + xs.length) cs.length then fillF place (setAt cs off xs) r else none
    | _, _ => none
theorem fold_setAt (o : Nat) : ∀ (vs : List Value) (k : Nat) (cs : Array Value), ((vs.zipIdx k).foldl (fun cs (c, j) => cs.setIfInBounds (o + j) c) cs).toList = setAt cs.toList (o + k) vs
  | [], _, _ => rfl
  | v :: vs, k, cs => by
    rw [List.zipIdx_cons, List.foldl_cons, fold_setAt o vs (k + 1)]
    simp [setAt, Nat.add_assoc]
theorem fill_of {w : World} {M : Nat → Prop} (place : Nat → Option (Nat × Nat)) : ∀ (parts : List (Nat × Value)) (xs : List (Nat × FV)) (us : Array Value) (cs cs' : List FV), RepL w M us.toList cs → (∀ u ∈ us.toList, u.oneCell' = true) →
    parts.length = xs.length → (∀ (k : Nat) (p : Nat × Value) (x : Nat × FV), parts[k]? = some p → xs[k]? = some x → p.1 = x.1 ∧ RepF w M p.2 x.2) → fillF place cs xs = some cs' →
    ∃ us', Instr.fill place us parts = some us' ∧ RepL w M us'.toList cs' ∧ ∀ u ∈ us'.toList, u.oneCell' = true
  | [], [], us, cs, cs', h, h1, _, _, hf => by simp [fillF] at hf; subst hf; exact ⟨us, rfl, h, h1⟩
  | [], _ :: _, _, _, _, _, _, hl, _, _ => by simp at hl
  | _ :: _, [], _, _, _, _, _, hl, _, _ => by simp at hl
  | (i, v) :: parts, (j, x) :: xs, us, cs, cs', h, h1, hl, hr, hf => by
    obtain ⟨e, hv⟩ := hr 0 (i, v) (j, x) rfl rfl
    simp only at e hv; subst e
    unfold fillF at hf
    split at hf
    · rename_i off size ys hp hc
      obtain ⟨R, o1⟩ := repCells hv hc
      cases hb : Nat.beq ys.length size && Nat.ble (off + ys.length) cs.length with
      | false => simp [hb] at hf
      | true =>
        simp only [hb, cond_true] at hf
        simp only [Bool.and_eq_true] at hb
        have e1 := Nat.eq_of_beq_eq_true hb.1
        have e2 := Nat.le_of_ble_eq_true hb.2
        have s1 : v.cells.size = ys.length := by have := R.1; simpa using this
        have s2 : us.size = cs.length := by have := h.1; simpa using this
        have efold : ((v.cells.zipIdx.foldl (fun cs (c, j) => cs.setIfInBounds (off + j) c) us)).toList = setAt us.toList off v.cells.toList := by
          have := fold_setAt off v.cells.toList 0 us
          rw [Nat.add_zero] at this
          rw [← this]
          congr 1
          rw [← Array.foldl_toList, Array.toList_zipIdx]
        obtain ⟨us', q1, q2, q3⟩ := fill_of place parts xs (v.cells.zipIdx.foldl (fun cs (c, j) => cs.setIfInBounds (off + j) c) us) (setAt cs off ys) cs'
          (by rw [efold]; exact RepL.setAt off h R) (by rw [efold]; exact setAt_mem h1 o1) (by simpa using hl) (fun k p x a b => hr (k + 1) p x (by simpa using a) (by simpa using b)) hf
        refine ⟨us', ?_, q2, q3⟩
        unfold Instr.fill
        simp only [hp]
        rw [if_neg (by simp; omega)]
        exact q1
    · cases hf
section
variable {C : Ctx} {N : Nat}
def St.evP (C : Ctx) (st : St) : List (Nat × Operand) → Option (List (Nat × FV))
  | [] => some []
  | (i, x) :: r => match st.ev C x, St.evP C st r with
    | .f y, some l => some ((i, y) :: l)
    | _, _ => none
def St.evL (C : Ctx) (st : St) : List Operand → Option (List FV)
  | [] => some []
  | x :: r => match st.ev C x, St.evL C st r with
    | .f y, some l => some (y :: l)
    | _, _ => none
theorem evL_rep {w0 : World} {a : Act} {w : World} {J : Nat → Value} {st st' : St} (S : Sim C w0 N st' a w J) : ∀ {l : List Operand} {xs : List FV}, (∀ x ∈ l, st'.ev C x = st.ev C x) → st.evL C l = some xs → RepL w (Mb C st'.h J) (l.map a.eval) xs
  | [], xs, _, h => by simp [St.evL] at h; subst h; exact RepL.nil _ _
  | x :: r, xs, hA, h => by
    unfold St.evL at h
    split at h
    · rename_i y l e1 e2
      simp at h; subst h
      exact RepL.cons (evF S ((hA x (by simp)).trans e1)) (evL_rep S (fun y hy => hA y (by simp [hy])) e2)
    · cases h
theorem evP_rep {w0 : World} {a : Act} {w : World} {J : Nat → Value} {st st' : St} (S : Sim C w0 N st' a w J) : ∀ {l : List (Nat × Operand)} {xs : List (Nat × FV)}, (∀ x ∈ l, st'.ev C x.2 = st.ev C x.2) → st.evP C l = some xs →
    (l.map fun p => (p.1, a.eval p.2)).length = xs.length ∧ ∀ (k : Nat) (p : Nat × Value) (x : Nat × FV), (l.map fun p => (p.1, a.eval p.2))[k]? = some p → xs[k]? = some x → p.1 = x.1 ∧ RepF w (Mb C st'.h J) p.2 x.2
  | [], xs, _, h => by simp [St.evP] at h; subst h; exact ⟨rfl, fun k p x h => by simp at h⟩
  | (i, x) :: r, xs, hA, h => by
    unfold St.evP at h
    split at h
    · rename_i y l e1 e2
      simp at h; subst h
      obtain ⟨q1, q2⟩ := evP_rep S (fun y hy => hA y (by simp [hy])) e2
      refine ⟨by simpa using q1, fun k p z h1 h2 => ?_⟩
      cases k with
      | zero => simp at h1 h2; subst h1; subst h2; exact ⟨rfl, evF S ((hA (i, x) (by simp)).trans e1)⟩
      | succ k => exact q2 k p z (by simpa using h1) (by simpa using h2)
    · cases h
theorem repV_list {w : World} {M : Nat → Prop} (zs : List Value) : RepL w M zs (zs.map .v) :=
  ⟨by simp, fun k u x h1 h2 => by
    rw [List.getElem?_map, h1] at h2; simp at h2; subst h2; exact RepF.v u⟩
theorem v_build {o : Oper} {st : St} {T : TypeId} {parts : Array (Nat × Operand)} {pl : List (Nat × Nat)} {zs : List Value} {xs : List (Nat × FV)} {cs : List FV} (ty : Ty C.P) (ho : o.op = .build T parts) (hd : dstB N o.dst = true)
    (hpl : (ty.ty T).pl = some pl) (hz : (ty.ty T).zero = some zs) (hp : st.evP C parts.toList = some xs) (hf : fillF (fun i => pl[i]?) (zs.map .v) xs = some cs) : ValOp C N o st (.f (.agg cs)) :=
  valop_run hd fun w0 a w J st' hA S => by
    obtain ⟨q1, q2⟩ := evP_rep (st := st) S (fun x hx => hA.ev x.2 (by simp only [ho, Op.operands]; simp; exact ⟨x.1, by simpa using hx⟩)) hp
    have hz' := (ty.ok T).zero zs hz
    have h1 := (ty.ok T).one zs hz
    replace hpl := (ty.ok T).pl pl hpl
    obtain ⟨it, hi⟩ : ∃ it, C.P.info? T = some it := by unfold zeroC at hz'; cases h : C.P.info? T with | none => simp [h] at hz' | some it => exact ⟨it, rfl⟩
    obtain ⟨z, hzz, hzl⟩ : ∃ z, it.zero = some z ∧ z.cells.toList = zs := by unfold zeroC at hz'; simp [hi] at hz'; exact hz'
    obtain ⟨us, r1, r2, r3⟩ := fill_of (M := Mb C st'.h J) (w := w) (fun i => pl[i]?) (parts.toList.map fun p => (p.1, a.eval p.2)) xs z.cells (zs.map .v) cs (by rw [hzl]; exact repV_list zs) (by rw [hzl]; exact h1) q1 q2 hf
    refine ⟨.agg us, w, ?_, Ext.refl _, ?_⟩
    · simp only [execOp, ho, Sem.run_bind]
      rw [run_build w T _ us ?_]
      · rfl
      · unfold plC at hpl
        unfold Program.built
        cases hu : C.P.underlying T with
        | none => simp [hu] at hpl
        | some d => cases d <;> simp [hu] at hpl; simpa [hi, hzz, hpl] using r1
    · have := RepF.agg (w := w) (M := Mb C st'.h J) cs us.toList r2.1 r3 r2.2
      show RepF _ _ _ _
      simpa using this
theorem lies_new {w : World} {M : Nat → Prop} (hM : ∀ b, M b → b < w.heap.size) (us : List Value) (T : TypeId) : Lies (w.alloc (.cells us.toArray T)) M w.heap.size 0 us :=
  ⟨by simp, fun h => by have := hM _ h; omega, fun k hk => by rw [Nat.zero_add, World.cell_at rfl]; simp⟩
theorem mb_lt {w0 : World} {a : Act} {w : World} {J : Nat → Value} {st : St} (S : Sim C w0 N st a w J) : ∀ b, Mb C st.h J b → b < w.heap.size := fun _ h => S.mb h
theorem run_newVar {P : Program} {w : World} {T : TypeId} {v : Value} : (newVar T v).run P w = .ok ⟨w.heap.size, 0, none⟩ (w.alloc (.cells v.cells T)) := by
  rfl
theorem v_box {o : Oper} {st : St} {T : TypeId} {x : Operand} {y : FV} {cs : List FV} (ho : o.op = .box T x) (hd : dstB N o.dst = true) (hx : st.ev C x = .f y) (hc : cellsF y = some cs) : ValOp C N o st (.f (.pt cs 0)) :=
  valop_run hd fun w0 a w J st' hA S => by
    have e1 := evF S ((hA.ev x (by simp [ho, Op.operands])).trans hx)
    obtain ⟨R, o1⟩ := repCells e1 hc
    have R' := R.ext (Ext.alloc w (.cells (a.eval x).cells T)) (fun _ _ h => h)
    refine ⟨.pointer (some ⟨w.heap.size, 0, none⟩), _, by simp [execOp, ho, Instr.box, run_newVar]; rfl, Ext.alloc _ _, ?_⟩
    have L := lies_new (w := w) (mb_lt S) (a.eval x).cells.toList T
    simp only [Array.toArray_toList] at L
    have := RepF.pt w.heap.size 0 0 cs _ R'.1 o1 L R'.2
    show RepF _ _ _ _
    simpa using this
theorem Sim.al {w0 : World} {a : Act} {w : World} {J : Nat → Value} {st : St} (S : Sim C w0 N st a w J) {n : Nat} (hn : st.h n = none) {d : Option Tmp} (hd : dstB N d = true) {w' : World} (e : Ext w w') {v u : Value} {B : Blk} {r : AV}
    (hu : ∀ c, bk u = some c → w.heap.size ≤ c)
    (hB : RepB C w' w0.heap.size (upd st.h n (some B)) (upd J n u) u B) (hr : RepA C w' (upd st.h n (some B)) (upd J n u) v r) (hJ : B.stays = true → C.J0 n = none) : Sim C w0 N { s := (st.put d r).s, h := upd st.h n (some B), nx := st.nx } (a.put d v) w' (upd J n u) := by
  have S' := S.toExt e
  have hlive : ∀ i, (st.h i).isSome = true → i ≠ n := fun i hi e => by subst e; rw [hn] at hi; cases hi
  have hM : ∀ b, b < w.heap.size → Mb C (upd st.h n (some B)) (upd J n u) b → Mb C st.h J b := by
    rintro b hb (h0 | ⟨i, hi, hbi⟩)
    · exact .inl h0
    by_cases e : i = n
    · subst e; rw [upd_same] at hbi; have := hu _ hbi; omega
    · rw [upd_other _ _ e] at hi hbi; exact .inr ⟨i, hi, hbi⟩
  have conv : ∀ {v : Value} {x : AV}, RepA C w st.h J v x → RepA C w' (upd st.h n (some B)) (upd J n u) v x := by
    intro v x h
    exact h.same fun _ _ q => q.conv (fun i hi => ⟨by rw [upd_other _ _ (hlive i hi)]; exact hi, by rw [upd_other _ _ (hlive i hi)]⟩) fun _ _ h => RepF.ext h e hM
  have S2 : Sim C w0 N { s := st.s, h := upd st.h n (some B), nx := st.nx } a w' (upd J n u) := by
    refine ⟨S'.ext, S.size, S'.defs, fun t => conv (S.slot t), fun i B' hB' => ?_, fun i j b hi hj hbi hbj => ?_, S.old, fun g cs hg => RepF.ext (S.glob g cs hg) e hM, fun i p cells hp hc hs => ?_⟩
    · by_cases ei : i = n
      · subst ei
        simp only [upd_same, Option.some.injEq] at hB' ⊢
        subst hB'; exact hB
      · simp only [upd_other _ _ ei] at hB' ⊢
        have hb0 := S.blk i B' hB'
        exact hb0.conv0 (fun b hb => e.block b (hb0.ge hb).2) (fun _ _ h => h) (fun _ _ => conv) (fun _ _ h => RepF.ext h e hM)
    · by_cases ei : i = n <;> by_cases ej : j = n
      · omega
      · subst ei
        simp only [upd_same, upd_other _ _ ej] at hi hj hbi hbj
        have := hu _ hbi
        have := (S.own_at hj hbj).2; omega
      · subst ej
        simp only [upd_same, upd_other _ _ ei] at hi hj hbi hbj
        have := hu _ hbj
        have := (S.own_at hi hbi).2; omega
      · simp only [upd_other _ _ ei, upd_other _ _ ej] at hi hj hbi hbj
        exact S.apart i j b hi hj hbi hbj
    · by_cases ei : i = n
      · subst ei
        simp only [upd_same, Option.some.injEq] at hc
        subst hc
        rw [hJ hs] at hp; cases hp
      · simp only [upd_other _ _ ei] at hc ⊢
        exact S.fix i p cells hp hc hs
  have := S2.put hd hr
  cases d <;> exact this
theorem a_box {o : Oper} {st : St} {T : TypeId} {x : Operand} {y : FV} {cs : List FV} (ho : o.op = .box T x) (hd : dstB N o.dst = true) (hx : st.ev C x = .f y) (hc : cellsF y = some cs) (hJ : C.J0 st.nx = none) : AllOp C N o st (.bx st.nx 0) (.box (cs.map .f)) := by
  intro w0 a w st' hA hn ⟨J, S⟩ K Q hK
  have e1 := evF S ((hA.ev x (by simp [ho, Op.operands])).trans hx)
  obtain ⟨R, o1⟩ := repCells e1 hc
  refine op_value (show (execOp a.eval o).run C.P w = .ok (.value (.pointer (some ⟨w.heap.size, 0, none⟩))) (w.alloc (.cells (a.eval x).cells T)) by simp [execOp, ho, Instr.box, run_newVar]) ?_
  refine hK _ _ ⟨upd J st.nx (.pointer (some ⟨w.heap.size, 0, none⟩)), S.al hn hd (Ext.alloc _ _) (fun c hc => by simp [bk] at hc; omega) ?_ ?_ (fun _ => hJ)⟩
  · refine ⟨w.heap.size, T, (a.eval x).cells, rfl, .inl S.ext.le, World.alloc_heap_new _ _, by have := R.1; simpa using this, o1, fun k u x h1 h2 => ?_⟩
    rw [List.getElem?_map] at h2
    cases hk : cs[k]? with
    | none => simp [hk] at h2
    | some y =>
      simp [hk] at h2; subst h2
      have h1' : (a.eval ‹_›).cells.toList[k]? = some u := by simpa using h1
      exact RepF.ext (R.2 k u y h1' hk) (Ext.alloc _ _) (fun b hb => by
        rintro (h0 | ⟨i, hi, hbi⟩)
        · exact .inl h0
        by_cases e : i = st.nx
        · subst e; rw [upd_same] at hbi; simp [bk] at hbi; omega
        · rw [upd_other _ _ e] at hi hbi; exact .inr ⟨i, hi, hbi⟩)
  · exact ⟨by rw [upd_same]; rfl, w.heap.size, by rw [upd_same]; rfl, rfl⟩
theorem a_alloc {o : Oper} {st : St} {T : TypeId} {zs : List Value} (ty : Ty C.P) (ho : o.op = .alloc T) (hd : dstB N o.dst = true) (hz : (ty.ty T).zero = some zs) (hJ : C.J0 st.nx = none) : AllOp C N o st (.bx st.nx 0) (.box (zs.map fun z => .f (.v z))) := by
  intro w0 a w st' hA hn ⟨J, S⟩ K Q hK
  have hz' := (ty.ok T).zero zs hz
  have h1 := (ty.ok T).one zs hz
  obtain ⟨it, hi⟩ : ∃ it, C.P.info? T = some it := by unfold zeroC at hz'; cases h : C.P.info? T with | none => simp [h] at hz' | some it => exact ⟨it, rfl⟩
  obtain ⟨z, hzz, hzl⟩ : ∃ z, it.zero = some z ∧ z.cells.toList = zs := by unfold zeroC at hz'; simp [hi] at hz'; exact hz'
  refine op_value (show (execOp a.eval o).run C.P w = .ok (.value (.pointer (some ⟨w.heap.size, 0, none⟩))) (w.alloc (.cells z.cells T)) by simp [execOp, ho, Instr.alloc, run_newVar, zeroValue, typeInfo, hi, hzz]) ?_
  refine hK _ _ ⟨upd J st.nx (.pointer (some ⟨w.heap.size, 0, none⟩)), S.al hn hd (Ext.alloc _ _) (fun c hc => by simp [bk] at hc; omega) ?_ ?_ (fun _ => hJ)⟩
  · refine ⟨w.heap.size, T, z.cells, rfl, .inl S.ext.le, World.alloc_heap_new _ _, by rw [← hzl]; simp, by rw [hzl]; exact h1, fun k u x h1 h2 => ?_⟩
    rw [← hzl, List.getElem?_map] at h2
    have h1' : z.cells.toList[k]? = some u := by simpa using h1
    rw [h1'] at h2; simp at h2; subst h2
    exact RepF.v u
  · exact ⟨by rw [upd_same]; rfl, w.heap.size, by rw [upd_same]; rfl, rfl⟩
end
end Go.Ab
namespace Go.Ab
open Go Go.RowKit
def initF (zs : List Value) (n : Nat) : List FV := (List.range n).map fun k => .v (zs.getD (k % zs.length) default)
theorem madeCells_list (z : Array Value) (n : Nat) : (madeCells z n).toList = (List.range n).map fun k => z.toList.getD (k % z.size) default := by
  unfold madeCells
  rw [Array.toList_map, Array.toList_range]
  congr 1
  funext k
  rw [Array.getElem!_eq_getD, Array.getD_eq_getD_getElem?]
  simp [List.getD]
theorem made_rep {w : World} {M : Nat → Prop} (z : Array Value) (n : Nat) : RepL w M (madeCells z n).toList (initF z.toList n) := by
  rw [madeCells_list]
  refine ⟨by simp [initF], fun k u x h1 h2 => ?_⟩
  unfold initF at h2
  rw [List.getElem?_map] at h1 h2
  cases hk : (List.range n)[k]? with
  | none => simp [hk] at h1
  | some j => simp [hk] at h1 h2; subst h1; subst h2; exact RepF.v _
theorem made_one (z : Array Value) (n : Nat) (h : ∀ u ∈ z.toList, u.oneCell' = true) : ∀ u ∈ (madeCells z n).toList, u.oneCell' = true := by
  rw [madeCells_list]
  intro u hu
  obtain ⟨k, _, rfl⟩ := List.mem_map.1 hu
  rw [List.getD_eq_getElem?_getD]
  cases hk : z.toList[k % z.size]? with
  | none => rfl
  | some y => exact h y (List.mem_of_getElem? hk)
theorem zero_spec {P : Program} {T : TypeId} {zs : List Value} (h : zeroC P T = some zs) : ∃ it z, P.info? T = some it ∧ it.zero = some z ∧ z.cells.toList = zs := by
  unfold zeroC at h
  cases hi : P.info? T with
  | none => simp [hi] at h
  | some it => simp [hi] at h; obtain ⟨z, h1, h2⟩ := h; exact ⟨it, z, rfl, h1, h2⟩
theorem run_buildSlice {P : Program} {w : World} {T E s bs len : Nat} {zs : List Value} {parts : Array (Nat × Value)} {us : Array Value} (hT : slE P T = some (E, s, bs)) (hz : zeroC P E = some zs) (hs : len * s ≤ 16777216)
    (hf : ∀ z : Value, z.cells.toList = zs → Instr.fill (fun i => some (i * s, s)) (madeCells z.cells (len * s)) parts.toList = some us) :
    (Instr.buildSlice T len parts).run P w = .ok (.slice (some ⟨w.heap.size, 0, none⟩) len len) (w.alloc (.cells us E)) := by
  obtain ⟨hu, i, hi, rfl, _⟩ := slE_spec hT
  obtain ⟨it, z, hi', hz', hl⟩ := zero_spec hz
  rw [hi] at hi'; cases hi'
  have h := hf z hl
  have hs' : ¬ len * i.size > 2 ^ 24 := by omega
  by_cases h0 : len * i.size = 0
  · rw [h0] at h
    have e : madeCells z.cells 0 = #[] := by simp [madeCells, Array.range_zero']
    rw [e] at h
    have e2 : ∀ (f : Nat → Value), (Array.range 0).map f = #[] := fun f => by simp [Array.range_zero']
    simp [Instr.buildSlice, run_underlying hu, sizeOf, typeInfo, hi, h0, newRow, e2, h]
  · have e : (Array.range (len * i.size)).map (z.cells[· % z.cells.size]!) = madeCells z.cells (len * i.size) := rfl
    simp [Instr.buildSlice, run_underlying hu, sizeOf, typeInfo, hi, hs', h0, zeroValue, hz', e, h, newRow]
section
variable {C : Ctx} {N : Nat}
theorem v_bslice {o : Oper} {st : St} {T len E s bs : Nat} {parts : Array (Nat × Operand)} {zs : List Value} {xs : List (Nat × FV)} {cs : List FV} (ty : Ty C.P) (ho : o.op = .buildSlice T len parts) (hd : dstB N o.dst = true)
    (hT : (ty.ty T).sl = some (E, s, bs)) (hz : (ty.ty E).zero = some zs) (hs : len * s ≤ 16777216) (hp : st.evP C parts.toList = some xs) (hf : fillF (fun i => some (i * s, s)) (initF zs (len * s)) xs = some cs) : ValOp C N o st (.f (.sl len cs)) :=
  valop_run hd fun w0 a w J st' hA S => by
    obtain ⟨q1, q2⟩ := evP_rep (st := st) S (fun x hx => hA.ev x.2 (by simp only [ho, Op.operands]; simp; exact ⟨x.1, by simpa using hx⟩)) hp
    have h1 := (ty.ok E).one zs hz
    obtain ⟨it, z, hi, hzz, hzl⟩ := zero_spec ((ty.ok E).zero zs hz)
    obtain ⟨us, r1, r2, r3⟩ := fill_of (M := Mb C st'.h J) (w := w) (fun i => some (i * s, s)) (parts.toList.map fun p => (p.1, a.eval p.2)) xs (madeCells z.cells (len * s)) (initF zs (len * s)) cs (by rw [← hzl]; exact made_rep _ _) (made_one _ _ (by rw [hzl]; exact h1)) q1 q2 hf
    have hrun := run_buildSlice (w := w) (len := len) (parts := parts.map fun (i, x) => (i, a.eval x)) (us := us) ((ty.ok T).sl _ hT) ((ty.ok E).zero zs hz) hs (fun z' hz' => by
      have e : z'.cells = z.cells := Array.ext' (by rw [hz', hzl])
      rw [e, Array.toList_map]; exact r1)
    refine ⟨_, _, by simp only [execOp, ho, Sem.run_bind]; rw [hrun]; rfl, Ext.alloc _ _, ?_⟩
    have R := r2.ext (Ext.alloc w (.cells us E)) (M' := Mb C st'.h J) (fun _ _ h => h)
    have L := lies_new (w := w) (mb_lt S) us.toList E
    simp only [Array.toArray_toList] at L
    exact RepF.sl _ len len cs us.toList (Nat.le_refl _) R.1 r3 (fun _ => ⟨_, _, rfl, L⟩) R.2
theorem hM_new {st : St} {J : Nat → Value} {w : World} {n : Nat} {B : Blk} {u : Value} (hu : ∀ c, bk u = some c → w.heap.size ≤ c) : ∀ b, b < w.heap.size → Mb C (upd st.h n (some B)) (upd J n u) b → Mb C st.h J b := by
  rintro b hb (h0 | ⟨i, hi, hbi⟩)
  · exact .inl h0
  by_cases e : i = n
  · subst e; rw [upd_same] at hbi; have := hu _ hbi; omega
  · rw [upd_other _ _ e] at hi hbi; exact .inr ⟨i, hi, hbi⟩
theorem a_bslice {o : Oper} {st : St} {T len E s bs : Nat} {parts : Array (Nat × Operand)} {zs : List Value} {xs : List (Nat × FV)} {cs : List FV} (ty : Ty C.P) (ho : o.op = .buildSlice T len parts) (hd : dstB N o.dst = true)
    (hT : (ty.ty T).sl = some (E, s, bs)) (hz : (ty.ty E).zero = some zs) (hs : len * s ≤ 16777216) (hs0 : 0 < s) (hp : st.evP C parts.toList = some xs) (hf : fillF (fun i => some (i * s, s)) (initF zs (len * s)) xs = some cs) (hl : cs.length = len * s) : AllOp C N o st (.ow st.nx) (.row E s len cs) := by
  intro w0 a w st' hA hn ⟨J, S⟩ K Q hK
  obtain ⟨q1, q2⟩ := evP_rep (st := st) S (fun x hx => hA.ev x.2 (by simp only [ho, Op.operands]; simp; exact ⟨x.1, by simpa using hx⟩)) hp
  have h1 := (ty.ok E).one zs hz
  obtain ⟨it, z, hi, hzz, hzl⟩ := zero_spec ((ty.ok E).zero zs hz)
  obtain ⟨us, r1, r2, r3⟩ := fill_of (M := Mb C st'.h J) (w := w) (fun i => some (i * s, s)) (parts.toList.map fun p => (p.1, a.eval p.2)) xs (madeCells z.cells (len * s)) (initF zs (len * s)) cs (by rw [← hzl]; exact made_rep _ _) (made_one _ _ (by rw [hzl]; exact h1)) q1 q2 hf
  have hrun := run_buildSlice (w := w) (len := len) (parts := parts.map fun (i, x) => (i, a.eval x)) (us := us) ((ty.ok T).sl _ hT) ((ty.ok E).zero zs hz) hs (fun z' hz' => by
    have e : z'.cells = z.cells := Array.ext' (by rw [hz', hzl])
    rw [e, Array.toList_map]; exact r1)
  refine op_value (show (execOp a.eval o).run C.P w = .ok (.value (.slice (some ⟨w.heap.size, 0, none⟩) len len)) (w.alloc (.cells us E)) by simp only [execOp, ho, Sem.run_bind]; rw [hrun]; rfl) ?_
  have hlen : us.size = len * s := by have := r2.1; rw [hl] at this; simpa using this
  have hle : len ≤ maxLen := by
    have : len * 1 ≤ len * s := Nat.mul_le_mul_left _ hs0
    unfold maxLen; omega
  refine hK _ _ ⟨upd J st.nx (.slice (some ⟨w.heap.size, 0, none⟩) len len), S.al hn hd (Ext.alloc _ _) (fun c hc => by simp [bk] at hc; omega) ?_ ?_ (fun e => by cases e)⟩
  · refine ⟨us.toList, ⟨by simpa using hlen, .inr ⟨w.heap.size, len, us, rfl, Nat.zero_le _, World.alloc_heap_new _ _, Nat.le_refl _, hle, hlen, ?_⟩⟩, fun b hb => .inl (by simp [bk] at hb; rw [← hb]; exact S.ext.le), r3, r2.ext (Ext.alloc _ _) (hM_new (fun c hc => by simp [bk] at hc; omega))⟩
    rw [← hlen, ← Array.length_toList, List.take_length]
  · exact ⟨by rw [upd_same]; rfl, by rw [upd_same]⟩
def closedC (h : Nat → Option Blk) : Cap → Bool
  | .f _ => true
  | .bx i _ => (h i).isSome
  | .ow i => (h i).isSome
  | .sv i _ _ => (h i).isSome
def closedA (h : Nat → Option Blk) : AV → Prop
  | .f _ => True
  | .bot => True
  | .bx i _ => (h i).isSome = true
  | .ow i => (h i).isSome = true
  | .sv i _ _ => (h i).isSome = true
  | .ag l => l.all (closedC h) = true
  | .tp l => l.all (closedC h) = true
  | .fb _ l => l.all (closedC h) = true
theorem closed_parts {h : Nat → Option Blk} {x : AV} (hc : closedA h x) : ∀ c ∈ x.parts, closedC h c = true := fun c hm => by
  cases x with
  | f x => simp only [AV.parts, List.mem_singleton] at hm; subst hm; rfl
  | bot => simp [AV.parts] at hm
  | bx i off => simp only [AV.parts, List.mem_singleton] at hm; subst hm; exact hc
  | ow i => simp only [AV.parts, List.mem_singleton] at hm; subst hm; exact hc
  | sv i off n => simp only [AV.parts, List.mem_singleton] at hm; subst hm; exact hc
  | ag l => exact List.all_eq_true.1 hc c hm
  | tp l => exact List.all_eq_true.1 hc c hm
  | fb f l => exact List.all_eq_true.1 hc c hm
def closedB (h : Nat → Option Blk) : Blk → Prop
  | .box cs => ∀ x ∈ cs, closedA h x
  | .row .. => True
  | .rowA _ _ _ cs => ∀ x ∈ cs, closedA h x
  | .arr _ _ _ cs => ∀ x ∈ cs, closedA h x
  | .map _ => True
  | .it x _ => closedA h x
structure Le (st st' : St) : Prop where
  s : ∀ t, st'.s t = .bot ∨ (st'.s t = st.s t ∧ closedA st'.h (st'.s t))
  h : ∀ i, st'.h i = none ∨ (∃ B, st'.h i = some B ∧ st.h i = some B ∧ closedB st'.h B)
theorem Sim.weaken {w0 : World} {a : Act} {w : World} {J : Nat → Value} {st st' : St} (S : Sim C w0 N st a w J) (L : Le st st') : Sim C w0 N st' a w J := by
  have live : ∀ i, (st'.h i).isSome = true → (st.h i).isSome = true := fun i hi => by
    rcases L.h i with e | ⟨B, e1, e2, _⟩
    · rw [e] at hi; cases hi
    · rw [e2]; rfl
  have hM : ∀ b, b < w.heap.size → Mb C st'.h J b → Mb C st.h J b := fun b _ h => h.imp id fun ⟨i, hi, hb⟩ => ⟨i, live i hi, hb⟩
  have conv : ∀ {v : Value} {x : AV}, RepA C w st.h J v x → closedA st'.h x → RepA C w st'.h J v x := by
    intro v x h hc
    refine h.sameP fun u c hm q => ?_
    have hcc := closed_parts hc c hm
    cases c with
    | f x => exact RepF.ext q (Ext.refl _) hM
    | bx i off => exact ⟨hcc, q.2⟩
    | ow i => exact ⟨hcc, q.2⟩
    | sv i off n => exact ⟨hcc, q.2⟩
  refine ⟨S.ext, S.size, S.defs, fun t => ?_, fun i B hB => ?_, fun i j b hi hj => S.apart i j b (live i hi) (live j hj), S.old, fun g cs hg => RepF.ext (S.glob g cs hg) (Ext.refl _) hM, fun i p cells hp hc hs => ?_⟩
  · rcases L.s t with e | ⟨e, hc⟩
    · rw [e]; trivial
    · have := S.slot t
      rw [e] at hc ⊢
      exact conv this hc
  · rcases L.h i with e | ⟨B', e1, e2, hc⟩
    · rw [e] at hB; cases hB
    · rw [e1] at hB; cases hB
      have hb0 := S.blk i B e2
      cases B with
      | box cells =>
        obtain ⟨b, T, us, q1, q2, q3, q4, q5, q6⟩ := hb0
        exact ⟨b, T, us, q1, q2, q3, q4, q5, fun k u x h1 h2 => conv (q6 k u x h1 h2) (hc x (List.mem_of_getElem? h2))⟩
      | row E sz m cells =>
        obtain ⟨xs, q1, q0, q2, q3⟩ := hb0
        exact ⟨xs, q1, q0, q2, q3.ext (Ext.refl _) hM⟩
      | rowA E sz m cells =>
        obtain ⟨xs, q1, q0, q2, q3, q4⟩ := hb0
        exact ⟨xs, q1, q0, q2, q3, fun k u x h1 h2 => conv (q4 k u x h1 h2) (hc x (List.mem_of_getElem? h2))⟩
      | arr E sz m cells =>
        obtain ⟨xs, q1, q0, q2, q3, q4⟩ := hb0
        exact ⟨xs, q1, q0, q2, q3, fun k u x h1 h2 => conv (q4 k u x h1 h2) (hc x (List.mem_of_getElem? h2))⟩
      | map G => exact hb0
      | it x G => obtain ⟨b, o, m, q1, q2, q3, q4, q5⟩ := hb0; exact ⟨b, o, m, q1, q2, q3, conv q4 hc, q5⟩
  · rcases L.h i with e | ⟨B', e1, e2, _⟩
    · rw [e] at hc; cases hc
    · rw [e1] at hc; cases hc
      exact S.fix i p cells hp e2 hs
theorem Sim.write {w0 : World} {a : Act} {w w' : World} {J : Nat → Value} {st : St} (S : Sim C w0 N st a w J) {i b : Nat} (hi : (st.h i).isSome = true) (hb : bk (J i) = some b) (g : w.grownBy w' (some b)) {B : Blk} (hB : RepB C w' w0.heap.size (upd st.h i (some B)) J (J i) B) (hk : B.stays = true → ∃ B', st.h i = some B' ∧ B'.stays = true) :
    Sim C w0 N { st with h := upd st.h i (some B) } a w' J := by
  have hMb : ∀ c, Mb C (upd st.h i (some B)) J c ↔ Mb C st.h J c := fun c => by
    constructor
    · rintro (h0 | ⟨j, hj, h⟩)
      · exact .inl h0
      by_cases e : j = i
      · subst e; exact .inr ⟨j, hi, h⟩
      · rw [upd_other _ _ e] at hj; exact .inr ⟨j, hj, h⟩
    · rintro (h0 | ⟨j, hj, h⟩)
      · exact .inl h0
      refine .inr ⟨j, ?_, h⟩
      by_cases e : j = i
      · subst e; rw [upd_same]; rfl
      · rw [upd_other _ _ e]; exact hj
  have mono : ∀ {u : Value} {x : FV}, RepF w (Mb C st.h J) u x → RepF w' (Mb C (upd st.h i (some B)) J) u x := fun h =>
    h.mono (fun c hc hm => g.block c hc (fun e => by cases e; exact hm (.inr ⟨i, hi, hb⟩))) g.size (fun c _ h => (hMb c).1 h)
  have live : ∀ j, (upd st.h i (some B) j).isSome = (st.h j).isSome := fun j => by
    by_cases e : j = i
    · subst e; rw [upd_same, hi]; rfl
    · rw [upd_other _ _ e]
  have conv : ∀ {v : Value} {x : AV}, RepA C w st.h J v x → RepA C w' (upd st.h i (some B)) J v x := by
    intro v x h
    exact h.same fun _ _ q => q.conv (fun i hi => ⟨by rw [live]; exact hi, rfl⟩) fun _ _ => mono
  refine ⟨S.ext.grown g (fun k hk => by cases hk; exact (S.own_at hi hb).1), S.size, S.marks hi (by rw [hb]; exact g), fun t => conv (S.slot t), fun j B' hB' => ?_, fun j k c hj hk => S.apart j k c (by rw [← live]; exact hj) (by rw [← live]; exact hk), S.old, fun gl cs hg => mono (S.glob gl cs hg), fun j p cells hp hc hs => ?_⟩
  · by_cases e : j = i
    · subst e; simp only [upd_same, Option.some.injEq] at hB'; subst hB'; exact hB
    · simp only [upd_other _ _ e] at hB'
      have hb0 := S.blk j B' hB'
      exact hb0.conv0 (fun c hc => g.block c (hb0.ge hc).2 (fun ec => e (S.apart j i b (by rw [hB']; rfl) hi (by cases ec; exact hc) hb))) (fun _ _ h => h) (fun _ _ => conv) (fun _ _ => mono)
  · by_cases e : j = i
    · subst e
      simp only [upd_same, Option.some.injEq] at hc
      subst hc
      obtain ⟨B', h', h2⟩ := hk hs
      exact S.fix j p B' hp h' h2
    · simp only [upd_other _ _ e] at hc
      exact S.fix j p cells hp hc hs
def cellsA : AV → Option (List AV)
  | .f x => (cellsF x).map (List.map .f)
  | .bx i o => some [.bx i o]
  | .ow i => some [.ow i]
  | .bot => none
  | .sv i off n => some [.sv i off n]
  | .ag l => some (l.map Cap.toA)
  | .tp _ => none
  | .fb f l => some [.fb f l]
theorem repCellsA {w : World} {h : Nat → Option Blk} {J : Nat → Value} {base : Nat} (hJ : ∀ i B, h i = some B → RepB C w base h J (J i) B) {u : Value} {x : AV} {xs : List AV} (hr : RepA C w h J u x) (hc : cellsA x = some xs) :
    u.cells.size = xs.length ∧ (∀ y ∈ u.cells.toList, y.oneCell' = true) ∧ ∀ (k : Nat) (v : Value) (y : AV), u.cells.toList[k]? = some v → xs[k]? = some y → RepA C w h J v y := by
  cases x with
  | f x =>
    simp only [cellsA, Option.map_eq_some_iff] at hc
    obtain ⟨ys, h1, rfl⟩ := hc
    obtain ⟨R, o1⟩ := repCells hr h1
    refine ⟨by have := R.1; simpa using this, o1, fun k v y a b => ?_⟩
    rw [List.getElem?_map] at b
    cases hk : ys[k]? with
    | none => simp [hk] at b
    | some z => simp [hk] at b; subst b; exact R.2 k v z a hk
  | bx i off =>
    simp [cellsA] at hc; subst hc
    obtain ⟨hl, b, hb, rfl⟩ := hr
    refine ⟨rfl, by simp [Value.cells, Value.oneCell'], fun k v y a c => ?_⟩
    cases k with
    | zero => simp [Value.cells] at a c; subst a; subst c; exact ⟨hl, b, hb, rfl⟩
    | succ k => simp at c
  | ow i =>
    simp [cellsA] at hc; subst hc
    obtain ⟨hl, rfl⟩ := hr
    obtain ⟨B, hB⟩ := Option.isSome_iff_exists.1 hl
    have h2 : (J i).cells = #[J i] ∧ (J i).oneCell' = true := by
      have := hJ i B hB
      cases B with
      | box cells => obtain ⟨b, T, us, q1, _⟩ := this; rw [q1]; exact ⟨rfl, rfl⟩
      | row E sz n cells => obtain ⟨xs, q1, _⟩ := this; obtain ⟨a, c, e⟩ := q1.isSlice; rw [e]; exact ⟨rfl, rfl⟩
      | rowA E sz n cells => obtain ⟨xs, q1, _⟩ := this; obtain ⟨a, c, e⟩ := q1.isSlice; rw [e]; exact ⟨rfl, rfl⟩
      | arr E sz n cells => obtain ⟨xs, q1, _⟩ := this; obtain ⟨a, c, e⟩ := q1.isSlice; rw [e]; exact ⟨rfl, rfl⟩
      | map G => obtain ⟨b, o, q1, _⟩ := this; rw [q1]; exact ⟨rfl, rfl⟩
      | it x G => obtain ⟨b, o, m, q1, _⟩ := this; rw [q1]; exact ⟨rfl, rfl⟩
    rw [h2.1]
    refine ⟨rfl, by simpa using h2.2, fun k v y a c => ?_⟩
    cases k with
    | zero => simp at a c; subst a; subst c; exact ⟨hl, rfl⟩
    | succ k => simp at c
  | bot => simp [cellsA] at hc
  | tp l => simp [cellsA] at hc
  | sv i off n =>
    simp [cellsA] at hc; subst hc
    obtain ⟨hl, ad, c, rfl, h1, h2⟩ := hr
    refine ⟨rfl, by simp [Value.cells, Value.oneCell'], fun k v y a' c' => ?_⟩
    cases k with
    | zero => simp [Value.cells] at a' c'; subst a'; subst c'; exact ⟨hl, ad, c, rfl, h1, h2⟩
    | succ k => simp at c'
  | fb f l =>
    simp [cellsA] at hc; subst hc
    obtain ⟨us, rfl, R⟩ := hr
    refine ⟨rfl, by simp [Value.cells, Value.oneCell'], fun k v y a' c' => ?_⟩
    cases k with
    | zero => simp [Value.cells] at a' c'; subst a'; subst c'; exact ⟨us, rfl, R⟩
    | succ k => simp at c'
  | ag l =>
    simp only [cellsA, Option.some.injEq] at hc; subst hc
    obtain ⟨us, rfl, ho, R⟩ := hr
    refine ⟨by simp [Value.cells, R.1], fun y hy => ho y (by simpa [Value.cells] using hy), fun k v y a c => ?_⟩
    rw [List.getElem?_map] at c
    cases hk : l[k]? with
    | none => simp [hk] at c
    | some z =>
      simp [hk] at c; subst c
      rw [repA_toA]
      exact R.2 k v z (by simpa [Value.cells] using a) hk
theorem setCell_heap {w : World} {b o : Nat} {v : Value} {us : Array Value} {T : TypeId} {fz : Nat × Nat} (h : w.heap[b]? = some (.cells us T fz)) : (w.setCell ⟨b, o, none⟩ v).heap[b]? = some (.cells (us.setIfInBounds o v) T fz) := by
  simp [World.setCell, Array.getElem?_modify, h]
theorem setCells_heap {b : Nat} {T : TypeId} {fz : Nat × Nat} : ∀ {vs : List Value} {o : Nat} {w : World} {us : Array Value}, w.heap[b]? = some (.cells us T fz) → ∃ us', (w.setCells b o vs).heap[b]? = some (.cells us' T fz) ∧ us'.toList = setAt us.toList o vs
  | [], _, _, us, h => ⟨us, h, rfl⟩
  | v :: r, o, w, us, h => by
    obtain ⟨us', h1, h2⟩ := setCells_heap (vs := r) (o := o + 1) (setCell_heap (o := o) (v := v) h)
    exact ⟨us', h1, by rw [h2]; simp [setAt]⟩
theorem setCells_grown {b : Nat} : ∀ (vs : List Value) (o : Nat) (w : World), w.grownBy (w.setCells b o vs) (some b)
  | [], _, w => World.grownBy.refl _ _
  | v :: r, o, w => by
    have h1 := setCells_grown (b := b) r (o + 1) (w.setCell ⟨b, o, none⟩ v)
    have h0 : w.grownBy (w.setCell ⟨b, o, none⟩ v) (some b) := ⟨rfl, rfl, rfl, by simp [World.setCell], fun k hk hne => Below.heap_setCell _ _ _ _ (by intro e; exact hne (congrArg some e))⟩
    exact ⟨h1.os.trans h0.os, h1.tape.trans h0.tape, h1.output.trans h0.output, Nat.le_trans h0.size h1.size, fun k hk hne => (h1.block k (Nat.lt_of_lt_of_le hk h0.size) hne).trans (h0.block k hk hne)⟩
def sizeB (d : TyD) (n : Nat) : Bool := match d.agg with
  | some m => Nat.beq m n
  | none => d.scal && Nat.beq n 1
theorem sizeB_spec {P : Program} {T n : Nat} {d : TyD} (ok : TyOk P T d) (h : sizeB d n = true) : ∃ i, P.info? T = some i ∧ i.size = n := by
  unfold sizeB at h
  split at h
  · rename_i m hm
    have := ok.agg m hm
    have e := Nat.eq_of_beq_eq_true h
    unfold aggN at this
    split at this
    · simp at this; exact ⟨_, ‹_›, this.trans e⟩
    · simp at this; exact ⟨_, ‹_›, this.trans e⟩
    · cases this
  · simp only [Bool.and_eq_true] at h
    have e := Nat.eq_of_beq_eq_true h.2
    have := ok.scal h.1
    unfold scalB at this
    split at this
    · cases this
    · cases this
    · exact ⟨_, ‹_›, (Nat.eq_of_beq_eq_true this).trans e.symm⟩
    · cases this
theorem setAt_get {α : Type} : ∀ (r cs : List α) (o k : Nat), (setAt cs o r)[k]? = if o ≤ k ∧ k < o + r.length ∧ k < cs.length then r[k - o]? else cs[k]?
  | [], cs, o, k => by simp [setAt]; intro h1 h2; omega
  | x :: r, cs, o, k => by
    rw [setAt, setAt_get r, List.getElem?_set]
    simp only [List.length_set, List.length_cons]
    by_cases h1 : o + 1 ≤ k ∧ k < o + 1 + r.length ∧ k < cs.length
    · rw [if_pos h1, if_pos (by omega)]
      rw [show k - o = (k - (o + 1)) + 1 by omega, List.getElem?_cons_succ]
    · rw [if_neg h1]
      by_cases h2 : o = k
      · subst h2
        by_cases h3 : o < cs.length
        · rw [if_pos rfl, if_pos h3, if_pos (by omega)]; simp
        · rw [if_pos rfl, if_neg h3, if_neg (by omega), List.getElem?_eq_none (by omega)]
      · rw [if_neg h2, if_neg (by omega)]
theorem e_store {o : Oper} {st : St} {T i off : Nat} {x y : Operand} {cs ys : List AV} {av : AV} (ty : Ty C.P) (ho : o.op = .store T x y) (hd : o.dst = none) (hx : st.ev C x = .bx i off) (hi : st.h i = some (.box cs)) (hy : st.ev C y = av) (hc : cellsA av = some ys) (hT : sizeB (ty.ty T) ys.length = true) (hl : off + ys.length ≤ cs.length) :
    EffOp C N o st { st with h := upd st.h i (some (.box (setAt cs off ys))) } :=
  effop_run fun w0 a w J S => by
    have e1 := S.eval x
    rw [hx] at e1
    obtain ⟨hlv, b, hb, hv⟩ := e1
    have e2 := S.eval y
    rw [hy] at e2
    obtain ⟨r1, r2, r3⟩ := repCellsA S.blk e2 hc
    obtain ⟨b', T', us, q1, q2, q3, q4, q5, q6⟩ := S.blk i _ hi
    have hbb : b = b' := by rw [q1] at hb; simpa [bk] using hb.symm
    subst hbb
    obtain ⟨it, hi1, hi2⟩ := sizeB_spec (ty.ok T) hT
    have hst := run_storeCells_cells (P := C.P) b off (a.eval y).cells.toList 0 w (fun j hj => by
      have : off + 0 + j < us.size := by rw [q4]; simp at hj; omega
      simp [World.cell?, q3]; omega) (fun j hj => by simp [World.frozen?, q3]) r2
    have hrun : (execOp a.eval o).run C.P w = .ok .skip (w.setCells b off (a.eval y).cells.toList) := by
      simp only [execOp, ho, Sem.run_bind, hv, Instr.storeAt, Instr.sureAddr, Sem.run_pure, Result.andThen_ok, storeVar, sizeOf, typeInfo, run_program, hi1, hi2, r1]
      simp only [Nat.add_zero] at hst
      simp [hst]
    refine ⟨.skip, undef, _, hrun, .inr ⟨rfl, rfl⟩, J, ?_⟩
    rw [hd]
    obtain ⟨us', h1, h2⟩ := setCells_heap (vs := (a.eval y).cells.toList) (o := off) q3
    refine S.write hlv hb (setCells_grown _ _ _) ⟨b, T', us', q1, q2, h1, ?_, by rw [h2]; exact setAt_mem q5 r2, fun k u z hk hz => ?_⟩ (fun _ => ⟨_, hi, rfl⟩)
    · have := congrArg List.length h2
      rw [setAt_length] at this
      rw [setAt_length, ← q4]; simpa using this
    · have hk' : us'.toList[k]? = some u := by simpa using hk
      rw [h2, setAt_get] at hk'
      rw [setAt_get] at hz
      have hsz : us.toList.length = cs.length := by simpa using q4
      have hconv : ∀ {v : Value} {y : AV}, RepA C w st.h J v y → RepA C (w.setCells b off (a.eval ‹_›).cells.toList) (upd st.h i (some (.box (setAt cs off ys)))) J v y := by
        intro v y h
        have live : ∀ j, (upd st.h i (some (.box (setAt cs off ys))) j).isSome = (st.h j).isSome := fun j => by
          by_cases e : j = i
          · subst e; rw [upd_same, hlv]; rfl
          · rw [upd_other _ _ e]
        exact h.same fun _ _ q => q.conv (fun j hj => ⟨by rw [live]; exact hj, rfl⟩) fun _ _ h => RepF.mono h (fun c hcl hm => (setCells_grown _ _ _).block c hcl (fun e => by cases e; exact hm (.inr ⟨i, hlv, hb⟩))) (setCells_grown (b := b) _ _ _).size (fun c _ h => h.imp id fun ⟨j, hj, hjb⟩ => ⟨j, by rw [← live]; exact hj, hjb⟩)
      have r1' : (a.eval y).cells.toList.length = ys.length := by simpa using r1
      rw [r1', hsz] at hk'
      split at hk'
      · rename_i hin
        rw [if_pos hin] at hz
        exact hconv (r3 _ u z hk' hz)
      · rename_i hin
        rw [if_neg hin] at hz
        exact hconv (q6 k u z (by simpa using hk') hz)
end
end Go.Ab
namespace Go.Ab
open Go Go.RowKit
section
variable {C : Ctx} {N : Nat}
def killC (i : Nat) : Cap → Option Cap
  | .f x => some (.f x)
  | .bx j off => bif Nat.beq j i then none else some (.bx j off)
  | .ow j => bif Nat.beq j i then none else some (.ow j)
  | .sv j off n => bif Nat.beq j i then none else some (.sv j off n)
def killA (i : Nat) : AV → AV := AV.tr (killC i)
def killB (i : Nat) (B : Blk) : Blk := B.mapA (killA i)
theorem killA_ne {i j : Nat} (h : j ≠ i) : Nat.beq j i = false := by
  cases e : Nat.beq j i; rfl; exact absurd (Nat.eq_of_beq_eq_true e) h
theorem killC_some {i : Nat} {c c' : Cap} (h : killC i c = some c') : c' = c ∧ ((∃ x, c = .f x) ∨ (∃ j off, c = .bx j off ∧ j ≠ i) ∨ (∃ j, c = .ow j ∧ j ≠ i) ∨ (∃ j off n, c = .sv j off n ∧ j ≠ i)) := by
  cases c with
  | f x => simp only [killC, Option.some.injEq] at h; exact ⟨h.symm, .inl ⟨x, rfl⟩⟩
  | bx j off =>
    by_cases e : j = i
    · subst e; simp [killC] at h
    · simp [killC, killA_ne e] at h; exact ⟨h.symm, .inr (.inl ⟨j, off, rfl, e⟩)⟩
  | ow j =>
    by_cases e : j = i
    · subst e; simp [killC] at h
    · simp [killC, killA_ne e] at h; exact ⟨h.symm, .inr (.inr (.inl ⟨j, rfl, e⟩))⟩
  | sv j off n =>
    by_cases e : j = i
    · subst e; simp [killC] at h
    · simp [killC, killA_ne e] at h; exact ⟨h.symm, .inr (.inr (.inr ⟨j, off, n, rfl, e⟩))⟩
theorem RepA.kill {C' : Ctx} {w w' : World} {h h' : Nat → Option Blk} {J J' : Nat → Value} {i : Nat} (hl : ∀ j, j ≠ i → (h j).isSome = true → (h' j).isSome = true ∧ J' j = J j) (hF : ∀ u x, RepF w (Mb C h J) u x → RepF w' (Mb C' h' J') u x) {v : Value} {x : AV} (r : RepA C w h J v x) : RepA C' w' h' J' v (killA i x) :=
  r.tr fun v c c' e q => by
    obtain ⟨rfl, hc⟩ := killC_some e
    rcases hc with ⟨x, rfl⟩ | ⟨j, off, rfl, hj⟩ | ⟨j, rfl, hj⟩ | ⟨j, off, n, rfl, hj⟩
    · exact hF _ _ q
    · exact ⟨(hl j hj q.1).1, by rw [(hl j hj q.1).2]; exact q.2⟩
    · exact ⟨(hl j hj q.1).1, by rw [(hl j hj q.1).2]; exact q.2⟩
    · exact ⟨(hl j hj q.1).1, by rw [(hl j hj q.1).2]; exact q.2⟩
def St.grow (st : St) (i : Nat) (B : Blk) : St := { s := fun t => killA i (st.s t), h := fun j => bif Nat.beq j i then some B else (st.h j).map (killB i), nx := st.nx }
theorem Sim.regrow {w0 : World} {a : Act} {w w' : World} {J : Nat → Value} {st : St} (S : Sim C w0 N st a w J) {i : Nat} (hi : (st.h i).isSome = true) {v' : Value} (g : w.grownBy w' (bk (J i))) (hv : ∀ c, bk v' = some c → bk (J i) = some c ∨ w.heap.size ≤ c) {B : Blk}
    (hB : RepB C w' w0.heap.size (st.grow i B).h (upd J i v') v' B) (hk : B.stays = false) : Sim C w0 N (st.grow i B) a w' (upd J i v') := by
  have hM : ∀ b, b < w.heap.size → Mb C (st.grow i B).h (upd J i v') b → Mb C st.h J b := by
    rintro b hb (h0 | ⟨j, hj, hjb⟩)
    · exact .inl h0
    by_cases e : j = i
    · subst e
      rw [upd_same] at hjb
      rcases hv b hjb with h | h
      · exact .inr ⟨j, hi, h⟩
      · omega
    · rw [upd_other _ _ e] at hjb
      refine .inr ⟨j, ?_, hjb⟩
      simpa [St.grow, killA_ne e] using hj
  have mono : ∀ {u : Value} {x : FV}, RepF w (Mb C st.h J) u x → RepF w' (Mb C (st.grow i B).h (upd J i v')) u x := fun h =>
    h.mono (fun c hc hm => g.block c hc (fun e => hm (.inr ⟨i, hi, e.symm⟩))) g.size hM
  have live : ∀ j, j ≠ i → ((st.grow i B).h j).isSome = (st.h j).isSome := fun j e => by simp [St.grow, killA_ne e]
  have conv : ∀ {v : Value} {x : AV}, RepA C w st.h J v x → RepA C w' (st.grow i B).h (upd J i v') v (killA i x) := by
    intro v x h
    exact h.kill (fun j hj hs => ⟨by rw [live j hj]; exact hs, by rw [upd_other _ _ hj]⟩) fun _ _ => mono
  have hge : ∀ k, bk (J i) = some k → w0.heap.size ≤ k ∨ C.X k := fun k hk => (S.own_at hi hk).1
  refine ⟨S.ext.grown g hge, S.size, S.marks hi g, fun t => conv (S.slot t), fun j B' hB' => ?_, fun j k c hj hk hjc hkc => ?_, S.old, fun gl cs hg => mono (S.glob gl cs hg), fun j p cells hp hc hs => ?_⟩
  · by_cases e : j = i
    · subst e; simp [St.grow] at hB'; subst hB'; rw [upd_same]; exact hB
    · simp only [St.grow, killA_ne e, cond_false, Option.map_eq_some_iff] at hB'
      obtain ⟨B0, hB0, rfl⟩ := hB'
      rw [upd_other _ _ e]
      have hb0 := S.blk j B0 hB0
      exact hb0.conv (killA i) (fun c hc => g.block c (hb0.ge hc).2 (fun ec => e (S.apart j i c (by rw [hB0]; rfl) hi hc ec.symm))) (fun _ _ h => h) (fun _ _ => conv) (fun _ _ => mono)
  · have lv : ∀ j, j ≠ i → ((st.grow i B).h j).isSome = true → (st.h j).isSome = true := fun j e h => by rw [← live j e]; exact h
    by_cases ej : j = i <;> by_cases ek : k = i
    · omega
    · subst ej
      rw [upd_same] at hjc; rw [upd_other _ _ ek] at hkc
      rcases hv c hjc with h | h
      · exact (S.apart j k c hi (lv k ek hk) h hkc)
      · have := (S.own_at (lv k ek hk) hkc).2; omega
    · subst ek
      rw [upd_same] at hkc; rw [upd_other _ _ ej] at hjc
      rcases hv c hkc with h | h
      · exact (S.apart j k c (lv j ej hj) hi hjc h)
      · have := (S.own_at (lv j ej hj) hjc).2; omega
    · rw [upd_other _ _ ej] at hjc; rw [upd_other _ _ ek] at hkc
      exact S.apart j k c (lv j ej hj) (lv k ek hk) hjc hkc
  · by_cases e : j = i
    · subst e; simp [St.grow] at hc; subst hc; rw [hk] at hs; cases hs
    · simp only [St.grow, killA_ne e, cond_false, Option.map_eq_some_iff] at hc
      obtain ⟨B0, hB0, e2⟩ := hc
      rw [upd_other _ _ e]
      subst e2
      exact S.fix j p B0 hp hB0 (by cases B0 <;> exact hs)
theorem own_bk {w : World} {base e sz n : Nat} {v : Value} {xs : List Value} (h : w.ownsRow base e sz v n xs) : bk v = v.ownBlock := by
  obtain ⟨a, c, rfl⟩ := h.isSlice
  cases a <;> rfl
theorem e_append {o : Oper} {st : St} {T i n m e sz bs d : Nat} {x y : Operand} {cs ys : List FV} {zs : List Value} (ty : Ty C.P) (ho : o.op = .call { callee := .builtin .append, args := #[x, y], argTypes := #[T, T] }) (hd : o.dst = some d) (hdN : dstB N o.dst = true)
    (hT : (ty.ty T).sl = some (e, sz, bs)) (hz : (ty.ty e).zero = some zs) (hzl : zs.length = sz) (hsz : 0 < sz) (hx : st.ev C x = .ow i) (hi : st.h i = some (.row e sz n cs)) (hy : st.ev C y = .f (.sl m ys)) (hl : ys.length = m * sz)
    (h63 : n + m ≤ maxLen) (hbs : (n + m) * bs ≤ 140737488355328) : EffOp C N o st ((st.grow i (.row e sz (n + m) (cs ++ ys))).put (some d) (.ow i)) :=
  effop_run fun w0 a w J S => by
    have e1 := S.eval x
    rw [hx] at e1
    obtain ⟨hlv, hv⟩ := e1
    have e2 := evF S hy
    obtain ⟨xs, q1, q0, q2, q3⟩ := S.blk i _ hi
    obtain ⟨hu, it, hi1, hi2, hi3⟩ := slE_spec ((ty.ok T).sl _ hT)
    obtain ⟨it', z, hi4, hzz, hzl'⟩ := zero_spec ((ty.ok e).zero zs hz)
    rw [hi1] at hi4; cases hi4
    have hzs : z.cells.size = sz := by rw [← hzl, ← hzl']; simp
    generalize hyv : a.eval y = yv at e2
    cases e2 with
    | sl ad _ c _ us p0 p1 p2 p3 p4 =>
      have hul : us.length = m * sz := p1.trans hl
      obtain ⟨v', w', hrun, r1, r2, r3⟩ : ∃ v' w', (Builtin.append_ #[T, T] o.type #[J i, .slice ad m c]).run C.P w = .ok v' w' ∧ w'.ownsRow 0 e sz v' (n + m) (xs ++ us) ∧ w.grownBy w' (J i).ownBlock ∧ (v'.ownBlock = (J i).ownBlock ∨ v'.ownBlock = some w.heap.size) := by
        by_cases hus : us = []
        · subst hus
          have hm : m = 0 := by
            rcases Nat.mul_eq_zero.1 (hul.symm.trans rfl) with h | h
            · exact h
            · omega
          subst hm
          cases ad with
          | none => exact ⟨J i, w, run_append_none C.P w _ T o.type e it sz c hu hi1 (J i) n xs q1, by simpa using q1, World.grownBy.refl _ _, .inl rfl⟩
          | some ad =>
            obtain ⟨v', w', h1, h2, h3, _, h5⟩ := run_append_own_at (P := C.P) w 0 T o.type e it z sz bs hu hi1 hzz hi2 hi3 hzs hsz (J i) n xs q1 ad 0 c [] (by simp) (fun j u hj => by simp at hj) (by simp) h63 hbs (Nat.zero_le _)
            exact ⟨v', w', h1, h2, h3, h5⟩
        · obtain ⟨b, off, rfl, hlies⟩ := p3 hus
          obtain ⟨v', w', h1, h2, h3, _, h5⟩ := run_append_own_at (P := C.P) w 0 T o.type e it z sz bs hu hi1 hzz hi2 hi3 hzs hsz (J i) n xs q1 ⟨b, off, none⟩ m c us hul (fun j u hj => by
            rw [addr_add, hlies.at_ j (List.getElem?_eq_some_iff.1 hj).1]; exact hj) p2 h63 hbs (Nat.zero_le _)
          exact ⟨v', w', h1, h2, h3, h5⟩
      refine ⟨.value v', v', w', ?_, .inl rfl, upd J i v', ?_⟩
      · simp only [execOp, ho, resolve, invoke, builtin, Sem.run_bind, Sem.run_pure, Result.andThen_ok, List.map_toArray, List.map_cons, List.map_nil, hv, hyv, hrun]
      · rw [← own_bk q1] at r2 r3
        rw [← own_bk r1] at r3
        have G : Sim C w0 N (st.grow i (.row e sz (n + m) (cs ++ ys))) a w' (upd J i v') := S.regrow hlv r2 (fun c hc => by
            rcases r3 with h | h
            · left; rw [← h]; exact hc
            · right; rw [h] at hc; cases hc; exact Nat.le_refl _) ⟨xs ++ us, r1, fun b hb => by
            rcases r3 with h | h
            · exact q0 b (by rw [← h]; exact hb)
            · rw [h] at hb; cases hb; exact .inl S.ext.le, fun u hu => by
            rcases List.mem_append.1 hu with h | h
            · exact q2 u h
            · exact p2 u h, by
          have hM : ∀ b, b < w.heap.size → Mb C (st.grow i (.row e sz (n + m) (cs ++ ys))).h (upd J i v') b → Mb C st.h J b := by
            rintro b hb (h0 | ⟨j, hj, hjb⟩)
            · exact .inl h0
            by_cases ej : j = i
            · subst ej
              rw [upd_same] at hjb
              rcases r3 with h | h
              · exact .inr ⟨j, hlv, by rw [← h]; exact hjb⟩
              · rw [h] at hjb; cases hjb; omega
            · rw [upd_other _ _ ej] at hjb
              exact .inr ⟨j, by simpa [St.grow, killA_ne ej] using hj, hjb⟩
          have R : RepL w (Mb C st.h J) (xs ++ us) (cs ++ ys) := RepL.append q3 ⟨p1, p4⟩
          exact R.mono (fun c hc hm => r2.block c hc (fun ee => hm (.inr ⟨i, hlv, ee.symm⟩))) r2.size hM⟩ rfl
        rw [hd] at hdN ⊢
        refine G.put hdN ?_
        refine ⟨?_, ?_⟩
        · show ((st.grow i _).h i).isSome = true
          simp [St.grow]
        · rw [upd_same]
def frzC (i : Nat) (r : Option FV) (cs : List FV) : Cap → Option Cap
  | .f x => some (.f x)
  | .bx j off => bif Nat.beq j i then some (.f (.pt cs off)) else some (.bx j off)
  | .ow j => bif Nat.beq j i then (match r with | some y => some (.f y) | none => none) else some (.ow j)
  | .sv j off n => bif Nat.beq j i then none else some (.sv j off n)
def frzA (i : Nat) (r : Option FV) (cs : List FV) : AV → AV := AV.tr (frzC i r cs)
def frzB (i : Nat) (r : Option FV) (cs : List FV) (B : Blk) : Blk := B.mapA (frzA i r cs)
def St.frz (st : St) (i : Nat) (r : Option FV) (cs : List FV) : St := { s := fun t => frzA i r cs (st.s t), h := fun j => bif Nat.beq j i then none else (st.h j).map (frzB i r cs), nx := st.nx }
theorem Sim.frz_gen {w0 : World} {a : Act} {w : World} {J : Nat → Value} {st : St} (S : Sim C w0 N st a w J) {i : Nat} {r : Option FV} {cs : List FV} (hi : (st.h i).isSome = true)
    (hsl : ∀ M : Nat → Prop, (∀ b, b < w.heap.size → M b → Mb C st.h J b) → (∀ b, bk (J i) = some b → ¬ M b) → ∀ (v : Value) (y : FV), r = some y → RepA C w st.h J v (.ow i) → RepF w M v y)
    (hpt : ∀ M : Nat → Prop, (∀ b, b < w.heap.size → M b → Mb C st.h J b) → (∀ b, bk (J i) = some b → ¬ M b) → ∀ (v : Value) (off : Nat), RepA C w st.h J v (.bx i off) → RepF w M v (.pt cs off)) : Sim C w0 N (st.frz i r cs) a w J := by
  have hn : ∀ j, ((st.frz i r cs).h j).isSome = true → (st.h j).isSome = true ∧ j ≠ i := fun j h => by
    by_cases e : j = i
    · subst e; simp [St.frz] at h
    · simp [St.frz, killA_ne e] at h; exact ⟨h, e⟩
  have hM : ∀ b, b < w.heap.size → Mb C (st.frz i r cs).h J b → Mb C st.h J b := fun b _ h => h.imp id fun ⟨j, hj, hb⟩ => ⟨j, (hn j hj).1, hb⟩
  have hMi : ∀ b, bk (J i) = some b → ¬ Mb C (st.frz i r cs).h J b := fun b hb h => h.elim (fun h0 => by
      have h1 := S.old b h0
      rcases (S.own_at hi hb).1 with h2 | h2
      · omega
      · exact h1.2 h2) fun ⟨j, hj, hjb⟩ => (hn j hj).2 (S.apart j i b (hn j hj).1 hi hjb hb)
  have live : ∀ j, j ≠ i → ((st.frz i r cs).h j).isSome = (st.h j).isSome := fun j e => by simp [St.frz, killA_ne e]
  have conv : ∀ {v : Value} {x : AV}, RepA C w st.h J v x → RepA C w (st.frz i r cs).h J v (frzA i r cs x) := by
    intro v x h
    refine h.tr fun v c c' e q => ?_
    cases c with
    | f x => simp only [frzC, Option.some.injEq] at e; subst e; exact RepF.ext q (Ext.refl _) hM
    | bx j off =>
      by_cases ej : j = i
      · subst ej; simp only [frzC, Nat.beq_refl, cond_true, Option.some.injEq] at e; subst e; exact hpt _ hM hMi v off q
      · simp only [frzC, killA_ne ej, cond_false, Option.some.injEq] at e; subst e; exact ⟨by rw [live j ej]; exact q.1, q.2⟩
    | ow j =>
      by_cases ej : j = i
      · subst ej; simp only [frzC, Nat.beq_refl, cond_true] at e
        cases r with
        | none => cases e
        | some y => cases e; exact hsl _ hM hMi v y rfl q
      · simp only [frzC, killA_ne ej, cond_false, Option.some.injEq] at e; subst e; exact ⟨by rw [live j ej]; exact q.1, q.2⟩
    | sv j off n =>
      by_cases ej : j = i
      · subst ej; simp [frzC] at e
      · simp only [frzC, killA_ne ej, cond_false, Option.some.injEq] at e; subst e; exact ⟨by rw [live j ej]; exact q.1, q.2⟩
  refine ⟨S.ext, S.size, S.defs, fun t => conv (S.slot t), fun j B hB => ?_, fun j k b hj hk => S.apart j k b (hn j hj).1 (hn k hk).1, S.old, fun g cs hg => RepF.ext (S.glob g cs hg) (Ext.refl _) hM, fun j p cells hp hc hs => ?_⟩
  · by_cases e : j = i
    · subst e; simp [St.frz] at hB
    · simp only [St.frz, killA_ne e, cond_false, Option.map_eq_some_iff] at hB
      obtain ⟨B0, hB0, rfl⟩ := hB
      exact (S.blk j B0 hB0).conv (frzA i r cs) (fun _ _ => rfl) (fun _ _ h => h) (fun _ _ => conv) (fun _ _ h => RepF.ext h (Ext.refl _) hM)
  · by_cases e : j = i
    · subst e; simp [St.frz] at hc
    · simp only [St.frz, killA_ne e, cond_false, Option.map_eq_some_iff] at hc
      obtain ⟨B0, hB0, e2⟩ := hc
      subst e2
      exact S.fix j p B0 hp hB0 (by cases B0 <;> exact hs)
theorem Sim.frz_row {w0 : World} {a : Act} {w : World} {J : Nat → Value} {st : St} (S : Sim C w0 N st a w J) {i e sz n : Nat} {cs : List FV} (hi : st.h i = some (.row e sz n cs)) : Sim C w0 N (st.frz i (some (.sl n cs)) cs) a w J := by
  have hl : (st.h i).isSome = true := by rw [hi]; rfl
  obtain ⟨xs, q1, _, q2, q3⟩ := S.blk i _ hi
  have lies : ∀ M : Nat → Prop, (∀ b, bk (J i) = some b → ¬ M b) → ∀ b, bk (J i) = some b → Lies w M b 0 xs := fun M hMi b hb =>
    ⟨(S.own_at hl hb).2, hMi b hb, fun k hk => by
      rw [Nat.zero_add]
      rw [own_bk q1] at hb
      obtain ⟨ad, c, e1⟩ := q1.isSlice
      have := q1.cells hb k xs[k] (List.getElem?_eq_getElem hk)
      rw [addr_add, Nat.zero_add] at this
      rw [this, List.getElem?_eq_getElem hk]⟩
  refine S.frz_gen hl (fun M hM hMi v y hy hv => ?_) (fun M hM hMi v off hv => ?_)
  · cases hy
    obtain ⟨_, rfl⟩ := hv
    rcases q1.2 with ⟨e1, e2⟩ | ⟨g, cap, cur, e1, h1, h2, h3, h4, h5, h6⟩
    · rw [e1]
      have hx : xs = [] := List.eq_nil_of_length_eq_zero (by rw [q1.1, e2]; simp)
      subst hx
      subst e2
      exact RepF.sl none 0 0 cs [] (Nat.le_refl _) q3.1 q2 (fun h => absurd rfl h) (fun k u x h => by simp at h)
    · have hL := lies M hMi g (by rw [e1]; rfl)
      rw [e1]
      exact RepF.sl _ n cap cs xs h3 q3.1 q2 (fun _ => ⟨g, 0, rfl, hL⟩) (fun k u x a b => (q3.2 k u x a b).ext (Ext.refl _) hM)
  · obtain ⟨_, b, hb, rfl⟩ := hv
    have := RepF.pt b 0 off cs xs q3.1 q2 (lies M hMi b hb) (fun k u x a b => (q3.2 k u x a b).ext (Ext.refl _) hM)
    simpa using this
theorem Sim.frz_box {w0 : World} {a : Act} {w : World} {J : Nat → Value} {st : St} (S : Sim C w0 N st a w J) {i : Nat} {l : List AV} {cs : List FV} (hi : st.h i = some (.box l)) (hc : l = cs.map AV.f) : Sim C w0 N (st.frz i none cs) a w J := by
  have hl : (st.h i).isSome = true := by rw [hi]; rfl
  subst hc
  obtain ⟨b', T', us, q1, q2, q3, q4, q5, q6⟩ := S.blk i _ hi
  have R : RepL w (Mb C st.h J) us.toList cs := repA_f (fun k u x h1 h2 => q6 k u x (by simpa using h1) h2) (by simpa using q4)
  refine S.frz_gen hl (fun M hM hMi v y hy hv => ?_) (fun M hM hMi v off hv => ?_)
  · cases hy
  · obtain ⟨_, b, hb, rfl⟩ := hv
    rw [q1] at hb; simp [bk] at hb; subst hb
    have L : Lies w M b' 0 us.toList := ⟨(Array.getElem?_eq_some_iff.1 q3).1, hMi b' (by rw [q1]; rfl), fun k hk => by rw [Nat.zero_add]; simp [World.cell?, q3]⟩
    have := RepF.pt b' 0 off cs us.toList R.1 q5 L (fun k u x a b => (R.2 k u x a b).ext (Ext.refl _) hM)
    simpa using this
end
end Go.Ab
