/- Laws on which the proofs of this seat stand. No condition. -/
import Derived.Test.YtnmaabejdmaahaaGreatDoorIcPla3
import Derived.Shelf.SlSortCmp.WholeK
import Derived.Shelf.SlSortCmp.NoneTotal
import Derived.Shelf.SlLaysF0
namespace Go.Proofs.YtnmaabejdmaahaaGreatDoor.Ice
open Go Go.RowKit Go.Proofs Go.Shelf Go.Ab
def iv (z : Int) : FV := .v (.int .i64 z)
def intsF (l : List Int) : List FV := l.map iv
def layF (y : Layer) : List FV := [iv y.delay, iv y.loss, iv y.scatter]
def celF (c : Cel) : List FV := [iv c.col, iv c.row]
def rngF (r : Rng) : List FV := [iv r.lo, iv r.hi]
def flaF (f : Flash) : List FV := [.v (.string f.name), iv f.frm.col, iv f.frm.row, iv f.to.col, iv f.to.row, iv f.time.lo, iv f.time.hi]
def laysF (l : List Layer) : List FV := l.flatMap layF
def celsF (l : List Cel) : List FV := l.flatMap celF
def rngsF (l : List Rng) : List FV := l.flatMap rngF
def flasF (l : List Flash) : List FV := l.flatMap flaF
def boolsF (l : List Bool) : List FV := l.map fun b => .v (.bool b)
def gridL (x : Grid) : List FV := [.sl x.layers.length (laysF x.layers), iv x.rows, .sl x.tilt.length (intsF x.tilt)]
def gridF (x : Grid) : FV := .agg (gridL x)
def classL (x : Grid) (rs : List Rng) : List FV := gridL x ++ [.sl rs.length (rngsF rs)]
def classF (x : Grid) (rs : List Rng) : FV := .agg (classL x rs)
def holeL (h : Hole) : List FV := [.sl h.widths.length (intsF h.widths), .sl h.shrinks.length (intsF h.shrinks), iv h.need]
def holeF (h : Hole) : FV := .agg (holeL h)
def sidesV : List Value := [.int .i64 (-1), .int .i64 0, .int .i64 0, .int .i64 (-1), .int .i64 0, .int .i64 1, .int .i64 1, .int .i64 0]
def GG : Nat → Option FV := fun g => bif Nat.beq g 0 then some (.tab sidesV) else none
theorem detC_append : ∀ {a b : List FV} {p q : List Value}, detC a = some p → detC b = some q → detC (a ++ b) = some (p ++ q)
  | [], b, p, q, h, h' => by simp [detC] at h; subst h; simpa using h'
  | .v x :: a, b, p, q, h, h' => by
    cases hr : detC a with
    | none => simp [detC, hr] at h
    | some l => simp [detC, hr] at h; subst h; simp [detC, detC_append hr h']
  | .sl _ _ :: _, _, _, _, h, _ => by simp [detC] at h
  | .agg _ :: _, _, _, _, h, _ => by simp [detC] at h
  | .tup _ :: _, _, _, _, h, _ => by simp [detC] at h
  | .pt _ _ :: _, _, _, _, h, _ => by simp [detC] at h
  | .fn _ _ :: _, _, _, _, h, _ => by simp [detC] at h
  | .slc _ _ :: _, _, _, _, h, _ => by simp [detC] at h
  | .mp _ :: _, _, _, _, h, _ => by simp [detC] at h
  | .any _ :: _, _, _, _, h, _ => by simp [detC] at h
  | .tab _ :: _, _, _, _, h, _ => by simp [detC] at h
theorem detC_flat {α : Type} {f : α → List FV} {e : α → List Value} (h : ∀ x, detC (f x) = some (e x)) : ∀ l : List α, detC (l.flatMap f) = some (l.flatMap e)
  | [] => rfl
  | x :: l => by rw [List.flatMap_cons, List.flatMap_cons]; exact detC_append (h x) (detC_flat h l)
theorem map_flat {α β : Type} (f : α → β) : ∀ l : List α, l.flatMap (fun x => [f x]) = l.map f
  | [] => rfl
  | x :: l => by rw [List.flatMap_cons, map_flat f l]; rfl
theorem detC_ints (l : List Int) : detC (intsF l) = some (l.flatMap encI) := by
  have := detC_flat (f := fun z => [iv z]) (e := encI) (fun _ => rfl) l
  rw [map_flat] at this
  exact this
theorem detC_lays (l : List Layer) : detC (laysF l) = some (l.flatMap Layer.enc) := detC_flat (fun _ => rfl) l
theorem detC_cels (l : List Cel) : detC (celsF l) = some (l.flatMap Cel.enc) := detC_flat (fun _ => rfl) l
theorem detC_rngs (l : List Rng) : detC (rngsF l) = some (l.flatMap Rng.enc) := detC_flat (fun _ => rfl) l
theorem detC_flas (l : List Flash) : detC (flasF l) = some (l.flatMap Flash.enc) := detC_flat (fun _ => rfl) l
theorem detC_bools (l : List Bool) : detC (boolsF l) = some (l.flatMap encB) := by
  have := detC_flat (f := fun b => [FV.v (.bool b)]) (e := encB) (fun _ => rfl) l
  rw [map_flat] at this
  exact this
theorem rep_row {w : World} {M : Nat → Prop} {v : Value} {n : Nat} {cs : List FV} {us : List Value} (h : RepF w M v (.sl n cs)) (hd : detC cs = some us) : ∃ a c, v = .slice a n c ∧ n ≤ c ∧ Row w a us := by
  cases h with
  | sl a _ c _ vs h1 h2 h3 h4 h5 =>
    have := detC_spec ⟨h2, h5⟩ hd
    subst this
    refine ⟨a, c, rfl, h1, ⟨fun hn => ?_⟩⟩
    obtain ⟨b, off, e, L⟩ := h4 hn
    exact ⟨b, off, e, L.lt, L.at_⟩
theorem rep_int {w : World} {M : Nat → Prop} {v : Value} {z : Int} (h : RepF w M v (iv z)) : v = .int .i64 z := repV h
theorem repL_det {w : World} {M : Nat → Prop} {us : List Value} : ∀ {cs : List FV}, detC cs = some us → RepL w M us cs
  | [], h => by simp [detC] at h; subst h; exact RepL.nil _ _
  | .v x :: r, h => by
    cases hr : detC r with
    | none => simp [detC, hr] at h
    | some l => simp [detC, hr] at h; subst h; exact RepL.cons (RepF.v x) (repL_det hr)
  | .sl _ _ :: _, h => by simp [detC] at h
  | .agg _ :: _, h => by simp [detC] at h
  | .tup _ :: _, h => by simp [detC] at h
  | .pt _ _ :: _, h => by simp [detC] at h
  | .fn _ _ :: _, h => by simp [detC] at h
  | .slc _ _ :: _, h => by simp [detC] at h
  | .mp _ :: _, h => by simp [detC] at h
  | .any _ :: _, h => by simp [detC] at h
  | .tab _ :: _, h => by simp [detC] at h
theorem rep_grid {w : World} {M : Nat → Prop} {us : List Value} {x : Grid} (h : RepL w M us (gridL x)) (hl : x.layers.length ≤ 140737488355328) (ht : x.tilt.length ≤ 140737488355328) :
    ∃ la ta lc tc, us = [.slice la x.layers.length lc, .int .i64 x.rows, .slice ta x.tilt.length tc] ∧ GridAt w la ta x := by
  obtain ⟨u1, us1, rfl, h1, R1⟩ := h.head
  obtain ⟨u2, us2, rfl, h2, R2⟩ := R1.head
  obtain ⟨u3, us3, rfl, h3, R3⟩ := R2.head
  have := R3.end; subst this
  obtain ⟨la, lc, rfl, _, r1⟩ := rep_row h1 (detC_lays _)
  have := rep_int h2; subst this
  obtain ⟨ta, tc, rfl, _, r3⟩ := rep_row h3 (detC_ints _)
  exact ⟨la, ta, lc, tc, rfl, r1, r3, hl, ht⟩
theorem rep_gridF {w : World} {M : Nat → Prop} {v : Value} {x : Grid} (h : RepF w M v (gridF x)) (hl : x.layers.length ≤ 140737488355328) (ht : x.tilt.length ≤ 140737488355328) :
    ∃ la ta lc tc, v = .agg #[.slice la x.layers.length lc, .int .i64 x.rows, .slice ta x.tilt.length tc] ∧ GridAt w la ta x := by
  cases h with
  | agg _ us h1 h2 h3 =>
    obtain ⟨la, ta, lc, tc, rfl, g⟩ := rep_grid ⟨h1, h3⟩ hl ht
    exact ⟨la, ta, lc, tc, rfl, g⟩
theorem rep_classF {w : World} {M : Nat → Prop} {v : Value} {x : Grid} {rs : List Rng} (h : RepF w M v (classF x rs)) (hl : x.layers.length ≤ 140737488355328) (ht : x.tilt.length ≤ 140737488355328) :
    ∃ la ta ra lc tc rc, v = .agg #[.slice la x.layers.length lc, .int .i64 x.rows, .slice ta x.tilt.length tc, .slice ra rs.length rc] ∧ GridAt w la ta x ∧ RowS Rng.enc w ra rs := by
  cases h with
  | agg _ us h1 h2 h3 =>
    have R : RepL w M us (classL x rs) := ⟨h1, h3⟩
    obtain ⟨u1, us1, rfl, r1, R1⟩ := R.head
    obtain ⟨u2, us2, rfl, r2, R2⟩ := RepL.head R1
    obtain ⟨u3, us3, rfl, r3, R3⟩ := RepL.head R2
    obtain ⟨u4, us4, rfl, r4, R4⟩ := RepL.head R3
    have := R4.end; subst this
    obtain ⟨la, lc, rfl, _, p1⟩ := rep_row r1 (detC_lays _)
    have := rep_int r2; subst this
    obtain ⟨ta, tc, rfl, _, p3⟩ := rep_row r3 (detC_ints _)
    obtain ⟨ra, rc, rfl, _, p4⟩ := rep_row r4 (detC_rngs _)
    exact ⟨la, ta, ra, lc, tc, rc, rfl, ⟨p1, p3, hl, ht⟩, p4⟩
theorem rep_cel {w : World} {M : Nat → Prop} {v : Value} {c : Cel} (h : RepF w M v (.agg (celF c))) : v = .agg #[.int .i64 c.col, .int .i64 c.row] := by
  have := detF_spec h (v := .agg #[.int .i64 c.col, .int .i64 c.row]) rfl
  exact this
theorem rep_sides {w : World} {M : Nat → Prop} (h : ∀ g cs, GG g = some cs → RepF w M (.pointer (some ⟨g, 0, none⟩)) cs) : Sides w := by
  have h0 := h 0 _ rfl
  generalize hv : (Value.pointer (some (⟨0, 0, none⟩ : Addr))) = v at h0
  cases h0 with
  | tab b l _ h =>
    cases hv
    obtain ⟨T, fr, h⟩ := h
    exact ⟨by simp [World.cell?, h, sidesV], by simp [World.cell?, h, sidesV], by simp [World.cell?, h, sidesV], by simp [World.cell?, h, sidesV], by simp [World.cell?, h, sidesV], by simp [World.cell?, h, sidesV], by simp [World.cell?, h, sidesV], by simp [World.cell?, h, sidesV]⟩
theorem own_sl {w w' : World} {M : Nat → Prop} {e sz n : Nat} {v : Value} {us : List Value} {cs : List FV} (own : w'.ownsRow w.heap.size e sz v n us) (one : ∀ u ∈ us, u.oneCell' = true) (hM : ∀ b, M b → b < w.heap.size) (R : RepL w' M us cs) : RepF w' M v (.sl n cs) := by
  rcases own.2 with ⟨h1, h2⟩ | ⟨g, cap, cur, h1, h2, h3, h4, h5, h6, h7⟩
  · subst h1; subst h2
    have hx : us = [] := List.eq_nil_of_length_eq_zero (by rw [own.1]; simp)
    subst hx
    exact RepF.sl none 0 0 cs [] (Nat.le_refl _) R.1 one (fun h => absurd rfl h) (fun k u x h => by simp at h)
  · subst h1
    refine RepF.sl _ n cap cs us h4 R.1 one (fun _ => ⟨g, 0, rfl, (Array.getElem?_eq_some_iff.1 h3).1, fun hm => by have := hM g hm; omega, fun k hk => ?_⟩) R.2
    have := own.cells (g := g) rfl k _ (List.getElem?_eq_getElem hk)
    rw [addr_add, Nat.zero_add] at this
    rw [Nat.zero_add, this, List.getElem?_eq_getElem hk]
theorem one_ints (l : List Int) : ∀ u ∈ l.flatMap encI, u.oneCell' = true := by
  intro u hu
  obtain ⟨z, _, hz⟩ := List.mem_flatMap.1 hu
  simp [encI] at hz; subst hz; rfl
theorem one_lays (l : List Layer) : ∀ u ∈ l.flatMap Layer.enc, u.oneCell' = true := by
  intro u hu
  obtain ⟨z, _, hz⟩ := List.mem_flatMap.1 hu
  simp [Layer.enc] at hz; rcases hz with rfl | rfl | rfl <;> rfl
theorem within_s (n lo hi : Int) : Summ Tryz.prog GG 69 [iv n, iv lo, iv hi] (.v (.bool (withinB n lo hi))) := by
  refine ⟨enters_of Tryz.func69 (by kernel_rfl) rfl, fun w M us hM hG R => ?_⟩
  obtain ⟨u1, us1, rfl, r1, R1⟩ := R.head
  obtain ⟨u2, us2, rfl, r2, R2⟩ := R1.head
  obtain ⟨u3, us3, rfl, r3, R3⟩ := R2.head
  have := R3.end; subst this
  have := rep_int r1; subst this
  have := rep_int r2; subst this
  have := rep_int r3; subst this
  exact (within_any n lo hi w).mono fun e w' ⟨h1, h2⟩ => ⟨_, h1, RepF.v _, h2 ▸ Ext.refl _⟩
theorem unless_s (b : Bool) (k : Int) : Summ Tryz.prog GG 36 [.v (.bool b), iv k] (iv (unlessE b k)) := by
  refine ⟨enters_of Tryz.func36 (by kernel_rfl) rfl, fun w M us hM hG R => ?_⟩
  obtain ⟨u1, us1, rfl, r1, R1⟩ := R.head
  obtain ⟨u2, us2, rfl, r2, R2⟩ := R1.head
  have := R2.end; subst this
  have := repV r1; subst this
  have := rep_int r2; subst this
  exact (unless_any b k w).mono fun e w' ⟨h1, h2⟩ => ⟨_, h1, RepF.v _, h2 ▸ Ext.refl _⟩
theorem cloneI_s (l : List Int) (hl : l.length ≤ 1000000) : SummN Tryz.prog GG 157 [.sl l.length (intsF l)] 3 1 l.length (intsF l) := by
  refine ⟨enters_of Tryz.func157 (by kernel_rfl) rfl, fun w M us hM hG R => ?_⟩
  obtain ⟨u1, us1, rfl, r1, R1⟩ := R.head
  have := R1.end; subst this
  obtain ⟨a, c, rfl, _, rr⟩ := rep_row r1 (detC_ints l)
  exact (cloneInt a l c w rr hl).mono fun e w' ⟨a', c', h1, h2, h3⟩ => ⟨_, _, h1, h2, one_ints l, repL_det (detC_ints l), h3⟩
theorem cloneL_s (l : List Layer) (hl : l.length ≤ 1000000) : SummN Tryz.prog GG 156 [.sl l.length (laysF l)] 103 3 l.length (laysF l) := by
  refine ⟨enters_of Tryz.func156 (by kernel_rfl) rfl, fun w M us hM hG R => ?_⟩
  obtain ⟨u1, us1, rfl, r1, R1⟩ := R.head
  have := R1.end; subst this
  obtain ⟨a, c, rfl, _, rr⟩ := rep_row r1 (detC_lays l)
  exact (cloneLayer a l c w rr hl).mono fun e w' ⟨a', c', h1, h2, h3⟩ => ⟨_, _, h1, h2, one_lays l, repL_det (detC_lays l), h3⟩
theorem SummN.toSumm {P : Program} {G : Nat → Option FV} {g : Nat} {args cs : List FV} {e sz n : Nat} (h : SummN P G g args e sz n cs) : Summ P G g args (.sl n cs) :=
  ⟨h.enters, fun w M us hM hG R => (h.call w M us hM hG R).mono fun _en _w' ⟨v, _xs, h1, h2, h3, h4, h5⟩ => ⟨v, h1, own_sl h2 h3 hM (h4.mono (fun _ _ _ => rfl) (Nat.le_refl _) (fun _ _ h => .inl h)), h5⟩⟩
end Go.Proofs.YtnmaabejdmaahaaGreatDoor.Ice
namespace Go.Proofs.YtnmaabejdmaahaaGreatDoor.Ice
open Go Go.RowKit Go.Proofs Go.Shelf Go.Ab
theorem firstE_zeros {l : List Int} (h : ∀ j (hj : j < l.length), l[j] = 0) : firstE l = 0 := by
  induction l with
  | nil => rfl
  | cons x l ih =>
    have h0 : x = 0 := h 0 (by simp)
    rw [firstE]
    simp only [h0]
    exact ih (fun j hj => h (j + 1) (by simpa using hj))
theorem firstE_at {l : List Int} {k : Nat} (hk : k < l.length) (h : ∀ j (hj : j < l.length), j < k → l[j] = 0) (hne : l[k] ≠ 0) : firstE l = l[k] := by
  induction l generalizing k with
  | nil => simp at hk
  | cons x l ih =>
    cases k with
    | zero => simp only [List.getElem_cons_zero] at hne ⊢; rw [firstE]; simp [hne]
    | succ k =>
      have h0 : x = 0 := h 0 (by simp) (by omega)
      rw [firstE]
      simp only [h0]
      exact ih (by simpa using hk) (fun j hj hjk => h (j + 1) (by simpa using hj) (by omega)) (by simpa using hne)
set_option maxRecDepth 100000 in
theorem first_s (l : List Int) (hl : l.length ≤ 1000) : Summ Tryz.prog GG 34 [.sl l.length (intsF l)] (iv (firstE l)) := by
  refine summW Tryz.func34 rfl rfl 15 rfl (by simp) (fun M0 => ?_)
  repeat (first
    | (apply s_move_f; exact rfl; exact rfl)
    | (apply s_assign_f; exact rfl; exact rfl)
    | (apply s_len TY; exact rfl; exact rfl; exact rfl)
    | apply w_seq
    | apply w_region
    | apply s_nil
    | apply t_norm
    | apply w_block)
  apply w_loop (fun k : Nat => ⟨(Ab.upd (Ab.upd (Ab.upd (fun _ => .bot) 7 (.f <| iv (k : Nat))) 6 (.f (iv l.length))) 5 (.f (.sl l.length (intsF l)))), fun _ => none, 0⟩) (fun k => k ≤ l.length ∧ ∀ j (hj : j < l.length), j < k → l[j] = 0) (fun k => l.length - k) 0 ⟨Nat.zero_le _, fun _ _ h => absurd h (Nat.not_lt_zero _)⟩ (gh_le ⟨le_upd rfl trivial (le_upd rfl trivial (le_upd rfl trivial (le_nil _))), le_h0 _ _⟩)
  rintro k ⟨hk, hall⟩
  by_cases hlt : k < l.length
  · have hb : decide ((k : Int) < (l.length : Int)) = true := by simpa using hlt
    have hc : (intsF l)[k * 1]? = some (iv l[k]) := map_at hlt
    have hne : intsF l ≠ [] := map_ne hlt
    by_cases hz : l[k] = 0
    · have ht : (!decide (l[k] = 0)) = false := by simpa using hz
      repeat (first
    | (apply s_move_f; exact rfl; exact rfl)
    | (apply s_assign_f; exact rfl; exact rfl)
    | (apply s_load_pt TY; exact rfl; exact rfl; exact rfl; (first | exact rfl | assumption))
    | (apply s_lss; exact rfl; exact rfl; exact rfl)
    | (apply s_neq; exact rfl; exact rfl; exact rfl)
    | apply w_seq
    | apply w_region
    | apply s_nil
    | apply t_norm
    | apply k_norm
    | apply w_block
    | apply w_skip
    | (apply s_add; exact rfl; exact rfl; exact rfl; (omega))
    | (apply s_idxN TY; exact rfl; exact rfl; exact rfl; exact rfl; assumption; assumption)
    | (apply w_condT; exact rfl; (first | exact rfl | assumption))
    | (apply w_condF; exact rfl; (first | exact rfl | assumption)))
      exact ⟨k + 1, ⟨by omega, fun j hj hjk => by rcases Nat.lt_succ_iff_lt_or_eq.1 hjk with h | rfl; exact hall j hj h; exact hz⟩, by omega, gh_le ⟨le_upd rfl trivial (le_upd rfl trivial (le_upd rfl trivial (le_nil _))), le_h0 _ _⟩⟩
    · have ht : (!decide (l[k] = 0)) = true := by simpa using hz
      repeat (first
    | (apply s_move_f; exact rfl; exact rfl)
    | (apply s_assign_f; exact rfl; exact rfl)
    | (apply s_load_pt TY; exact rfl; exact rfl; exact rfl; (first | exact rfl | assumption))
    | (apply s_lss; exact rfl; exact rfl; exact rfl)
    | (apply s_neq; exact rfl; exact rfl; exact rfl)
    | apply w_seq
    | apply w_region
    | apply s_nil
    | apply t_norm
    | apply t_ret
    | apply k_ret
    | apply w_block
    | apply w_ret
    | apply w_skip
    | (apply s_idxN TY; exact rfl; exact rfl; exact rfl; exact rfl; assumption; assumption)
    | (apply w_condT; exact rfl; (first | exact rfl | assumption)))
      refine lv_ret (ret1 rfl (res_tmp ?_))
      rw [firstE_at hlt hall hz]; rfl
  · have hb : decide ((k : Int) < (l.length : Int)) = false := by simpa using hlt
    repeat (first
    | (apply s_assign_f; exact rfl; exact rfl)
    | (apply s_lss; exact rfl; exact rfl; exact rfl)
    | apply w_seq
    | apply w_region
    | apply s_nil
    | apply t_norm
    | apply t_exit
    | apply k_hit
    | apply w_exit
    | apply w_ret
    | (apply w_condF; exact rfl; (first | exact rfl | assumption)))
    refine lv_ret (ret1 rfl (res_tmp ?_))
    rw [firstE_zeros (fun j hj => hall j hj (by omega))]; rfl
end Go.Proofs.YtnmaabejdmaahaaGreatDoor.Ice
namespace Go.Proofs.YtnmaabejdmaahaaGreatDoor.Ice
open Go Go.RowKit Go.Proofs Go.Shelf Go.Ab
structure ClassOk (x : Grid) (rs : List Rng) : Prop where
  v : Valid x
  len : rs.length = x.layers.length
  rng : ∀ r ∈ rs, 1 ≤ r.lo ∧ r.lo ≤ r.hi ∧ r.hi ≤ 1000
  cnt : (assigns rs []).length ≤ 300
theorem upTo_len (lo hi : Int) : (upTo lo hi).length = (hi + 1 - lo).toNat := by simp [upTo]
theorem assigns_len : ∀ (rs : List Rng) (p q : List Int), (assigns rs p).length = (assigns rs q).length
  | [], _, _ => rfl
  | r :: rs, p, q => by
    simp only [assigns, List.length_flatMap]
    congr 1
    apply List.map_congr_left
    intro n _
    exact assigns_len rs _ _
theorem sum_const (l : List Int) (k : Nat) : (l.map fun _ => k).sum = l.length * k := by
  induction l with
  | nil => simp
  | cons x l ih => simp [ih, Nat.add_mul]; omega
theorem assigns_cons (r : Rng) (rs : List Rng) (p : List Int) : (assigns (r :: rs) p).length = (r.hi + 1 - r.lo).toNat * (assigns rs []).length := by
  simp only [assigns, List.length_flatMap]
  rw [show (fun n => (assigns rs (p ++ [n])).length) = fun _ => (assigns rs []).length from funext fun n => assigns_len rs _ _, sum_const, upTo_len]
theorem scan_zero (l : List Rng) : ∀ (f i : Nat) (n : Int), i + f = l.length → 1 ≤ n → (classScan l f i n).2 = 0 → (∀ r ∈ l.drop i, 1 ≤ r.lo ∧ r.lo ≤ r.hi ∧ r.hi ≤ 1000) ∧ n * ((assigns (l.drop i) []).length : Int) ≤ 300
  | 0, i, n, h, _, hz => by
    have : l.drop i = [] := List.drop_eq_nil_of_le (by omega)
    rw [this]
    unfold classScan at hz
    have h1 := (unlessE_zero (by decide)).1 hz
    simp [assigns] at h1 ⊢; exact h1
  | f + 1, i, n, h, hn, hz => by
    have hi : i < l.length := by omega
    unfold classScan at hz
    rw [getDR hi] at hz
    by_cases hr : (rngE l[i] != 0) = true
    · rw [if_pos hr] at hz; simp at hr; exact absurd hz hr
    · rw [if_neg hr] at hz
      have hr0 := rngE_zero.1 (by simpa using hr)
      have hm : 1 ≤ n * (l[i].hi - l[i].lo + 1) := by
        have : 1 * 1 ≤ n * (l[i].hi - l[i].lo + 1) := Int.mul_le_mul hn (by omega) (by omega) (by omega)
        simpa using this
      obtain ⟨h1, h2⟩ := scan_zero l f (i + 1) _ (by omega) hm hz
      have hd : l.drop i = l[i] :: l.drop (i + 1) := by simp
      refine ⟨fun r hrm => ?_, ?_⟩
      · rw [hd] at hrm
        rcases List.mem_cons.1 hrm with rfl | h3
        · exact hr0
        · exact h1 r h3
      · rw [hd, assigns_cons]
        have e : ((l[i].hi + 1 - l[i].lo).toNat : Int) = l[i].hi - l[i].lo + 1 := by omega
        rw [Int.natCast_mul, e, ← Int.mul_assoc]
        exact h2
theorem classOk {x : Grid} {rs : List Rng} (h : (checkClass x rs).2 = 0) : ClassOk x rs := by
  unfold checkClass at h
  by_cases t1 : ((checkIce x).2 != 0) = true
  · rw [if_pos t1] at h; simp at t1; exact absurd h t1
  rw [if_neg t1] at h
  by_cases t2 : ((rs.length : Int) != (x.layers.length : Int)) = true
  · rw [if_pos t2] at h; simp at h
  rw [if_neg t2] at h
  obtain ⟨h1, h2⟩ := scan_zero rs rs.length 0 1 (by omega) (by omega) h
  simp only [List.drop_zero, Int.one_mul] at h1 h2
  exact ⟨(checkIce_zero x).1 (by simpa using t1), by simp at t2; omega, h1, by omega⟩
theorem own_layers (x : Grid) (ds : List Int) : (own x ds).layers.length = x.layers.length := by simp [own]
theorem own_valid {x : Grid} (v : Valid x) {ds : List Int} (hd : ∀ d ∈ ds, 1 ≤ d ∧ d ≤ 1000) : Valid (own x ds) := by
  refine ⟨by rw [own_layers]; exact v.l1, by rw [own_layers]; exact v.l6, fun l hl => ?_, v.r1, v.r12, v.t1, v.t8, v.til⟩
  simp only [own, List.mem_mapIdx] at hl
  obtain ⟨i, hi, rfl⟩ := hl
  have h0 := v.lay x.layers[i] (List.getElem_mem hi)
  refine ⟨?_, h0.2⟩
  simp only
  rw [List.getD_eq_getElem?_getD]
  cases hk : ds[i]? with
  | none => exact h0.1
  | some d => exact hd d (List.mem_of_getElem? hk)
theorem own_in (x : Grid) (ds : List Int) (c : Cel) : InG (own x ds) c ↔ InG x c := Iff.rfl
def mpT (x : Grid) (fr : Cel) : Obj → Prop := fun o => ∃ (D : List Ent) (clock : Nat), o = .map (D.map ent).toArray clock ∧ (∀ d ∈ D, d.2.2 < clock) ∧ (D.map (·.1)).Nodup ∧ (D.map (·.2.2)).Nodup ∧ ∀ c, InG x c → valOf D c = some (distOf x fr c)
theorem times_s (x : Grid) (fr : Cel) (v : Valid x) (hin : InG x fr) : Summ Tryz.prog GG 60 [gridF x, .agg (celF fr)] (.mp (mpT x fr)) := by
  refine ⟨enters_of Tryz.func60 (by kernel_rfl) rfl, fun w M us hM hG R => ?_⟩
  obtain ⟨u1, us1, rfl, r1, R1⟩ := R.head
  obtain ⟨u2, us2, rfl, r2, R2⟩ := R1.head
  have := R2.end; subst this
  have h6 := v.l6
  have h8 := v.t8
  obtain ⟨la, ta, lc, tc, rfl, hg⟩ := rep_gridF r1 (by omega) (by omega)
  have := rep_cel r2; subst this
  refine (times_fresh la ta lc tc x fr w hg (rep_sides hG) v hin).mono ?_
  rintro e w' ⟨m, D, d, rfl, hm, hd, hv, hx, hle⟩
  obtain ⟨clock, hb, hc⟩ := hm.blk
  refine ⟨_, rfl, RepF.mp _ _ ⟨hm.lt, fun h => by have := hM _ h; omega, _, hb, ⟨D, clock, rfl, hc, hm.keys, hm.born, fun c hi => ?_⟩, rfl⟩, hx⟩
  rw [(hv c hi).1, IsDist.unique v hd (distOf_is hd) hi]
theorem look_s {x : Grid} {fr c : Cel} (hc : InG x c) (ob : Obj) (r : Nat) (w : World) (hG : mpT x fr ob) (hr : w.heap[r]? = some ob) :
    (Instr.lookup 119 (.map (some r)) (.agg #[.int .i64 c.col, .int .i64 c.row]) false).run Tryz.prog w = .ok (.int .i64 (distOf x fr c)) w := by
  obtain ⟨D, clock, rfl, h1, h2, h3, h4⟩ := hG
  have := lookup_plain (W := w) (r := r) (D := D) ⟨⟨clock, hr, h1⟩, h2, h3⟩ c
  rw [h4 c hc] at this
  exact this
end Go.Proofs.YtnmaabejdmaahaaGreatDoor.Ice
namespace Go.Proofs.YtnmaabejdmaahaaGreatDoor.Ice
open Go Go.RowKit Go.Proofs Go.Shelf Go.Ab
def modF (m : List Int × List Bool) : List FV := [.sl m.1.length (intsF m.1), .sl m.2.length (boolsF m.2)]
def modelsF (ms : List (List Int × List Bool)) : List FV := ms.flatMap modF
def ownL (x : Grid) (ds : List Int) (k : Nat) : List Layer := x.layers.mapIdx fun i y => { y with delay := if i < k then ds.getD i y.delay else y.delay }
theorem ownL_len (x : Grid) (ds : List Int) (k : Nat) : (ownL x ds k).length = x.layers.length := by simp [ownL]
theorem ownL_zero (x : Grid) (ds : List Int) : ownL x ds 0 = x.layers := by
  refine List.ext_getElem (by simp [ownL]) fun i h1 h2 => ?_
  simp [ownL]
theorem ownL_end (x : Grid) (ds : List Int) : ownL x ds ds.length = (own x ds).layers := by
  refine List.ext_getElem (by simp [ownL, own]) fun i h1 h2 => ?_
  simp only [ownL, own, List.getElem_mapIdx]
  by_cases h : i < ds.length
  · rw [if_pos h]
  · rw [if_neg h, List.getD_eq_getElem?_getD, List.getElem?_eq_none (by omega)]; rfl
theorem flat_set3 {f : Layer → List FV} (hs : ∀ y, (f y).length = 3) : ∀ (l : List Layer) (k : Nat) (y : Layer) (a : FV), (hk : k < l.length) → f y = (f l[k]).set 0 a → (l.flatMap f).set (k * 3 + 0) a = (l.set k y).flatMap f
  | [], k, _, _, hk, _ => by simp at hk
  | z :: l, 0, y, a, _, h => by
    simp only [List.getElem_cons_zero] at h
    have h3 := hs z
    rw [List.set_cons_zero, List.flatMap_cons, List.flatMap_cons, h]
    match hz : f z, h3 with
    | [p, q, r], _ => simp
  | z :: l, k + 1, y, a, hk, h => by
    have h3 := hs z
    rw [List.set_cons_succ, List.flatMap_cons, List.flatMap_cons, ← flat_set3 hs l k y a (by simpa using hk) (by simpa using h)]
    rw [List.set_append_right _ _ (by rw [h3]; omega), h3]
    congr 2
    omega
theorem ownL_succ (x : Grid) (ds : List Int) {k : Nat} (hk : k < ds.length) (hl : ds.length = x.layers.length) : Ab.setAt (laysF (ownL x ds k)) (k * 3 + 0) [iv ds[k]] = laysF (ownL x ds (k + 1)) := by
  have hkl : k < (ownL x ds k).length := by rw [ownL_len]; omega
  rw [show Ab.setAt (laysF (ownL x ds k)) (k * 3 + 0) [iv ds[k]] = (laysF (ownL x ds k)).set (k * 3 + 0) (iv ds[k]) from rfl]
  unfold laysF
  rw [flat_set3 (fun _ => rfl) (ownL x ds k) k { (ownL x ds k)[k] with delay := ds[k] } (iv ds[k]) hkl rfl]
  congr 1
  refine List.ext_getElem (by simp [ownL]) fun i h1 h2 => ?_
  rw [List.getElem_set]
  split
  · rename_i e
    subst e
    have hkx : k < x.layers.length := by omega
    simp only [ownL, List.getElem_mapIdx]
    rw [if_pos (by omega), List.getD_eq_getElem?_getD, List.getElem?_eq_getElem hk]
    rfl
  · simp only [ownL, List.getElem_mapIdx]
    by_cases h : i < k
    · rw [if_pos h, if_pos (by omega)]
    · rw [if_neg h, if_neg (by omega)]
noncomputable def mo (x : Grid) (l : List Flash) (ds : List Int) : List Int × List Bool := (ds, explains (own x ds) l)
noncomputable def news (x : Grid) (l : List Flash) (rs : List Rng) (pre : List Int) : List (List Int × List Bool) := (assigns rs pre).map (mo x l)
noncomputable def msk (x : Grid) (l : List Flash) (r : Rng) (rs : List Rng) (pre : List Int) (ms : List (List Int × List Bool)) (k : Nat) : List (List Int × List Bool) := ms ++ ((upTo r.lo r.hi).take k).flatMap fun n => news x l rs (pre ++ [n])
theorem msk_zero (x : Grid) (l : List Flash) (r : Rng) (rs : List Rng) (pre : List Int) (ms : List (List Int × List Bool)) : msk x l r rs pre ms 0 = ms := by simp [msk]
theorem msk_succ (x : Grid) (l : List Flash) (r : Rng) (rs : List Rng) (pre : List Int) (ms : List (List Int × List Bool)) {k : Nat} (hk : k < (r.hi + 1 - r.lo).toNat) : msk x l r rs pre ms (k + 1) = msk x l r rs pre ms k ++ news x l rs (pre ++ [r.lo + k]) := by
  have hk' : k < (upTo r.lo r.hi).length := by rw [upTo_len]; exact hk
  have hg : (upTo r.lo r.hi)[k] = r.lo + k := by simp [upTo]
  unfold msk
  rw [List.take_succ_eq_append_getElem hk', hg, List.flatMap_append, List.append_assoc]
  simp
theorem msk_end (x : Grid) (l : List Flash) (r : Rng) (rs : List Rng) (pre : List Int) (ms : List (List Int × List Bool)) : msk x l r rs pre ms (r.hi + 1 - r.lo).toNat = ms ++ news x l (r :: rs) pre := by
  unfold msk news
  rw [List.take_of_length_le (by rw [upTo_len]; exact Nat.le_refl _), assigns, List.map_flatMap]
theorem msk_len (x : Grid) (l : List Flash) (r : Rng) (rs : List Rng) (pre : List Int) (ms : List (List Int × List Bool)) : ∀ k, k ≤ (r.hi + 1 - r.lo).toNat → (msk x l r rs pre ms k).length = ms.length + k * (assigns rs []).length
  | 0, _ => by simp [msk_zero]
  | k + 1, hk => by
    rw [msk_succ x l r rs pre ms hk, List.length_append, msk_len x l r rs pre ms k (by omega), news, List.length_map, assigns_len rs (pre ++ [r.lo + (k : Int)]) [], Nat.add_mul]
    omega
theorem intsF_snoc (l : List Int) (z : Int) : intsF (l ++ [z]) = intsF l ++ [iv z] := by simp [intsF]
theorem boolsF_take {l : List Bool} {k : Nat} (hk : k < l.length) : boolsF (l.take (k + 1)) = boolsF (l.take k) ++ [.v (.bool l[k])] := by
  unfold boolsF; rw [List.take_succ_eq_append_getElem hk, List.map_append]; rfl
theorem modelsF_snoc (ms : List (List Int × List Bool)) (m : List Int × List Bool) : modelsF (ms ++ [m]) = modelsF ms ++ modF m := by simp [modelsF]
set_option maxRecDepth 100000 in
theorem clip_s (l : List Int) (_hl : l.length ≤ 1000) : Summ Tryz.prog GG 155 [.sl l.length (intsF l)] (.slc l.length (intsF l)) := by
  have hlen : (intsF l).length = l.length * 1 := by simp [intsF]
  refine summW Tryz.func155 rfl rfl 9 rfl (by simp) (fun M0 => ?_)
  repeat (first
    | (apply s_move_f; exact rfl; exact rfl)
    | (apply s_assign_f; exact rfl; exact rfl)
    | (apply s_len TY; exact rfl; exact rfl; exact rfl)
    | apply w_seq
    | apply w_region
    | apply s_nil
    | apply t_norm)
  apply s_clip TY; exact rfl; exact rfl; exact rfl; exact rfl; exact rfl; exact rfl; exact hlen
  repeat (first
    | (apply s_assign_f; exact rfl; exact rfl)
    | apply s_nil
    | apply t_norm
    | apply w_ret)
  exact lv_ret (ret1 rfl (res_tmp rfl))
set_option maxRecDepth 100000 in
set_option maxHeartbeats 1000000 in
theorem grown_s (x : Grid) (rs : List Rng) (l : List Flash) (K : ClassOk x rs) (hl8 : l.length ≤ 8) (hf : ∀ f ∈ l, InG x f.frm ∧ InG x f.to) : ∀ (d : Nat) (pre : List Int) (ms : List (List Int × List Bool)), pre.length + d = rs.length → (∀ n ∈ pre, 1 ≤ n ∧ n ≤ 1000) → ms.length + (assigns (rs.drop pre.length) pre).length ≤ 1000 →
    SummM Tryz.prog GG 129 170 2 ms.length (modelsF ms) [classF x rs, .sl l.length (flasF l), .sl pre.length (intsF pre)] (ms ++ news x l (rs.drop pre.length) pre).length (modelsF (ms ++ news x l (rs.drop pre.length) pre)) := by
  have h6 := K.v.l6
  have hrl := K.len
  intro d
  induction d with
  | succ d ih =>
    intro pre ms hd hpre hms
    have hlt : pre.length < rs.length := by omega
    obtain ⟨r, hr⟩ : ∃ r, rs[pre.length] = r := ⟨_, rfl⟩
    have hrr := K.rng r (by rw [← hr]; exact List.getElem_mem hlt)
    have hdrop : rs.drop pre.length = r :: rs.drop (pre.length + 1) := by rw [← hr]; simp
    rw [hdrop] at hms ⊢
    rw [assigns_cons] at hms
    have hb : decide ((pre.length : Int) < (rs.length : Int)) = true := by simpa using hlt
    have hsub : ((rngsF rs).drop (pre.length * 2)).take 2 = [iv r.lo, iv r.hi] := by rw [← hr]; exact flat_sub (f := rngF) (fun _ => rfl) hlt
    have hne : rngsF rs ≠ [] := flat_ne (s := 2) (fun _ => rfl) (by decide) hlt
    refine summM_of Tryz.func129 rfl rfl 101 rfl (by simp) (fun M0 X => ?_)
    repeat (first
    | (apply s_move_f; exact rfl; exact rfl)
    | (apply s_assign_f; exact rfl; exact rfl)
    | (apply s_fld_pt TY; exact rfl; exact rfl; exact rfl)
    | (apply s_load_pt TY; exact rfl; exact rfl; exact rfl; (first | exact rfl | assumption))
    | (apply s_load_pts TY; exact rfl; exact rfl; exact rfl; (first | assumption | exact rfl); exact rfl)
    | (apply s_len TY; exact rfl; exact rfl; exact rfl)
    | (apply s_box; exact rfl; exact rfl; exact rfl)
    | (apply s_lss; exact rfl; exact rfl; exact rfl)
    | (apply s_fld_bx TY; exact rfl; exact rfl; exact rfl)
    | (apply s_load_bx_f TY; exact rfl; exact rfl; exact rfl; exact rfl; exact rfl)
    | apply w_seq
    | apply w_region
    | apply s_nil
    | apply t_norm
    | apply w_block
    | (apply s_idxN TY; exact rfl; exact rfl; exact rfl; exact rfl; assumption; assumption)
    | (apply s_alloc TY; exact rfl; exact rfl; exact rfl)
    | (apply s_store TY; exact rfl; exact rfl; exact rfl; exact rfl; exact rfl; exact rfl)
    | (apply w_condT; exact rfl; (first | exact rfl | assumption)))
    apply w_loop (fun k : Nat => ⟨(Ab.upd (Ab.upd (Ab.upd (Ab.upd (Ab.upd (Ab.upd (fun _ => .bot) 10 (.f (iv (r.lo + (k : Nat))))) 9 (.bx 1 0)) 5 (.f (.pt (classL x rs) 0))) 3 (.f (.sl pre.length (intsF pre)))) 2 (.f (.sl l.length (flasF l)))) 0 (.ow 0)), (Ab.upd (Ab.upd (fun _ => none) 0 (some (.row 170 2 (msk x l r (rs.drop (pre.length + 1)) pre ms k).length (modelsF (msk x l r (rs.drop (pre.length + 1)) pre ms k))))) 1 (some (.box [.f (iv r.lo), .f (iv r.hi)]))), 2⟩) (fun k => k ≤ (r.hi + 1 - r.lo).toNat) (fun k => (r.hi + 1 - r.lo).toNat - k) 0 (Nat.zero_le _) (gh_le ⟨le_upd rfl rfl (le_upd rfl trivial (le_upd rfl trivial (le_upd rfl trivial (le_upd rfl rfl (le_upd (congrArg (fun z => AV.f (iv z)) (Int.add_zero r.lo)) trivial (le_nil _)))))), le_hupd rfl (fun y hy => by simp at hy; rcases hy with rfl | rfl <;> first | trivial | rfl) (le_hupd (by rw [msk_zero]; rfl) trivial (le_h0 _ _))⟩)
    intro k hk
    by_cases hkc : k < (r.hi + 1 - r.lo).toNat
    · have hc : decide (r.lo + (k : Int) ≤ r.hi) = true := by simp; omega
      have hmul := Nat.mul_le_mul_right (assigns (rs.drop (pre.length + 1)) []).length (show k + 1 ≤ (r.hi + 1 - r.lo).toNat from hkc)
      have hlen := msk_len x l r (rs.drop (pre.length + 1)) pre ms k hk
      have IH := ih (pre ++ [r.lo + k]) (msk x l r (rs.drop (pre.length + 1)) pre ms k) (by simp; omega) (fun n hn => by
        rcases List.mem_append.1 hn with h | h
        · exact hpre n h
        · simp at h; omega) (by rw [hlen, assigns_len _ (pre ++ [r.lo + (k : Int)]) []]; simp only [List.length_append, List.length_cons, List.length_nil, Nat.zero_add]; rw [Nat.add_mul] at hmul; omega)
      simp only [List.length_append, List.length_cons, List.length_nil, Nat.zero_add, intsF_snoc] at IH
      rw [← List.length_append, ← msk_succ x l r (rs.drop (pre.length + 1)) pre ms hkc] at IH
      have hil : (intsF pre).length = pre.length * 1 := by simp [intsF]
      repeat (first
    | (apply s_move_f; exact rfl; exact rfl)
    | (apply s_leq; exact rfl; exact rfl; exact rfl)
    | (apply s_fld_bx TY; exact rfl; exact rfl; exact rfl)
    | (apply s_load_bx_f TY; exact rfl; exact rfl; exact rfl; exact rfl; exact rfl)
    | apply w_seq
    | apply w_region
    | apply s_nil
    | apply t_norm
    | apply w_block
    | apply w_skip
    | (apply w_condT; exact rfl; (first | exact rfl | assumption)))
      apply w_draw 8 rfl (by kernel_rfl)
      repeat (first
    | (apply s_append_clip TY; exact rfl; exact rfl; exact rfl; exact rfl; exact rfl; exact rfl; exact rfl; exact rfl; exact hil; exact rfl; (unfold maxLen; omega); omega)
    | (apply s_callM IH; exact rfl; exact rfl; exact rfl; exact rfl; exact rfl; exact rfl)
    | (apply s_move_f; exact rfl; exact rfl)
    | (apply s_assign_f; exact rfl; exact rfl)
    | (apply s_load_pts TY; exact rfl; exact rfl; exact rfl; (first | assumption | exact rfl); exact rfl)
    | (apply s_move_o; exact rfl; exact rfl)
    | (apply s_assign_o; exact rfl; exact rfl)
    | (apply s_bslice TY; exact rfl; exact rfl; exact rfl; exact rfl; exact rfl; exact rfl)
    | apply w_region
    | apply s_nil
    | apply t_norm
    | apply k_norm
    | (apply s_call (clip_s pre (by omega)); exact rfl; exact rfl; exact rfl; exact rfl)
    | (apply s_add; exact rfl; exact rfl; exact rfl; (omega)))
      exact ⟨k + 1, by omega, by omega, gh_le ⟨le_upd rfl rfl (le_upd rfl trivial (le_upd rfl trivial (le_upd rfl trivial (le_upd rfl rfl (le_upd (congrArg (fun z => AV.f (iv z)) (show r.lo + ((k + 1 : Nat) : Int) = r.lo + (k : Int) + 1 by omega)) trivial (le_nil _)))))), le_hupd rfl (fun y hy => by simp at hy; rcases hy with rfl | rfl <;> first | trivial | rfl) (le_hupd rfl trivial (le_h0 _ _))⟩⟩
    · have hc : decide (r.lo + (k : Int) ≤ r.hi) = false := by simp; omega
      have hke : k = (r.hi + 1 - r.lo).toNat := by omega
      repeat (first
    | (apply s_move_f; exact rfl; exact rfl)
    | (apply s_leq; exact rfl; exact rfl; exact rfl)
    | (apply s_move_o; exact rfl; exact rfl)
    | (apply s_assign_o; exact rfl; exact rfl)
    | (apply s_fld_bx TY; exact rfl; exact rfl; exact rfl)
    | (apply s_load_bx_f TY; exact rfl; exact rfl; exact rfl; exact rfl; exact rfl)
    | apply w_seq
    | apply w_region
    | apply s_nil
    | apply t_norm
    | apply t_exit
    | apply t_ret
    | apply k_hit
    | apply w_exit
    | apply w_ret
    | (apply w_condF; exact rfl; (first | exact rfl | assumption)))
      refine ⟨8, rfl, rfl, ?_⟩
      subst hke
      rw [← msk_end]
      rfl
  | zero =>
    intro pre ms hd hpre hms
    have hpl : pre.length = rs.length := by omega
    have hdrop : rs.drop pre.length = [] := List.drop_eq_nil_of_le (by omega)
    have hnews : news x l (rs.drop pre.length) pre = [mo x l pre] := by rw [hdrop]; rfl
    rw [hdrop] at hms
    have hms2 : ms.length + 1 ≤ 1000 := hms
    rw [hnews]
    have hxl : pre.length = x.layers.length := by omega
    have hb : decide ((pre.length : Int) < (rs.length : Int)) = false := by simp; omega
    have hil : (intsF pre).length = pre.length * 1 := by simp [intsF]
    refine summM_of Tryz.func129 rfl rfl 101 rfl (by simp) (fun M0 X => ?_)
    repeat (first
    | (apply s_callN (cloneL_s x.layers (by omega)); exact rfl; exact rfl; exact rfl; exact rfl; exact rfl)
    | (apply s_move_f; exact rfl; exact rfl)
    | (apply s_assign_f; exact rfl; exact rfl)
    | (apply s_fld_pt TY; exact rfl; exact rfl; exact rfl)
    | (apply s_load_pt TY; exact rfl; exact rfl; exact rfl; (first | exact rfl | assumption))
    | (apply s_load_pts TY; exact rfl; exact rfl; exact rfl; (first | assumption | exact rfl); exact rfl)
    | (apply s_len TY; exact rfl; exact rfl; exact rfl)
    | (apply s_box; exact rfl; exact rfl; exact rfl)
    | (apply s_lss; exact rfl; exact rfl; exact rfl)
    | (apply s_fld_bx TY; exact rfl; exact rfl; exact rfl)
    | apply w_seq
    | apply w_region
    | apply s_nil
    | apply t_norm
    | apply w_block
    | apply w_skip
    | (apply s_alloc TY; exact rfl; exact rfl; exact rfl)
    | (apply s_store TY; exact rfl; exact rfl; exact rfl; exact rfl; exact rfl; exact rfl)
    | (apply w_condF; exact rfl; (first | exact rfl | assumption)))
    apply w_loop (fun k : Nat => ⟨(Ab.upd (Ab.upd (Ab.upd (Ab.upd (Ab.upd (Ab.upd (Ab.upd (fun _ => .bot) 56 (.f (iv (k : Nat)))) 55 (.f (iv pre.length))) 54 (.f (.sl pre.length (intsF pre)))) 11 (.bx 1 0)) 3 (.f (.sl pre.length (intsF pre)))) 2 (.f (.sl l.length (flasF l)))) 0 (.ow 0)), (Ab.upd (Ab.upd (Ab.upd (fun _ => none) 0 (some (.row 170 2 ms.length (modelsF ms)))) 1 (some (.box [.ow 2, .f (iv x.rows), .f (.sl x.tilt.length (intsF x.tilt))]))) 2 (some (.row 103 3 x.layers.length (laysF (ownL x pre k))))), 3⟩) (fun k => k ≤ pre.length) (fun k => pre.length - k) 0 (Nat.zero_le _) (gh_le ⟨le_upd rfl rfl (le_upd rfl trivial (le_upd rfl trivial (le_upd rfl rfl (le_upd rfl trivial (le_upd rfl trivial (le_upd rfl trivial (le_nil _))))))), le_hupd (by rw [ownL_zero]; rfl) trivial (le_hupd rfl (fun y hy => by simp at hy; rcases hy with rfl | rfl | rfl <;> first | trivial | rfl) (le_hupd rfl trivial (le_h0 _ _)))⟩)
    intro k hk
    by_cases hkc : k < pre.length
    · have hc : decide ((k : Int) < (pre.length : Int)) = true := by simpa using hkc
      have hc1 : (intsF pre)[k * 1]? = some (iv pre[k]) := map_at hkc
      have hne : intsF pre ≠ [] := map_ne hkc
      have hkx : k < x.layers.length := by omega
      have hlen3 : (laysF (ownL x pre k)).length = x.layers.length * 3 := by rw [laysF, flatMap_length (s := 3) (fun _ => rfl), ownL_len]
      repeat (first
    | (apply s_storeR TY; exact rfl; exact rfl; exact rfl; exact rfl; exact rfl; (simp only [List.length_cons, List.length_nil]; omega))
    | (apply s_move_f; exact rfl; exact rfl)
    | (apply s_assign_f; exact rfl; exact rfl)
    | (apply s_load_pt TY; exact rfl; exact rfl; exact rfl; (first | exact rfl | assumption))
    | (apply s_lss; exact rfl; exact rfl; exact rfl)
    | (apply s_fld_bx TY; exact rfl; exact rfl; exact rfl)
    | (apply s_load_bx_o TY; exact rfl; exact rfl; exact rfl; exact rfl; exact rfl)
    | apply w_seq
    | apply w_region
    | apply s_nil
    | apply t_norm
    | apply k_norm
    | apply w_block
    | apply w_skip
    | (apply s_add; exact rfl; exact rfl; exact rfl; (omega))
    | (apply s_idxN TY; exact rfl; exact rfl; exact rfl; exact rfl; assumption; assumption)
    | (apply s_idxN_ow TY; exact rfl; exact rfl; exact rfl; exact rfl; exact rfl; assumption)
    | (apply w_condT; exact rfl; (first | exact rfl | assumption)))
      exact ⟨k + 1, by omega, by omega, gh_le ⟨le_upd rfl rfl (le_upd rfl trivial (le_upd rfl trivial (le_upd rfl rfl (le_upd rfl trivial (le_upd rfl trivial (le_upd rfl trivial (le_nil _))))))), le_hupd (by rw [← ownL_succ x pre hkc hxl]; rfl) trivial (le_hupd rfl (fun y hy => by simp at hy; rcases hy with rfl | rfl | rfl <;> first | trivial | rfl) (le_hupd rfl trivial (le_h0 _ _)))⟩⟩
    · have hc : decide ((k : Int) < (pre.length : Int)) = false := by simpa using hkc
      have hke : k = pre.length := by omega
      subst hke
      repeat (first
    | (apply s_move_f; exact rfl; exact rfl)
    | (apply s_lss; exact rfl; exact rfl; exact rfl)
    | apply w_seq
    | apply w_region
    | apply s_nil
    | apply t_norm
    | apply t_exit
    | apply k_hit
    | apply w_exit
    | (apply w_condF; exact rfl; (first | exact rfl | assumption)))
      apply s_ghost; exact rfl; exact gh_row 2 rfl
      repeat (first
    | (apply s_move_f; exact rfl; exact rfl)
    | (apply s_len TY; exact rfl; exact rfl; exact rfl)
    | (apply s_build TY; exact rfl; exact rfl; exact rfl; exact rfl; exact rfl)
    | apply w_seq
    | apply w_region
    | apply s_nil
    | apply t_norm
    | apply w_block
    | (apply s_call (SummN.toSumm (cloneI_s pre (by omega))); exact rfl; exact rfl; exact rfl; exact rfl)
    | (apply s_alloc TY; exact rfl; exact rfl; exact rfl)
    | (apply s_store TY; exact rfl; exact rfl; exact rfl; exact rfl; exact rfl; exact rfl))
      apply w_gh (gh_ownB 3 1 4 1 rfl rfl rfl)
      apply w_loop (fun k : Nat => ⟨(Ab.upd (Ab.upd (Ab.upd (Ab.upd (Ab.upd (Ab.upd (fun _ => .bot) 73 (.f (iv (k : Nat)))) 72 (.f (iv l.length))) 71 (.f (.sl l.length (flasF l)))) 14 (.bx 3 0)) 11 (.bx 1 0)) 0 (.ow 0)), (Ab.upd (Ab.upd (Ab.upd (Ab.upd (fun _ => none) 0 (some (.row 170 2 ms.length (modelsF ms)))) 1 (some (.box [.f (.sl (own x pre).layers.length (laysF (own x pre).layers)), .f (iv (own x pre).rows), .f (.sl (own x pre).tilt.length (intsF (own x pre).tilt))]))) 3 (some (.box [.f (.sl pre.length (intsF pre)), .ow 4]))) 4 (some (.row 4 1 k (boolsF ((explains (own x pre) l).take k))))), 5⟩) (fun k => k ≤ l.length) (fun k => l.length - k) 0 (Nat.zero_le _) (gh_le ⟨le_upd rfl rfl (le_upd rfl rfl (le_upd rfl rfl (le_upd rfl trivial (le_upd rfl trivial (le_upd rfl trivial (le_nil _)))))), le_hupd rfl trivial (le_hupd rfl (fun y hy => by simp at hy; rcases hy with rfl | rfl <;> first | trivial | rfl) (le_hupd (by rw [← ownL_end, ownL_len]; rfl) (fun y hy => by simp at hy; rcases hy with rfl | rfl | rfl <;> first | trivial | rfl) (le_hupd rfl trivial (le_h0 _ _))))⟩)
      intro k hk
      have hel : (explains (own x pre) l).length = l.length := by simp [explains]
      by_cases hkc : k < l.length
      · have hc : decide ((k : Int) < (l.length : Int)) = true := by simpa using hkc
        have hsub : ((flasF l).drop (k * 7)).take 7 = flaF l[k] := flat_sub (f := flaF) (fun _ => rfl) hkc
        have hne : flasF l ≠ [] := flat_ne (s := 7) (fun _ => rfl) (by decide) hkc
        have hin := hf l[k] (List.getElem_mem hkc)
        have hexp : (explains (own x pre) l)[k]'(by omega) = withinB (distOf (own x pre) l[k].frm l[k].to) l[k].time.lo l[k].time.hi := by simp [explains]
        have hv := own_valid K.v hpre
        repeat (first
    | (apply s_load_pts TY; exact rfl; exact rfl; exact rfl; (first | assumption | exact rfl); exact rfl)
    | (apply s_lss; exact rfl; exact rfl; exact rfl)
    | apply w_seq
    | apply w_region
    | apply s_nil
    | apply t_norm
    | apply w_block
    | apply w_skip
    | (apply s_idxN TY; exact rfl; exact rfl; exact rfl; exact rfl; assumption; assumption)
    | (apply s_alloc TY; exact rfl; exact rfl; exact rfl)
    | (apply s_store TY; exact rfl; exact rfl; exact rfl; exact rfl; exact rfl; exact rfl)
    | (apply w_condT; exact rfl; (first | exact rfl | assumption)))
        apply w_draw 17 rfl (by kernel_rfl)
        repeat (first
    | (apply s_lookup; exact rfl; exact rfl; exact rfl; exact rfl; exact (fun ob r w hG hr => look_s (x := own x pre) (fr := l[k].frm) (c := l[k].to) ((own_in x pre _).2 hin.2) ob r w hG hr); exact (fun w M => RepF.v _))
    | (apply s_append TY; exact rfl; exact rfl; exact rfl; exact rfl; exact rfl; exact rfl; exact rfl; exact rfl; exact rfl; (unfold maxLen; omega); omega)
    | (apply s_move_f; exact rfl; exact rfl)
    | (apply s_fld_bx TY; exact rfl; exact rfl; exact rfl)
    | (apply s_load_bx_f TY; exact rfl; exact rfl; exact rfl; exact rfl; exact rfl)
    | (apply s_load_bx_o TY; exact rfl; exact rfl; exact rfl; exact rfl; exact rfl)
    | (apply s_load_bxs TY; exact rfl; exact rfl; exact rfl; exact rfl; exact rfl; exact rfl)
    | (apply s_bslice TY; exact rfl; exact rfl; exact rfl; exact rfl; exact rfl; exact rfl)
    | apply w_region
    | apply s_nil
    | apply t_norm
    | apply k_norm
    | (apply s_call (times_s (own x pre) l[k].frm hv ((own_in x pre _).2 hin.1)); exact rfl; exact rfl; exact rfl; exact rfl)
    | (apply s_call (within_s _ _ _); exact rfl; exact rfl; exact rfl; exact rfl)
    | (apply s_add; exact rfl; exact rfl; exact rfl; (omega))
    | (apply s_store TY; exact rfl; exact rfl; exact rfl; exact rfl; exact rfl; exact rfl))
        exact ⟨k + 1, by omega, by omega, gh_le ⟨le_upd rfl rfl (le_upd rfl rfl (le_upd rfl rfl (le_upd rfl trivial (le_upd rfl trivial (le_upd rfl trivial (le_nil _)))))), le_hupd (by rw [boolsF_take (show k < (explains (own x pre) l).length by omega), hexp]; rfl) trivial (le_hupd rfl (fun y hy => by simp at hy; rcases hy with rfl | rfl <;> first | trivial | rfl) (le_hupd rfl (fun y hy => by simp at hy; rcases hy with rfl | rfl | rfl <;> first | trivial | rfl) (le_hupd rfl trivial (le_h0 _ _))))⟩⟩
      · have hc : decide ((k : Int) < (l.length : Int)) = false := by simpa using hkc
        have hke : k = l.length := by omega
        subst hke
        rw [List.take_of_length_le (by omega)]
        repeat (first
    | (apply s_lss; exact rfl; exact rfl; exact rfl)
    | (apply s_move_o; exact rfl; exact rfl)
    | apply w_seq
    | apply w_region
    | apply s_nil
    | apply t_norm
    | apply t_exit
    | apply k_hit
    | apply w_exit
    | (apply w_condF; exact rfl; (first | exact rfl | assumption)))
        apply s_ghost; exact rfl; exact gh_row 4 rfl
        repeat (first
    | (apply s_append TY; exact rfl; exact rfl; exact rfl; exact rfl; exact rfl; exact rfl; exact rfl; exact rfl; exact rfl; (unfold maxLen; omega); omega)
    | (apply s_assign_o; exact rfl; exact rfl)
    | (apply s_load_bxs TY; exact rfl; exact rfl; exact rfl; exact rfl; exact rfl; exact rfl)
    | (apply s_bslice TY; exact rfl; exact rfl; exact rfl; exact rfl; exact rfl; exact rfl)
    | apply s_nil
    | apply t_norm
    | apply w_ret)
        refine ⟨8, rfl, rfl, ?_⟩
        rw [modelsF_snoc, List.length_append]
        show _ = some (Blk.row 170 2 (ms.length + 1) (modelsF ms ++ [FV.sl pre.length (intsF pre), FV.sl (explains (own x pre) l).length (boolsF (explains (own x pre) l))]))
        rw [hel]
        rfl
end Go.Proofs.YtnmaabejdmaahaaGreatDoor.Ice
namespace Go.Proofs.YtnmaabejdmaahaaGreatDoor.Ice
open Go Go.RowKit Go.Proofs Go.Shelf Go.Ab
structure Small (x : Grid) (rs : List Rng) (l : List Flash) : Prop where
  nl : x.layers.length ≤ 140737488355328
  nt : x.tilt.length ≤ 140737488355328
  nr : rs.length ≤ 140737488355328
  nf : l.length ≤ 140737488355328
  name : ∀ f ∈ l, f.name.size ≤ 9223372036854775807
theorem CheckFlashes_s (x : Grid) (rs : List Rng) (l : List Flash) (b : Small x rs l) : Summ Tryz.prog GG 128 [classF x rs, .sl l.length (flasF l)] (.tup [iv (checkFlashes x rs l).1, iv (checkFlashes x rs l).2]) := by
  refine ⟨enters_of Tryz.func128 (by kernel_rfl) rfl, fun w M us hM hG R => ?_⟩
  obtain ⟨u1, us1, rfl, r1, R1⟩ := R.head
  obtain ⟨u2, us2, rfl, r2, R2⟩ := R1.head
  have := R2.end; subst this
  obtain ⟨la, ta, ra, lc, tc, rc, rfl, hg, hr⟩ := rep_classF r1 b.nl b.nt
  obtain ⟨fa, fc, rfl, hfc, hf⟩ := rep_row r2 (detC_flas l)
  refine (CheckFlashes_any la ta ra fa lc tc rc fc x rs l w hg hr b.nr ⟨hf, b.nf, b.name⟩ hfc).mono fun e w' ⟨h1, h2⟩ => ⟨_, h1, ?_, h2⟩
  have R := RepL.cons (RepF.v (w := w') (M := M) (.int .i64 (checkFlashes x rs l).1)) (RepL.cons (RepF.v (.int .i64 (checkFlashes x rs l).2)) (RepL.nil _ _))
  exact RepF.tup _ _ R.1 R.2
theorem containsB_s (l : List Bool) (v : Bool) (hl : l.length ≤ 140737488355328) : Summ Tryz.prog GG 96 [.sl l.length (boolsF l), .v (.bool v)] (.v (.bool (l.any fun b => v == b))) := by
  refine ⟨enters_of Tryz.func96 (by kernel_rfl) rfl, fun w M us hM hG R => ?_⟩
  obtain ⟨u1, us1, rfl, r1, R1⟩ := R.head
  obtain ⟨u2, us2, rfl, r2, R2⟩ := R1.head
  have := R2.end; subst this
  have := repV r2; subst this
  obtain ⟨a, c, rfl, _, hr⟩ := rep_row r1 (detC_bools l)
  exact (containsBool v a l c w hl hr).mono fun e w' ⟨h1, h2⟩ => ⟨_, h1, RepF.v _, h2 ▸ Ext.refl _⟩
theorem rep_nil {w : World} {M : Nat → Prop} {u : Value} (h : RepF w M u (.v (.slice none 0 0))) : RepF w M u (.sl 0 []) := by
  have := repV h; subst this
  exact RepF.sl none 0 0 [] [] (Nat.le_refl _) rfl (by simp) (fun h => absurd rfl h) (fun k u x h => by simp at h)
theorem flashScan_zero {x : Grid} {l : List Flash} : ∀ (f i : Nat), i + f = l.length → (flashScan x l f i).2 = 0 → ∀ j, i ≤ j → (hj : j < l.length) → flashE x (l.take j) l[j] = 0
  | 0, i, h, _, j, h1, hj => by omega
  | f + 1, i, h, hz, j, h1, hj => by
    have hi : i < l.length := by omega
    unfold flashScan at hz
    rw [getDF hi] at hz
    by_cases hr : (flashE x (l.take i) l[i] != 0) = true
    · rw [if_pos hr] at hz; simp at hr; exact absurd hz hr
    · rw [if_neg hr] at hz
      by_cases e : j = i
      · subst e; simpa using hr
      · exact flashScan_zero f (i + 1) (by omega) hz j (by omega) hj
structure FlashesOk (x : Grid) (rs : List Rng) (l : List Flash) : Prop where
  k : ClassOk x rs
  l8 : l.length ≤ 8
  cells : ∀ f ∈ l, InG x f.frm ∧ InG x f.to
theorem flashesOk {x : Grid} {rs : List Rng} {l : List Flash} (h : (checkFlashes x rs l).2 = 0) : FlashesOk x rs l := by
  unfold checkFlashes at h
  by_cases t1 : (flashE0 x rs l != 0) = true
  · rw [if_pos t1] at h; simp at t1; exact absurd h t1
  rw [if_neg t1] at h
  have h0 : flashE0 x rs l = 0 := by simpa using t1
  unfold flashE0 at h0
  rw [firstE_zero] at h0
  have k := classOk (h0 (checkClass x rs).2 (by simp))
  have h8 := (unlessE_zero (by decide)).1 (h0 (unlessE (decide ((l.length : Int) ≤ 8)) 8) (by simp))
  simp only [decide_eq_true_eq] at h8
  refine ⟨k, by omega, fun f hf => ?_⟩
  obtain ⟨j, hj, rfl⟩ := List.mem_iff_getElem.1 hf
  have hz := flashScan_zero (x := x) l.length 0 (by omega) h j (Nat.zero_le _) hj
  unfold flashE at hz
  rw [firstE_zero] at hz
  have a1 := (unlessE_zero (by decide)).1 (hz (cellErrE x l[j].frm) (by simp))
  have a2 := (unlessE_zero (by decide)).1 (hz (cellErrE x l[j].to) (by simp))
  exact ⟨(cellB_in k.v).1 a1, (cellB_in k.v).1 a2⟩
noncomputable def allMo (x : Grid) (rs : List Rng) (l : List Flash) : List (List Int × List Bool) := news x l rs []
theorem grown_nil (x : Grid) (rs : List Rng) (l : List Flash) (K : FlashesOk x rs l) : Summ Tryz.prog GG 129 [.v (.slice none 0 0), classF x rs, .sl l.length (flasF l), .v (.slice none 0 0)] (.sl (allMo x rs l).length (modelsF (allMo x rs l))) := by
  have G := grown_s x rs l K.k K.l8 K.cells rs.length [] [] (by simp) (by simp) (by simp; have := K.k.cnt; omega)
  simp only [List.nil_append, List.length_nil, List.drop_zero] at G
  refine ⟨G.enters, fun w M us hM hG R => ?_⟩
  obtain ⟨u1, us1, rfl, r1, R1⟩ := R.head
  obtain ⟨u2, us2, rfl, r2, R2⟩ := R1.head
  obtain ⟨u3, us3, rfl, r3, R3⟩ := R2.head
  obtain ⟨u4, us4, rfl, r4, R4⟩ := R3.head
  have := R4.end; subst this
  have e1 := repV r1; subst e1
  have hMM : ∀ b, b < w.heap.size → (M b ∨ bk (.slice none 0 0) = some b) → M b := fun b _ h => h.elim id (fun h => by simp [bk] at h)
  have RR : RepL w M [u2, u3, u4] [classF x rs, .sl l.length (flasF l), .sl 0 (intsF [])] := RepL.cons r2 (RepL.cons r3 (RepL.cons (rep_nil r4) (RepL.nil _ _)))
  refine (G.call w M [u2, u3, u4] (.slice none 0 0) [] hM (fun b hb => by simp [bk] at hb) (fun g cs hg => (hG g cs hg).ext (Ext.refl _) hMM) (RR.ext (Ext.refl _) hMM) (World.ownsRow_nil _ _ _ _) (by simp) (RepL.nil _ _)).mono ?_
  rintro e w' ⟨v', xs', rfl, h1, h2, h3, h4, h5⟩
  have hfr : ∀ c, bk v' = some c → w.heap.size ≤ c := fun c hc => (h5 c hc).elim (fun h => by simp [bk] at h) id
  refine ⟨v', rfl, own_sl (w := w) (e := 170) (sz := 2) (us := xs') ⟨h1.1, ?_⟩ h2 hM (h3.mono (fun _ _ _ => rfl) (Nat.le_refl _) (fun _ _ h => .inl h)), Ext.of_grown h4⟩
  rcases h1.2 with h | ⟨g, cap, cur, q1, q2, q3⟩
  · exact .inl h
  · exact .inr ⟨g, cap, cur, q1, hfr g (by rw [q1]; rfl), q3⟩
set_option maxRecDepth 100000 in
theorem openModels_ok (x : Grid) (rs : List Rng) (l : List Flash) (b : Small x rs l) (h : (checkFlashes x rs l).2 = 0) : Summ Tryz.prog GG 95 [classF x rs, .sl l.length (flasF l)] (.tup [.sl (allMo x rs l).length (modelsF (allMo x rs l)), iv 0]) := by
  have hb : (!decide ((checkFlashes x rs l).2 = 0)) = false := by simpa using h
  refine summW Tryz.func95 rfl rfl 20 rfl (by simp) (fun M0 => ?_)
  repeat (first
    | (apply s_move_f; exact rfl; exact rfl)
    | (apply s_assign_f; exact rfl; exact rfl)
    | (apply s_load_pts TY; exact rfl; exact rfl; exact rfl; (first | assumption | exact rfl); exact rfl)
    | (apply s_extract; exact rfl; exact rfl; exact rfl)
    | (apply s_box; exact rfl; exact rfl; exact rfl)
    | (apply s_neq; exact rfl; exact rfl; exact rfl)
    | apply w_seq
    | apply w_region
    | apply s_nil
    | apply t_norm
    | apply w_ret
    | apply w_skip
    | (apply s_call (CheckFlashes_s x rs l b); exact rfl; exact rfl; exact rfl; exact rfl)
    | (apply s_call (grown_nil x rs l (flashesOk h)); exact rfl; exact rfl; exact rfl; exact rfl)
    | (apply w_condF; exact rfl; (first | exact rfl | assumption)))
  exact lv_ret (ret2 rfl (res_tmp rfl) (res_tmp rfl))
noncomputable def fits (ms : List (List Int × List Bool)) : List (List Int) := (ms.filter fun m => !m.2.any fun b => false == b).map (·.1)
theorem fits_take {ms : List (List Int × List Bool)} {k : Nat} (hk : k < ms.length) : fits (ms.take (k + 1)) = fits (ms.take k) ++ (if (ms[k].2.any fun b => false == b) = true then [] else [ms[k].1]) := by
  unfold fits
  rw [List.take_succ_eq_append_getElem hk, List.filter_append, List.map_append]
  congr 1
  by_cases h : (ms[k].2.any fun b => false == b) = true
  · rw [if_pos h]; simp only [List.filter_cons, h]; rfl
  · rw [if_neg h]; simp only [List.filter_cons]; rw [show (ms[k].2.any fun b => false == b) = false by simpa using h]; rfl
theorem fits_len (ms : List (List Int × List Bool)) : (fits ms).length ≤ ms.length := by unfold fits; rw [List.length_map]; exact List.length_filter_le _ _
def rowF (r : List Int) : FV := .sl r.length (intsF r)
def matF (M : List (List Int)) : List FV := M.map rowF
theorem matF_snoc (M : List (List Int)) (r : List Int) : matF (M ++ [r]) = matF M ++ [rowF r] := by simp [matF]
noncomputable def modelsM (x : Grid) (rs : List Rng) (l : List Flash) : List (List Int) := fits (allMo x rs l)
theorem allMo_len {x : Grid} {rs : List Rng} {l : List Flash} (K : FlashesOk x rs l) : (allMo x rs l).length ≤ 300 := by unfold allMo news; rw [List.length_map]; exact K.k.cnt
theorem allMo_bools {x : Grid} {rs : List Rng} {l : List Flash} {m : List Int × List Bool} (h : m ∈ allMo x rs l) : m.2.length = l.length := by
  unfold allMo news at h
  obtain ⟨ds, _, rfl⟩ := List.mem_map.1 h
  simp [mo, explains]
set_option maxRecDepth 100000 in
theorem ModelsOf_ok (x : Grid) (rs : List Rng) (l : List Flash) (b : Small x rs l) (h : (checkFlashes x rs l).2 = 0) : Summ Tryz.prog GG 67 [classF x rs, .sl l.length (flasF l)] (.tup [.sl (modelsM x rs l).length (matF (modelsM x rs l)), iv 0]) := by
  have K := flashesOk h
  have h300 := allMo_len K
  have hb : (!decide ((0 : Int) = 0)) = false := by simp
  refine summW Tryz.func67 rfl rfl 37 rfl (by simp) (fun M0 => ?_)
  repeat (first
    | (apply s_move_f; exact rfl; exact rfl)
    | (apply s_assign_f; exact rfl; exact rfl)
    | (apply s_load_pts TY; exact rfl; exact rfl; exact rfl; (first | assumption | exact rfl); exact rfl)
    | (apply s_len TY; exact rfl; exact rfl; exact rfl)
    | (apply s_extract; exact rfl; exact rfl; exact rfl)
    | (apply s_box; exact rfl; exact rfl; exact rfl)
    | (apply s_neq; exact rfl; exact rfl; exact rfl)
    | apply w_seq
    | apply w_region
    | apply s_nil
    | apply t_norm
    | apply w_block
    | apply w_skip
    | (apply s_call (openModels_ok x rs l b h); exact rfl; exact rfl; exact rfl; exact rfl)
    | (apply w_condF; exact rfl; (first | exact rfl | assumption)))
  apply w_gh (gh_own 8 43 1 rfl rfl)
  apply w_loop (fun k : Nat => ⟨(Ab.upd (Ab.upd (Ab.upd (Ab.upd (fun _ => .bot) 8 (.ow 0)) 20 (.f (.sl (allMo x rs l).length (modelsF (allMo x rs l))))) 21 (.f (iv (allMo x rs l).length))) 22 (.f (iv (k : Nat)))), (Ab.upd (fun _ => none) 0 (some (.row 43 1 (fits ((allMo x rs l).take k)).length (matF (fits ((allMo x rs l).take k)))))), 1⟩) (fun k => k ≤ (allMo x rs l).length) (fun k => (allMo x rs l).length - k) 0 (Nat.zero_le _) (gh_le ⟨le_upd rfl trivial (le_upd rfl trivial (le_upd rfl trivial (le_upd rfl rfl (le_nil _)))), le_hupd rfl trivial (le_h0 _ _)⟩)
  intro k hk
  have hfl := fits_len ((allMo x rs l).take k)
  rw [List.length_take] at hfl
  by_cases hkc : k < (allMo x rs l).length
  · have hc : decide ((k : Int) < ((allMo x rs l).length : Int)) = true := by simpa using hkc
    have hsub : ((modelsF (allMo x rs l)).drop (k * 2)).take 2 = modF (allMo x rs l)[k] := flat_sub (f := modF) (fun _ => rfl) hkc
    have hne : modelsF (allMo x rs l) ≠ [] := flat_ne (s := 2) (fun _ => rfl) (by decide) hkc
    have hbl := allMo_bools (List.getElem_mem hkc)
    have h8 := K.l8
    have hft := fits_take hkc
    cases hany : ((allMo x rs l)[k].2.any fun b => false == b)
    · have hn : (!((allMo x rs l)[k].2.any fun b => false == b)) = true := by rw [hany]; rfl
      rw [hany] at hft
      simp only [Bool.false_eq_true, if_false] at hft
      repeat (first
    | (apply s_append TY; exact rfl; exact rfl; exact rfl; exact rfl; exact rfl; exact rfl; exact rfl; exact rfl; exact rfl; (unfold maxLen; omega); omega)
    | (apply s_move_f; exact rfl; exact rfl)
    | (apply s_load_pts TY; exact rfl; exact rfl; exact rfl; (first | assumption | exact rfl); exact rfl)
    | (apply s_not; exact rfl; exact rfl)
    | (apply s_lss; exact rfl; exact rfl; exact rfl)
    | (apply s_move_o; exact rfl; exact rfl)
    | (apply s_assign_o; exact rfl; exact rfl)
    | (apply s_fld_bx TY; exact rfl; exact rfl; exact rfl)
    | (apply s_load_bx_f TY; exact rfl; exact rfl; exact rfl; exact rfl; exact rfl)
    | (apply s_bslice TY; exact rfl; exact rfl; exact rfl; exact rfl; exact rfl; exact rfl)
    | apply w_seq
    | apply w_region
    | apply s_nil
    | apply t_norm
    | apply k_norm
    | apply w_block
    | apply w_skip
    | (apply s_call (containsB_s (allMo x rs l)[k].2 false (by omega)); exact rfl; exact rfl; exact rfl; exact rfl)
    | (apply s_add; exact rfl; exact rfl; exact rfl; (omega))
    | (apply s_idxN TY; exact rfl; exact rfl; exact rfl; exact rfl; assumption; assumption)
    | (apply s_alloc TY; exact rfl; exact rfl; exact rfl)
    | (apply s_store TY; exact rfl; exact rfl; exact rfl; exact rfl; exact rfl; exact rfl)
    | (apply w_condT; exact rfl; (first | exact rfl | assumption)))
      exact ⟨k + 1, by omega, by omega, gh_le ⟨le_upd rfl trivial (le_upd rfl trivial (le_upd rfl trivial (le_upd rfl rfl (le_nil _)))), le_hupd (by rw [hft, matF_snoc, List.length_append]; rfl) trivial (le_h0 _ _)⟩⟩
    · have hn : (!((allMo x rs l)[k].2.any fun b => false == b)) = false := by rw [hany]; rfl
      rw [hany] at hft
      simp only [if_true, List.append_nil] at hft
      repeat (first
    | (apply s_move_f; exact rfl; exact rfl)
    | (apply s_load_pts TY; exact rfl; exact rfl; exact rfl; (first | assumption | exact rfl); exact rfl)
    | (apply s_not; exact rfl; exact rfl)
    | (apply s_lss; exact rfl; exact rfl; exact rfl)
    | (apply s_fld_bx TY; exact rfl; exact rfl; exact rfl)
    | (apply s_load_bx_f TY; exact rfl; exact rfl; exact rfl; exact rfl; exact rfl)
    | apply w_seq
    | apply w_region
    | apply s_nil
    | apply t_norm
    | apply k_norm
    | apply w_block
    | apply w_skip
    | (apply s_call (containsB_s (allMo x rs l)[k].2 false (by omega)); exact rfl; exact rfl; exact rfl; exact rfl)
    | (apply s_add; exact rfl; exact rfl; exact rfl; (omega))
    | (apply s_idxN TY; exact rfl; exact rfl; exact rfl; exact rfl; assumption; assumption)
    | (apply s_alloc TY; exact rfl; exact rfl; exact rfl)
    | (apply s_store TY; exact rfl; exact rfl; exact rfl; exact rfl; exact rfl; exact rfl)
    | (apply w_condT; exact rfl; (first | exact rfl | assumption))
    | (apply w_condF; exact rfl; (first | exact rfl | assumption)))
      exact ⟨k + 1, by omega, by omega, gh_le ⟨le_upd rfl trivial (le_upd rfl trivial (le_upd rfl trivial (le_upd rfl rfl (le_nil _)))), le_hupd (by rw [hft]; rfl) trivial (le_h0 _ _)⟩⟩
  · have hc : decide ((k : Int) < ((allMo x rs l).length : Int)) = false := by simpa using hkc
    have hke : k = (allMo x rs l).length := by omega
    subst hke
    rw [List.take_length]
    repeat (first
    | (apply s_assign_f; exact rfl; exact rfl)
    | (apply s_lss; exact rfl; exact rfl; exact rfl)
    | (apply s_move_o; exact rfl; exact rfl)
    | (apply s_assign_o; exact rfl; exact rfl)
    | apply w_seq
    | apply w_region
    | apply s_nil
    | apply t_norm
    | apply t_exit
    | apply k_hit
    | apply w_exit
    | apply w_ret
    | (apply w_condF; exact rfl; (first | exact rfl | assumption)))
    exact lv_ret (ret_gh (gh_row 0 rfl) (ret2 rfl (res_tmp rfl) (res_tmp rfl)))
end Go.Proofs.YtnmaabejdmaahaaGreatDoor.Ice
namespace Go.Proofs.YtnmaabejdmaahaaGreatDoor.Ice
open Go Go.RowKit Go.Proofs Go.Shelf Go.Ab
theorem assigns_rows : ∀ (rs : List Rng) (pre ds : List Int), ds ∈ assigns rs pre → ds.length = pre.length + rs.length
  | [], pre, ds, h => by simp [assigns] at h; subst h; simp
  | r :: rs, pre, ds, h => by
    simp only [assigns, List.mem_flatMap] at h
    obtain ⟨n, _, h⟩ := h
    have := assigns_rows rs _ ds h
    simp at this ⊢; omega
theorem fits_mem {ms : List (List Int × List Bool)} {r : List Int} (h : r ∈ fits ms) : ∃ m ∈ ms, m.1 = r := by
  unfold fits at h
  obtain ⟨m, hm, rfl⟩ := List.mem_map.1 h
  exact ⟨m, (List.mem_filter.1 hm).1, rfl⟩
theorem modelsM_rows {x : Grid} {rs : List Rng} {l : List Flash} {r : List Int} (h : r ∈ modelsM x rs l) : r.length = rs.length := by
  obtain ⟨m, hm, rfl⟩ := fits_mem h
  unfold allMo news at hm
  obtain ⟨ds, hd, rfl⟩ := List.mem_map.1 hm
  have := assigns_rows rs [] ds hd
  simpa [mo] using this
def atI (M : List (List Int)) (k i : Nat) : Int := (M.getD k []).getD i 0
def loK (M : List (List Int)) (i : Nat) : Nat → Int
  | 0 => atI M 0 i
  | k + 1 => min (loK M i k) (atI M k i)
def hiK (M : List (List Int)) (i : Nat) : Nat → Int
  | 0 => atI M 0 i
  | k + 1 => max (hiK M i k) (atI M k i)
def rangesR (M : List (List Int)) (n : Nat) : List Rng := (List.range n).map fun i => ⟨loK M i M.length, hiK M i M.length⟩
theorem rangesR_succ (M : List (List Int)) (n : Nat) : rangesR M (n + 1) = rangesR M n ++ [⟨loK M n M.length, hiK M n M.length⟩] := by simp [rangesR, List.range_succ]
theorem rangesR_len (M : List (List Int)) (n : Nat) : (rangesR M n).length = n := by simp [rangesR]
theorem rngsF_snoc (l : List Rng) (r : Rng) : rngsF (l ++ [r]) = rngsF l ++ rngF r := by simp [rngsF]
theorem matF_at {M : List (List Int)} {k : Nat} (hk : k < M.length) : (matF M)[k * 1]? = some (rowF M[k]) := map_at hk
theorem atI_eq {M : List (List Int)} {k i : Nat} (hk : k < M.length) (hi : i < M[k].length) : atI M k i = M[k][i] := by
  unfold atI
  simp only [List.getD_eq_getElem?_getD, List.getElem?_eq_getElem hk, Option.getD_some, List.getElem?_eq_getElem hi]
set_option maxRecDepth 100000 in
set_option maxHeartbeats 1000000 in
theorem RangesOf_ok (x : Grid) (rs : List Rng) (l : List Flash) (b : Small x rs l) (h : (checkFlashes x rs l).2 = 0) (hm : 0 < (modelsM x rs l).length) : Summ Tryz.prog GG 25 [classF x rs, .sl l.length (flasF l)] (.tup [.sl (rangesR (modelsM x rs l) rs.length).length (rngsF (rangesR (modelsM x rs l) rs.length)), iv 0]) := by
  have K := flashesOk h
  have h6 := K.k.v.l6
  have hrl := K.k.len
  have h300 : (modelsM x rs l).length ≤ 300 := Nat.le_trans (fits_len _) (allMo_len K)
  have hu : unlessE (decide ((0 : Int) < ((modelsM x rs l).length : Int))) 12 = 0 := by unfold unlessE; rw [if_pos (by simpa using hm)]
  have hf : firstE [0, unlessE (decide ((0 : Int) < ((modelsM x rs l).length : Int))) 12] = 0 := by rw [hu]; rfl
  have hb : (!decide (firstE [0, unlessE (decide ((0 : Int) < ((modelsM x rs l).length : Int))) 12] = 0)) = false := by rw [hf]; rfl
  have hne : matF (modelsM x rs l) ≠ [] := map_ne hm
  have hm0 : (matF (modelsM x rs l))[0]? = some (rowF (modelsM x rs l)[0]) := by have := matF_at hm; simpa using this
  have hl0 : (modelsM x rs l)[0].length = rs.length := modelsM_rows (List.getElem_mem hm)
  refine summW Tryz.func25 rfl rfl 76 rfl (by simp) (fun M0 => ?_)
  repeat (first
    | (apply s_move_f; exact rfl; exact rfl)
    | (apply s_assign_f; exact rfl; exact rfl)
    | (apply s_fld_pt TY; exact rfl; exact rfl; exact rfl)
    | (apply s_load_pt TY; exact rfl; exact rfl; exact rfl; (first | exact rfl | assumption))
    | (apply s_load_pts TY; exact rfl; exact rfl; exact rfl; (first | assumption | exact rfl); exact rfl)
    | (apply s_len TY; exact rfl; exact rfl; exact rfl)
    | (apply s_extract; exact rfl; exact rfl; exact rfl)
    | (apply s_box; exact rfl; exact rfl; exact rfl)
    | (apply s_gtr; exact rfl; exact rfl; exact rfl)
    | (apply s_neq; exact rfl; exact rfl; exact rfl)
    | (apply s_bslice TY; exact rfl; exact rfl; exact rfl; exact rfl; exact rfl; exact rfl)
    | apply w_seq
    | apply w_region
    | apply s_nil
    | apply t_norm
    | apply w_block
    | apply w_skip
    | (apply s_call (ModelsOf_ok x rs l b h); exact rfl; exact rfl; exact rfl; exact rfl)
    | (apply s_call (unless_s _ _); exact rfl; exact rfl; exact rfl; exact rfl)
    | (apply s_call (first_s [0, unlessE (decide ((0 : Int) < ((modelsM x rs l).length : Int))) 12] (by simp)); exact rfl; exact rfl; exact rfl; exact rfl)
    | (apply w_condF; exact rfl; (first | exact rfl | assumption)))
  apply w_gh (gh_own 8 23 2 rfl rfl)
  apply w_loop (fun i : Nat => ⟨(Ab.upd (Ab.upd (Ab.upd (Ab.upd (fun _ => .bot) 6 (.f (.sl (modelsM x rs l).length (matF (modelsM x rs l))))) 8 (.ow 0)) 31 (.f (iv rs.length))) 32 (.f (iv (i : Nat)))), (Ab.upd (fun _ => none) 0 (some (.row 23 2 i (rngsF (rangesR (modelsM x rs l) i))))), 1⟩) (fun i => i ≤ rs.length) (fun i => rs.length - i) 0 (Nat.zero_le _) (gh_le ⟨le_upd rfl trivial (le_upd rfl trivial (le_upd rfl rfl (le_upd rfl trivial (le_nil _)))), le_hupd rfl trivial (le_h0 _ _)⟩)
  intro i hi
  by_cases hic : i < rs.length
  · have hc : decide ((i : Int) < (rs.length : Int)) = true := by simpa using hic
    have hi0 : i < (modelsM x rs l)[0].length := by omega
    have hc0 : (intsF (modelsM x rs l)[0])[i * 1]? = some (iv (modelsM x rs l)[0][i]) := map_at hi0
    have hne0 : intsF (modelsM x rs l)[0] ≠ [] := map_ne hi0
    have ha0 := atI_eq hm hi0
    repeat (first
    | (apply s_move_f; exact rfl; exact rfl)
    | (apply s_assign_f; exact rfl; exact rfl)
    | (apply s_lss; exact rfl; exact rfl; exact rfl)
    | apply w_seq
    | apply w_region
    | apply s_nil
    | apply t_norm
    | apply w_block
    | apply w_skip
    | (apply w_condT; exact rfl; (first | exact rfl | assumption)))
    apply w_draw 14 rfl (by kernel_rfl)
    repeat (first
    | (apply s_move_f; exact rfl; exact rfl)
    | (apply s_load_pt TY; exact rfl; exact rfl; exact rfl; (first | exact rfl | assumption))
    | (apply s_len TY; exact rfl; exact rfl; exact rfl)
    | (apply s_build TY; exact rfl; exact rfl; exact rfl; exact rfl; exact rfl)
    | apply w_seq
    | apply w_region
    | apply s_nil
    | apply t_norm
    | apply w_block
    | (apply s_idxN TY; exact rfl; exact rfl; exact rfl; exact rfl; assumption; assumption)
    | (apply s_alloc TY; exact rfl; exact rfl; exact rfl)
    | (apply s_store TY; exact rfl; exact rfl; exact rfl; exact rfl; exact rfl; exact rfl))
    apply w_loop (fun k : Nat => ⟨(Ab.upd (Ab.upd (Ab.upd (Ab.upd (Ab.upd (Ab.upd (Ab.upd (Ab.upd (Ab.upd (fun _ => .bot) 6 (.f (.sl (modelsM x rs l).length (matF (modelsM x rs l))))) 8 (.ow 0)) 9 (.f (iv (i : Nat)))) 10 (.bx 1 0)) 31 (.f (iv rs.length))) 32 (.f (iv (i : Nat)))) 48 (.f (.sl (modelsM x rs l).length (matF (modelsM x rs l))))) 49 (.f (iv (modelsM x rs l).length))) 50 (.f (iv (k : Nat)))), (Ab.upd (Ab.upd (fun _ => none) 0 (some (.row 23 2 i (rngsF (rangesR (modelsM x rs l) i))))) 1 (some (.box [.f (iv (loK (modelsM x rs l) i k)), .f (iv (hiK (modelsM x rs l) i k))]))), 2⟩) (fun k => k ≤ (modelsM x rs l).length) (fun k => (modelsM x rs l).length - k) 0 (Nat.zero_le _) (gh_le ⟨le_upd rfl trivial (le_upd rfl trivial (le_upd rfl trivial (le_upd rfl trivial (le_upd rfl trivial (le_upd rfl rfl (le_upd rfl trivial (le_upd rfl rfl (le_upd rfl trivial (le_nil _))))))))), le_hupd (by rw [loK, hiK, ha0]; rfl) (fun y hy => by simp at hy; rcases hy with rfl | rfl <;> first | trivial | rfl) (le_hupd rfl trivial (le_h0 _ _))⟩)
    intro k hk
    by_cases hkc : k < (modelsM x rs l).length
    · have hck : decide ((k : Int) < ((modelsM x rs l).length : Int)) = true := by simpa using hkc
      have hlk : (modelsM x rs l)[k].length = rs.length := modelsM_rows (List.getElem_mem hkc)
      have hik : i < (modelsM x rs l)[k].length := by omega
      have hr : (matF (modelsM x rs l))[k * 1]? = some (rowF (modelsM x rs l)[k]) := matF_at hkc
      have hci : (intsF (modelsM x rs l)[k])[i * 1]? = some (iv (modelsM x rs l)[k][i]) := map_at hik
      have hnek : intsF (modelsM x rs l)[k] ≠ [] := map_ne hik
      have hak := atI_eq hkc hik
      repeat (first
    | (apply s_assign_f; exact rfl; exact rfl)
    | (apply s_load_pt TY; exact rfl; exact rfl; exact rfl; (first | exact rfl | assumption))
    | (apply s_lss; exact rfl; exact rfl; exact rfl)
    | apply w_seq
    | apply w_region
    | apply s_nil
    | apply t_norm
    | apply w_block
    | apply w_skip
    | (apply s_idxN TY; exact rfl; exact rfl; exact rfl; exact rfl; assumption; assumption)
    | (apply w_condT; exact rfl; (first | exact rfl | assumption)))
      apply w_draw 15 rfl (by kernel_rfl)
      repeat (first
    | (apply s_move_f; exact rfl; exact rfl)
    | (apply s_load_pt TY; exact rfl; exact rfl; exact rfl; (first | exact rfl | assumption))
    | (apply s_fld_bx TY; exact rfl; exact rfl; exact rfl)
    | (apply s_load_bx_f TY; exact rfl; exact rfl; exact rfl; exact rfl; exact rfl)
    | (apply s_min; exact rfl; exact rfl; exact rfl)
    | (apply s_max; exact rfl; exact rfl; exact rfl)
    | (apply s_build TY; exact rfl; exact rfl; exact rfl; exact rfl; exact rfl)
    | apply w_region
    | apply s_nil
    | apply t_norm
    | apply k_norm
    | (apply s_add; exact rfl; exact rfl; exact rfl; (omega))
    | (apply s_idxN TY; exact rfl; exact rfl; exact rfl; exact rfl; assumption; assumption)
    | (apply s_store TY; exact rfl; exact rfl; exact rfl; exact rfl; exact rfl; exact rfl))
      exact ⟨k + 1, by omega, by omega, gh_le ⟨le_upd rfl trivial (le_upd rfl trivial (le_upd rfl trivial (le_upd rfl trivial (le_upd rfl trivial (le_upd rfl rfl (le_upd rfl trivial (le_upd rfl rfl (le_upd rfl trivial (le_nil _))))))))), le_hupd (by rw [loK, hiK, hak]; rfl) (fun y hy => by simp at hy; rcases hy with rfl | rfl <;> first | trivial | rfl) (le_hupd rfl trivial (le_h0 _ _))⟩⟩
    · have hck : decide ((k : Int) < ((modelsM x rs l).length : Int)) = false := by simpa using hkc
      have hke : k = (modelsM x rs l).length := by omega
      subst hke
      repeat (first
    | (apply s_append TY; exact rfl; exact rfl; exact rfl; exact rfl; exact rfl; exact rfl; exact rfl; exact rfl; exact rfl; (unfold maxLen; omega); omega)
    | (apply s_move_f; exact rfl; exact rfl)
    | (apply s_lss; exact rfl; exact rfl; exact rfl)
    | (apply s_move_o; exact rfl; exact rfl)
    | (apply s_assign_o; exact rfl; exact rfl)
    | (apply s_load_bxs TY; exact rfl; exact rfl; exact rfl; exact rfl; exact rfl; exact rfl)
    | (apply s_bslice TY; exact rfl; exact rfl; exact rfl; exact rfl; exact rfl; exact rfl)
    | apply w_seq
    | apply w_region
    | apply s_nil
    | apply t_norm
    | apply t_exit
    | apply k_hit
    | apply k_norm
    | apply w_exit
    | (apply s_add; exact rfl; exact rfl; exact rfl; (omega))
    | (apply w_condF; exact rfl; (first | exact rfl | assumption)))
      exact ⟨i + 1, by omega, by omega, gh_le ⟨le_upd rfl trivial (le_upd rfl trivial (le_upd rfl rfl (le_upd rfl trivial (le_nil _)))), le_hupd (by rw [rangesR_succ, rngsF_snoc]; rfl) trivial (le_h0 _ _)⟩⟩
  · have hc : decide ((i : Int) < (rs.length : Int)) = false := by simpa using hic
    have hie : i = rs.length := by omega
    subst hie
    repeat (first
    | (apply s_assign_f; exact rfl; exact rfl)
    | (apply s_lss; exact rfl; exact rfl; exact rfl)
    | (apply s_move_o; exact rfl; exact rfl)
    | (apply s_assign_o; exact rfl; exact rfl)
    | apply w_seq
    | apply w_region
    | apply s_nil
    | apply t_norm
    | apply t_exit
    | apply k_hit
    | apply w_exit
    | apply w_ret
    | (apply w_condF; exact rfl; (first | exact rfl | assumption)))
    rw [rangesR_len]
    exact lv_ret (ret_gh (gh_row 0 rfl) (ret2 rfl (res_tmp rfl) (res_tmp rfl)))
end Go.Proofs.YtnmaabejdmaahaaGreatDoor.Ice
namespace Go.Proofs.YtnmaabejdmaahaaGreatDoor.Ice
open Go.RowKit Go.Proofs Go.Shelf
def grid0 : Grid := ⟨[⟨2, 100, 500⟩, ⟨5, 0, 0⟩], 2, [0, 0, 1]⟩
def rngs0 : List Rng := [⟨1, 3⟩, ⟨5, 5⟩]
def hole0 : Hole := ⟨[20, 16, 16], [1, 1, 2], 10⟩
end Go.Proofs.YtnmaabejdmaahaaGreatDoor.Ice
namespace Go.Proofs.YtnmaabejdmaahaaGreatDoor.Ice
open Go.RowKit Go.Proofs Go.Shelf
attribute [local go_sem ↓] eql_cel neq_cel
theorem stood101 : Tryz.prog.stoodInHeld 23 = false := by kernel_rfl
theorem fields101 : Tryz.prog.fieldsOf 23 = #[{ name := "Lo", type := 3, offset := 0, embedded := false, tag := "", pkgPath := "", byteOffset := 0 }, { name := "Hi", type := 3, offset := 1, embedded := false, tag := "", pkgPath := "", byteOffset := 8 }] := by kernel_rfl
theorem equalIn_rng (d : Nat) (a b : Rng) (W : World) : (Op.equalIn (d + 2) 23 (.agg #[.int .i64 a.lo, .int .i64 a.hi]) (.agg #[.int .i64 b.lo, .int .i64 b.hi])).run Tryz.prog W = .ok (decide (a = b)) W := by
  rw [run_equalIn_agg W (d + 1) 23 _ _ (by rw [fields101]; exact Tryz.underlying23) stood101, fields101]
  have e : decide (a = b) = (a.lo == b.lo && a.hi == b.hi) := by
    cases a; cases b; simp [Rng.mk.injEq]; rfl
  rw [e]
  cases h1 : a.lo == b.lo <;> cases h2 : a.hi == b.hi <;> simp [Op.eqFields, part, run_equalIn_int W d 3 _ _ _ _ Tryz.underlying3, h1, h2]
theorem neq_rng (a b : Rng) (W : World) : (binOp .neq 23 (.agg #[.int .i64 a.lo, .int .i64 a.hi]) (.agg #[.int .i64 b.lo, .int .i64 b.hi])).run Tryz.prog W = .ok (.bool (!decide (a = b))) W := by
  rw [run_neq_struct, equalIn_rng 9998 a b W]
  rfl
attribute [local go_sem ↓] neq_rng
theorem list_eq_of {α : Type} {l m : List α} (hl : l.length = m.length) (h : ∀ j (h1 : j < l.length) (h2 : j < m.length), l[j] = m[j]) : l = m := List.ext_getElem hl h
set_option maxRecDepth 100000 in
theorem Ints_any (a a' : Option Addr) (l m : List Int) (c c' : Nat) (w : World) (hl : RowS encI w a l) (hm : RowS encI w a' m) (hn : l.length ≤ 140737488355328) :
    Calls Tryz.prog 57 #[.slice a l.length c, .slice a' m.length c'] w fun e w' => e = .returned (.bool (decide (l = m))) ∧ Ext w w' := by
  have HL := Lib.hid hl
  have HM := Lib.hid hm
  clear hl hm
  go_enter Tryz.func57, Tryz.ntmps57
  by_cases hlen : ((l.length : Int) != (m.length : Int)) = true
  · go_wp2_with fail
    go_ret
    exact ⟨ret_bool (by symm; simp only [decide_eq_false_iff_not]; intro e; subst e; simp at hlen), Ext.refl _⟩
  have hle : l.length = m.length := by
    have : (l.length : Int) = m.length := by simpa using hlen
    omega
  replace hlen : ((l.length : Int) != (m.length : Int)) = false := by simpa using hlen
  have HLE := Lib.hid hle
  clear hle
  go_wp2_with fail
  go_loopw [5] (fun i wr => ∃ k : Nat, k ≤ l.length ∧ i = .int .i64 k ∧ Hid (Ext w wr) ∧ Hid (∀ j (h1 : j < l.length) (h2 : j < m.length), j < k → l[j] = m[j])) (fun i _ => l.length - (intOf i).toNat)
  case atStart => exact ⟨0, Nat.zero_le _, rfl, Lib.hid (Ext.refl _), Lib.hid (fun _ _ _ h => absurd h (Nat.not_lt_zero _))⟩
  case round =>
  obtain ⟨k, hk, rfl, Hx, Hf⟩ := hrel
  by_cases hlt : k < l.length
  · have hlt2 : k < m.length := by rw [← HLE.out]; exact hlt
    obtain ⟨b1, o1, rfl, q1, hc⟩ := (HL.out.ext Hx.out).get encI_length (by decide) hlt
    obtain ⟨b2, o2, rfl, q2, hd⟩ := (HM.out.ext Hx.out).get encI_length (by decide) hlt2
    have c0 : wr.cell? ⟨b1, o1 + k, none⟩ = some (.int .i64 l[k]) := by have := hc k 0 hlt (by decide); rwa [Nat.mul_one] at this
    have d0 : wr.cell? ⟨b2, o2 + k, none⟩ = some (.int .i64 m[k]) := by have := hd k 0 hlt2 (by decide); rwa [Nat.mul_one] at this
    clear hc hd
    go_wp2_with fail
    refine wp_region_over_all (by kernel_rfl) (by kernel_rfl) ?_
    repeat (quiet_step (fail))
    refine wpQuiet_nil ?_
    rintro _ ⟨x1, rfl⟩
    have Hx2 := Lib.hid (Hx.out.trans (wr.over_ext x1))
    have HN := Lib.hid hlt2
    cases t : (l[k] != m[k])
    · have he : l[k] = m[k] := by simpa using t
      have HE := Lib.hid he
      clear he
      go_wp2_with fail
      go_roundw
      case rel => exact ⟨k + 1, by omega, by go_num, Hx2, Lib.hid (fun j h1 h2 hj => by rcases Nat.lt_succ_iff_lt_or_eq.1 hj with h' | rfl; exact Hf.out j h1 h2 h'; exact HE.out)⟩
      case measure => simp [intOf]; omega
    · have he : ¬ l[k] = m[k] := by simpa using t
      have HE := Lib.hid he
      clear he
      go_wp2_with fail
      go_ret
      exact ⟨ret_bool (by symm; simp only [decide_eq_false_iff_not]; intro e; subst e; exact HE.out rfl), Hx2.out⟩
  · go_wp2_with fail
    go_ret
    exact ⟨ret_bool (by symm; simp only [decide_eq_true_eq]; exact list_eq_of HLE.out (fun j h1 h2 => Hf.out j h1 h2 (by omega))), Hx.out⟩
set_option maxRecDepth 100000 in
theorem SameWay_any (a a' : Option Addr) (l m : List Cel) (c c' : Nat) (w : World) (hl : RowS Cel.enc w a l) (hm : RowS Cel.enc w a' m) (hn : l.length ≤ 140737488355328) :
    Calls Tryz.prog 30 #[.slice a l.length c, .slice a' m.length c'] w fun e w' => e = .returned (.bool (decide (l = m))) ∧ Ext w w' := by
  have HL := Lib.hid hl
  have HM := Lib.hid hm
  clear hl hm
  go_enter Tryz.func30, Tryz.ntmps30
  by_cases hlen : ((l.length : Int) != (m.length : Int)) = true
  · go_wp2_with fail
    go_ret
    exact ⟨ret_bool (by symm; simp only [decide_eq_false_iff_not]; intro e; subst e; simp at hlen), Ext.refl _⟩
  have hle : l.length = m.length := by
    have : (l.length : Int) = m.length := by simpa using hlen
    omega
  replace hlen : ((l.length : Int) != (m.length : Int)) = false := by simpa using hlen
  have HLE := Lib.hid hle
  clear hle
  go_wp2_with fail
  go_loopw [5] (fun i wr => ∃ k : Nat, k ≤ l.length ∧ i = .int .i64 k ∧ Hid (Ext w wr) ∧ Hid (∀ j (h1 : j < l.length) (h2 : j < m.length), j < k → l[j] = m[j])) (fun i _ => l.length - (intOf i).toNat)
  case atStart => exact ⟨0, Nat.zero_le _, rfl, Lib.hid (Ext.refl _), Lib.hid (fun _ _ _ h => absurd h (Nat.not_lt_zero _))⟩
  case round =>
  obtain ⟨k, hk, rfl, Hx, Hf⟩ := hrel
  by_cases hlt : k < l.length
  · have hlt2 : k < m.length := by rw [← HLE.out]; exact hlt
    obtain ⟨b1, o1, rfl, q1, hc⟩ := (HL.out.ext Hx.out).get Cel.enc_length (by decide) hlt
    obtain ⟨b2, o2, rfl, q2, hd⟩ := (HM.out.ext Hx.out).get Cel.enc_length (by decide) hlt2
    have c0 : wr.cell? ⟨b1, o1 + k * 2, none⟩ = some (.int .i64 l[k].col) := by have := hc k 0 hlt (by decide); exact this
    have c1 : wr.cell? ⟨b1, o1 + k * 2 + 1, none⟩ = some (.int .i64 l[k].row) := by have := hc k 1 hlt (by decide); exact this
    have d0 : wr.cell? ⟨b2, o2 + k * 2, none⟩ = some (.int .i64 m[k].col) := by have := hd k 0 hlt2 (by decide); exact this
    have d1 : wr.cell? ⟨b2, o2 + k * 2 + 1, none⟩ = some (.int .i64 m[k].row) := by have := hd k 1 hlt2 (by decide); exact this
    clear hc hd
    go_wp2_with fail
    refine wp_region_over_all (by kernel_rfl) (by kernel_rfl) ?_
    repeat (quiet_step (fail))
    refine wpQuiet_nil ?_
    rintro _ ⟨x1, rfl⟩
    have Hx2 := Lib.hid (Hx.out.trans (wr.over_ext x1))
    have HN := Lib.hid hlt2
    cases t : (!decide (l[k] = m[k]))
    · have he : l[k] = m[k] := by simpa using t
      have HE := Lib.hid he
      clear he
      go_wp2_with fail
      go_roundw
      case rel => exact ⟨k + 1, by omega, by go_num, Hx2, Lib.hid (fun j h1 h2 hj => by rcases Nat.lt_succ_iff_lt_or_eq.1 hj with h' | rfl; exact Hf.out j h1 h2 h'; exact HE.out)⟩
      case measure => simp [intOf]; omega
    · have he : ¬ l[k] = m[k] := by simpa using t
      have HE := Lib.hid he
      clear he
      go_wp2_with fail
      go_ret
      exact ⟨ret_bool (by symm; simp only [decide_eq_false_iff_not]; intro e; subst e; exact HE.out rfl), Hx2.out⟩
  · go_wp2_with fail
    go_ret
    exact ⟨ret_bool (by symm; simp only [decide_eq_true_eq]; exact list_eq_of HLE.out (fun j h1 h2 => Hf.out j h1 h2 (by omega))), Hx.out⟩
set_option maxRecDepth 100000 in
theorem Ranges_any (a a' : Option Addr) (l m : List Rng) (c c' : Nat) (w : World) (hl : RowS Rng.enc w a l) (hm : RowS Rng.enc w a' m) (hn : l.length ≤ 140737488355328) :
    Calls Tryz.prog 31 #[.slice a l.length c, .slice a' m.length c'] w fun e w' => e = .returned (.bool (decide (l = m))) ∧ Ext w w' := by
  have HL := Lib.hid hl
  have HM := Lib.hid hm
  clear hl hm
  go_enter Tryz.func31, Tryz.ntmps31
  by_cases hlen : ((l.length : Int) != (m.length : Int)) = true
  · go_wp2_with fail
    go_ret
    exact ⟨ret_bool (by symm; simp only [decide_eq_false_iff_not]; intro e; subst e; simp at hlen), Ext.refl _⟩
  have hle : l.length = m.length := by
    have : (l.length : Int) = m.length := by simpa using hlen
    omega
  replace hlen : ((l.length : Int) != (m.length : Int)) = false := by simpa using hlen
  have HLE := Lib.hid hle
  clear hle
  go_wp2_with fail
  go_loopw [5] (fun i wr => ∃ k : Nat, k ≤ l.length ∧ i = .int .i64 k ∧ Hid (Ext w wr) ∧ Hid (∀ j (h1 : j < l.length) (h2 : j < m.length), j < k → l[j] = m[j])) (fun i _ => l.length - (intOf i).toNat)
  case atStart => exact ⟨0, Nat.zero_le _, rfl, Lib.hid (Ext.refl _), Lib.hid (fun _ _ _ h => absurd h (Nat.not_lt_zero _))⟩
  case round =>
  obtain ⟨k, hk, rfl, Hx, Hf⟩ := hrel
  by_cases hlt : k < l.length
  · have hlt2 : k < m.length := by rw [← HLE.out]; exact hlt
    obtain ⟨b1, o1, rfl, q1, hc⟩ := (HL.out.ext Hx.out).get Rng.enc_length (by decide) hlt
    obtain ⟨b2, o2, rfl, q2, hd⟩ := (HM.out.ext Hx.out).get Rng.enc_length (by decide) hlt2
    have c0 : wr.cell? ⟨b1, o1 + k * 2, none⟩ = some (.int .i64 l[k].lo) := by have := hc k 0 hlt (by decide); exact this
    have c1 : wr.cell? ⟨b1, o1 + k * 2 + 1, none⟩ = some (.int .i64 l[k].hi) := by have := hc k 1 hlt (by decide); exact this
    have d0 : wr.cell? ⟨b2, o2 + k * 2, none⟩ = some (.int .i64 m[k].lo) := by have := hd k 0 hlt2 (by decide); exact this
    have d1 : wr.cell? ⟨b2, o2 + k * 2 + 1, none⟩ = some (.int .i64 m[k].hi) := by have := hd k 1 hlt2 (by decide); exact this
    clear hc hd
    go_wp2_with fail
    refine wp_region_over_all (by kernel_rfl) (by kernel_rfl) ?_
    repeat (quiet_step (fail))
    refine wpQuiet_nil ?_
    rintro _ ⟨x1, rfl⟩
    have Hx2 := Lib.hid (Hx.out.trans (wr.over_ext x1))
    have HN := Lib.hid hlt2
    cases t : (!decide (l[k] = m[k]))
    · have he : l[k] = m[k] := by simpa using t
      have HE := Lib.hid he
      clear he
      go_wp2_with fail
      go_roundw
      case rel => exact ⟨k + 1, by omega, by go_num, Hx2, Lib.hid (fun j h1 h2 hj => by rcases Nat.lt_succ_iff_lt_or_eq.1 hj with h' | rfl; exact Hf.out j h1 h2 h'; exact HE.out)⟩
      case measure => simp [intOf]; omega
    · have he : ¬ l[k] = m[k] := by simpa using t
      have HE := Lib.hid he
      clear he
      go_wp2_with fail
      go_ret
      exact ⟨ret_bool (by symm; simp only [decide_eq_false_iff_not]; intro e; subst e; exact HE.out rfl), Hx2.out⟩
  · go_wp2_with fail
    go_ret
    exact ⟨ret_bool (by symm; simp only [decide_eq_true_eq]; exact list_eq_of HLE.out (fun j h1 h2 => Hf.out j h1 h2 (by omega))), Hx.out⟩
end Go.Proofs.YtnmaabejdmaahaaGreatDoor.Ice
namespace Go.Proofs.YtnmaabejdmaahaaGreatDoor.Ice
open Go.RowKit Go.Proofs Go.Shelf
set_option maxRecDepth 100000 in
theorem SameTimes_any (a a' : Option Addr) (ss ss' : List Sl) (M M' : List (List Int)) (c c' : Nat) (w : World) (hl : MatAt w a ss M) (hm : MatAt w a' ss' M') (hn : M.length ≤ 140737488355328) (hn2 : ∀ r ∈ M, r.length ≤ 140737488355328) :
    Calls Tryz.prog 29 #[.slice a M.length c, .slice a' M'.length c'] w fun e w' => e = .returned (.bool (decide (M = M'))) ∧ Ext w w' := by
  have HL := Lib.hid hl
  have HM := Lib.hid hm
  clear hl hm
  go_enter Tryz.func29, Tryz.ntmps29
  by_cases hlen : ((M.length : Int) != (M'.length : Int)) = true
  · go_wp2_with fail
    go_ret
    exact ⟨ret_bool (by symm; simp only [decide_eq_false_iff_not]; intro e; subst e; simp at hlen), Ext.refl _⟩
  have hle : M.length = M'.length := by
    have : (M.length : Int) = M'.length := by simpa using hlen
    omega
  replace hlen : ((M.length : Int) != (M'.length : Int)) = false := by simpa using hlen
  have HLE := Lib.hid hle
  clear hle
  go_wp2_with fail
  go_loopw [5] (fun i wr => ∃ k : Nat, k ≤ M.length ∧ i = .int .i64 k ∧ Hid (Ext w wr) ∧ Hid (∀ j (h1 : j < M.length) (h2 : j < M'.length), j < k → M[j] = M'[j])) (fun i _ => M.length - (intOf i).toNat)
  case atStart => exact ⟨0, Nat.zero_le _, rfl, Lib.hid (Ext.refl _), Lib.hid (fun _ _ _ h => absurd h (Nat.not_lt_zero _))⟩
  case round =>
  obtain ⟨k, hk, rfl, Hx, Hf⟩ := hrel
  by_cases hlt : k < M.length
  · have hlt2 : k < M'.length := by rw [← HLE.out]; exact hlt
    have s1 : k < ss.length := by rw [HL.out.len]; exact hlt
    have s2 : k < ss'.length := by rw [HM.out.len]; exact hlt2
    obtain ⟨b1, o1, rfl, q1, hc⟩ := (HL.out.row.ext Hx.out).get Sl.enc_length (by decide) s1
    obtain ⟨b2, o2, rfl, q2, hd⟩ := (HM.out.row.ext Hx.out).get Sl.enc_length (by decide) s2
    have e1 := HL.out.rows k s1 hlt
    have e2 := HM.out.rows k s2 hlt2
    have c0 : wr.cell? ⟨b1, o1 + k, none⟩ = some (.slice ss[k].a M[k].length ss[k].c) := by have := hc k 0 s1 (by decide); rw [Nat.mul_one] at this; rw [← e1.1]; exact this
    have d0 : wr.cell? ⟨b2, o2 + k, none⟩ = some (.slice ss'[k].a M'[k].length ss'[k].c) := by have := hd k 0 s2 (by decide); rw [Nat.mul_one] at this; rw [← e2.1]; exact this
    have LC : Hid (∀ y, Calls Tryz.prog 57 #[.slice ss[k].a M[k].length ss[k].c, .slice ss'[k].a M'[k].length ss'[k].c] (wr.over y) fun e w' => e = .returned (.bool (decide (M[k] = M'[k]))) ∧ Ext (wr.over y) w') := Lib.hid (fun y =>
      Ints_any _ _ _ _ _ _ _ (e1.2.ext (Hx.out.trans (wr.over_ext y))) (e2.2.ext (Hx.out.trans (wr.over_ext y))) (hn2 _ (List.getElem_mem hlt)))
    clear hc hd e1 e2
    go_wp2_with fail
    refine wp_region_over_all (by kernel_rfl) (by kernel_rfl) ?_
    repeat (quiet_step ((go_at_call 57; exact Calls.over_ext (LC.out _))))
    refine wpQuiet_nil ?_
    rintro _ ⟨x1, rfl⟩
    have Hx2 := Lib.hid (Hx.out.trans (wr.over_ext x1))
    have HN := Lib.hid hlt2
    cases t : decide (M[k] = M'[k])
    · have he : ¬ M[k] = M'[k] := by simpa using t
      have HE := Lib.hid he
      clear he
      go_wp2_with fail
      go_ret
      exact ⟨ret_bool (by symm; simp only [decide_eq_false_iff_not]; intro e; subst e; exact HE.out rfl), Hx2.out⟩
    · have he : M[k] = M'[k] := by simpa using t
      have HE := Lib.hid he
      clear he
      go_wp2_with fail
      go_roundw
      case rel => exact ⟨k + 1, by omega, by go_num, Hx2, Lib.hid (fun j h1 h2 hj => by rcases Nat.lt_succ_iff_lt_or_eq.1 hj with h' | rfl; exact Hf.out j h1 h2 h'; exact HE.out)⟩
      case measure => simp [intOf]; omega
  · go_wp2_with fail
    go_ret
    exact ⟨ret_bool (by symm; simp only [decide_eq_true_eq]; exact list_eq_of HLE.out (fun j h1 h2 => Hf.out j h1 h2 (by omega))), Hx.out⟩
end Go.Proofs.YtnmaabejdmaahaaGreatDoor.Ice
namespace Go.Proofs.YtnmaabejdmaahaaGreatDoor.Ice
open Go Go.RowKit Go.Proofs Go.Shelf Go.Ab
theorem row_sl {w w' : World} {M : Nat → Prop} {a : Option Addr} {n c : Nat} {us : List Value} {cs : List FV} (hr : Row w' a us) (hn : n ≤ c) (hd : detC cs = some us) (one : ∀ u ∈ us, u.oneCell' = true) (hM : ∀ b, M b → b < w.heap.size) (hf : ∀ ad, a = some ad → w.heap.size ≤ ad.block) : RepF w' M (.slice a n c) (.sl n cs) := by
  have R := repL_det (w := w') (M := M) hd
  refine RepF.sl a n c cs us hn R.1 one (fun hne => ?_) R.2
  obtain ⟨b, off, e, hb, hc⟩ := hr.at_ hne
  exact ⟨b, off, e, hb, fun hm => by have := hM b hm; have := hf _ e; simp at this; omega, hc⟩
theorem one_cels (l : List Cel) : ∀ u ∈ l.flatMap Cel.enc, u.oneCell' = true := encC_one l
theorem mat_sl {w w' : World} {M : Nat → Prop} {a : Option Addr} {ss : List Sl} {c : Nat} {T : List (List Int)} (h : MatAt w' a ss T) (hc : T.length ≤ c) (hM : ∀ b, M b → b < w.heap.size) (hf : ∀ ad, a = some ad → w.heap.size ≤ ad.block) (hr : ∀ r (hr : r < ss.length), ss[r].n ≤ ss[r].c ∧ ∀ ad, ss[r].a = some ad → w.heap.size ≤ ad.block) : RepF w' M (.slice a T.length c) (.sl T.length (matF T)) := by
  have hx : (ss.flatMap Sl.enc) = ss.map fun s => Value.slice s.a s.n s.c := by
    rw [← List.flatMap_singleton' (ss.map _), List.flatMap_map]; rfl
  refine RepF.sl a _ c (matF T) (ss.map fun s => Value.slice s.a s.n s.c) hc (by simp [matF, h.len]) (by simp [Value.oneCell']) (fun hne => ?_) (fun k u x h1 h2 => ?_)
  · obtain ⟨b, off, e, hb, hcc⟩ := h.row.at_ (by rw [hx]; exact hne)
    rw [hx] at hcc
    exact ⟨b, off, e, hb, fun hm => by have := hM b hm; have := hf _ e; simp at this; omega, hcc⟩
  · rw [List.getElem?_map] at h1
    rw [matF, List.getElem?_map] at h2
    cases hs : ss[k]? with
    | none => rw [hs] at h1; simp at h1
    | some s =>
      cases ht : T[k]? with
      | none => rw [ht] at h2; simp at h2
      | some t =>
        rw [hs] at h1; rw [ht] at h2
        simp at h1 h2; subst h1; subst h2
        obtain ⟨k1, e1⟩ := List.getElem?_eq_some_iff.1 hs
        obtain ⟨k2, e2⟩ := List.getElem?_eq_some_iff.1 ht
        obtain ⟨p1, p2⟩ := h.rows k k1 k2
        obtain ⟨q1, q2⟩ := hr k k1
        rw [e1] at p1 p2 q1 q2; rw [e2] at p1 p2
        rw [p1]
        exact row_sl p2 (by omega) (detC_ints t) (one_ints t) hM q2
theorem rep_mat {w : World} {M : Nat → Prop} {v : Value} {T : List (List Int)} (h : RepF w M v (.sl T.length (matF T))) : ∃ a ss c, v = .slice a T.length c ∧ MatAt w a ss T := by
  cases h with
  | sl a _ c _ us h1 h2 h3 h4 h5 =>
    have hlen : us.length = T.length := by rw [h2]; simp [matF]
    have hex : ∀ k, k < T.length → ∃ s : Sl, us[k]? = some (.slice s.a s.n s.c) ∧ (∀ (hk : k < T.length), s.n = T[k].length ∧ RowS encI w s.a T[k]) := fun k hk => by
      have hu : us[k]? = some us[k] := List.getElem?_eq_getElem (by omega)
      have := h5 k _ _ hu (show (matF T)[k]? = some (rowF T[k]) by simp [matF, hk])
      obtain ⟨a', c', e, _, r⟩ := rep_row this (detC_ints _)
      exact ⟨⟨a', T[k].length, c'⟩, by rw [hu, e], fun _ => ⟨rfl, r⟩⟩
    obtain ⟨ss, l1, l2⟩ := exists_list (fun k (s : Sl) => us[k]? = some (.slice s.a s.n s.c) ∧ ∀ (hk : k < T.length), s.n = T[k].length ∧ RowS encI w s.a T[k]) T.length hex
    have hx : (ss.flatMap Sl.enc) = us := by
      have : (ss.flatMap Sl.enc) = ss.map fun s => Value.slice s.a s.n s.c := by
        rw [← List.flatMap_singleton' (ss.map _), List.flatMap_map]; rfl
      rw [this]
      apply List.ext_getElem?
      intro k
      by_cases hk : k < ss.length
      · rw [(l2 k hk).1]; simp [hk]
      · rw [List.getElem?_eq_none (by simp; omega), List.getElem?_eq_none (by omega)]
    refine ⟨a, ss, c, rfl, ⟨fun hn => ?_⟩, l1, fun r hr hr' => (l2 r hr).2 hr'⟩
    rw [hx] at hn ⊢
    obtain ⟨b, off, e, L⟩ := h4 hn
    exact ⟨b, off, e, L.lt, L.at_⟩
theorem rep_hole {w : World} {M : Nat → Prop} {v : Value} {h : Hole} (r : RepF w M v (holeF h)) (hl : h.widths.length ≤ 140737488355328) (ht : h.shrinks.length ≤ 140737488355328) :
    ∃ wa sa wc sc, v = .agg #[.slice wa h.widths.length wc, .slice sa h.shrinks.length sc, .int .i64 h.need] ∧ HoleAt w wa sa h := by
  cases r with
  | agg _ us h1 h2 h3 =>
    have R : RepL w M us (holeL h) := ⟨h1, h3⟩
    obtain ⟨u1, us1, rfl, r1, R1⟩ := R.head
    obtain ⟨u2, us2, rfl, r2, R2⟩ := R1.head
    obtain ⟨u3, us3, rfl, r3, R3⟩ := R2.head
    have := R3.end; subst this
    obtain ⟨wa, wc, rfl, _, p1⟩ := rep_row r1 (detC_ints _)
    obtain ⟨sa, sc, rfl, _, p2⟩ := rep_row r2 (detC_ints _)
    have := rep_int r3; subst this
    exact ⟨wa, sa, wc, sc, rfl, p1, p2, hl, ht⟩
theorem tup2 {w : World} {M : Nat → Prop} (a b : Int) : RepF w M (.tuple #[.int .i64 a, .int .i64 b]) (.tup [iv a, iv b]) := by
  have R := RepL.cons (RepF.v (w := w) (M := M) (.int .i64 a)) (RepL.cons (RepF.v (.int .i64 b)) (RepL.nil _ _))
  exact RepF.tup _ _ R.1 R.2
structure SmallG (x : Grid) : Prop where
  nl : x.layers.length ≤ 140737488355328
  nt : x.tilt.length ≤ 140737488355328
theorem TimesFrom_s (x : Grid) (fr : Cel) (b : SmallG x) : Summ Tryz.prog GG 21 [gridF x, .agg (celF fr)] (.tup [.sl (timesR x fr).1.length (matF (timesR x fr).1), iv (timesR x fr).2]) := by
  refine ⟨enters_of Tryz.func21 (by kernel_rfl) rfl, fun w M us hM hG R => ?_⟩
  obtain ⟨u1, us1, rfl, r1, R1⟩ := R.head
  obtain ⟨u2, us2, rfl, r2, R2⟩ := R1.head
  have := R2.end; subst this
  obtain ⟨la, ta, lc, tc, rfl, hg⟩ := rep_gridF r1 b.nl b.nt
  have := rep_cel r2; subst this
  refine (TimesFrom_any la ta lc tc x fr w hg (rep_sides hG)).mono fun e w' ⟨a, ss, c, h1, h2, h3, h4, h5, h6⟩ => ⟨_, h1, ?_, h3⟩
  have R := RepL.cons (mat_sl h2 h4 hM h5 h6) (RepL.cons (RepF.v (.int .i64 (timesR x fr).2)) (RepL.nil _ _))
  exact RepF.tup _ _ R.1 R.2
theorem WayTo_s (x : Grid) (fr to : Cel) (b : SmallG x) : Summ Tryz.prog GG 23 [gridF x, .agg (celF fr), .agg (celF to)] (.tup [.sl (wayR x fr to).1.length (celsF (wayR x fr to).1), iv (wayR x fr to).2]) := by
  refine ⟨enters_of Tryz.func23 (by kernel_rfl) rfl, fun w M us hM hG R => ?_⟩
  obtain ⟨u1, us1, rfl, r1, R1⟩ := R.head
  obtain ⟨u2, us2, rfl, r2, R2⟩ := R1.head
  obtain ⟨u3, us3, rfl, r3, R3⟩ := R2.head
  have := R3.end; subst this
  obtain ⟨la, ta, lc, tc, rfl, hg⟩ := rep_gridF r1 b.nl b.nt
  have := rep_cel r2; subst this
  have := rep_cel r3; subst this
  refine (WayTo_any la ta lc tc x fr to w hg (rep_sides hG)).mono fun e w' ⟨a, c, h1, h2, h3, h4, h5⟩ => ⟨_, h1, ?_, h3⟩
  have R := RepL.cons (row_sl h2 h4 (detC_cels _) (one_cels _) hM h5) (RepL.cons (RepF.v (.int .i64 (wayR x fr to).2)) (RepL.nil _ _))
  exact RepF.tup _ _ R.1 R.2
theorem SurvivalOf_s (x : Grid) (n : Int) (l : List Int) (b : SmallG x) (hm : l.length ≤ 140737488355328) : Summ Tryz.prog GG 24 [gridF x, iv n, .sl l.length (intsF l)] (.tup [iv (survR x n l).1, iv (survR x n l).2]) := by
  refine ⟨enters_of Tryz.func24 (by kernel_rfl) rfl, fun w M us hM hG R => ?_⟩
  obtain ⟨u1, us1, rfl, r1, R1⟩ := R.head
  obtain ⟨u2, us2, rfl, r2, R2⟩ := R1.head
  obtain ⟨u3, us3, rfl, r3, R3⟩ := R2.head
  have := R3.end; subst this
  obtain ⟨la, ta, lc, tc, rfl, hg⟩ := rep_gridF r1 b.nl b.nt
  have := rep_int r2; subst this
  obtain ⟨a, c, rfl, _, hr⟩ := rep_row r3 (detC_ints l)
  exact (SurvivalOf_any la ta lc tc x n a c l w hg hr hm).mono fun e w' ⟨h1, h2⟩ => ⟨_, h1, tup2 _ _, h2⟩
structure SmallH (h : Hole) : Prop where
  nw : h.widths.length ≤ 140737488355328
  ns : h.shrinks.length ≤ 140737488355328
theorem LatestStart_s (h : Hole) (d : Int) (b : SmallH h) : Summ Tryz.prog GG 27 [holeF h, iv d] (.tup [iv (latestR h d).1, iv (latestR h d).2]) := by
  refine ⟨enters_of Tryz.func27 (by kernel_rfl) rfl, fun w M us hM hG R => ?_⟩
  obtain ⟨u1, us1, rfl, r1, R1⟩ := R.head
  obtain ⟨u2, us2, rfl, r2, R2⟩ := R1.head
  have := R2.end; subst this
  obtain ⟨wa, sa, wc, sc, rfl, hh⟩ := rep_hole r1 b.nw b.ns
  have := rep_int r2; subst this
  exact (LatestStart_any wa sa wc sc h d w hh).mono fun e w' ⟨h1, h2⟩ => ⟨_, h1, tup2 _ _, h2⟩
theorem SameWay_s (l m : List Cel) (hn : l.length ≤ 140737488355328) : Summ Tryz.prog GG 30 [.sl l.length (celsF l), .sl m.length (celsF m)] (.v (.bool (decide (l = m)))) := by
  refine ⟨enters_of Tryz.func30 (by kernel_rfl) rfl, fun w M us hM hG R => ?_⟩
  obtain ⟨u1, us1, rfl, r1, R1⟩ := R.head
  obtain ⟨u2, us2, rfl, r2, R2⟩ := R1.head
  have := R2.end; subst this
  obtain ⟨a, c, rfl, _, hr⟩ := rep_row r1 (detC_cels l)
  obtain ⟨a', c', rfl, _, hr'⟩ := rep_row r2 (detC_cels m)
  exact (SameWay_any a a' l m c c' w hr hr' hn).mono fun e w' ⟨h1, h2⟩ => ⟨_, h1, RepF.v _, h2⟩
theorem Ranges_s (l m : List Rng) (hn : l.length ≤ 140737488355328) : Summ Tryz.prog GG 31 [.sl l.length (rngsF l), .sl m.length (rngsF m)] (.v (.bool (decide (l = m)))) := by
  refine ⟨enters_of Tryz.func31 (by kernel_rfl) rfl, fun w M us hM hG R => ?_⟩
  obtain ⟨u1, us1, rfl, r1, R1⟩ := R.head
  obtain ⟨u2, us2, rfl, r2, R2⟩ := R1.head
  have := R2.end; subst this
  obtain ⟨a, c, rfl, _, hr⟩ := rep_row r1 (detC_rngs l)
  obtain ⟨a', c', rfl, _, hr'⟩ := rep_row r2 (detC_rngs m)
  exact (Ranges_any a a' l m c c' w hr hr' hn).mono fun e w' ⟨h1, h2⟩ => ⟨_, h1, RepF.v _, h2⟩
theorem SameTimes_s (T T' : List (List Int)) (hn : T.length ≤ 140737488355328) (hn2 : ∀ r ∈ T, r.length ≤ 140737488355328) : Summ Tryz.prog GG 29 [.sl T.length (matF T), .sl T'.length (matF T')] (.v (.bool (decide (T = T')))) := by
  refine ⟨enters_of Tryz.func29 (by kernel_rfl) rfl, fun w M us hM hG R => ?_⟩
  obtain ⟨u1, us1, rfl, r1, R1⟩ := R.head
  obtain ⟨u2, us2, rfl, r2, R2⟩ := R1.head
  have := R2.end; subst this
  obtain ⟨a, ss, c, rfl, hr⟩ := rep_mat r1
  obtain ⟨a', ss', c', rfl, hr'⟩ := rep_mat r2
  exact (SameTimes_any a a' ss ss' T T' c c' w hr hr' hn hn2).mono fun e w' ⟨h1, h2⟩ => ⟨_, h1, RepF.v _, h2⟩
end Go.Proofs.YtnmaabejdmaahaaGreatDoor.Ice
namespace Go.Proofs.YtnmaabejdmaahaaGreatDoor.Ice
open Go Go.RowKit Go.Proofs Go.Shelf Go.Ab
def cellsG (x : Grid) : List Cel := (List.range x.tilt.length).flatMap fun c => (List.range x.rows.toNat).map fun r => ⟨(c : Nat), (r : Nat)⟩
theorem mem_cellsG {x : Grid} {c : Cel} : InG x c ↔ c ∈ cellsG x := by
  unfold InG cellsG
  simp only [List.mem_flatMap, List.mem_range, List.mem_map]
  constructor
  · rintro ⟨⟨h1, h2⟩, h3, h4⟩
    exact ⟨c.col.toNat, by omega, c.row.toNat, by omega, by cases c; simp at *; omega⟩
  · rintro ⟨a, ha, b, hb, rfl⟩
    simp; omega
def tab (T : List (List Int)) (c : Cel) : Int := (T.getD c.row.toNat []).getD c.col.toNat 0
def chkD (x : Grid) (fr : Cel) (d : Cel → Int) : Bool := decide (d fr = 0) && (cellsG x).all fun c => decide (0 ≤ d c) && ((nbrs x c).all fun n => decide (d n ≤ d c + stepI x c n)) && (decide (c = fr) || (nbrs x c).any fun n => decide (d c = d n + stepI x n c))
theorem chkD_is {x : Grid} {fr : Cel} {d : Cel → Int} (h : chkD x fr d = true) : IsDist x fr d := by
  unfold chkD at h
  simp only [Bool.and_eq_true, List.all_eq_true, Bool.or_eq_true, List.any_eq_true, decide_eq_true_eq] at h
  obtain ⟨h0, h1⟩ := h
  exact ⟨h0, fun c hc => (h1 c (mem_cellsG.1 hc)).1.1, fun c n hc hn => (h1 c (mem_cellsG.1 hc)).1.2 n hn, fun c hc hne => ((h1 c (mem_cellsG.1 hc)).2).resolve_left hne⟩
theorem distOf_tab {x : Grid} (v : Valid x) {fr : Cel} {d : Cel → Int} (h : chkD x fr d = true) {c : Cel} (hc : InG x c) : distOf x fr c = d c :=
  (distOf_is (chkD_is h)).unique v (chkD_is h) hc
theorem timesM_tab {x : Grid} (v : Valid x) {fr : Cel} {d : Cel → Int} (h : chkD x fr d = true) : timesM x fr = (List.range x.rows.toNat).map fun r => (List.range x.tilt.length).map fun c => d ⟨(c : Nat), (r : Nat)⟩ := by
  unfold timesM
  refine List.map_congr_left fun r hr => List.map_congr_left fun c hc => ?_
  have h1 := List.mem_range.1 hr
  have h2 := List.mem_range.1 hc
  exact distOf_tab v h (by unfold InG; simp; omega)
def nextD (x : Grid) (d : Cel → Int) (c : Cel) : Option Cel := (nbrs x c).find? fun n => decide (d n + stepI x c n = d c)
def wayD (x : Grid) (d : Cel → Int) (to : Cel) : Nat → Cel → List Cel
  | 0, _ => []
  | k + 1, c => if c = to then [] else match nextD x d c with
    | some n => n :: wayD x d to k n
    | none => []
theorem find_congr {α : Type} {p q : α → Bool} : ∀ {l : List α}, (∀ x ∈ l, p x = q x) → l.find? p = l.find? q
  | [], _ => rfl
  | a :: l, h => by
    rw [List.find?_cons, List.find?_cons, h a (by simp), find_congr fun x hx => h x (by simp [hx])]
theorem nextC_tab {x : Grid} (v : Valid x) {to c : Cel} {d : Cel → Int} (h : chkD x to d = true) (hc : InG x c) : nextC x to c = nextD x d c := by
  unfold nextC nextD
  exact find_congr fun n hn => by rw [distOf_tab v h hc, distOf_tab v h (nbrs_in v hn)]
theorem wayGo_tab {x : Grid} (v : Valid x) {to : Cel} {d : Cel → Int} (h : chkD x to d = true) : ∀ (k : Nat) (c : Cel), InG x c → wayGo x to k c = wayD x d to k c
  | 0, _, _ => rfl
  | k + 1, c, hc => by
    rw [wayGo, wayD, nextC_tab v h hc]
    split
    · rfl
    · cases hn : nextD x d c with
      | none => rfl
      | some n => exact congrArg (n :: ·) (wayGo_tab v h k n (nbrs_in v (List.mem_of_find?_eq_some hn)))
theorem wayM_tab {x : Grid} (v : Valid x) {fr to : Cel} {d : Cel → Int} (h : chkD x to d = true) (hc : InG x fr) : wayM x fr to = fr :: wayD x d to (d fr).toNat fr := by
  rw [wayM, distOf_tab v h hc, wayGo_tab v h _ _ hc]
def T0 : List (List Int) := [[0, 4, 8], [7, 11, 12]]
def T0r : List (List Int) := [[12, 8, 4], [17, 7, 0]]
def W0 : List Cel := [⟨0, 0⟩, ⟨1, 0⟩, ⟨2, 0⟩, ⟨2, 1⟩]
theorem grid0_valid : Valid grid0 := (checkIce_zero grid0).1 (by decide +kernel)
theorem timesR0 : timesR grid0 ⟨0, 0⟩ = (T0, 0) := by
  have h : fromE grid0 ⟨0, 0⟩ = 0 := by decide +kernel
  rw [timesR, h, if_neg (by decide), timesM_tab grid0_valid (d := tab T0) (by decide +kernel)]
  exact congrArg (·, 0) (by decide +kernel)
theorem wayR0 : wayR grid0 ⟨0, 0⟩ ⟨2, 1⟩ = (W0, 0) := by
  have h : wayE grid0 ⟨0, 0⟩ ⟨2, 1⟩ = 0 := by decide +kernel
  rw [wayR, h, if_neg (by decide), wayM_tab grid0_valid (d := tab T0r) (by decide +kernel) (mem_cellsG.2 (by decide +kernel))]
  exact congrArg (·, 0) (by decide +kernel)
theorem survR0 : survR grid0 100 [0, 0] = (82, 0) := by decide +kernel
theorem latestR0 : latestR hole0 1 = (1, 0) := by decide +kernel
def fl0 : Flash := { name := "a".toByteArray, frm := ⟨0, 0⟩, to := ⟨2, 1⟩, time := ⟨10, 14⟩ }
theorem dist_own (k : Int) (T : List (List Int)) (v : (checkIce (own grid0 [k, 5])).2 = 0) (h : chkD (own grid0 [k, 5]) ⟨0, 0⟩ (tab T) = true) (hi : (⟨2, 1⟩ : Cel) ∈ cellsG (own grid0 [k, 5])) : distOf (own grid0 [k, 5]) ⟨0, 0⟩ ⟨2, 1⟩ = tab T ⟨2, 1⟩ :=
  distOf_tab ((checkIce_zero _).1 v) h (mem_cellsG.2 hi)
theorem models0 : modelsM grid0 rngs0 [fl0] = [[2, 5]] := by
  have h1 := dist_own 1 [[0, 2, 4], [6, 8, 6]] (by decide +kernel) (by decide +kernel) (by decide +kernel)
  have h2 := dist_own 2 [[0, 4, 8], [7, 11, 12]] (by decide +kernel) (by decide +kernel) (by decide +kernel)
  have h3 := dist_own 3 [[0, 6, 12], [8, 14, 18]] (by decide +kernel) (by decide +kernel) (by decide +kernel)
  have ha : assigns rngs0 [] = [[1, 5], [2, 5], [3, 5]] := by decide +kernel
  unfold modelsM allMo news
  rw [ha]
  simp only [List.map_cons, List.map_nil, mo, explains, fl0, h1, h2, h3]
  decide +kernel
theorem Grid_s : Summ Tryz.prog GG 22 [] (gridF grid0) := by
  refine summW Tryz.func22 rfl rfl 6 rfl (by simp) (fun M0 => ?_)
  repeat (first
    | (apply s_build TY; exact rfl; exact rfl; exact rfl; exact rfl; exact rfl)
    | (apply s_bslice TY; exact rfl; exact rfl; exact rfl; exact rfl; exact rfl; exact rfl)
    | apply w_seq
    | apply w_region
    | apply s_nil
    | apply t_norm
    | apply w_ret
    | (apply s_alloc TY; exact rfl; exact rfl; exact rfl)
    | (apply s_store TY; exact rfl; exact rfl; exact rfl; exact rfl; exact rfl; exact rfl))
  exact lv_ret (ret1 rfl (res_bxs TY rfl rfl rfl rfl rfl))
theorem Class_s : Summ Tryz.prog GG 26 [] (classF grid0 rngs0) := by
  refine summW Tryz.func26 rfl rfl 6 rfl (by simp) (fun M0 => ?_)
  repeat (first
    | (apply s_build TY; exact rfl; exact rfl; exact rfl; exact rfl; exact rfl)
    | (apply s_bslice TY; exact rfl; exact rfl; exact rfl; exact rfl; exact rfl; exact rfl)
    | apply w_seq
    | apply w_region
    | apply s_nil
    | apply t_norm
    | apply w_ret
    | (apply s_call (Grid_s); exact rfl; exact rfl; exact rfl; exact rfl)
    | (apply s_alloc TY; exact rfl; exact rfl; exact rfl)
    | (apply s_store TY; exact rfl; exact rfl; exact rfl; exact rfl; exact rfl; exact rfl))
  exact lv_ret (ret1 rfl (res_bxs TY rfl rfl rfl rfl rfl))
theorem Hole_s : Summ Tryz.prog GG 28 [] (holeF hole0) := by
  refine summW Tryz.func28 rfl rfl 4 rfl (by simp) (fun M0 => ?_)
  repeat (first
    | (apply s_build TY; exact rfl; exact rfl; exact rfl; exact rfl; exact rfl)
    | (apply s_bslice TY; exact rfl; exact rfl; exact rfl; exact rfl; exact rfl; exact rfl)
    | apply w_seq
    | apply w_region
    | apply s_nil
    | apply t_norm
    | apply w_ret
    | (apply s_alloc TY; exact rfl; exact rfl; exact rfl)
    | (apply s_store TY; exact rfl; exact rfl; exact rfl; exact rfl; exact rfl; exact rfl))
  exact lv_ret (ret1 rfl (res_bxs TY rfl rfl rfl rfl rfl))
theorem TimesFrom0 : Summ Tryz.prog GG 21 [gridF grid0, .agg (celF ⟨0, 0⟩)] (.tup [.sl 2 (matF T0), iv 0]) := by
  have := TimesFrom_s grid0 ⟨0, 0⟩ ⟨by decide, by decide⟩
  rw [timesR0] at this
  exact this
theorem WayTo0 : Summ Tryz.prog GG 23 [gridF grid0, .agg (celF ⟨0, 0⟩), .agg (celF ⟨2, 1⟩)] (.tup [.sl 4 (celsF W0), iv 0]) := by
  have := WayTo_s grid0 ⟨0, 0⟩ ⟨2, 1⟩ ⟨by decide, by decide⟩
  rw [wayR0] at this
  exact this
theorem SurvivalOf0 : Summ Tryz.prog GG 24 [gridF grid0, iv 100, .sl 2 (intsF [0, 0])] (.tup [iv 82, iv 0]) := by
  have := SurvivalOf_s grid0 100 [0, 0] ⟨by decide, by decide⟩ (by decide)
  rw [survR0] at this
  exact this
theorem LatestStart0 : Summ Tryz.prog GG 27 [holeF hole0, iv 1] (.tup [iv 1, iv 0]) := by
  have := LatestStart_s hole0 1 ⟨by decide, by decide⟩
  rw [latestR0] at this
  exact this
theorem RangesOf0 : Summ Tryz.prog GG 25 [classF grid0 rngs0, .sl 1 (flasF [fl0])] (.tup [.sl 2 (rngsF [⟨2, 2⟩, ⟨5, 5⟩]), iv 0]) := by
  have := RangesOf_ok grid0 rngs0 [fl0] ⟨by decide, by decide, by decide, by decide, by decide +kernel⟩ (by decide +kernel) (by rw [models0]; decide)
  rw [models0] at this
  exact this
theorem SameTimes0 : Summ Tryz.prog GG 29 [.sl 2 (matF T0), .sl 2 (matF T0)] (.v (.bool true)) := SameTimes_s T0 T0 (by decide) (by decide)
theorem SameWay0 : Summ Tryz.prog GG 30 [.sl 4 (celsF W0), .sl 4 (celsF W0)] (.v (.bool true)) := SameWay_s W0 W0 (by decide)
theorem Ranges0 : Summ Tryz.prog GG 31 [.sl 2 (rngsF [⟨2, 2⟩, ⟨5, 5⟩]), .sl 2 (rngsF [⟨2, 2⟩, ⟨5, 5⟩])] (.v (.bool true)) := Ranges_s [⟨2, 2⟩, ⟨5, 5⟩] [⟨2, 2⟩, ⟨5, 5⟩] (by decide)
set_option maxRecDepth 100000 in
theorem awake_s : Summ Tryz.prog GG 5 [] (.v (.bool true)) := by
  refine summW Tryz.func5 rfl rfl 93 rfl (by simp) (fun M0 => ?_)
  repeat (first
    | (apply s_move_f; exact rfl; exact rfl)
    | (apply s_assign_f; exact rfl; exact rfl)
    | (apply s_extract; exact rfl; exact rfl; exact rfl)
    | (apply s_eql; exact rfl; exact rfl; exact rfl)
    | (apply s_build TY; exact rfl; exact rfl; exact rfl; exact rfl; exact rfl)
    | (apply s_bslice TY; exact rfl; exact rfl; exact rfl; exact rfl; exact rfl; exact rfl)
    | (apply s_pickT; exact rfl; exact rfl; (first | exact rfl | assumption); exact rfl)
    | apply w_seq
    | apply w_region
    | apply s_nil
    | apply t_norm
    | apply w_ret
    | (apply s_call (Grid_s); exact rfl; exact rfl; exact rfl; exact rfl)
    | (apply s_call (Class_s); exact rfl; exact rfl; exact rfl; exact rfl)
    | (apply s_call (Hole_s); exact rfl; exact rfl; exact rfl; exact rfl)
    | (apply s_call (TimesFrom0); exact rfl; exact rfl; exact rfl; exact rfl)
    | (apply s_call (WayTo0); exact rfl; exact rfl; exact rfl; exact rfl)
    | (apply s_call (SurvivalOf0); exact rfl; exact rfl; exact rfl; exact rfl)
    | (apply s_call (LatestStart0); exact rfl; exact rfl; exact rfl; exact rfl)
    | (apply s_call (RangesOf0); exact rfl; exact rfl; exact rfl; exact rfl)
    | (apply g_move_f; exact rfl; (first | exact rfl | assumption); exact rfl; exact rfl)
    | (apply g_eql; exact rfl; (first | exact rfl | assumption); exact rfl; exact rfl; exact rfl)
    | (apply g_build TY; exact rfl; (first | exact rfl | assumption); exact rfl; exact rfl; exact rfl; exact rfl; exact rfl)
    | (apply g_bslice TY; exact rfl; (first | exact rfl | assumption); exact rfl; exact rfl; exact rfl; exact rfl; exact rfl; exact rfl)
    | (apply g_call (SameTimes0); exact rfl; (first | exact rfl | assumption); exact rfl; exact rfl; exact rfl; exact rfl)
    | (apply g_call (SameWay0); exact rfl; (first | exact rfl | assumption); exact rfl; exact rfl; exact rfl; exact rfl)
    | (apply g_call (Ranges0); exact rfl; (first | exact rfl | assumption); exact rfl; exact rfl; exact rfl; exact rfl))
  exact lv_ret (ret1 rfl (res_tmp rfl))
end Go.Proofs.YtnmaabejdmaahaaGreatDoor.Ice
namespace Go.Proofs.YtnmaabejdmaahaaGreatDoor
open Go Go.RowKit Go.Proofs Go.Shelf Go.Ab
structure Layer where
  delay : Int
  loss : Int
  scatter : Int
deriving DecidableEq, Inhabited
structure ICel where
  col : Int
  row : Int
deriving DecidableEq, Inhabited
structure Grid where
  layers : List Layer
  rows : Int
  tilt : List Int
deriving DecidableEq
structure Valid (x : Grid) : Prop where
  l1 : 1 ≤ x.layers.length
  l6 : x.layers.length ≤ 6
  lay : ∀ l ∈ x.layers, (1 ≤ l.delay ∧ l.delay ≤ 1000) ∧ (0 ≤ l.loss ∧ l.loss ≤ 1000) ∧ 0 ≤ l.scatter ∧ l.scatter ≤ 1000
  r1 : 1 ≤ x.rows
  r12 : x.rows ≤ 12
  t1 : 1 ≤ x.tilt.length
  t8 : x.tilt.length ≤ 8
  til : ∀ t ∈ x.tilt, -12 ≤ t ∧ t ≤ 12
def InG (x : Grid) (c : ICel) : Prop := (0 ≤ c.col ∧ c.col < x.tilt.length) ∧ 0 ≤ c.row ∧ c.row < x.rows
instance (x : Grid) (c : ICel) : Decidable (InG x c) := by unfold InG; infer_instance
def cellB (x : Grid) (c : ICel) : Bool := decide (InG x c)
theorem cellB_in {x : Grid} {c : ICel} (_v : Valid x) : cellB x c = true ↔ InG x c := by unfold cellB; exact decide_eq_true_iff
def layerI (x : Grid) (c : ICel) : Int := max 0 (min (c.row - x.tilt.getD c.col.toNat 0) ((x.layers.length : Int) - 1))
def delayAt (x : Grid) (c : ICel) : Int := (x.layers.getD (layerI x c).toNat ⟨0, 0, 0⟩).delay
def stepI (x : Grid) (a b : ICel) : Int := delayAt x a + delayAt x b
theorem layerI_bd {x : Grid} (v : Valid x) (c : ICel) : 0 ≤ layerI x c ∧ layerI x c < x.layers.length := by
  have := v.l1
  unfold layerI; omega
theorem delayAt_bd {x : Grid} (v : Valid x) (c : ICel) : 1 ≤ delayAt x c ∧ delayAt x c ≤ 1000 := by
  obtain ⟨h1, h2⟩ := layerI_bd v c
  have h3 : (layerI x c).toNat < x.layers.length := by omega
  unfold delayAt
  rw [List.getD_eq_getElem?_getD, List.getElem?_eq_getElem h3, Option.getD_some]
  exact (v.lay _ (List.getElem_mem h3)).1
def cand (c : ICel) : List ICel := [⟨c.col + -1, c.row + 0⟩, ⟨c.col + 0, c.row + -1⟩, ⟨c.col + 0, c.row + 1⟩, ⟨c.col + 1, c.row + 0⟩]
def nbrs (x : Grid) (c : ICel) : List ICel := (cand c).filter (cellB x)
def cellsL (x : Grid) : List ICel := (List.range x.rows.toNat).flatMap fun (r : Nat) => (List.range x.tilt.length).map fun (c : Nat) => (⟨(c : Int), (r : Int)⟩ : ICel)
theorem mem_nbrs {x : Grid} (v : Valid x) {c n : ICel} : n ∈ nbrs x c ↔ InG x n ∧ ((n.col = c.col - 1 ∧ n.row = c.row) ∨ (n.col = c.col ∧ n.row = c.row - 1) ∨ (n.col = c.col ∧ n.row = c.row + 1) ∨ (n.col = c.col + 1 ∧ n.row = c.row)) := by
  unfold nbrs
  rw [List.mem_filter, cellB_in v]
  have : n ∈ cand c ↔ ((n.col = c.col - 1 ∧ n.row = c.row) ∨ (n.col = c.col ∧ n.row = c.row - 1) ∨ (n.col = c.col ∧ n.row = c.row + 1) ∨ (n.col = c.col + 1 ∧ n.row = c.row)) := by
    cases n; cases c
    simp [cand]
    omega
  rw [this]
  exact And.comm
theorem nbrs_symm {x : Grid} (v : Valid x) {c n : ICel} (hc : InG x c) (h : n ∈ nbrs x c) : c ∈ nbrs x n := by
  rw [mem_nbrs v] at h ⊢
  refine ⟨hc, ?_⟩
  omega
theorem nbrs_in {x : Grid} (v : Valid x) {c n : ICel} (h : n ∈ nbrs x c) : InG x n := ((mem_nbrs v).1 h).1
theorem stepI_symm (x : Grid) (a b : ICel) : stepI x a b = stepI x b a := Int.add_comm _ _
theorem stepI_bd {x : Grid} (v : Valid x) (a b : ICel) : 2 ≤ stepI x a b ∧ stepI x a b ≤ 2000 := by
  have := delayAt_bd v a
  have := delayAt_bd v b
  unfold stepI; omega
structure IsDist (x : Grid) (fr : ICel) (d : ICel → Int) : Prop where
  zero : d fr = 0
  nonneg : ∀ c, InG x c → 0 ≤ d c
  le : ∀ c n, InG x c → n ∈ nbrs x c → d n ≤ d c + stepI x c n
  tight : ∀ c, InG x c → c ≠ fr → ∃ n ∈ nbrs x c, d c = d n + stepI x n c
theorem IsDist.le_of {x : Grid} (v : Valid x) {fr : ICel} {d d' : ICel → Int} (h : IsDist x fr d) (h' : IsDist x fr d') : ∀ (k : Nat) (c : ICel), InG x c → (d' c).toNat ≤ k → d c ≤ d' c := by
  intro k
  induction k using Nat.strongRecOn with
  | _ k ih =>
    intro c hc hk
    by_cases hf : c = fr
    · subst hf; rw [h.zero, h'.zero]; exact Int.le_refl _
    · obtain ⟨n, hn, e⟩ := h'.tight c hc hf
      have hin := nbrs_in v hn
      have s := stepI_bd v n c
      have p := h'.nonneg n hin
      have := ih (d' n).toNat (by omega) n hin (Nat.le_refl _)
      have := h.le n c hin (nbrs_symm v hc hn)
      omega
theorem IsDist.unique {x : Grid} (v : Valid x) {fr : ICel} {d d' : ICel → Int} (h : IsDist x fr d) (h' : IsDist x fr d') {c : ICel} (hc : InG x c) : d c = d' c :=
  Int.le_antisymm (h.le_of v h' _ c hc (Nat.le_refl _)) (h'.le_of v h _ c hc (Nat.le_refl _))
theorem IsDist.pos {x : Grid} (v : Valid x) {fr : ICel} {d : ICel → Int} (h : IsDist x fr d) {c : ICel} (hc : InG x c) : d c = 0 ↔ c = fr := by
  constructor
  · intro e
    refine Classical.byContradiction fun hn => ?_
    obtain ⟨n, hn, e2⟩ := h.tight c hc hn
    have := h.nonneg n (nbrs_in v hn)
    have := stepI_bd v n c
    omega
  · rintro rfl; exact h.zero
theorem grid_conn {x : Grid} (v : Valid x) {P : ICel → Prop} {fr : ICel} (hf : InG x fr) (h0 : P fr) (hs : ∀ c n, InG x c → P c → n ∈ nbrs x c → P n) : ∀ c, InG x c → P c := by
  have right : ∀ (k : Nat) (c r : Int), InG x ⟨c, r⟩ → P ⟨c, r⟩ → c + k < x.tilt.length → P ⟨c + k, r⟩ := by
    intro k
    induction k with
    | zero => intro c r _ hp _; simpa using hp
    | succ k ih =>
      intro c r hc hp hk
      have h1 := ih c r hc hp (by omega)
      have hin : InG x ⟨c + k, r⟩ := ⟨⟨by have := hc.1.1; simp only at this ⊢; omega, by simp only; omega⟩, hc.2⟩
      have := hs ⟨c + k, r⟩ ⟨c + (k + 1 : Nat), r⟩ hin h1 ((mem_nbrs v).2 ⟨⟨⟨by have := hc.1.1; simp only at this ⊢; omega, by simp only; omega⟩, hc.2⟩, .inr (.inr (.inr ⟨by simp only; omega, rfl⟩))⟩)
      exact this
  have left : ∀ (k : Nat) (c r : Int), InG x ⟨c, r⟩ → P ⟨c, r⟩ → 0 ≤ c - k → P ⟨c - k, r⟩ := by
    intro k
    induction k with
    | zero => intro c r _ hp _; simpa using hp
    | succ k ih =>
      intro c r hc hp hk
      have h1 := ih c r hc hp (by omega)
      have hin : InG x ⟨c - k, r⟩ := ⟨⟨by simp only; omega, by have := hc.1.2; simp only at this ⊢; omega⟩, hc.2⟩
      exact hs ⟨c - k, r⟩ ⟨c - (k + 1 : Nat), r⟩ hin h1 ((mem_nbrs v).2 ⟨⟨⟨by simp only; omega, by have := hc.1.2; simp only at this ⊢; omega⟩, hc.2⟩, .inl ⟨by simp only; omega, rfl⟩⟩)
  have down : ∀ (k : Nat) (c r : Int), InG x ⟨c, r⟩ → P ⟨c, r⟩ → r + k < x.rows → P ⟨c, r + k⟩ := by
    intro k
    induction k with
    | zero => intro c r _ hp _; simpa using hp
    | succ k ih =>
      intro c r hc hp hk
      have h1 := ih c r hc hp (by omega)
      have hin : InG x ⟨c, r + k⟩ := ⟨hc.1, by have := hc.2.1; simp only at this ⊢; omega, by simp only; omega⟩
      exact hs ⟨c, r + k⟩ ⟨c, r + (k + 1 : Nat)⟩ hin h1 ((mem_nbrs v).2 ⟨⟨hc.1, by have := hc.2.1; simp only at this ⊢; omega, by simp only; omega⟩, .inr (.inr (.inl ⟨rfl, by simp only; omega⟩))⟩)
  have up : ∀ (k : Nat) (c r : Int), InG x ⟨c, r⟩ → P ⟨c, r⟩ → 0 ≤ r - k → P ⟨c, r - k⟩ := by
    intro k
    induction k with
    | zero => intro c r _ hp _; simpa using hp
    | succ k ih =>
      intro c r hc hp hk
      have h1 := ih c r hc hp (by omega)
      have hin : InG x ⟨c, r - k⟩ := ⟨hc.1, by simp only; omega, by have := hc.2.2; simp only at this ⊢; omega⟩
      exact hs ⟨c, r - k⟩ ⟨c, r - (k + 1 : Nat)⟩ hin h1 ((mem_nbrs v).2 ⟨⟨hc.1, by simp only; omega, by have := hc.2.2; simp only at this ⊢; omega⟩, .inr (.inl ⟨rfl, by simp only; omega⟩)⟩)
  intro c hc
  obtain ⟨fc, fr⟩ := fr
  obtain ⟨cc, cr⟩ := c
  have m : P ⟨cc, fr⟩ := by
    rcases Int.le_total fc cc with h | h
    · have := right (cc - fc).toNat fc fr hf h0 (by have := hc.1.2; simp only at this; omega)
      rwa [show fc + ((cc - fc).toNat : Int) = cc by omega] at this
    · have := left (fc - cc).toNat fc fr hf h0 (by have := hc.1.1; simp only at this; omega)
      rwa [show fc - ((fc - cc).toNat : Int) = cc by omega] at this
  have hm : InG x ⟨cc, fr⟩ := ⟨hc.1, hf.2⟩
  rcases Int.le_total fr cr with h | h
  · have := down (cr - fr).toNat cc fr hm m (by have := hc.2.2; simp only at this; omega)
    rwa [show fr + ((cr - fr).toNat : Int) = cr by omega] at this
  · have := up (fr - cr).toNat cc fr hm m (by have := hc.2.1; simp only at this; omega)
    rwa [show fr - ((fr - cr).toNat : Int) = cr by omega] at this
structure Search (x : Grid) (fr : ICel) (S O : ICel → Option Int) (N : Nat) : Prop where
  apart : ∀ c t, O c = some t → S c = none
  sIn : ∀ c t, S c = some t → InG x c ∧ 0 ≤ t
  oIn : ∀ c t, O c = some t → InG x c ∧ 0 ≤ t ∧ t ≤ 2000 * N
  edge : ∀ a t n, S a = some t → n ∈ nbrs x a → ∃ u, (S n = some u ∨ O n = some u) ∧ u ≤ t + stepI x a n
  sTight : ∀ c t, S c = some t → c ≠ fr → ∃ n ∈ nbrs x c, ∃ u, S n = some u ∧ t = u + stepI x n c
  oTight : ∀ c t, O c = some t → c ≠ fr → ∃ n ∈ nbrs x c, ∃ u, S n = some u ∧ t = u + stepI x n c
  mono : ∀ a t c u, S a = some t → O c = some u → t ≤ u
  start : S fr = some 0 ∨ (O fr = some 0 ∧ (∀ c, S c = none) ∧ ∀ c t, O c = some t → c = fr)
theorem Search.done {x : Grid} (v : Valid x) {fr : ICel} (hf : InG x fr) {S O : ICel → Option Int} {N : Nat} (h : Search x fr S O N) (ho : ∀ c, O c = none) :
    IsDist x fr (fun c => (S c).getD 0) ∧ ∀ c, InG x c → ∃ t, S c = some t := by
  have hs : S fr = some 0 := by
    rcases h.start with h | ⟨h, _⟩
    · exact h
    · rw [ho] at h; cases h
  have hall : ∀ c, InG x c → ∃ t, S c = some t := grid_conn v hf ⟨0, hs⟩ (fun c n _ ⟨t, ht⟩ hn => by
    obtain ⟨u, hu | hu, _⟩ := h.edge c t n ht hn
    · exact ⟨u, hu⟩
    · rw [ho] at hu; cases hu)
  refine ⟨⟨by simp [hs], fun c hc => ?_, fun c n hc hn => ?_, fun c hc hne => ?_⟩, hall⟩
  · obtain ⟨t, ht⟩ := hall c hc
    simp only [ht, Option.getD_some]
    exact (h.sIn c t ht).2
  · obtain ⟨t, ht⟩ := hall c hc
    obtain ⟨u, hu | hu, hle⟩ := h.edge c t n ht hn
    · simp only [ht, hu, Option.getD_some]; exact hle
    · rw [ho] at hu; cases hu
  · obtain ⟨t, ht⟩ := hall c hc
    obtain ⟨n, hn, u, hu, e⟩ := h.sTight c t ht hne
    exact ⟨n, hn, by simp only [ht, hu, Option.getD_some]; exact e⟩
structure Round (x : Grid) (fr now : ICel) (m : Int) (S O : ICel → Option Int) (N : Nat) (pre : List ICel) : Prop where
  apart : ∀ c t, O c = some t → S c = none
  sIn : ∀ c t, S c = some t → InG x c ∧ 0 ≤ t
  oIn : ∀ c t, O c = some t → InG x c ∧ 0 ≤ t ∧ t ≤ 2000 * N
  edge : ∀ a t n, S a = some t → n ∈ nbrs x a → (a = now → n ∈ pre) → ∃ u, (S n = some u ∨ O n = some u) ∧ u ≤ t + stepI x a n
  sTight : ∀ c t, S c = some t → c ≠ fr → ∃ n ∈ nbrs x c, ∃ u, S n = some u ∧ t = u + stepI x n c
  oTight : ∀ c t, O c = some t → c ≠ fr → ∃ n ∈ nbrs x c, ∃ u, S n = some u ∧ t = u + stepI x n c
  mono : ∀ a t c u, S a = some t → O c = some u → t ≤ u
  top : ∀ a t, S a = some t → t ≤ m
  here : S now = some m
  start : S fr = some 0
  small : m ≤ 2000 * (N - 1 : Nat) ∧ 1 ≤ N
theorem Search.pick {x : Grid} (_v : Valid x) {fr now : ICel} {m : Int} {S O S' O' : ICel → Option Int} {N : Nat} (h : Search x fr S O N) (hn : O now = some m) (hmin : ∀ c t, O c = some t → m ≤ t)
    (hS : ∀ c, S' c = if c = now then some m else S c) (hO : ∀ c, O' c = if c = now then none else O c) : Round x fr now m S' O' (N + 1) [] := by
  have hin := h.oIn now m hn
  refine ⟨fun c t hc => ?_, fun c t hc => ?_, fun c t hc => ?_, fun a t n ha hna hp => ?_, fun c t hc hne => ?_, fun c t hc hne => ?_, fun a t c u ha hc => ?_, fun a t ha => ?_, by rw [hS]; simp, ?_, ?_⟩
  · rw [hO] at hc; split at hc
    · cases hc
    · rename_i e; rw [hS, if_neg e]; exact h.apart c t hc
  · rw [hS] at hc; split at hc
    · rename_i e; cases hc; subst e; exact ⟨hin.1, hin.2.1⟩
    · exact h.sIn c t hc
  · rw [hO] at hc; split at hc
    · cases hc
    · have := h.oIn c t hc; exact ⟨this.1, this.2.1, by omega⟩
  · rw [hS] at ha; split at ha
    · rename_i e; have := hp e; cases this
    · obtain ⟨u, hu, hle⟩ := h.edge a t n ha hna
      rcases hu with hu | hu
      · refine ⟨u, .inl ?_, hle⟩
        rw [hS, if_neg]
        · exact hu
        · rintro rfl; rw [h.apart _ _ hn] at hu; cases hu
      · by_cases e : n = now
        · subst e
          rw [hn] at hu; cases hu
          exact ⟨m, .inl (by rw [hS]; simp), hle⟩
        · exact ⟨u, .inr (by rw [hO, if_neg e]; exact hu), hle⟩
  · have keep : ∀ n u, S n = some u → S' n = some u := fun n u hu => by
      rw [hS, if_neg]
      · exact hu
      · rintro rfl; rw [h.apart _ _ hn] at hu; cases hu
    rw [hS] at hc; split at hc
    · rename_i e; cases hc; subst e
      obtain ⟨n, h1, u, h2, h3⟩ := h.oTight c m hn hne
      exact ⟨n, h1, u, keep n u h2, h3⟩
    · obtain ⟨n, h1, u, h2, h3⟩ := h.sTight c t hc hne
      exact ⟨n, h1, u, keep n u h2, h3⟩
  · have keep : ∀ n u, S n = some u → S' n = some u := fun n u hu => by
      rw [hS, if_neg]
      · exact hu
      · rintro rfl; rw [h.apart _ _ hn] at hu; cases hu
    rw [hO] at hc; split at hc
    · cases hc
    · obtain ⟨n, h1, u, h2, h3⟩ := h.oTight c t hc hne
      exact ⟨n, h1, u, keep n u h2, h3⟩
  · rw [hO] at hc; split at hc
    · cases hc
    · rw [hS] at ha; split at ha
      · cases ha; exact hmin c u hc
      · exact h.mono a t c u ha hc
  · rw [hS] at ha; split at ha
    · cases ha; exact Int.le_refl _
    · exact h.mono a t now m ha hn
  · rw [hS]
    rcases h.start with hs | ⟨h1, h2, h3⟩
    · rw [if_neg]
      · exact hs
      · rintro rfl; rw [h.apart _ _ hn] at hs; cases hs
    · have e := h3 now m hn
      subst e
      rw [h1] at hn; cases hn
      simp
  · have := hin.2.2
    exact ⟨by simpa using this, by omega⟩
theorem Round.end {x : Grid} {fr now : ICel} {m : Int} {S O : ICel → Option Int} {N : Nat} (h : Round x fr now m S O N (nbrs x now)) : Search x fr S O N :=
  ⟨h.apart, h.sIn, h.oIn, fun a t n ha hn => h.edge a t n ha hn (fun e => by rw [← e]; exact hn), h.sTight, h.oTight, h.mono, .inl h.start⟩
theorem Round.skip {x : Grid} (v : Valid x) {fr now : ICel} {m : Int} {S O : ICel → Option Int} {N : Nat} {pre : List ICel} (h : Round x fr now m S O N pre) {n : ICel} {u : Int} (hs : S n = some u) : Round x fr now m S O N (pre ++ [n]) :=
  ⟨h.apart, h.sIn, h.oIn, fun a t k ha hk hp => by
    by_cases e : a = now ∧ k = n
    · obtain ⟨rfl, rfl⟩ := e
      rw [h.here] at ha; cases ha
      have := h.top k u hs
      have := stepI_bd v a k
      exact ⟨u, .inl hs, by omega⟩
    · refine h.edge a t k ha hk (fun e2 => ?_)
      have := hp e2
      simp at this
      rcases this with h1 | h1
      · exact h1
      · exact absurd ⟨e2, h1⟩ e, h.sTight, h.oTight, h.mono, h.top, h.here, h.start, h.small⟩
theorem Round.stay {x : Grid} {fr now : ICel} {m : Int} {S O : ICel → Option Int} {N : Nat} {pre : List ICel} (h : Round x fr now m S O N pre) {n : ICel} {u : Int} (ho : O n = some u) (hle : u ≤ m + stepI x now n) : Round x fr now m S O N (pre ++ [n]) :=
  ⟨h.apart, h.sIn, h.oIn, fun a t k ha hk hp => by
    by_cases e : a = now ∧ k = n
    · obtain ⟨rfl, rfl⟩ := e
      rw [h.here] at ha; cases ha
      exact ⟨u, .inr ho, hle⟩
    · refine h.edge a t k ha hk (fun e2 => ?_)
      have := hp e2
      simp at this
      rcases this with h1 | h1
      · exact h1
      · exact absurd ⟨e2, h1⟩ e, h.sTight, h.oTight, h.mono, h.top, h.here, h.start, h.small⟩
theorem Round.lower {x : Grid} (v : Valid x) {fr now : ICel} {m : Int} {S O O' : ICel → Option Int} {N : Nat} {pre : List ICel} (h : Round x fr now m S O N pre) {n : ICel} (hn : n ∈ nbrs x now) (hs : S n = none) (hlow : ∀ u, O n = some u → m + stepI x now n ≤ u)
    (hO : ∀ c, O' c = if c = n then some (m + stepI x now n) else O c) : Round x fr now m S O' N (pre ++ [n]) := by
  have hm := h.sIn now m h.here
  have st := stepI_bd v now n
  have sm := h.small
  refine ⟨fun c t hc => ?_, h.sIn, fun c t hc => ?_, fun a t k ha hk hp => ?_, h.sTight, fun c t hc hne => ?_, fun a t c u ha hc => ?_, h.top, h.here, h.start, h.small⟩
  · rw [hO] at hc; split at hc
    · rename_i e; subst e; exact hs
    · exact h.apart c t hc
  · rw [hO] at hc; split at hc
    · rename_i e; cases hc; subst e
      exact ⟨nbrs_in v hn, by omega, by omega⟩
    · exact h.oIn c t hc
  · by_cases e : a = now ∧ k = n
    · obtain ⟨rfl, rfl⟩ := e
      rw [h.here] at ha; cases ha
      exact ⟨m + stepI x a k, .inr (by rw [hO]; simp), Int.le_refl _⟩
    · obtain ⟨u, hu, hle⟩ := h.edge a t k ha hk (fun e2 => by
        have := hp e2
        simp at this
        rcases this with h1 | h1
        · exact h1
        · exact absurd ⟨e2, h1⟩ e)
      rcases hu with hu | hu
      · exact ⟨u, .inl hu, hle⟩
      · by_cases e2 : k = n
        · subst e2
          have := hlow u hu
          exact ⟨m + stepI x now k, .inr (by rw [hO]; simp), by omega⟩
        · exact ⟨u, .inr (by rw [hO, if_neg e2]; exact hu), hle⟩
  · rw [hO] at hc; split at hc
    · rename_i e; cases hc; subst e
      exact ⟨now, nbrs_symm v hm.1 hn, m, h.here, rfl⟩
    · exact h.oTight c t hc hne
  · rw [hO] at hc; split at hc
    · cases hc
      have := h.top a t ha
      omega
    · exact h.mono a t c u ha hc
theorem Search.begin {x : Grid} {fr : ICel} (hf : InG x fr) {S O : ICel → Option Int} (hS : ∀ c, S c = none) (hO : ∀ c, O c = if c = fr then some 0 else none) : Search x fr S O 0 := by
  have ho : ∀ c t, O c = some t → c = fr ∧ t = 0 := fun c t h => by
    rw [hO] at h; split at h
    · rename_i e; cases h; exact ⟨e, rfl⟩
    · cases h
  refine ⟨fun c t _ => hS c, fun c t h => ?_, fun c t h => ?_, fun a t n h => ?_, fun c t h => ?_, fun c t h hne => absurd (ho c t h).1 hne, fun a t c u h => ?_, .inr ⟨by rw [hO]; simp, hS, fun c t h => (ho c t h).1⟩⟩
  · rw [hS] at h; cases h
  · obtain ⟨rfl, rfl⟩ := ho c t h; exact ⟨hf, by decide, by decide⟩
  · rw [hS] at h; cases h
  · rw [hS] at h; cases h
  · rw [hS] at h; cases h
end Go.Proofs.YtnmaabejdmaahaaGreatDoor
namespace Go.Proofs.YtnmaabejdmaahaaGreatDoor
open Go Go.RowKit Go.Proofs Go.Shelf Go.Ab
structure Cel where
  ring : Int
  before : Int
  count : Int
  index : Int
deriving DecidableEq, Inhabited
def befK (rs : List Int) : Nat → Int
  | 0 => 0
  | k + 1 => befK rs k + rs.getD k default
structure SkyOk (rs : List Int) : Prop where
  pos : 1 ≤ rs.length
  len : rs.length ≤ 8
  ring : ∀ i, i < rs.length → 1 ≤ rs.getD i default ∧ rs.getD i default ≤ 12
def upB (rs : List Int) (h b : Int) : Bool := decide (h * befK rs rs.length ≤ 1000000 * (befK rs rs.length - 2 * b))
end Go.Proofs.YtnmaabejdmaahaaGreatDoor
namespace Go.Proofs.YtnmaabejdmaahaaGreatDoor
open Go Go.RowKit Go.Proofs Go.Shelf Go.Ab
structure Job where
  ready : Int
  length : Int
  due : Int
  rank : Int
deriving DecidableEq, Inhabited
def bestF (P : Nat → Bool) (v : Nat → Int) : Nat → Int
  | 0 => -1
  | k + 1 => if P k = true ∧ (bestF P v k < 0 ∨ v (bestF P v k).toNat < v k) then (k : Int) else bestF P v k
theorem bestF_bd {P : Nat → Bool} {v : Nat → Int} : ∀ n, -1 ≤ bestF P v n ∧ bestF P v n < n
  | 0 => by simp [bestF]
  | k + 1 => by
    have := bestF_bd (P := P) (v := v) k
    rw [bestF]; split <;> omega
theorem bestF_none {P : Nat → Bool} {v : Nat → Int} : ∀ {n : Nat}, (∀ i, i < n → P i = false) → bestF P v n = -1
  | 0, _ => rfl
  | k + 1, h => by
    rw [bestF, if_neg (by rw [h k (by omega)]; simp)]
    exact bestF_none fun i hi => h i (by omega)
theorem bestF_some {P : Nat → Bool} {v : Nat → Int} : ∀ {n : Nat}, (∃ i, i < n ∧ P i = true) → 0 ≤ bestF P v n ∧ P (bestF P v n).toNat = true ∧ ∀ i, i < n → P i = true → v i ≤ v (bestF P v n).toNat
  | 0, ⟨i, h, _⟩ => absurd h (Nat.not_lt_zero i)
  | k + 1, ⟨j, hj, hP⟩ => by
    rw [bestF]
    have hb := bestF_bd (P := P) (v := v) k
    by_cases hc : P k = true ∧ (bestF P v k < 0 ∨ v (bestF P v k).toNat < v k)
    · rw [if_pos hc]
      refine ⟨by omega, by simpa using hc.1, fun i hi hPi => ?_⟩
      show v i ≤ v k
      by_cases e : i = k
      · subst e; exact Int.le_refl _
      · have := (bestF_some (v := v) (n := k) ⟨i, by omega, hPi⟩)
        have h2 := this.2.2 i (by omega) hPi
        rcases hc.2 with h3 | h3
        · omega
        · omega
    · rw [if_neg hc]
      by_cases e : ∃ i, i < k ∧ P i = true
      · obtain ⟨a, b, c⟩ := bestF_some (v := v) e
        refine ⟨a, b, fun i hi hPi => ?_⟩
        by_cases e2 : i = k
        · subst e2
          refine Classical.byContradiction fun h => hc ⟨hPi, .inr (by omega)⟩
        · exact c i (by omega) hPi
      · exfalso
        have hn : bestF P v k = -1 := bestF_none fun i hi => by
          cases h : P i with
          | false => rfl
          | true => exact absurd ⟨i, hi, h⟩ e
        have : j = k := Classical.byContradiction fun h => e ⟨j, by omega, hP⟩
        subst this
        exact hc ⟨hP, .inl (by omega)⟩
def begF (U : Nat → Bool) (r : Nat → Int) (now : Int) : Nat → Int
  | 0 => -1
  | k + 1 => if U k = true ∧ (begF U r now k < 0 ∨ max now (r k) < begF U r now k) then max now (r k) else begF U r now k
theorem begF_none {U : Nat → Bool} {r : Nat → Int} {now : Int} : ∀ {n : Nat}, (∀ i, i < n → U i = false) → begF U r now n = -1
  | 0, _ => rfl
  | k + 1, h => by
    rw [begF, if_neg (by rw [h k (by omega)]; simp)]
    exact begF_none fun i hi => h i (by omega)
theorem begF_some {U : Nat → Bool} {r : Nat → Int} {now : Int} (h0 : 0 ≤ now) : ∀ {n : Nat}, (∃ i, i < n ∧ U i = true) → now ≤ begF U r now n ∧ (∃ i, i < n ∧ U i = true ∧ begF U r now n = max now (r i)) ∧ ∀ i, i < n → U i = true → begF U r now n ≤ max now (r i)
  | 0, ⟨i, h, _⟩ => absurd h (Nat.not_lt_zero i)
  | k + 1, ⟨j, hj, hP⟩ => by
    rw [begF]
    by_cases hc : U k = true ∧ (begF U r now k < 0 ∨ max now (r k) < begF U r now k)
    · rw [if_pos hc]
      refine ⟨by omega, ⟨k, by omega, hc.1, rfl⟩, fun i hi hPi => ?_⟩
      by_cases e : i = k
      · subst e; exact Int.le_refl _
      · obtain ⟨a, _, c⟩ := begF_some h0 (r := r) (n := k) ⟨i, by omega, hPi⟩
        have := c i (by omega) hPi
        rcases hc.2 with h3 | h3 <;> omega
    · rw [if_neg hc]
      by_cases e : ∃ i, i < k ∧ U i = true
      · obtain ⟨a, ⟨i0, b1, b2, b3⟩, c⟩ := begF_some h0 (r := r) e
        refine ⟨a, ⟨i0, by omega, b2, b3⟩, fun i hi hPi => ?_⟩
        by_cases e2 : i = k
        · subst e2
          refine Classical.byContradiction fun h => hc ⟨hPi, .inr (by omega)⟩
        · exact c i (by omega) hPi
      · exfalso
        have hn : begF U r now k = -1 := begF_none fun i hi => by
          cases h : U i with
          | false => rfl
          | true => exact absurd ⟨i, hi, h⟩ e
        have : j = k := Classical.byContradiction fun h => e ⟨j, by omega, hP⟩
        subst this
        exact hc ⟨hP, .inl (by omega)⟩
def nextR (U : Nat → Bool) (r k : Nat → Int) (n : Nat) (now : Int) : Int × Int :=
  let b := begF U r now n
  (bestF (fun i => U i && decide (r i ≤ b)) k n, b)
end Go.Proofs.YtnmaabejdmaahaaGreatDoor
namespace Go.Proofs.YtnmaabejdmaahaaGreatDoor
open Go Go.RowKit Go.Proofs Go.Shelf Go.Ab
def jobA (l : List Job) (z : Int) : Job := l.getD z.toNat default
def endT (l : List Job) (now z : Int) : Int := max now (jobA l z).ready + (jobA l z).length
def nowK (l : List Job) (o : List Int) : Nat → Int
  | 0 => 0
  | k + 1 => endT l (nowK l o k) (o.getD k default)
def endsK (l : List Job) (o : List Int) : Nat → List Int
  | 0 => List.replicate l.length 0
  | k + 1 => (endsK l o k).set (o.getD k default).toNat (nowK l o (k + 1))
def lateB (l : List Job) (o : List Int) : Prop := ∃ i, i < l.length ∧ (l.getD i default).due < (endsK l o o.length).getD i default
structure OrdOk (l : List Job) (o : List Int) : Prop where
  nd : o.Nodup
  mem : ∀ z, z ∈ o → 0 ≤ z ∧ z < l.length
theorem OrdOk.snoc {l : List Job} {o : List Int} (q : OrdOk l o) {i : Nat} (hi : i < l.length) (hm : (i : Int) ∉ o) : OrdOk l (o ++ [(i : Int)]) :=
  ⟨List.nodup_append.2 ⟨q.nd, by simp, fun a ha b hb => by rw [List.mem_singleton] at hb; subst hb; exact fun e => hm (e ▸ ha)⟩, fun z hz => by
    rcases List.mem_append.1 hz with h | h
    · exact q.mem z h
    · rw [List.mem_singleton] at h; subst h; omega⟩
theorem pig : ∀ {n : Nat} {o : List Nat}, o.Nodup → (∀ z, z ∈ o → z < n) → o.length ≤ n
  | 0, o, _, h => by
    cases o with
    | nil => exact Nat.le_refl _
    | cons a t => exact absurd (h a (by simp)) (Nat.not_lt_zero _)
  | n + 1, o, hd, h => by
    have h1 := pig (n := n) (o := o.erase n) (hd.erase n) fun z hz => by
      have := (hd.mem_erase_iff).1 hz
      have := h z this.2
      omega
    rw [List.length_erase] at h1
    split at h1 <;> omega
theorem OrdOk.full {l : List Job} {o : List Int} (q : OrdOk l o) (hl : o.length = l.length) {i : Nat} (hi : i < l.length) : (i : Int) ∈ o := by
  refine Classical.byContradiction fun h => ?_
  have q2 := q.snoc hi h
  have := pig (n := l.length) (o := (o ++ [(i : Int)]).map Int.toNat) (by
    refine (List.pairwise_map).2 (q2.nd.imp_of_mem fun {a b} ha hb hab he => hab ?_)
    have h1 := q2.mem a ha
    have h2 := q2.mem b hb
    omega) (fun z hz => by
    obtain ⟨x, hx, rfl⟩ := List.mem_map.1 hz
    have := q2.mem x hx
    omega)
  rw [List.length_map, List.length_append, List.length_singleton] at this
  omega
instance (l : List Job) (o : List Int) : Decidable (lateB l o) := by unfold lateB; infer_instance
end Go.Proofs.YtnmaabejdmaahaaGreatDoor
namespace Go.Proofs.YtnmaabejdmaahaaGreatDoor
open Go Go.RowKit Go.Proofs Go.Shelf Go.Ab
def idxL (n : Nat) : List Int := (List.range n).map fun i : Nat => (i : Int)
theorem idxL_nd (n : Nat) : (idxL n).Nodup := List.pairwise_map.2 (List.nodup_range.imp fun h e => h (by omega))
theorem idxL_mem {n : Nat} {z : Int} : z ∈ idxL n ↔ 0 ≤ z ∧ z < n := by
  unfold idxL
  rw [List.mem_map]
  constructor
  · rintro ⟨i, hi, rfl⟩
    rw [List.mem_range] at hi
    omega
  · intro h
    exact ⟨z.toNat, List.mem_range.2 (by omega), by omega⟩
def sumI (f : Int → Int) : List Int → Int
  | [] => 0
  | x :: l => f x + sumI f l
theorem sumI_app {f : Int → Int} : ∀ {a b : List Int}, sumI f (a ++ b) = sumI f a + sumI f b
  | [], b => by rw [List.nil_append, sumI]; omega
  | x :: a, b => by rw [List.cons_append, sumI, sumI, sumI_app]; omega
end Go.Proofs.YtnmaabejdmaahaaGreatDoor
namespace Go.Proofs.YtnmaabejdmaahaaGreatDoor
open Go Go.RowKit Go.Proofs Go.Shelf Go.Ab
structure JobsOk (l : List Job) : Prop where
  len : l.length ≤ 7
  job : ∀ i, i < l.length → (0 ≤ (l.getD i default).ready ∧ (l.getD i default).ready ≤ 1000000000000) ∧ (0 ≤ (l.getD i default).due ∧ (l.getD i default).due ≤ 1000000000000) ∧ (1 ≤ (l.getD i default).length ∧ (l.getD i default).length ≤ 100000) ∧ (0 ≤ (l.getD i default).rank ∧ (l.getD i default).rank ≤ 100000)
def outU (out : List Int) (i : Nat) : Bool := decide (out.getD i default = 0)
def stepR (l : List Job) (out : List Int) (now : Int) : Int × Int := nextR (outU out) (fun i => (l.getD i default).ready) (fun i => (l.getD i default).rank) l.length now
theorem sub_len {α : Type} [DecidableEq α] : ∀ {s o : List α}, s.Nodup → (∀ x, x ∈ s → x ∈ o) → s.length ≤ o.length
  | [], _, _, _ => Nat.zero_le _
  | a :: t, o, hd, hs => by
    rw [List.nodup_cons] at hd
    have ha := hs a (by simp)
    have := sub_len (o := o.erase a) hd.2 (fun x hx => (List.mem_erase_of_ne (fun e : x = a => hd.1 (by subst e; exact hx))).2 (hs x (by simp [hx])))
    rw [List.length_erase_of_mem ha] at this
    have := List.length_pos_of_mem ha
    simp only [List.length_cons]
    omega
theorem getD_set {l : List Int} {i j : Nat} {x : Int} (hi : i < l.length) : (l.set i x).getD j default = if i = j then x else l.getD j default := by
  rw [List.getD_eq_getElem?_getD, List.getElem?_set]
  by_cases e : i = j
  · subst e; rw [if_pos rfl, if_pos hi, if_pos rfl]; rfl
  · rw [if_neg e, if_neg e, ← List.getD_eq_getElem?_getD]
structure FinOk (l : List Job) (k : Nat) (out : List Int) (now b : Int) (S T : List Int) : Prop where
  len : out.length = l.length
  now0 : 0 ≤ now ∧ now ≤ 1000000000000 + 100000 * k
  b0 : b ≤ now
  nd : S.Nodup
  cnt : S.length = k
  rng : ∀ z, z ∈ S → 0 ≤ z ∧ z < l.length
  memS : ∀ i : Nat, i < l.length → ((i : Int) ∈ S ↔ out.getD i default ≠ 0)
  ndT : T.Nodup
  ne : k = 0 ∨ T ≠ []
  subT : ∀ z, z ∈ T → z ∈ S ∧ (0 ≤ z ∧ z < l.length) ∧ b ≤ (jobA l z).ready
  rest : ∀ i, i < l.length → out.getD i default = 0 → b ≤ (l.getD i default).ready
  eq : now = b + sumI (fun z => (jobA l z).length) T
  fin : ∀ i, i < l.length → out.getD i default ≠ 0 → (l.getD i default).ready + (l.getD i default).length ≤ out.getD i default ∧ out.getD i default ≤ now
  apart : ∀ i j, i < l.length → j < l.length → i ≠ j → out.getD i default ≠ 0 → out.getD j default ≠ 0 → out.getD i default ≤ out.getD j default - (l.getD j default).length ∨ out.getD j default ≤ out.getD i default - (l.getD i default).length
  top : k = 0 ∧ now = 0 ∨ ∃ i, i < l.length ∧ out.getD i default = now ∧ now ≠ 0
theorem FinOk.left {l : List Job} {k : Nat} {out : List Int} {now b : Int} {S T : List Int} (F : FinOk l k out now b S T) (hk : k < l.length) : ∃ i, i < l.length ∧ outU out i = true := by
  refine Classical.byContradiction fun h => ?_
  have := sub_len (idxL_nd l.length) (o := S) fun x hx => by
    have hx := idxL_mem.1 hx
    have e : ((x.toNat : Nat) : Int) = x := by omega
    rw [← e]
    refine (F.memS x.toNat (by omega)).2 fun h0 => h ⟨x.toNat, by omega, ?_⟩
    unfold outU; rw [decide_eq_true_eq]; exact h0
  have e1 := F.cnt
  simp only [idxL, List.length_map, List.length_range] at this
  omega
theorem FinOk.next {l : List Job} {k : Nat} {out : List Int} {now b : Int} {S T : List Int} (F : FinOk l k out now b S T) (hk : k < l.length) : (0 ≤ (stepR l out now).1 ∧ (stepR l out now).1 < l.length) ∧ out.getD (stepR l out now).1.toNat default = 0 ∧ (jobA l (stepR l out now).1).ready ≤ (stepR l out now).2 ∧ now ≤ (stepR l out now).2 ∧
    (∃ i, i < l.length ∧ (stepR l out now).2 = max now (l.getD i default).ready) ∧ ∀ i, i < l.length → out.getD i default = 0 → (stepR l out now).2 ≤ max now (l.getD i default).ready := by
  obtain ⟨a, ⟨i0, b1, b2, b3⟩, c⟩ := begF_some F.now0.1 (r := fun i => (l.getD i default).ready) (F.left hk)
  have e2 : (stepR l out now).2 = begF (outU out) (fun i => (l.getD i default).ready) now l.length := rfl
  have e1 : (stepR l out now).1 = bestF (fun i => outU out i && decide ((l.getD i default).ready ≤ (stepR l out now).2)) (fun i => (l.getD i default).rank) l.length := rfl
  have hU : ∀ i, outU out i = true ↔ out.getD i default = 0 := fun i => by unfold outU; rw [decide_eq_true_eq]
  rw [← e2] at a b3 c
  obtain ⟨q1, q2, _⟩ := bestF_some (P := fun i => outU out i && decide ((l.getD i default).ready ≤ (stepR l out now).2)) (v := fun i => (l.getD i default).rank) (n := l.length) ⟨i0, b1, by rw [b2, Bool.true_and, decide_eq_true_eq, b3]; omega⟩
  have q3 := (bestF_bd (P := fun i => outU out i && decide ((l.getD i default).ready ≤ (stepR l out now).2)) (v := fun i => (l.getD i default).rank) l.length).2
  rw [← e1] at q1 q2 q3
  rw [Bool.and_eq_true, decide_eq_true_eq, hU] at q2
  exact ⟨⟨q1, q3⟩, q2.1, q2.2, a, ⟨i0, b1, b3⟩, fun i hi h0 => c i hi ((hU i).2 h0)⟩
theorem FinOk.step {l : List Job} {k : Nat} {out : List Int} {now b : Int} {S T : List Int} (o : JobsOk l) (F : FinOk l k out now b S T) (hk : k < l.length) : ∃ b' S' T', FinOk l (k + 1) (out.set (stepR l out now).1.toNat ((stepR l out now).2 + (jobA l (stepR l out now).1).length)) ((stepR l out now).2 + (jobA l (stepR l out now).1).length) b' S' T' := by
  obtain ⟨⟨x0, x1⟩, x2, x3, x4, ⟨i0, x5, x6⟩, x7⟩ := F.next hk
  generalize (stepR l out now).1 = x at *
  generalize (stepR l out now).2 = t at *
  have hx := o.job x.toNat (by omega)
  have hi0 := o.job i0 x5
  have hJ : jobA l x = l.getD x.toNat default := rfl
  have hxr : (l.getD x.toNat default).ready ≤ t := x3
  have hn := F.now0
  have hlen := F.len
  have hG : ∀ j, (out.set x.toNat (t + (jobA l x).length)).getD j default = if x.toNat = j then t + (jobA l x).length else out.getD j default := fun j => getD_set (by omega)
  have exx : ((x.toNat : Nat) : Int) = x := by omega
  have hxS : x ∉ S := fun h => ((F.memS x.toNat (by omega)).1 (by rw [exx]; exact h)) x2
  have hmem : ∀ i : Nat, i < l.length → ((i : Int) ∈ S ++ [x] ↔ (out.set x.toNat (t + (jobA l x).length)).getD i default ≠ 0) := fun i hi => by
    rw [hG, List.mem_append, List.mem_singleton]
    by_cases e : x.toNat = i
    · rw [if_pos e]
      constructor
      · intro _; rw [hJ]; omega
      · intro _; exact .inr (by omega)
    · rw [if_neg e, F.memS i hi]
      constructor
      · rintro (h | h)
        · exact h
        · omega
      · exact .inl
  have hnd : (S ++ [x]).Nodup := List.nodup_append.2 ⟨F.nd, by simp, fun a ha b hb => by rw [List.mem_singleton] at hb; subst hb; exact fun e => hxS (e ▸ ha)⟩
  have hrng : ∀ z, z ∈ S ++ [x] → 0 ≤ z ∧ z < l.length := fun z hz => by
    rcases List.mem_append.1 hz with h | h
    · exact F.rng z h
    · rw [List.mem_singleton] at h; omega
  have hfin : ∀ i, i < l.length → (out.set x.toNat (t + (jobA l x).length)).getD i default ≠ 0 → (l.getD i default).ready + (l.getD i default).length ≤ (out.set x.toNat (t + (jobA l x).length)).getD i default ∧ (out.set x.toNat (t + (jobA l x).length)).getD i default ≤ t + (jobA l x).length := fun i hi => by
    rw [hG]
    by_cases e : x.toNat = i
    · subst e; rw [if_pos rfl]; intro _; rw [hJ]; omega
    · rw [if_neg e]; intro h
      have := F.fin i hi h
      rw [hJ]; omega
  have hap : ∀ i j, i < l.length → j < l.length → i ≠ j → (out.set x.toNat (t + (jobA l x).length)).getD i default ≠ 0 → (out.set x.toNat (t + (jobA l x).length)).getD j default ≠ 0 → (out.set x.toNat (t + (jobA l x).length)).getD i default ≤ (out.set x.toNat (t + (jobA l x).length)).getD j default - (l.getD j default).length ∨ (out.set x.toNat (t + (jobA l x).length)).getD j default ≤ (out.set x.toNat (t + (jobA l x).length)).getD i default - (l.getD i default).length := fun i j hi hj hij => by
    rw [hG, hG]
    by_cases e : x.toNat = i
    · subst e
      rw [if_pos rfl, if_neg hij]
      intro _ h
      have := F.fin j hj h
      rw [hJ]; right; omega
    · rw [if_neg e]
      by_cases e2 : x.toNat = j
      · subst e2
        rw [if_pos rfl]
        intro h _
        have := F.fin i hi h
        rw [hJ]; left; omega
      · rw [if_neg e2]; exact F.apart i j hi hj hij
  have htop : k + 1 = 0 ∧ t + (jobA l x).length = 0 ∨ ∃ i, i < l.length ∧ (out.set x.toNat (t + (jobA l x).length)).getD i default = t + (jobA l x).length ∧ t + (jobA l x).length ≠ 0 := .inr ⟨x.toNat, by omega, by rw [hG, if_pos rfl], by rw [hJ]; omega⟩
  have hnow : 0 ≤ t + (jobA l x).length ∧ t + (jobA l x).length ≤ 1000000000000 + 100000 * ((k + 1 : Nat) : Int) := by rw [hJ]; omega
  by_cases hc : t = now
  · refine ⟨b, S ++ [x], T ++ [x], ?_⟩
    have hb := F.b0
    have hxT : x ∉ T := fun h => hxS (F.subT x h).1
    exact { len := by simp [hlen], now0 := hnow, b0 := by rw [hJ]; omega, nd := hnd, cnt := by simp [F.cnt], rng := hrng, memS := hmem
            ne := .inr (by simp)
            ndT := List.nodup_append.2 ⟨F.ndT, by simp, fun a ha b hb => by rw [List.mem_singleton] at hb; subst hb; exact fun e => hxT (e ▸ ha)⟩
            subT := fun z hz => by
              rcases List.mem_append.1 hz with h | h
              · exact ⟨List.mem_append.2 (.inl (F.subT z h).1), (F.subT z h).2⟩
              · rw [List.mem_singleton] at h
                subst h
                exact ⟨by simp, ⟨x0, x1⟩, F.rest _ (by omega) x2⟩
            rest := fun i hi => by
              rw [hG]
              by_cases e : x.toNat = i
              · rw [if_pos e]; intro h; rw [hJ] at h; omega
              · rw [if_neg e]; exact F.rest i hi
            eq := by
              have := F.eq
              rw [sumI_app]
              show _ = _ + (_ + ((jobA l x).length + 0))
              omega
            fin := hfin, apart := hap, top := htop }
  · refine ⟨t, S ++ [x], [x], ?_⟩
    exact { len := by simp [hlen], now0 := hnow, b0 := by rw [hJ]; omega, nd := hnd, cnt := by simp [F.cnt], rng := hrng, memS := hmem, ndT := by simp, ne := .inr (by simp)
            subT := fun z hz => by
              rw [List.mem_singleton] at hz
              subst hz
              refine ⟨by simp, ⟨x0, x1⟩, ?_⟩
              have := x7 _ (show z.toNat < l.length by omega) x2
              rw [hJ]; omega
            rest := fun i hi => by
              rw [hG]
              by_cases e : x.toNat = i
              · rw [if_pos e]; intro h; rw [hJ] at h; omega
              · rw [if_neg e]; intro h
                have := x7 i hi h
                omega
            eq := by show _ = _ + ((jobA l x).length + 0); omega
            fin := hfin, apart := hap, top := htop }
end Go.Proofs.YtnmaabejdmaahaaGreatDoor
namespace Go.Proofs.YtnmaabejdmaahaaGreatDoor
open Go Go.RowKit Go.Proofs Go.Shelf Go.Ab
end Go.Proofs.YtnmaabejdmaahaaGreatDoor
namespace Go.Proofs.YtnmaabejdmaahaaGreatDoor
open Go Go.RowKit Go.Proofs Go.Shelf Go.Ab
def befW (w : Int → Int) (i j : Int) : Prop := w j < w i ∨ (w i = w j ∧ i < j)
theorem befW_irr {w : Int → Int} {i j : Int} (h : befW w i j) : ¬ befW w j i := by unfold befW at *; omega
theorem befW_tot {w : Int → Int} {i j : Int} (h : i ≠ j) : befW w i j ∨ befW w j i := by unfold befW; omega
structure SortW (w : Int → Int) (n : Nat) (L : List Int) : Prop where
  perm : L.Perm (idxL n)
  ord : L.Pairwise (befW w)
theorem SortW.len {w : Int → Int} {n : Nat} {L : List Int} (s : SortW w n L) : L.length = n := by rw [s.perm.length_eq]; simp [idxL]
theorem SortW.nd {w : Int → Int} {n : Nat} {L : List Int} (s : SortW w n L) : L.Nodup := s.perm.nodup_iff.2 (idxL_nd n)
theorem SortW.mem {w : Int → Int} {n : Nat} {L : List Int} (s : SortW w n L) {z : Int} : z ∈ L ↔ 0 ≤ z ∧ z < n := by rw [s.perm.mem_iff, idxL_mem]
end Go.Proofs.YtnmaabejdmaahaaGreatDoor
namespace Go.Proofs.YtnmaabejdmaahaaGreatDoor
open Go Go.RowKit Go.Proofs Go.Shelf Go.Ab
section
variable {w : Int → Int} {n : Nat} {L : List Int} {want : Int}
end
end Go.Proofs.YtnmaabejdmaahaaGreatDoor
namespace Go.Proofs.YtnmaabejdmaahaaGreatDoor
open Go Go.RowKit Go.Proofs Go.Shelf Go.Ab
structure ActN (N : Type) where
  kind : Int
  name : N
  cells : List Int
section
variable {N : Type} [DecidableEq N]
def pplK (l : List (ActN N)) : Nat → List N
  | 0 => []
  | k + 1 => match l[k]? with
    | none => pplK l k
    | some a => if a.kind = 0 then pplK l k ++ [a.name] else if a.kind = 1 then (pplK l k).filter (fun x => !decide (x = a.name)) else pplK l k
def newV (name : N) (a : ActN N) : Bool := decide (a.name = name) && (decide (a.kind = 2) || decide (a.kind = 3))
def verK (l : List (ActN N)) (name : N) : Nat → Int
  | 0 => 0
  | k + 1 => match l[k]? with
    | none => verK l name k
    | some a => if newV name a then verK l name k + 1 else verK l name k
def wdrK (l : List (ActN N)) (name : N) : Nat → Bool
  | 0 => false
  | k + 1 => match l[k]? with
    | none => wdrK l name k
    | some a => if a.name = name ∧ a.kind = 4 then true else wdrK l name k
structure ActsOk (l : List (ActN N)) : Prop where
  kind : ∀ (k : Nat) (a : ActN N), l[k]? = some a → 0 ≤ a.kind ∧ a.kind ≤ 4
  join : ∀ (k : Nat) (a : ActN N), l[k]? = some a → a.kind = 0 → a.name ∉ pplK l k
  leave : ∀ (k : Nat) (a : ActN N), l[k]? = some a → a.kind = 1 → a.name ∈ pplK l k
  send : ∀ (k : Nat) (a : ActN N), l[k]? = some a → a.kind = 2 → verK l a.name k = 0
  later : ∀ (k : Nat) (a : ActN N), l[k]? = some a → 3 ≤ a.kind → 0 < verK l a.name k ∧ wdrK l a.name k = false
end
end Go.Proofs.YtnmaabejdmaahaaGreatDoor
namespace Go.Proofs.YtnmaabejdmaahaaGreatDoor
open Go Go.RowKit Go.Proofs Go.Shelf Go.Ab
section
variable {near : Int → Int → Bool}
inductive Conn (near : Int → Int → Bool) (X : List Int) : Int → Int → Prop
  | refl (a : Int) : Conn near X a a
  | step {a b c : Int} (h : Conn near X a b) (hb : b ∈ X) (hc : c ∈ X) (hn : near b c = true) : Conn near X a c
theorem Conn.trans {X : List Int} {a b c : Int} (h : Conn near X a b) (k : Conn near X b c) : Conn near X a c := by
  induction k with
  | refl => exact h
  | step _ hb hc hn ih => exact .step ih hb hc hn
theorem Conn.symm {X : List Int} (hs : ∀ a b, near a b = near b a) {a b : Int} (h : Conn near X a b) : Conn near X b a := by
  induction h with
  | refl => exact .refl _
  | step _ hb hc hn ih => exact (Conn.step (.refl _) hc hb (by rw [hs]; exact hn)).trans ih
structure BfsOk (near : Int → Int → Bool) (X : List Int) (a : Int) (re le : List Int) (i : Nat) : Prop where
  inX : ∀ x, x ∈ re ∨ x ∈ le → x ∈ X
  conn : ∀ x, x ∈ re → Conn near X a x
  start : a ∈ re
  done : ∀ j, j < i → ∀ k, k ∈ le → near (re.getD j default) k = false
  ile : i ≤ re.length
end
end Go.Proofs.YtnmaabejdmaahaaGreatDoor
namespace Go.Proofs.YtnmaabejdmaahaaGreatDoor
open Go Go.RowKit Go.Proofs Go.Shelf Go.Ab
section
variable {near : Int → Int → Bool}
end
end Go.Proofs.YtnmaabejdmaahaaGreatDoor
namespace Go.Proofs.YtnmaabejdmaahaaGreatDoor
open Go Go.RowKit Go.Proofs Go.Shelf Go.Ab
theorem befW_trans {w : Int → Int} {i j k : Int} (h : befW w i j) (g : befW w j k) : befW w i k := by unfold befW at *; omega
section
variable {w : Int → Int}
end
end Go.Proofs.YtnmaabejdmaahaaGreatDoor
namespace Go.Proofs.YtnmaabejdmaahaaGreatDoor
open Go Go.RowKit Go.Proofs Go.Shelf Go.Ab
instance (w : Int → Int) (i j : Int) : Decidable (befW w i j) := by unfold befW; infer_instance
section
variable {w : Int → Int}
theorem sort_uniq : ∀ {a b : List Int}, a.Pairwise (befW w) → b.Pairwise (befW w) → (∀ x, x ∈ a ↔ x ∈ b) → a = b
  | [], [], _, _, _ => rfl
  | [], y :: b, _, _, h => absurd ((h y).2 (by simp)) (by simp)
  | x :: a, [], _, _, h => absurd ((h x).1 (by simp)) (by simp)
  | x :: a, y :: b, ha, hb, h => by
    rw [List.pairwise_cons] at ha hb
    have e : x = y := by
      rcases List.mem_cons.1 ((h x).1 (by simp)) with e | e
      · exact e
      · rcases List.mem_cons.1 ((h y).2 (by simp)) with e2 | e2
        · exact e2.symm
        · exact absurd (ha.1 y e2) (befW_irr (hb.1 x e))
    subst e
    congr 1
    refine sort_uniq ha.2 hb.2 fun z => ?_
    constructor
    · intro hz
      rcases List.mem_cons.1 ((h z).1 (by simp [hz])) with e | e
      · subst e; exact absurd (ha.1 z hz) (befW_irr (ha.1 z hz))
      · exact e
    · intro hz
      rcases List.mem_cons.1 ((h z).2 (by simp [hz])) with e | e
      · subst e; exact absurd (hb.1 z hz) (befW_irr (hb.1 z hz))
      · exact e
def insO (w : Int → Int) (x : Int) : List Int → List Int
  | [] => [x]
  | y :: t => if befW w x y then x :: y :: t else y :: insO w x t
def sortO (w : Int → Int) : List Int → List Int
  | [] => []
  | x :: t => insO w x (sortO w t)
theorem insO_perm (x : Int) : ∀ l : List Int, (insO w x l).Perm (x :: l)
  | [] => .refl _
  | y :: t => by
    rw [insO]
    split
    · exact .refl _
    · exact (List.Perm.cons y (insO_perm x t)).trans (.swap x y t)
theorem sortO_perm : ∀ l : List Int, (sortO w l).Perm l
  | [] => .refl _
  | x :: t => (insO_perm x _).trans (.cons x (sortO_perm t))
theorem insO_sorted {x : Int} : ∀ {l : List Int}, l.Pairwise (befW w) → x ∉ l → (insO w x l).Pairwise (befW w)
  | [], _, _ => by simp [insO]
  | y :: t, h, hx => by
    rw [List.pairwise_cons] at h
    rw [insO]
    split
    · rename_i hb
      refine List.pairwise_cons.2 ⟨fun z hz => ?_, List.pairwise_cons.2 h⟩
      rcases List.mem_cons.1 hz with e | e
      · subst e; exact hb
      · exact befW_trans hb (h.1 z e)
    · rename_i hb
      refine List.pairwise_cons.2 ⟨fun z hz => ?_, insO_sorted h.2 fun hm => hx (by simp [hm])⟩
      rcases List.mem_cons.1 ((insO_perm x t).mem_iff.1 hz) with e | e
      · subst e
        exact (befW_tot (fun e => hx (by simp [e]))).resolve_left hb
      · exact h.1 z e
theorem sortO_sorted : ∀ {l : List Int}, l.Nodup → (sortO w l).Pairwise (befW w)
  | [], _ => List.Pairwise.nil
  | x :: t, h => by
    rw [List.nodup_cons] at h
    exact insO_sorted (sortO_sorted h.2) fun hm => h.1 ((sortO_perm t).mem_iff.1 hm)
theorem sortO_of {l L : List Int} (hn : l.Nodup) (hL : L.Pairwise (befW w)) (hm : ∀ x, x ∈ L ↔ x ∈ l) : sortO w l = L :=
  sort_uniq (sortO_sorted hn) hL fun x => by rw [(sortO_perm l).mem_iff, hm]
theorem SortW.eq {n : Nat} {L : List Int} (s : SortW w n L) : L = sortO w (idxL n) := (sortO_of (idxL_nd n) s.ord fun _ => s.perm.mem_iff).symm
end
end Go.Proofs.YtnmaabejdmaahaaGreatDoor
namespace Go.Proofs.YtnmaabejdmaahaaGreatDoor
open Go Go.RowKit Go.Proofs Go.Shelf Go.Ab
end Go.Proofs.YtnmaabejdmaahaaGreatDoor
namespace Go.Proofs.YtnmaabejdmaahaaGreatDoor
open Go Go.RowKit Go.Proofs Go.Shelf Go.Ab
end Go.Proofs.YtnmaabejdmaahaaGreatDoor
namespace Go.Proofs.YtnmaabejdmaahaaGreatDoor
open Go Go.RowKit Go.Proofs Go.Shelf Go.Ab
end Go.Proofs.YtnmaabejdmaahaaGreatDoor
namespace Go.Proofs.YtnmaabejdmaahaaGreatDoor
open Go Go.RowKit Go.Proofs Go.Shelf Go.Ab
section
variable {N : Type} {lt : N → N → Bool}
structure LtOk (lt : N → N → Bool) : Prop where
  irr : ∀ a, lt a a = false
  trans : ∀ a b c, lt a b = true → lt b c = true → lt a c = true
  tot : ∀ a b, a ≠ b → lt a b = true ∨ lt b a = true
def AscN (lt : N → N → Bool) (l : List N) : Prop := l.Pairwise fun a b => lt a b = true
theorem AscN.nodup (o : LtOk lt) {l : List N} (h : AscN lt l) : l.Nodup := List.Pairwise.imp (fun {a b} hab e => by subst e; rw [o.irr] at hab; cases hab) h
end
end Go.Proofs.YtnmaabejdmaahaaGreatDoor
namespace Go.Proofs.YtnmaabejdmaahaaGreatDoor
open Go Go.RowKit Go.Proofs Go.Shelf Go.Ab
section
variable {α : Type}
end
structure CutOk (w : Int → Int) (D : Nat → Int) (p lo hi s : Nat) : Prop where
  le : lo ≤ s ∧ s ≤ hi
  left : ∀ c, lo ≤ c → c < s → ¬ befW w (D (p - c)) (D c)
  right : ∀ c, s ≤ c → c < hi → befW w (D (p - c)) (D c)
end Go.Proofs.YtnmaabejdmaahaaGreatDoor
namespace Go.Proofs.YtnmaabejdmaahaaGreatDoor
open Go Go.RowKit Go.Proofs Go.Shelf Go.Ab
def SrtI (w : Int → Int) (D : Nat → Int) (a b : Nat) : Prop := ∀ i j, a ≤ i → i < j → j < b → befW w (D i) (D j)
theorem SrtI.sub {w : Int → Int} {D : Nat → Int} {a b c d : Nat} (h : SrtI w D a b) (h1 : a ≤ c) (h2 : d ≤ b) : SrtI w D c d := fun i j p q r => h i j (by omega) q (by omega)
theorem SrtI.join {w : Int → Int} {D : Nat → Int} {a m b : Nat} (h1 : SrtI w D a m) (h2 : SrtI w D m b) (h : ∀ i j, a ≤ i → i < m → m ≤ j → j < b → befW w (D i) (D j)) : SrtI w D a b := fun i j p q r => by
  by_cases hj : j < m
  · exact h1 i j p q hj
  · by_cases hi : i < m
    · exact h i j p hi (by omega) r
    · exact h2 i j (by omega) q r
end Go.Proofs.YtnmaabejdmaahaaGreatDoor
namespace Go.Proofs.YtnmaabejdmaahaaGreatDoor
open Go Go.RowKit Go.Proofs Go.Shelf Go.Ab
end Go.Proofs.YtnmaabejdmaahaaGreatDoor
namespace Go.Proofs.YtnmaabejdmaahaaGreatDoor
open Go Go.RowKit Go.Proofs Go.Shelf Go.Ab
section
variable {N : Type} [DecidableEq N] [Inhabited N] {lt : N → N → Bool}
end
end Go.Proofs.YtnmaabejdmaahaaGreatDoor
namespace Go.Proofs.YtnmaabejdmaahaaGreatDoor
open Go Go.RowKit Go.Proofs Go.Shelf Go.Ab
def iv (z : Int) : FV := .v (.int .i64 z)
def bv (b : Bool) : FV := .v (.bool b)
def intsF (l : List Int) : List FV := l.map iv
def boolsF (l : List Bool) : List FV := l.map bv
def GG : Nat → Option FV := fun _ => none
theorem intsF_ne {l : List Int} {k : Nat} (h : k < l.length) : intsF l ≠ [] := map_ne h
theorem intsF_at {l : List Int} {k : Nat} (h : k < l.length) : (intsF l)[k * 1]? = some (iv l[k]) := map_at h
theorem intsF_snoc (l : List Int) (z : Int) : intsF (l ++ [z]) = intsF l ++ [iv z] := by simp [intsF]
theorem flat_len {α : Type} {f : α → List FV} {s : Nat} (hs : ∀ x, (f x).length = s) (l : List α) : (l.flatMap f).length = l.length * s := by
  induction l with
  | nil => simp
  | cons x l ih => rw [List.flatMap_cons, List.length_append, ih, hs, List.length_cons, Nat.succ_mul, Nat.add_comm]
theorem flat_drop {α : Type} {f : α → List FV} {s : Nat} (hs : ∀ x, (f x).length = s) (l : List α) (k : Nat) : (l.flatMap f).drop (k * s) = (l.drop k).flatMap f := by
  induction k generalizing l with
  | zero => simp
  | succ k ih => cases l with
    | nil => simp
    | cons x l => rw [List.flatMap_cons, Nat.succ_mul, Nat.add_comm, ← List.drop_drop, List.drop_left' (hs x), ih, List.drop_succ_cons]
abbrev Nm := List UInt8
def sv (s : Nm) : FV := .v (.string ⟨s.toArray⟩)
structure Aev where
  tick : Int
  cell : Int
deriving DecidableEq, Inhabited
abbrev Act := ActN Nm
instance : Inhabited Act := ⟨⟨0, [], []⟩⟩
structure Ast where
  name : Nm
  version : Int
  cells : List Int
  gone : Bool
  had : List Nm
instance : Inhabited Ast := ⟨⟨[], 0, [], false, []⟩⟩
abbrev Pr := Int × Int
structure Pt where
  height : Int
  turn : Int
deriving DecidableEq, Inhabited
def celF (x : Cel) : List FV := [iv x.ring, iv x.before, iv x.count, iv x.index]
def celsF (l : List Cel) : List FV := l.flatMap celF
theorem getD_at {α : Type} [Inhabited α] {l : List α} {i : Nat} (h : i < l.length) : l.getD i default = l[i] := by simp [List.getD_eq_getElem?_getD, List.getElem?_eq_getElem h]
def withinB (n lo hi : Int) : Bool := decide (lo ≤ n) && decide (n ≤ hi)
def unlessE (b : Bool) (k : Int) : Int := if b then 0 else k
def firstE : List Int → Int
  | [] => 0
  | e :: l => if e = 0 then firstE l else e
theorem firstE_hd {a : Int} {l : List Int} (h : a ≠ 0) : firstE (a :: l) = a := by unfold firstE; rw [if_neg h]
theorem firstE_tl {l : List Int} : firstE (0 :: l) = firstE l := by rw [firstE, if_pos rfl]
theorem firstE_zeros {l : List Int} (h : ∀ j (hj : j < l.length), l[j] = 0) : firstE l = 0 := by
  induction l with
  | nil => rfl
  | cons a l ih =>
    have h0 := h 0 (by simp)
    simp only [List.getElem_cons_zero] at h0
    subst h0
    rw [firstE_tl]
    exact ih fun j hj => by have := h (j + 1) (by simpa using hj); simpa using this
theorem firstE_at {l : List Int} {k : Nat} (hk : k < l.length) (h : ∀ j (hj : j < l.length), j < k → l[j] = 0) (hne : l[k] ≠ 0) : firstE l = l[k] := by
  induction l generalizing k with
  | nil => simp at hk
  | cons a l ih =>
    cases k with
    | zero => simp only [List.getElem_cons_zero] at hne ⊢; exact firstE_hd hne
    | succ k =>
      have h0 := h 0 (by simp) (by omega)
      simp only [List.getElem_cons_zero] at h0
      subst h0
      rw [firstE_tl]
      simp only [List.getElem_cons_succ] at hne ⊢
      exact ih (by simpa using hk) (fun j hj hlt => by have := h (j + 1) (by simpa using hj) (by omega); simpa using this) hne
end Go.Proofs.YtnmaabejdmaahaaGreatDoor
namespace Go.Proofs.YtnmaabejdmaahaaGreatDoor
open Go Go.RowKit Go.Proofs Go.Shelf Go.Ab
structure IRng where
  lo : Int
  hi : Int
deriving DecidableEq, Inhabited
def ilayF (x : Layer) : List FV := [iv x.delay, iv x.loss, iv x.scatter]
def ilaysF (l : List Layer) : List FV := l.flatMap ilayF
def irngF (x : IRng) : List FV := [iv x.lo, iv x.hi]
def irngsF (l : List IRng) : List FV := l.flatMap irngF
theorem irngsF_ne {l : List IRng} {k : Nat} (h : k < l.length) : irngsF l ≠ [] := flat_ne (f := irngF) (fun _ => rfl) (by decide : 0 < 2) h
theorem irngsF_sub {l : List IRng} {k : Nat} (h : k < l.length) : ((irngsF l).drop (k * 2)).take 2 = irngF l[k] := flat_sub (f := irngF) (fun _ => rfl) h
theorem irngsF_f0 {l : List IRng} {k : Nat} (h : k < l.length) : (irngsF l)[k * 2 + 0]? = some (iv l[k].lo) := (flat_at (f := irngF) (fun _ => rfl) h (by decide : 0 < 2)).trans rfl
theorem irngsF_f1 {l : List IRng} {k : Nat} (h : k < l.length) : (irngsF l)[k * 2 + 1]? = some (iv l[k].hi) := (flat_at (f := irngF) (fun _ => rfl) h (by decide : 1 < 2)).trans rfl
def gridL (x : Grid) : List FV := [.sl x.layers.length (ilaysF x.layers), iv x.rows, .sl x.tilt.length (intsF x.tilt)]
def gridF (x : Grid) : FV := .agg (gridL x)
theorem iwithin_T (n lo hi : Int) (h : lo ≤ n ∧ n ≤ hi) : Summ Tryz.prog GG 69 [iv n, iv lo, iv hi] (.v (.bool true)) := by
  obtain ⟨h1, h2⟩ := h
  refine summW Tryz.func69 rfl rfl 15 rfl (by simp) (fun M0 => ?_)
  repeat (first
    | (apply s_a TY; exact rfl)
    | (apply s_t; exact rfl; (first | assumption | omega))
    | apply w_seq
    | apply w_region
    | apply s_nil
    | apply t_norm
    | apply w_ret)
  exact lv_ret (ret1 rfl (res_tmp rfl))
theorem iwithin_F (n lo hi : Int) (h : ¬ (lo ≤ n ∧ n ≤ hi)) : Summ Tryz.prog GG 69 [iv n, iv lo, iv hi] (.v (.bool false)) := by
  by_cases h1 : lo ≤ n
  · have h2 : ¬ n ≤ hi := fun h2 => h ⟨h1, h2⟩
    refine summW Tryz.func69 rfl rfl 15 rfl (by simp) (fun M0 => ?_)
    repeat (first
    | (apply s_a TY; exact rfl)
    | (apply s_t; exact rfl; (first | assumption | omega))
    | (apply s_f; exact rfl; (first | assumption | omega))
    | apply w_seq
    | apply w_region
    | apply s_nil
    | apply t_norm
    | apply w_ret)
    exact lv_ret (ret1 rfl (res_tmp rfl))
  · refine summW Tryz.func69 rfl rfl 15 rfl (by simp) (fun M0 => ?_)
    repeat (first
    | (apply s_a TY; exact rfl)
    | (apply s_f; exact rfl; (first | assumption | omega))
    | apply w_seq
    | apply w_region
    | apply s_nil
    | apply t_norm
    | apply w_ret
    | (apply s_s; exact rfl))
    exact lv_ret (ret1 rfl (res_tmp rfl))
theorem iunless_T (k : Int) : Summ Tryz.prog GG 36 [.v (.bool true), iv k] (iv 0) := by
  refine summW Tryz.func36 rfl rfl 7 rfl (by simp) (fun M0 => ?_)
  repeat (first
    | (apply s_a TY; exact rfl)
    | apply w_seq
    | apply w_region
    | apply s_nil
    | apply t_norm
    | apply t_ret
    | apply w_ret
    | (apply w_condT; exact rfl; exact rfl))
  exact lv_ret (ret1 rfl (res_tmp rfl))
theorem iunless_F (k : Int) : Summ Tryz.prog GG 36 [.v (.bool false), iv k] (iv k) := by
  refine summW Tryz.func36 rfl rfl 7 rfl (by simp) (fun M0 => ?_)
  repeat (first
    | (apply s_a TY; exact rfl)
    | apply w_seq
    | apply w_region
    | apply s_nil
    | apply t_norm
    | apply w_ret
    | apply w_skip
    | (apply w_condF; exact rfl; exact rfl))
  exact lv_ret (ret1 rfl (res_tmp rfl))
set_option maxRecDepth 100000 in
theorem ifirst_s (l : List Int) (hl : l.length ≤ 1000000) : Summ Tryz.prog GG 34 [.sl l.length (intsF l)] (iv (firstE l)) := by
  refine summW Tryz.func34 rfl rfl 15 rfl (by simp) (fun M0 => ?_)
  repeat (first
    | (apply s_a TY; exact rfl)
    | apply w_seq
    | apply w_region
    | apply s_nil
    | apply t_norm
    | apply w_block)
  apply w_loop (fun k : Nat => ⟨(Ab.upd (Ab.upd (Ab.upd (fun _ => .bot) 5 (.f (.sl l.length (intsF l)))) 6 (.f (iv l.length))) 7 (.f (iv (k : Nat)))), (fun _ => none), 0⟩) (fun k => k ≤ l.length ∧ ∀ j (hj : j < l.length), j < k → l[j] = 0) (fun k => l.length - k) 0 (⟨Nat.zero_le _, fun j _ h => absurd h (Nat.not_lt_zero j)⟩) (gh_le ⟨le_upd rfl trivial (le_upd rfl trivial (le_upd rfl trivial (le_nil _))), le_h0 _ _⟩)
  intro k ⟨hk, hz⟩
  by_cases hc : k < l.length
  · by_cases he : l[k] = 0
    · repeat (first
    | (apply s_a TY; exact rfl)
    | (apply s_t; exact rfl; (first | assumption | omega))
    | apply w_seq
    | apply w_region
    | apply s_nil
    | apply t_norm
    | apply k_norm
    | apply w_block
    | apply w_skip
    | (apply w_condT; exact rfl; exact rfl)
    | (apply w_condF; exact rfl; exact rfl)
    | (apply s_c TY; exact rfl; (first | omega | exact ⟨by omega, by (first | with_reducible assumption | ((with_reducible apply intsF_ne); omega) | assumption)⟩))
    | (apply s_l TY; exact rfl; (first | exact rfl | with_reducible assumption | ((with_reducible apply intsF_at); omega) | assumption)))
      exact ⟨k + 1, ⟨by omega, fun j hj hlt => by
        by_cases e : j = k
        · subst e; exact he
        · exact hz j hj (by omega)⟩, by omega, gh_le ⟨le_upd rfl trivial (le_upd rfl trivial (le_upd rfl trivial (le_nil _))), le_h0 _ _⟩⟩
    · rw [firstE_at hc (fun j hj hlt => hz j hj hlt) he]
      repeat (first
    | (apply s_a TY; exact rfl)
    | (apply s_t; exact rfl; (first | assumption | omega))
    | (apply s_f; exact rfl; (first | assumption | omega))
    | apply w_seq
    | apply w_region
    | apply s_nil
    | apply t_norm
    | apply t_ret
    | apply k_ret
    | apply w_block
    | apply w_ret
    | apply w_skip
    | (apply w_condT; exact rfl; exact rfl)
    | (apply s_c TY; exact rfl; (first | omega | exact ⟨by omega, by (first | with_reducible assumption | ((with_reducible apply intsF_ne); omega) | assumption)⟩))
    | (apply s_l TY; exact rfl; (first | exact rfl | with_reducible assumption | ((with_reducible apply intsF_at); omega) | assumption)))
      exact lv_ret (ret1 rfl (res_tmp rfl))
  · rw [firstE_zeros (fun j hj => hz j hj (by omega))]
    repeat (first
    | (apply s_a TY; exact rfl)
    | (apply s_f; exact rfl; (first | assumption | omega))
    | apply w_seq
    | apply w_region
    | apply s_nil
    | apply t_norm
    | apply t_exit
    | apply k_hit
    | apply w_exit
    | apply w_ret
    | (apply w_condF; exact rfl; exact rfl))
    exact lv_ret (ret1 rfl (res_tmp rfl))
theorem ifirst2_s (a0 a1 : Int) : Summ Tryz.prog GG 34 [.sl 2 [iv a0, iv a1]] (iv (firstE [a0, a1])) := ifirst_s [a0, a1] (by simp)
theorem ifirst2_0 (a0 a1 : Int) (h : a0 ≠ 0) : Summ Tryz.prog GG 34 [.sl 2 [iv a0, iv a1]] (iv a0) := by
  have := ifirst_s [a0, a1] (by simp)
  rwa [show firstE [a0, a1] = a0 by simp [firstE, h]] at this
theorem ifirst2_1 (a0 a1 : Int) (h : a0 = 0) : Summ Tryz.prog GG 34 [.sl 2 [iv a0, iv a1]] (iv a1) := by
  have := ifirst_s [a0, a1] (by simp)
  rwa [show firstE [a0, a1] = a1 by simp [firstE, h] <;> exact fun e => e.symm] at this
theorem ifirst4_s (a0 a1 a2 a3 : Int) : Summ Tryz.prog GG 34 [.sl 4 [iv a0, iv a1, iv a2, iv a3]] (iv (firstE [a0, a1, a2, a3])) := ifirst_s [a0, a1, a2, a3] (by simp)
end Go.Proofs.YtnmaabejdmaahaaGreatDoor
namespace Go.Proofs.YtnmaabejdmaahaaGreatDoor
open Go Go.RowKit Go.Proofs Go.Shelf Go.Ab
def idxP (n : Nat) (p : Nat → Bool) : Int := match (List.range n).find? p with
  | some i => i
  | none => -1
def anyP (n : Nat) (p : Nat → Bool) : Bool := (List.range n).any p
theorem idxP_no {n : Nat} {p : Nat → Bool} (h : ∀ i, i < n → p i = false) : idxP n p = -1 := by
  unfold idxP
  rw [List.find?_eq_none.2 (fun i hi => by rw [h i (List.mem_range.1 hi)]; decide)]
theorem idxP_at {n k : Nat} {p : Nat → Bool} (hk : k < n) (h : ∀ i, i < k → p i = false) (hp : p k = true) : idxP n p = k := by
  obtain ⟨m, rfl⟩ : ∃ m, n = k + 1 + m := ⟨n - k - 1, by omega⟩
  unfold idxP
  rw [List.range_add, List.range_succ, List.append_assoc, List.find?_append, List.find?_eq_none.2 (fun i hi => by rw [h i (List.mem_range.1 hi)]; decide), Option.none_or, List.singleton_append, List.find?_cons, hp]
theorem anyP_iff {n : Nat} {p : Nat → Bool} : anyP n p = true ↔ ∃ i, i < n ∧ p i = true := by
  unfold anyP
  rw [List.any_eq_true]
  exact ⟨fun ⟨i, h1, h2⟩ => ⟨i, List.mem_range.1 h1, h2⟩, fun ⟨i, h1, h2⟩ => ⟨i, List.mem_range.2 h1, h2⟩⟩
theorem idxP_cases (n : Nat) (p : Nat → Bool) : (idxP n p = -1 ∧ ∀ i, i < n → p i = false) ∨ ∃ k, k < n ∧ (∀ i, i < k → p i = false) ∧ p k = true ∧ idxP n p = k := by
  by_cases h : ∃ i, i < n ∧ p i = true
  · obtain ⟨k, ⟨hk, hp⟩, hmin⟩ := exists_least h
    have hz : ∀ i, i < k → p i = false := fun i hi => by
      cases hpi : p i with
      | false => rfl
      | true => have := hmin i ⟨by omega, hpi⟩; omega
    exact .inr ⟨k, hk, hz, hp, idxP_at hk hz hp⟩
  · have hz : ∀ i, i < n → p i = false := fun i hi => by
      cases hpi : p i with
      | false => rfl
      | true => exact absurd ⟨i, hi, hpi⟩ h
    exact .inl ⟨idxP_no hz, hz⟩
theorem idxP_pos (n : Nat) (p : Nat → Bool) : 0 ≤ idxP n p ↔ anyP n p = true := by
  rw [anyP_iff]
  rcases idxP_cases n p with ⟨e, h⟩ | ⟨k, hk, _, hp, e⟩
  · rw [e]
    exact ⟨fun h => by omega, fun ⟨i, h1, h2⟩ => by rw [h i h1] at h2; cases h2⟩
  · rw [e]
    exact ⟨fun _ => ⟨k, hk, hp⟩, fun _ => by omega⟩
end Go.Proofs.YtnmaabejdmaahaaGreatDoor
namespace Go.Proofs.YtnmaabejdmaahaaGreatDoor
open Go Go.RowKit Go.Proofs Go.Shelf Go.Ab
structure Plc where
  x : Int
  y : Int
  z : Int
deriving DecidableEq, Inhabited
def befP (a b : Plc) : Prop := a.x < b.x ∨ (a.x = b.x ∧ (a.y < b.y ∨ (a.y = b.y ∧ a.z < b.z)))
theorem befP_irr {a b : Plc} (h : befP a b) : ¬ befP b a := by unfold befP at *; omega
theorem placed_uniq : ∀ {a b : List Plc}, a.Pairwise befP → b.Pairwise befP → (∀ p, p ∈ a ↔ p ∈ b) → a = b
  | [], [], _, _, _ => rfl
  | [], y :: b, _, _, h => absurd ((h y).2 (by simp)) (by simp)
  | x :: a, [], _, _, h => absurd ((h x).1 (by simp)) (by simp)
  | x :: a, y :: b, ha, hb, h => by
    rw [List.pairwise_cons] at ha hb
    have e : x = y := by
      rcases List.mem_cons.1 ((h x).1 (by simp)) with e | e
      · exact e
      · rcases List.mem_cons.1 ((h y).2 (by simp)) with e2 | e2
        · exact e2.symm
        · exact absurd (ha.1 y e2) (befP_irr (hb.1 x e))
    subst e
    congr 1
    refine placed_uniq ha.2 hb.2 fun z => ?_
    constructor
    · intro hz
      rcases List.mem_cons.1 ((h z).1 (by simp [hz])) with e | e
      · subst e; exact absurd (ha.1 z hz) (befP_irr (ha.1 z hz))
      · exact e
    · intro hz
      rcases List.mem_cons.1 ((h z).2 (by simp [hz])) with e | e
      · subst e; exact absurd (hb.1 z hz) (befP_irr (hb.1 z hz))
      · exact e
def upto (lo hi : Int) : List Int := (List.range (hi + 1 - lo).toNat).map fun i : Nat => lo + i
theorem upto_mem {lo hi z : Int} : z ∈ upto lo hi ↔ lo ≤ z ∧ z ≤ hi := by
  unfold upto
  rw [List.mem_map]
  constructor
  · rintro ⟨i, hi, rfl⟩
    rw [List.mem_range] at hi
    omega
  · intro h
    exact ⟨(z - lo).toNat, List.mem_range.2 (by omega), by omega⟩
theorem upto_asc (lo hi : Int) : (upto lo hi).Pairwise (· < ·) := List.pairwise_map.2 (List.pairwise_lt_range.imp fun h => by omega)
section
variable (F : Plc → Bool) (x0 x1 y0 y1 z0 z1 : Int)
def plcR : List Plc := (upto x0 x1).flatMap fun a => (upto y0 y1).flatMap fun b => ((upto z0 z1).map fun c => (⟨a, b, c⟩ : Plc)).filter F
def plcP : List Plc := (upto z0 z1).flatMap fun c => (upto y0 y1).flatMap fun b => ((upto x0 x1).map fun a => (⟨a, b, c⟩ : Plc)).filter F
theorem plcR_mem {p : Plc} : p ∈ plcR F x0 x1 y0 y1 z0 z1 ↔ (x0 ≤ p.x ∧ p.x ≤ x1) ∧ (y0 ≤ p.y ∧ p.y ≤ y1) ∧ (z0 ≤ p.z ∧ p.z ≤ z1) ∧ F p = true := by
  unfold plcR
  simp only [List.mem_flatMap, List.mem_filter, List.mem_map, upto_mem]
  constructor
  · rintro ⟨a, ha, b, hb, ⟨c, hc, rfl⟩, hf⟩; exact ⟨ha, hb, hc, hf⟩
  · rintro ⟨ha, hb, hc, hf⟩; exact ⟨p.x, ha, p.y, hb, ⟨p.z, hc, rfl⟩, hf⟩
theorem plcP_mem {p : Plc} : p ∈ plcP F x0 x1 y0 y1 z0 z1 ↔ (x0 ≤ p.x ∧ p.x ≤ x1) ∧ (y0 ≤ p.y ∧ p.y ≤ y1) ∧ (z0 ≤ p.z ∧ p.z ≤ z1) ∧ F p = true := by
  unfold plcP
  simp only [List.mem_flatMap, List.mem_filter, List.mem_map, upto_mem]
  constructor
  · rintro ⟨c, hc, b, hb, ⟨a, ha, rfl⟩, hf⟩; exact ⟨ha, hb, hc, hf⟩
  · rintro ⟨ha, hb, hc, hf⟩; exact ⟨p.z, hc, p.y, hb, ⟨p.x, ha, rfl⟩, hf⟩
theorem plcR_asc : (plcR F x0 x1 y0 y1 z0 z1).Pairwise befP := by
  unfold plcR
  refine List.pairwise_flatMap.2 ⟨fun a _ => List.pairwise_flatMap.2 ⟨fun b _ => List.Pairwise.filter _ (List.pairwise_map.2 ((upto_asc z0 z1).imp fun h => .inr ⟨rfl, .inr ⟨rfl, h⟩⟩)), (upto_asc y0 y1).imp fun {b b'} h p hp q hq => ?_⟩, (upto_asc x0 x1).imp fun {a a'} h p hp q hq => ?_⟩
  · simp only [List.mem_filter, List.mem_map] at hp hq
    obtain ⟨⟨c, _, rfl⟩, _⟩ := hp
    obtain ⟨⟨d, _, rfl⟩, _⟩ := hq
    exact .inr ⟨rfl, .inl h⟩
  · simp only [List.mem_flatMap, List.mem_filter, List.mem_map] at hp hq
    obtain ⟨b, _, ⟨c, _, rfl⟩, _⟩ := hp
    obtain ⟨d, _, ⟨e, _, rfl⟩, _⟩ := hq
    exact .inl h
theorem plc_sorted {s : List Plc} (h : s.Pairwise befP) (hp : s.Perm (plcP F x0 x1 y0 y1 z0 z1)) : s = plcR F x0 x1 y0 y1 z0 z1 :=
  placed_uniq h (plcR_asc F x0 x1 y0 y1 z0 z1) fun p => by rw [hp.mem_iff, plcP_mem, plcR_mem]
end
end Go.Proofs.YtnmaabejdmaahaaGreatDoor
namespace Go.Proofs.YtnmaabejdmaahaaGreatDoor
open Go Go.RowKit Go.Proofs Go.Shelf Go.Ab
structure Dst where
  fr : Plc
  lo : Int
  hi : Int
deriving DecidableEq, Inhabited
def plcF (x : Plc) : List FV := [iv x.x, iv x.y, iv x.z]
def plcsF (l : List Plc) : List FV := l.flatMap plcF
theorem plcsF_ne {l : List Plc} {k : Nat} (h : k < l.length) : plcsF l ≠ [] := flat_ne (f := plcF) (fun _ => rfl) (by decide : 0 < 3) h
theorem plcsF_sub {l : List Plc} {k : Nat} (h : k < l.length) : ((plcsF l).drop (k * 3)).take 3 = plcF l[k] := flat_sub (f := plcF) (fun _ => rfl) h
theorem plcsF_f0 {l : List Plc} {k : Nat} (h : k < l.length) : (plcsF l)[k * 3 + 0]? = some (iv l[k].x) := (flat_at (f := plcF) (fun _ => rfl) h (by decide : 0 < 3)).trans rfl
theorem plcsF_f1 {l : List Plc} {k : Nat} (h : k < l.length) : (plcsF l)[k * 3 + 1]? = some (iv l[k].y) := (flat_at (f := plcF) (fun _ => rfl) h (by decide : 1 < 3)).trans rfl
theorem plcsF_f2 {l : List Plc} {k : Nat} (h : k < l.length) : (plcsF l)[k * 3 + 2]? = some (iv l[k].z) := (flat_at (f := plcF) (fun _ => rfl) h (by decide : 2 < 3)).trans rfl
theorem plcsF_app (a b : List Plc) : plcsF (a ++ b) = plcsF a ++ plcsF b := List.flatMap_append
theorem plcsF_one (x : Plc) : plcsF [x] = plcF x := by simp [plcsF]
theorem plcsF_snoc (l : List Plc) (x : Plc) : plcsF (l ++ [x]) = plcsF l ++ plcF x := by rw [plcsF_app, plcsF_one]
def dstF (x : Dst) : List FV := [iv x.fr.x, iv x.fr.y, iv x.fr.z, iv x.lo, iv x.hi]
def dstsF (l : List Dst) : List FV := l.flatMap dstF
theorem dstsF_len (l : List Dst) : (dstsF l).length = l.length * 5 := flat_len (f := dstF) (fun _ => rfl) l
theorem dstsF_ne {l : List Dst} {k : Nat} (h : k < l.length) : dstsF l ≠ [] := flat_ne (f := dstF) (fun _ => rfl) (by decide : 0 < 5) h
theorem dstsF_sub {l : List Dst} {k : Nat} (h : k < l.length) : ((dstsF l).drop (k * 5)).take 5 = dstF l[k] := flat_sub (f := dstF) (fun _ => rfl) h
theorem dstsF_f0 {l : List Dst} {k : Nat} (h : k < l.length) : (dstsF l)[k * 5 + 0]? = some (iv l[k].fr.x) := (flat_at (f := dstF) (fun _ => rfl) h (by decide : 0 < 5)).trans rfl
theorem dstsF_f1 {l : List Dst} {k : Nat} (h : k < l.length) : (dstsF l)[k * 5 + 1]? = some (iv l[k].fr.y) := (flat_at (f := dstF) (fun _ => rfl) h (by decide : 1 < 5)).trans rfl
theorem dstsF_f2 {l : List Dst} {k : Nat} (h : k < l.length) : (dstsF l)[k * 5 + 2]? = some (iv l[k].fr.z) := (flat_at (f := dstF) (fun _ => rfl) h (by decide : 2 < 5)).trans rfl
theorem dstsF_f3 {l : List Dst} {k : Nat} (h : k < l.length) : (dstsF l)[k * 5 + 3]? = some (iv l[k].lo) := (flat_at (f := dstF) (fun _ => rfl) h (by decide : 3 < 5)).trans rfl
theorem dstsF_f4 {l : List Dst} {k : Nat} (h : k < l.length) : (dstsF l)[k * 5 + 4]? = some (iv l[k].hi) := (flat_at (f := dstF) (fun _ => rfl) h (by decide : 4 < 5)).trans rfl
theorem dstsF_drop (l : List Dst) (k : Nat) : (dstsF l).drop (k * 5) = dstsF (l.drop k) := flat_drop (f := dstF) (fun _ => rfl) l k
structure Box where
  x0 : Int
  x1 : Int
  y0 : Int
  y1 : Int
  z0 : Int
  z1 : Int
deriving DecidableEq, Inhabited
structure Srch where
  box : Box
  ds : List Dst
def boxL (b : Box) : List FV := [iv b.x0, iv b.x1, iv b.y0, iv b.y1, iv b.z0, iv b.z1]
def boxF (b : Box) : FV := .agg (boxL b)
def srL (x : Srch) : List FV := [iv x.box.x0, iv x.box.x1, iv x.box.y0, iv x.box.y1, iv x.box.z0, iv x.box.z1, .sl x.ds.length (dstsF x.ds)]
def srF (x : Srch) : FV := .agg (srL x)
def isP (n : Int) : Prop := -100000 ≤ n ∧ n ≤ 100000
instance (n : Int) : Decidable (isP n) := by unfold isP; infer_instance
def sdE (lo hi : Int) : Int := if ¬ isP lo then 2 else if ¬ isP hi then 2 else if hi < lo then 9 else if 20 < hi - lo then 8 else 0
def dsE (d : Dst) : Int := if ¬ isP d.fr.x then 2 else if ¬ isP d.fr.y then 2 else if ¬ isP d.fr.z then 2 else if ¬ (0 ≤ d.lo ∧ d.lo ≤ 1000000000000) then 2 else if ¬ (0 ≤ d.hi ∧ d.hi ≤ 1000000000000) then 2 else if d.hi < d.lo then 9 else 0
def srE (x : Srch) : Int := firstE ([sdE x.box.x0 x.box.x1, sdE x.box.y0 x.box.y1, sdE x.box.z0 x.box.z1, unlessE (decide (x.ds.length ≤ 8)) 8] ++ x.ds.map dsE)
structure SdOk (lo hi : Int) : Prop where
  a : isP lo
  b : isP hi
  c : lo ≤ hi
  d : hi - lo ≤ 20
theorem sdE_zero {lo hi : Int} : sdE lo hi = 0 ↔ SdOk lo hi := by
  unfold sdE
  constructor
  · intro h
    repeat' split at h
    all_goals first | (simp at h; done) | skip
    rename_i h1 h2 h3 h4
    exact ⟨Classical.not_not.1 h1, Classical.not_not.1 h2, by omega, by omega⟩
  · intro h
    rw [if_neg (Classical.not_not.2 h.a), if_neg (Classical.not_not.2 h.b), if_neg (by have := h.c; omega), if_neg (by have := h.d; omega)]
structure DsOk (d : Dst) : Prop where
  x : isP d.fr.x
  y : isP d.fr.y
  z : isP d.fr.z
  lo : 0 ≤ d.lo ∧ d.lo ≤ 1000000000000
  hi : 0 ≤ d.hi ∧ d.hi ≤ 1000000000000
  le : d.lo ≤ d.hi
theorem dsE_zero {d : Dst} : dsE d = 0 ↔ DsOk d := by
  unfold dsE
  constructor
  · intro h
    repeat' split at h
    all_goals first | (simp at h; done) | skip
    rename_i h1 h2 h3 h4 h5 h6
    exact ⟨Classical.not_not.1 h1, Classical.not_not.1 h2, Classical.not_not.1 h3, Classical.not_not.1 h4, Classical.not_not.1 h5, by omega⟩
  · intro h
    rw [if_neg (Classical.not_not.2 h.x), if_neg (Classical.not_not.2 h.y), if_neg (Classical.not_not.2 h.z), if_neg (Classical.not_not.2 h.lo), if_neg (Classical.not_not.2 h.hi), if_neg (by have := h.le; omega)]
structure SrOk (x : Srch) : Prop where
  sx : SdOk x.box.x0 x.box.x1
  sy : SdOk x.box.y0 x.box.y1
  sz : SdOk x.box.z0 x.box.z1
  n : x.ds.length ≤ 8
  ds : ∀ d ∈ x.ds, DsOk d
theorem firstE_all {l : List Int} : firstE l = 0 ↔ ∀ e ∈ l, e = 0 := by
  induction l with
  | nil => simp [firstE]
  | cons a l ih =>
    unfold firstE
    split
    · rename_i h; rw [ih]; simp [h]
    · rename_i h; simp [h]
theorem srE_zero {x : Srch} : srE x = 0 ↔ SrOk x := by
  unfold srE
  rw [firstE_all]
  simp only [List.mem_append, List.mem_cons, List.not_mem_nil, or_false, List.mem_map]
  constructor
  · intro h
    have h4 := h _ (.inl (.inr (.inr (.inr rfl))))
    refine ⟨sdE_zero.1 (h _ (.inl (.inl rfl))), sdE_zero.1 (h _ (.inl (.inr (.inl rfl)))), sdE_zero.1 (h _ (.inl (.inr (.inr (.inl rfl))))), ?_, fun d hd => dsE_zero.1 (h _ (.inr ⟨d, hd, rfl⟩))⟩
    by_cases hc : x.ds.length ≤ 8
    · exact hc
    · rw [decide_eq_false hc] at h4; cases h4
  · rintro v e ((rfl | rfl | rfl | rfl) | ⟨d, hd, rfl⟩)
    · exact sdE_zero.2 v.sx
    · exact sdE_zero.2 v.sy
    · exact sdE_zero.2 v.sz
    · rw [decide_eq_true v.n]; rfl
    · exact dsE_zero.2 (v.ds d hd)
theorem firstE_app (a b : List Int) : firstE (a ++ b) = if firstE a = 0 then firstE b else firstE a := by
  induction a with
  | nil => simp [firstE]
  | cons x a ih =>
    rw [List.cons_append]
    by_cases h : x = 0
    · subst h; rw [firstE_tl, firstE_tl, ih]
    · rw [firstE_hd h, firstE_hd h, if_neg h]
theorem isPl_T (n : Int) (h : isP n) : Summ Tryz.prog GG 71 [iv n] (.v (.bool true)) := by
  unfold isP at h
  refine summW Tryz.func71 rfl rfl 5 rfl (by simp) (fun M0 => ?_)
  repeat (first
    | (apply s_a TY; exact rfl)
    | apply w_seq
    | apply w_region
    | apply s_nil
    | apply t_norm
    | apply w_ret
    | (apply s_k1 (iwithin_T _ _ _); exact rfl; (first | assumption | omega | decide)))
  exact lv_ret (ret1 rfl (res_tmp rfl))
theorem isPl_F (n : Int) (h : ¬ isP n) : Summ Tryz.prog GG 71 [iv n] (.v (.bool false)) := by
  unfold isP at h
  refine summW Tryz.func71 rfl rfl 5 rfl (by simp) (fun M0 => ?_)
  repeat (first
    | (apply s_a TY; exact rfl)
    | apply w_seq
    | apply w_region
    | apply s_nil
    | apply t_norm
    | apply w_ret
    | (apply s_k1 (iwithin_F _ _ _); exact rfl; (first | assumption | omega | decide)))
  exact lv_ret (ret1 rfl (res_tmp rfl))
set_option maxRecDepth 100000 in
theorem sideErr_s (lo hi : Int) : Summ Tryz.prog GG 35 [.agg [iv lo, iv hi]] (iv (sdE lo hi)) := by
  by_cases h1 : ¬ isP lo
  · rw [show sdE lo hi = 2 by unfold sdE; rw [if_pos h1]]
    by_cases k1 : lo ≤ hi
    · refine summW Tryz.func35 rfl rfl 31 rfl (by simp) (fun M0 => ?_)
      repeat (first
    | (apply s_a TY; exact rfl)
    | (apply s_t; exact rfl; (first | assumption | omega))
    | (apply s_f; exact rfl; (first | assumption | omega))
    | apply w_seq
    | apply w_region
    | (apply w_draw (id := 1) 14 rfl (by kernel_rfl))
    | apply s_nil
    | apply t_norm
    | apply t_ret
    | apply w_ret
    | (apply w_condT; exact rfl; exact rfl)
    | (apply s_k1 (ifirst2_0 _ _); exact rfl; (first | assumption | omega | decide))
    | (apply s_k (iunless_T _); exact rfl)
    | (apply s_k (iunless_F _); exact rfl)
    | (apply s_k1 (isPl_F _); exact rfl; (first | assumption | omega | decide))
    | (apply s_s; exact rfl))
      exact lv_ret (ret1 rfl (res_tmp rfl))
    · refine summW Tryz.func35 rfl rfl 31 rfl (by simp) (fun M0 => ?_)
      repeat (first
    | (apply s_a TY; exact rfl)
    | (apply s_f; exact rfl; (first | assumption | omega))
    | apply w_seq
    | apply w_region
    | (apply w_draw (id := 1) 14 rfl (by kernel_rfl))
    | apply s_nil
    | apply t_norm
    | apply t_ret
    | apply w_ret
    | (apply w_condT; exact rfl; exact rfl)
    | (apply s_k1 (ifirst2_0 _ _); exact rfl; (first | assumption | omega | decide))
    | (apply s_k (iunless_F _); exact rfl)
    | (apply s_k1 (isPl_F _); exact rfl; (first | assumption | omega | decide))
    | (apply s_s; exact rfl))
      exact lv_ret (ret1 rfl (res_tmp rfl))
  · by_cases h2 : ¬ isP hi
    · rw [show sdE lo hi = 2 by unfold sdE; rw [if_neg h1, if_pos h2]]
      have h1b := Classical.not_not.1 h1
      by_cases k1 : lo ≤ hi
      · refine summW Tryz.func35 rfl rfl 31 rfl (by simp) (fun M0 => ?_)
        repeat (first
    | (apply s_a TY; exact rfl)
    | (apply s_t; exact rfl; (first | assumption | omega))
    | (apply s_f; exact rfl; (first | assumption | omega))
    | apply w_seq
    | apply w_region
    | (apply w_draw (id := 1) 14 rfl (by kernel_rfl))
    | apply s_nil
    | apply t_norm
    | apply t_ret
    | apply w_ret
    | (apply w_condT; exact rfl; exact rfl)
    | (apply s_k1 (ifirst2_0 _ _); exact rfl; (first | assumption | omega | decide))
    | (apply s_k (iunless_T _); exact rfl)
    | (apply s_k (iunless_F _); exact rfl)
    | (apply s_k1 (isPl_T _); exact rfl; (first | assumption | omega | decide))
    | (apply s_k1 (isPl_F _); exact rfl; (first | assumption | omega | decide)))
        exact lv_ret (ret1 rfl (res_tmp rfl))
      · refine summW Tryz.func35 rfl rfl 31 rfl (by simp) (fun M0 => ?_)
        repeat (first
    | (apply s_a TY; exact rfl)
    | (apply s_f; exact rfl; (first | assumption | omega))
    | apply w_seq
    | apply w_region
    | (apply w_draw (id := 1) 14 rfl (by kernel_rfl))
    | apply s_nil
    | apply t_norm
    | apply t_ret
    | apply w_ret
    | (apply w_condT; exact rfl; exact rfl)
    | (apply s_k1 (ifirst2_0 _ _); exact rfl; (first | assumption | omega | decide))
    | (apply s_k (iunless_F _); exact rfl)
    | (apply s_k1 (isPl_T _); exact rfl; (first | assumption | omega | decide))
    | (apply s_k1 (isPl_F _); exact rfl; (first | assumption | omega | decide)))
        exact lv_ret (ret1 rfl (res_tmp rfl))
    · by_cases h3 : hi < lo
      · rw [show sdE lo hi = 9 by unfold sdE; rw [if_neg h1, if_neg h2, if_pos h3]]
        have h1b := Classical.not_not.1 h1
        have h2b := Classical.not_not.1 h2
        have u1 := h1b; have u2 := h2b
        unfold isP at u1 u2
        refine summW Tryz.func35 rfl rfl 31 rfl (by simp) (fun M0 => ?_)
        repeat (first
    | (apply s_a TY; exact rfl)
    | (apply s_f; exact rfl; (first | assumption | omega))
    | apply w_seq
    | apply w_region
    | (apply w_draw (id := 1) 14 rfl (by kernel_rfl))
    | apply s_nil
    | apply t_norm
    | apply t_ret
    | apply w_ret
    | (apply w_condT; exact rfl; exact rfl)
    | (apply s_k1 (ifirst2_1 _ _); exact rfl; (first | assumption | omega | decide))
    | (apply s_k (iunless_T _); exact rfl)
    | (apply s_k (iunless_F _); exact rfl)
    | (apply s_k1 (isPl_T _); exact rfl; (first | assumption | omega | decide)))
        exact lv_ret (ret1 rfl (res_tmp rfl))
      · by_cases h4 : 20 < hi - lo
        · rw [show sdE lo hi = 8 by unfold sdE; rw [if_neg h1, if_neg h2, if_neg h3, if_pos h4]]
          have h1b := Classical.not_not.1 h1
          have h2b := Classical.not_not.1 h2
          have u1 := h1b; have u2 := h2b
          unfold isP at u1 u2
          refine summW Tryz.func35 rfl rfl 31 rfl (by simp) (fun M0 => ?_)
          repeat (first
    | (apply s_a TY; exact rfl)
    | (apply s_t; exact rfl; (first | assumption | omega))
    | (apply s_f; exact rfl; (first | assumption | omega))
    | apply w_seq
    | apply w_region
    | (apply w_draw (id := 1) 14 rfl (by kernel_rfl))
    | apply s_nil
    | apply t_norm
    | apply w_ret
    | apply w_skip
    | (apply w_condF; exact rfl; exact rfl)
    | (apply s_k1 (ifirst2_1 _ _); exact rfl; (first | assumption | omega | decide))
    | (apply s_k (iunless_T _); exact rfl)
    | (apply s_k (iunless_F _); exact rfl)
    | (apply s_k1 (isPl_T _); exact rfl; (first | assumption | omega | decide))
    | (apply s_c TY; exact rfl; omega))
          exact lv_ret (ret1 rfl (res_tmp rfl))
        · rw [show sdE lo hi = 0 by unfold sdE; rw [if_neg h1, if_neg h2, if_neg h3, if_neg h4]]
          have h1b := Classical.not_not.1 h1
          have h2b := Classical.not_not.1 h2
          have u1 := h1b; have u2 := h2b
          unfold isP at u1 u2
          refine summW Tryz.func35 rfl rfl 31 rfl (by simp) (fun M0 => ?_)
          repeat (first
    | (apply s_a TY; exact rfl)
    | (apply s_t; exact rfl; (first | assumption | omega))
    | apply w_seq
    | apply w_region
    | (apply w_draw (id := 1) 14 rfl (by kernel_rfl))
    | apply s_nil
    | apply t_norm
    | apply w_ret
    | apply w_skip
    | (apply w_condF; exact rfl; exact rfl)
    | (apply s_k1 (ifirst2_1 _ _); exact rfl; (first | assumption | omega | decide))
    | (apply s_k (iunless_T _); exact rfl)
    | (apply s_k1 (isPl_T _); exact rfl; (first | assumption | omega | decide))
    | (apply s_c TY; exact rfl; omega))
          exact lv_ret (ret1 rfl (res_tmp rfl))
theorem isSq_T (n : Int) (h : 0 ≤ n ∧ n ≤ 1000000000000) : Summ Tryz.prog GG 72 [iv n] (.v (.bool true)) := by
  refine summW Tryz.func72 rfl rfl 5 rfl (by simp) (fun M0 => ?_)
  repeat (first
    | (apply s_a TY; exact rfl)
    | apply w_seq
    | apply w_region
    | apply s_nil
    | apply t_norm
    | apply w_ret
    | (apply s_k1 (iwithin_T _ _ _); exact rfl; (first | assumption | omega | decide)))
  exact lv_ret (ret1 rfl (res_tmp rfl))
theorem isSq_F (n : Int) (h : ¬ (0 ≤ n ∧ n ≤ 1000000000000)) : Summ Tryz.prog GG 72 [iv n] (.v (.bool false)) := by
  refine summW Tryz.func72 rfl rfl 5 rfl (by simp) (fun M0 => ?_)
  repeat (first
    | (apply s_a TY; exact rfl)
    | apply w_seq
    | apply w_region
    | apply s_nil
    | apply t_norm
    | apply w_ret
    | (apply s_k1 (iwithin_F _ _ _); exact rfl; (first | assumption | omega | decide)))
  exact lv_ret (ret1 rfl (res_tmp rfl))
set_option maxRecDepth 100000 in
set_option maxHeartbeats 1600000 in
theorem distanceErr_s (d : Dst) : Summ Tryz.prog GG 37 [.agg (dstF d)] (iv (dsE d)) := by
  by_cases h1 : ¬ isP d.fr.x
  · rw [show dsE d = 2 by unfold dsE; rw [if_pos h1]]
    by_cases k1 : d.lo ≤ d.hi
    · refine summW Tryz.func37 rfl rfl 47 rfl (by simp) (fun M0 => ?_)
      repeat (first
    | (apply s_a TY; exact rfl)
    | (apply s_t; exact rfl; (first | assumption | omega))
    | apply w_seq
    | apply w_region
    | (apply w_draw (id := 3) 9 rfl (by kernel_rfl))
    | apply s_nil
    | apply t_norm
    | apply w_ret
    | (apply s_k1 (ifirst2_0 _ _); exact rfl; (first | assumption | omega | decide))
    | (apply s_k (iunless_T _); exact rfl)
    | (apply s_k (iunless_F _); exact rfl)
    | (apply s_k1 (isPl_F _); exact rfl; (first | assumption | omega | decide))
    | (apply s_s; exact rfl))
      exact lv_ret (ret1 rfl (res_tmp rfl))
    · refine summW Tryz.func37 rfl rfl 47 rfl (by simp) (fun M0 => ?_)
      repeat (first
    | (apply s_a TY; exact rfl)
    | (apply s_f; exact rfl; (first | assumption | omega))
    | apply w_seq
    | apply w_region
    | (apply w_draw (id := 3) 9 rfl (by kernel_rfl))
    | apply s_nil
    | apply t_norm
    | apply w_ret
    | (apply s_k1 (ifirst2_0 _ _); exact rfl; (first | assumption | omega | decide))
    | (apply s_k (iunless_F _); exact rfl)
    | (apply s_k1 (isPl_F _); exact rfl; (first | assumption | omega | decide))
    | (apply s_s; exact rfl))
      exact lv_ret (ret1 rfl (res_tmp rfl))
  · by_cases h2 : ¬ isP d.fr.y
    · rw [show dsE d = 2 by unfold dsE; rw [if_neg h1, if_pos h2]]
      have h1b := Classical.not_not.1 h1
      by_cases k1 : d.lo ≤ d.hi
      · refine summW Tryz.func37 rfl rfl 47 rfl (by simp) (fun M0 => ?_)
        repeat (first
    | (apply s_a TY; exact rfl)
    | (apply s_t; exact rfl; (first | assumption | omega))
    | apply w_seq
    | apply w_region
    | (apply w_draw (id := 3) 9 rfl (by kernel_rfl))
    | apply s_nil
    | apply t_norm
    | apply w_ret
    | (apply s_k1 (ifirst2_0 _ _); exact rfl; (first | assumption | omega | decide))
    | (apply s_k (iunless_T _); exact rfl)
    | (apply s_k (iunless_F _); exact rfl)
    | (apply s_k1 (isPl_T _); exact rfl; (first | assumption | omega | decide))
    | (apply s_k1 (isPl_F _); exact rfl; (first | assumption | omega | decide))
    | (apply s_s; exact rfl))
        exact lv_ret (ret1 rfl (res_tmp rfl))
      · refine summW Tryz.func37 rfl rfl 47 rfl (by simp) (fun M0 => ?_)
        repeat (first
    | (apply s_a TY; exact rfl)
    | (apply s_f; exact rfl; (first | assumption | omega))
    | apply w_seq
    | apply w_region
    | (apply w_draw (id := 3) 9 rfl (by kernel_rfl))
    | apply s_nil
    | apply t_norm
    | apply w_ret
    | (apply s_k1 (ifirst2_0 _ _); exact rfl; (first | assumption | omega | decide))
    | (apply s_k (iunless_F _); exact rfl)
    | (apply s_k1 (isPl_T _); exact rfl; (first | assumption | omega | decide))
    | (apply s_k1 (isPl_F _); exact rfl; (first | assumption | omega | decide))
    | (apply s_s; exact rfl))
        exact lv_ret (ret1 rfl (res_tmp rfl))
    · by_cases h3 : ¬ isP d.fr.z
      · rw [show dsE d = 2 by unfold dsE; rw [if_neg h1, if_neg h2, if_pos h3]]
        have h1b := Classical.not_not.1 h1
        have h2b := Classical.not_not.1 h2
        by_cases k1 : d.lo ≤ d.hi
        · refine summW Tryz.func37 rfl rfl 47 rfl (by simp) (fun M0 => ?_)
          repeat (first
    | (apply s_a TY; exact rfl)
    | (apply s_t; exact rfl; (first | assumption | omega))
    | apply w_seq
    | apply w_region
    | (apply w_draw (id := 3) 9 rfl (by kernel_rfl))
    | apply s_nil
    | apply t_norm
    | apply w_ret
    | (apply s_k1 (ifirst2_0 _ _); exact rfl; (first | assumption | omega | decide))
    | (apply s_k (iunless_T _); exact rfl)
    | (apply s_k (iunless_F _); exact rfl)
    | (apply s_k1 (isPl_T _); exact rfl; (first | assumption | omega | decide))
    | (apply s_k1 (isPl_F _); exact rfl; (first | assumption | omega | decide))
    | (apply s_s; exact rfl))
          exact lv_ret (ret1 rfl (res_tmp rfl))
        · refine summW Tryz.func37 rfl rfl 47 rfl (by simp) (fun M0 => ?_)
          repeat (first
    | (apply s_a TY; exact rfl)
    | (apply s_f; exact rfl; (first | assumption | omega))
    | apply w_seq
    | apply w_region
    | (apply w_draw (id := 3) 9 rfl (by kernel_rfl))
    | apply s_nil
    | apply t_norm
    | apply w_ret
    | (apply s_k1 (ifirst2_0 _ _); exact rfl; (first | assumption | omega | decide))
    | (apply s_k (iunless_F _); exact rfl)
    | (apply s_k1 (isPl_T _); exact rfl; (first | assumption | omega | decide))
    | (apply s_k1 (isPl_F _); exact rfl; (first | assumption | omega | decide))
    | (apply s_s; exact rfl))
          exact lv_ret (ret1 rfl (res_tmp rfl))
      · by_cases h4 : ¬ (0 ≤ d.lo ∧ d.lo ≤ 1000000000000)
        · rw [show dsE d = 2 by unfold dsE; rw [if_neg h1, if_neg h2, if_neg h3, if_pos h4]]
          have h1b := Classical.not_not.1 h1
          have h2b := Classical.not_not.1 h2
          have h3b := Classical.not_not.1 h3
          by_cases k1 : d.lo ≤ d.hi
          · refine summW Tryz.func37 rfl rfl 47 rfl (by simp) (fun M0 => ?_)
            repeat (first
    | (apply s_a TY; exact rfl)
    | (apply s_t; exact rfl; (first | assumption | omega))
    | apply w_seq
    | apply w_region
    | (apply w_draw (id := 3) 9 rfl (by kernel_rfl))
    | apply s_nil
    | apply t_norm
    | apply w_ret
    | (apply s_k1 (isSq_F _); exact rfl; (first | assumption | omega | decide))
    | (apply s_k1 (ifirst2_0 _ _); exact rfl; (first | assumption | omega | decide))
    | (apply s_k (iunless_T _); exact rfl)
    | (apply s_k (iunless_F _); exact rfl)
    | (apply s_k1 (isPl_T _); exact rfl; (first | assumption | omega | decide))
    | (apply s_s; exact rfl))
            exact lv_ret (ret1 rfl (res_tmp rfl))
          · refine summW Tryz.func37 rfl rfl 47 rfl (by simp) (fun M0 => ?_)
            repeat (first
    | (apply s_a TY; exact rfl)
    | (apply s_f; exact rfl; (first | assumption | omega))
    | apply w_seq
    | apply w_region
    | (apply w_draw (id := 3) 9 rfl (by kernel_rfl))
    | apply s_nil
    | apply t_norm
    | apply w_ret
    | (apply s_k1 (isSq_F _); exact rfl; (first | assumption | omega | decide))
    | (apply s_k1 (ifirst2_0 _ _); exact rfl; (first | assumption | omega | decide))
    | (apply s_k (iunless_F _); exact rfl)
    | (apply s_k1 (isPl_T _); exact rfl; (first | assumption | omega | decide))
    | (apply s_s; exact rfl))
            exact lv_ret (ret1 rfl (res_tmp rfl))
        · by_cases h5 : ¬ (0 ≤ d.hi ∧ d.hi ≤ 1000000000000)
          · rw [show dsE d = 2 by unfold dsE; rw [if_neg h1, if_neg h2, if_neg h3, if_neg h4, if_pos h5]]
            have h1b := Classical.not_not.1 h1
            have h2b := Classical.not_not.1 h2
            have h3b := Classical.not_not.1 h3
            have h4b := Classical.not_not.1 h4
            by_cases k1 : d.lo ≤ d.hi
            · refine summW Tryz.func37 rfl rfl 47 rfl (by simp) (fun M0 => ?_)
              repeat (first
    | (apply s_a TY; exact rfl)
    | (apply s_t; exact rfl; (first | assumption | omega))
    | apply w_seq
    | apply w_region
    | (apply w_draw (id := 3) 9 rfl (by kernel_rfl))
    | apply s_nil
    | apply t_norm
    | apply w_ret
    | (apply s_k1 (isSq_T _); exact rfl; (first | assumption | omega | decide))
    | (apply s_k1 (isSq_F _); exact rfl; (first | assumption | omega | decide))
    | (apply s_k1 (ifirst2_0 _ _); exact rfl; (first | assumption | omega | decide))
    | (apply s_k (iunless_T _); exact rfl)
    | (apply s_k (iunless_F _); exact rfl)
    | (apply s_k1 (isPl_T _); exact rfl; (first | assumption | omega | decide)))
              exact lv_ret (ret1 rfl (res_tmp rfl))
            · refine summW Tryz.func37 rfl rfl 47 rfl (by simp) (fun M0 => ?_)
              repeat (first
    | (apply s_a TY; exact rfl)
    | (apply s_f; exact rfl; (first | assumption | omega))
    | apply w_seq
    | apply w_region
    | (apply w_draw (id := 3) 9 rfl (by kernel_rfl))
    | apply s_nil
    | apply t_norm
    | apply w_ret
    | (apply s_k1 (isSq_T _); exact rfl; (first | assumption | omega | decide))
    | (apply s_k1 (isSq_F _); exact rfl; (first | assumption | omega | decide))
    | (apply s_k1 (ifirst2_0 _ _); exact rfl; (first | assumption | omega | decide))
    | (apply s_k (iunless_F _); exact rfl)
    | (apply s_k1 (isPl_T _); exact rfl; (first | assumption | omega | decide)))
              exact lv_ret (ret1 rfl (res_tmp rfl))
          · by_cases h6 : d.hi < d.lo
            · rw [show dsE d = 9 by unfold dsE; rw [if_neg h1, if_neg h2, if_neg h3, if_neg h4, if_neg h5, if_pos h6]]
              have h1b := Classical.not_not.1 h1
              have h2b := Classical.not_not.1 h2
              have h3b := Classical.not_not.1 h3
              have h4b := Classical.not_not.1 h4
              have h5b := Classical.not_not.1 h5
              refine summW Tryz.func37 rfl rfl 47 rfl (by simp) (fun M0 => ?_)
              repeat (first
    | (apply s_a TY; exact rfl)
    | (apply s_f; exact rfl; (first | assumption | omega))
    | apply w_seq
    | apply w_region
    | (apply w_draw (id := 3) 9 rfl (by kernel_rfl))
    | apply s_nil
    | apply t_norm
    | apply w_ret
    | (apply s_k1 (isSq_T _); exact rfl; (first | assumption | omega | decide))
    | (apply s_k1 (ifirst2_1 _ _); exact rfl; (first | assumption | omega | decide))
    | (apply s_k (iunless_T _); exact rfl)
    | (apply s_k (iunless_F _); exact rfl)
    | (apply s_k1 (isPl_T _); exact rfl; (first | assumption | omega | decide)))
              exact lv_ret (ret1 rfl (res_tmp rfl))
            · rw [show dsE d = 0 by unfold dsE; rw [if_neg h1, if_neg h2, if_neg h3, if_neg h4, if_neg h5, if_neg h6]]
              have h1b := Classical.not_not.1 h1
              have h2b := Classical.not_not.1 h2
              have h3b := Classical.not_not.1 h3
              have h4b := Classical.not_not.1 h4
              have h5b := Classical.not_not.1 h5
              refine summW Tryz.func37 rfl rfl 47 rfl (by simp) (fun M0 => ?_)
              repeat (first
    | (apply s_a TY; exact rfl)
    | (apply s_t; exact rfl; (first | assumption | omega))
    | apply w_seq
    | apply w_region
    | (apply w_draw (id := 3) 9 rfl (by kernel_rfl))
    | apply s_nil
    | apply t_norm
    | apply w_ret
    | (apply s_k1 (isSq_T _); exact rfl; (first | assumption | omega | decide))
    | (apply s_k1 (ifirst2_1 _ _); exact rfl; (first | assumption | omega | decide))
    | (apply s_k (iunless_T _); exact rfl)
    | (apply s_k1 (isPl_T _); exact rfl; (first | assumption | omega | decide)))
              exact lv_ret (ret1 rfl (res_tmp rfl))
def sqD (p q : Plc) : Int := (p.x - q.x) * (p.x - q.x) + (p.y - q.y) * (p.y - q.y) + (p.z - q.z) * (p.z - q.z)
def fitD (p : Plc) (d : Dst) : Bool := decide (d.lo ≤ sqD p d.fr ∧ sqD p d.fr ≤ d.hi)
def fitL (ds : List Dst) (p : Plc) : Bool := ds.all (fitD p)
structure PlOk (p : Plc) : Prop where
  x : isP p.x
  y : isP p.y
  z : isP p.z
theorem sq_bd {a : Int} (h : -200000 ≤ a ∧ a ≤ 200000) : 0 ≤ a * a ∧ a * a ≤ 40000000000 := by
  constructor
  · rcases Int.le_total 0 a with q | q
    · exact Int.mul_nonneg q q
    · exact Int.mul_nonneg_of_nonpos_of_nonpos q q
  · have h1 : (a.natAbs : Int) * a.natAbs = a * a := Int.natAbs_mul_self
    have h2 : a.natAbs * a.natAbs ≤ 200000 * 200000 := Nat.mul_le_mul (by omega) (by omega)
    omega
set_option maxRecDepth 100000 in
theorem fit1_s (p : Plc) (d : Dst) (pv : PlOk p) (dv : DsOk d) : Summ Tryz.prog GG 74 [.agg (dstF d), .pt (plcF p) 0] (bv (!fitD p d)) := by
  have ⟨a1, a2⟩ := pv.x; have ⟨a3, a4⟩ := pv.y; have ⟨a5, a6⟩ := pv.z
  have ⟨b1, b2⟩ := dv.x; have ⟨b3, b4⟩ := dv.y; have ⟨b5, b6⟩ := dv.z
  have q1 := sq_bd (a := p.x - d.fr.x) (by omega)
  have q2 := sq_bd (a := p.y - d.fr.y) (by omega)
  have q3 := sq_bd (a := p.z - d.fr.z) (by omega)
  unfold fitD
  by_cases h : d.lo ≤ sqD p d.fr ∧ sqD p d.fr ≤ d.hi
  · rw [decide_eq_true h]
    unfold sqD at h
    refine summW Tryz.func74 rfl rfl 44 rfl (by simp) (fun M0 => ?_)
    repeat (first
    | (apply s_a TY; exact rfl)
    | apply w_seq
    | apply w_region
    | (apply w_draw (id := 1) 20 rfl (by kernel_rfl))
    | apply s_nil
    | apply t_norm
    | apply w_ret
    | (apply s_k1 (iwithin_T _ _ _); exact rfl; (first | assumption | omega | decide))
    | (apply s_c TY; exact rfl; omega))
    exact lv_ret (ret1 rfl (res_tmp rfl))
  · rw [decide_eq_false h]
    unfold sqD at h
    refine summW Tryz.func74 rfl rfl 44 rfl (by simp) (fun M0 => ?_)
    repeat (first
    | (apply s_a TY; exact rfl)
    | apply w_seq
    | apply w_region
    | (apply w_draw (id := 1) 20 rfl (by kernel_rfl))
    | apply s_nil
    | apply t_norm
    | apply w_ret
    | (apply s_k1 (iwithin_F _ _ _); exact rfl; (first | assumption | omega | decide))
    | (apply s_c TY; exact rfl; omega))
    exact lv_ret (ret1 rfl (res_tmp rfl))
set_option maxRecDepth 100000 in
theorem idxD_s (l : List Dst) (g : Nat) (caps : List FV) (p : Nat → Bool) (hl : l.length ≤ 1000000) (hg : ∀ i (hi : i < l.length), Summ Tryz.prog GG g ([.agg (dstF l[i])] ++ caps) (bv (p i))) : Summ Tryz.prog GG 99 [.sl l.length (dstsF l), .fn g caps] (iv (idxP l.length p)) := by
  refine summW Tryz.func99 rfl rfl 19 rfl (by simp) (fun M0 => ?_)
  repeat (first
    | (apply s_a TY; exact rfl)
    | apply w_seq
    | apply w_region
    | apply s_nil
    | apply t_norm
    | apply w_block)
  apply w_loop (fun k : Nat => ⟨(Ab.upd (Ab.upd (Ab.upd (Ab.upd (fun _ => .bot) 0 (.f (.sl l.length (dstsF l)))) 1 (.f (.fn g caps))) 7 (.f (iv l.length))) 8 (.f (iv (k : Nat)))), (fun _ => none), 0⟩) (fun k => k ≤ l.length ∧ ∀ i, i < k → p i = false) (fun k => l.length - k) 0 (⟨Nat.zero_le _, fun j h => absurd h (Nat.not_lt_zero j)⟩) (gh_le ⟨le_upd rfl trivial (le_upd rfl trivial (le_upd rfl trivial (le_upd rfl trivial (le_nil _)))), le_h0 _ _⟩)
  intro k ⟨hk, hz⟩
  by_cases hc : k < l.length
  · have Hc := hg k hc
    cases hp : p k with
    | true =>
      rw [hp] at Hc
      rw [idxP_at hc hz hp]
      repeat (first
    | (apply s_a TY; exact rfl)
    | (apply s_t; exact rfl; (first | assumption | omega))
    | apply w_seq
    | apply w_region
    | apply s_nil
    | apply t_norm
    | apply t_ret
    | apply k_ret
    | apply w_block
    | apply w_ret
    | apply w_skip
    | (apply w_condT; exact rfl; exact rfl)
    | (apply s_k (Hc); exact rfl)
    | (apply s_c TY; exact rfl; (first | omega | exact ⟨by omega, by (first | with_reducible assumption | ((with_reducible apply dstsF_ne); omega) | assumption)⟩))
    | (apply s_m TY; exact rfl; (first | with_reducible assumption | ((with_reducible apply dstsF_sub); omega) | exact rfl); exact rfl))
      exact lv_ret (ret1 rfl (res_tmp rfl))
    | false =>
      rw [hp] at Hc
      repeat (first
    | (apply s_a TY; exact rfl)
    | (apply s_t; exact rfl; (first | assumption | omega))
    | apply w_seq
    | apply w_region
    | apply s_nil
    | apply t_norm
    | apply k_norm
    | apply w_block
    | apply w_skip
    | (apply w_condT; exact rfl; exact rfl)
    | (apply w_condF; exact rfl; exact rfl)
    | (apply s_k (Hc); exact rfl)
    | (apply s_c TY; exact rfl; (first | omega | exact ⟨by omega, by (first | with_reducible assumption | ((with_reducible apply dstsF_ne); omega) | assumption)⟩))
    | (apply s_m TY; exact rfl; (first | with_reducible assumption | ((with_reducible apply dstsF_sub); omega) | exact rfl); exact rfl))
      exact ⟨k + 1, ⟨by omega, fun i hi => by
        by_cases e : i = k
        · subst e; exact hp
        · exact hz i (by omega)⟩, by omega, gh_le ⟨le_upd rfl trivial (le_upd rfl trivial (le_upd rfl trivial (le_upd rfl trivial (le_nil _)))), le_h0 _ _⟩⟩
  · rw [idxP_no fun i hi => hz i (by omega)]
    repeat (first
    | (apply s_a TY; exact rfl)
    | (apply s_f; exact rfl; (first | assumption | omega))
    | apply w_seq
    | apply w_region
    | apply s_nil
    | apply t_norm
    | apply t_exit
    | apply k_hit
    | apply w_exit
    | apply w_ret
    | (apply w_condF; exact rfl; exact rfl))
    exact lv_ret (ret1 rfl (res_tmp rfl))
set_option maxRecDepth 100000 in
theorem idxDC_s (l : List Dst) (g : Nat) (caps : List FV) (p : Nat → Bool) (hl : l.length ≤ 1000000) (hg : ∀ i (hi : i < l.length), Summ Tryz.prog GG g ([.agg (dstF l[i])] ++ caps) (bv (p i))) : Summ Tryz.prog GG 73 [.sl l.length (dstsF l), .fn g caps] (bv (anyP l.length p)) := by
  have HI := idxD_s l g caps p hl hg
  cases ha : anyP l.length p with
  | true =>
    have h0 := (idxP_pos l.length p).2 ha
    refine summW Tryz.func73 rfl rfl 9 rfl (by simp) (fun M0 => ?_)
    repeat (first
    | (apply s_a TY; exact rfl)
    | (apply s_t; exact rfl; (first | assumption | omega))
    | apply w_seq
    | apply w_region
    | apply s_nil
    | apply t_norm
    | apply w_ret
    | (apply s_k (HI); exact rfl))
    exact lv_ret (ret1 rfl (res_tmp rfl))
  | false =>
    have h0 : ¬ 0 ≤ idxP l.length p := fun h => by rw [(idxP_pos l.length p).1 h] at ha; cases ha
    refine summW Tryz.func73 rfl rfl 9 rfl (by simp) (fun M0 => ?_)
    repeat (first
    | (apply s_a TY; exact rfl)
    | (apply s_f; exact rfl; (first | assumption | omega))
    | apply w_seq
    | apply w_region
    | apply s_nil
    | apply t_norm
    | apply w_ret
    | (apply s_k (HI); exact rfl))
    exact lv_ret (ret1 rfl (res_tmp rfl))
theorem fits_s (p : Plc) (ds : List Dst) (pv : PlOk p) (hn : ds.length ≤ 100) (hv : ∀ d ∈ ds, DsOk d) : Summ Tryz.prog GG 38 [.agg (plcF p), .sl ds.length (dstsF ds)] (bv (fitL ds p)) := by
  have HC := idxDC_s ds 74 [.pt (plcF p) 0] (fun i => !fitD p (ds.getD i default)) (by omega) (fun i hi => by rw [getD_at hi]; exact fit1_s p ds[i] pv (hv _ (List.getElem_mem hi)))
  cases ha : anyP ds.length (fun i => !fitD p (ds.getD i default)) with
  | true =>
    rw [ha] at HC
    rw [show fitL ds p = false by
      obtain ⟨i, hi, e⟩ := anyP_iff.1 ha
      rw [getD_at hi] at e
      cases hb : fitL ds p with
      | false => rfl
      | true => rw [List.all_eq_true.1 hb _ (List.getElem_mem hi)] at e; cases e]
    refine summW Tryz.func38 rfl rfl 9 rfl (by simp) (fun M0 => ?_)
    repeat (first
    | (apply s_a TY; exact rfl)
    | (apply s_makefn; exact rfl; exact rfl)
    | apply w_seq
    | apply w_region
    | apply s_nil
    | apply t_norm
    | apply w_ret
    | (apply s_k (HC); exact rfl))
    exact lv_ret (ret1 rfl (res_tmp rfl))
  | false =>
    rw [ha] at HC
    rw [show fitL ds p = true by
      refine List.all_eq_true.2 fun d hd => ?_
      obtain ⟨i, hi, rfl⟩ := List.getElem_of_mem hd
      cases hb : fitD p ds[i] with
      | true => rfl
      | false =>
        have : anyP ds.length (fun i => !fitD p (ds.getD i default)) = true := anyP_iff.2 ⟨i, hi, by rw [getD_at hi, hb]; rfl⟩
        rw [ha] at this; cases this]
    refine summW Tryz.func38 rfl rfl 9 rfl (by simp) (fun M0 => ?_)
    repeat (first
    | (apply s_a TY; exact rfl)
    | (apply s_makefn; exact rfl; exact rfl)
    | apply w_seq
    | apply w_region
    | apply s_nil
    | apply t_norm
    | apply w_ret
    | (apply s_k (HC); exact rfl))
    exact lv_ret (ret1 rfl (res_tmp rfl))
end Go.Proofs.YtnmaabejdmaahaaGreatDoor
namespace Go.Ab
open Go Go.RowKit Go.Shelf Go.Proofs Go.Sort
theorem fk_get {α : Type} {β : Type} {enc : α → List β} {k : Nat} (hk : ∀ x, (enc x).length = k) (h0 : 0 < k) : ∀ (d : List α) (t : Nat), (d.flatMap enc)[t]? = (d[t / k]?).bind fun x => (enc x)[t % k]?
  | [], t => by simp
  | x :: d, t => by
    rw [List.flatMap_cons]
    by_cases h : t < k
    · rw [List.getElem?_append_left (by rw [hk]; exact h), Nat.div_eq_of_lt h, Nat.mod_eq_of_lt h]; simp
    · rw [List.getElem?_append_right (by rw [hk]; omega), hk, fk_get hk h0 d (t - k), Nat.div_eq_sub_div h0 (Nat.le_of_not_lt h), Nat.mod_eq_sub_mod (Nat.le_of_not_lt h)]; simp
theorem fk_len {α : Type} {β : Type} {enc : α → List β} {k : Nat} (hk : ∀ x, (enc x).length = k) : ∀ (d : List α), (d.flatMap enc).length = d.length * k
  | [] => by simp
  | x :: d => by rw [List.flatMap_cons, List.length_append, hk, fk_len hk d, List.length_cons, Nat.add_mul]; omega
section
variable {α : Type} [Inhabited α] {enc : α → List Value} {k : Nat}
theorem flatK_list (hk : ∀ x, (enc x).length = k) (h0 : 0 < k) (d : List α) : (flatK enc k d.toArray).toList = d.flatMap enc := by
  apply List.ext_getElem?
  intro t
  rw [fk_get hk h0]
  by_cases h : t < d.length * k
  · have hd : t / k < d.length := Nat.div_lt_of_lt_mul (by rw [Nat.mul_comm]; exact h)
    have hm : t % k < (enc d[t / k]).length := by rw [hk]; exact Nat.mod_lt _ h0
    have := get_flatK enc k d.toArray t (by simpa using h)
    rw [getElem!_pos _ _ (by simpa using h)] at this
    rw [Array.getElem?_toList, Array.getElem?_eq_getElem (by simpa using h), this, List.getElem?_eq_getElem hd]
    simp [hd, List.getElem?_eq_getElem hm, List.getElem!_eq_getElem?_getD]
  · rw [Array.getElem?_toList, Array.getElem?_eq_none (by simpa using h), List.getElem?_eq_none (by
      have : d.length ≤ t / k := (Nat.le_div_iff_mul_le h0).2 (by omega)
      exact this)]
    rfl
def sortL (cf : α → α → Int) (d : List α) : List α := (pdq (ltOf cf) d.toArray 0 d.length (Lib.bitLen d.length) true true).toList
theorem sortL_spec {cf : α → α → Int} (hO : SWO (ltOf cf)) (d : List α) : PermIn 0 d.length d.toArray (sortL cf d).toArray ∧ SortedIn (ltOf cf) 0 d.length (sortL cf d).toArray := by
  have h := pdq_sorts (ltOf cf) hO d.toArray 0 d.length (Lib.bitLen d.length) true true (Nat.zero_le _) (by simp) (Or.inl rfl)
  unfold sortL
  exact ⟨by simpa using h.1, by simpa using h.2⟩
theorem sortL_len {cf : α → α → Int} (hO : SWO (ltOf cf)) (d : List α) : (sortL cf d).length = d.length := by
  have := (sortL_spec hO d).1.1
  simpa using this
theorem sortL_nil {cf : α → α → Int} (hO : SWO (ltOf cf)) : sortL cf ([] : List α) = [] := List.eq_nil_of_length_eq_zero (sortL_len hO [])
theorem sortL_perm {cf : α → α → Int} (hO : SWO (ltOf cf)) (d : List α) : (sortL cf d).Perm d := by
  obtain ⟨h1, _, h2⟩ := (sortL_spec hO d).1
  have e1 : (sortL cf d).toArray.extract 0 d.length = (sortL cf d).toArray := by
    have : d.length = (sortL cf d).toArray.size := by rw [h1]; simp
    rw [this]; exact Array.extract_size
  have e2 : d.toArray.extract 0 d.length = d.toArray := by
    have : d.length = d.toArray.size := by simp
    rw [this]; exact Array.extract_size
  rw [e1, e2] at h2
  simpa using h2
theorem sortL_pw {cf : α → α → Int} (hO : SWO (ltOf cf)) (d : List α) : (sortL cf d).Pairwise fun x y => ¬ cf y x < 0 := by
  have hs := (sortL_spec hO d).2
  have hl := sortL_len hO d
  rw [List.pairwise_iff_getElem]
  intro i j hi hj hij
  have := hs i j (Nat.zero_le _) hij (by omega)
  rw [getElem!_pos _ j (by simpa using hj), getElem!_pos _ i (by simpa using hi)] at this
  simpa [ltOf] using this
theorem repL_v {w : World} {M : Nat → Prop} {xs vs : List Value} (h : RepL w M xs (vs.map FV.v)) : xs = vs := by
  apply List.ext_getElem?
  intro i
  by_cases hi : i < xs.length
  · have hv : i < vs.length := by have := h.1; simp at this; omega
    have hr := h.2 i xs[i] (.v vs[i]) (List.getElem?_eq_getElem hi) (by simp [hv])
    rw [List.getElem?_eq_getElem hi, List.getElem?_eq_getElem hv]
    generalize xs[i] = a at hr ⊢
    generalize vs[i] = b at hr ⊢
    cases hr
    rfl
  · have := h.1; simp at this
    rw [List.getElem?_eq_none (by omega), List.getElem?_eq_none (by omega)]
theorem repL_ofA {C : Ctx} {w : World} {h : Nat → Option Blk} {J : Nat → Value} {xs : List Value} {cs : List FV} (q : xs.length = (cs.map AV.f).length ∧ ∀ (k : Nat) (u : Value) (x : AV), xs[k]? = some u → (cs.map AV.f)[k]? = some x → RepA C w h J u x) : RepL w (Mb C h J) xs cs :=
  ⟨by simpa using q.1, fun k u x h1 h2 => q.2 k u (.f x) h1 (by simp [h2])⟩
theorem repA_ofL {C : Ctx} {w : World} {h : Nat → Option Blk} {J : Nat → Value} {xs : List Value} {cs : List FV} (q : RepL w (Mb C h J) xs cs) : xs.length = (cs.map AV.f).length ∧ ∀ (k : Nat) (u : Value) (x : AV), xs[k]? = some u → (cs.map AV.f)[k]? = some x → RepA C w h J u x :=
  ⟨by simpa using q.1, fun k u x h1 h2 => by
    rw [List.getElem?_map] at h2
    cases hk : cs[k]? with
    | none => simp [hk] at h2
    | some y => simp [hk] at h2; subst h2; exact q.2 k u y h1 hk⟩
theorem arr_ren (σ : Nat → Nat) (e sz n : Nat) (cs : List FV) : (Blk.arr e sz n (cs.map .f)).ren σ = .arr e sz n (cs.map .f) := by
  show Blk.arr e sz n ((cs.map .f).map (AV.ren σ)) = _
  rw [List.map_map]; rfl
theorem repL_of {w : World} {M : Nat → Prop} (vs : List Value) : RepL w M vs (vs.map FV.v) := ⟨by simp, fun i u x h1 h2 => by
  rw [List.getElem?_map, h1] at h2; cases h2; exact .v u⟩
theorem sortG {P : Program} {G : Nat → Option FV} {ρ : Ren} (L : SlLaysF0.n6 P ρ) (aE : ∀ w, (isAgg (ρ.t 24)).run P w = .ok true w) (zE : ∀ w, (Go.sizeOf (ρ.t 24)).run P w = .ok k w) (hk : ∀ x, (enc x).length = k) (h0 : 0 < k) (h1 : ∀ x, ∀ v ∈ enc x, v.oneCell' = true) (cf : α → α → Int) (hO : SWO (ltOf cf)) (g : Nat)
    (eg : ∀ args w, (callFunc g args).run P w = .ok (.enter g args) w) (hcmp : ∀ (x y : α) (W : World), Calls P g #[.agg (enc x).toArray, .agg (enc y).toArray] W fun e w' => e = .returned (.int .i64 (cf x y)) ∧ ∃ q os', w' = grow (W.drewN q) os')
    (hnone : ∀ (p : Option Addr) (cap : Nat) (fv : Value) (w : World), Calls P (ρ.f 6) #[.slice p 0 cap, fv] w fun e w' => e = .returned (.tuple #[]) ∧ w' = w) (hent : Enters P (ρ.f 6)) (d : List α) (hd : d.length < 4611686018427387904) (T : TypeId) {n : Nat} (hn : n = d.length) {cs cs' : List FV} (hcs : (d.flatMap enc).map FV.v = cs) (hcs' : ((sortL cf d).flatMap enc).map FV.v = cs') :
    SummG P G (ρ.f 6) [.arr T k n (cs.map .f)] [.ow 0, .f (.fn g [])] (.f (.tup [])) [.arr T k n (cs'.map .f)] := by
  subst hn; subst hcs; subst hcs'
  refine ⟨hent, Nat.le_refl _, fun i B B' h1 h2 => by
    rcases i with _ | i
    · cases h1; cases h2; rfl
    · simp at h1, fun w M X us J hX hM hG hA hL => ?_⟩
  obtain ⟨v0, v1, rfl⟩ : ∃ v0 v1, us = [v0, v1] := by
    obtain ⟨e, _⟩ := hA
    match us, e with
    | [a, b], _ => exact ⟨a, b, rfl⟩
  obtain ⟨-, hv0⟩ : _ ∧ v0 = J 0 := hA.2 0 v0 (.ow 0) rfl rfl
  have hv1 : RepF w _ v1 (.fn g []) := hA.2 1 v1 (.f (.fn g [])) rfl rfl
  obtain rfl : v1 = .func (.func g) #[] #[] := by
    cases hv1 with
    | fn _ _ us h1 _ => cases us with
      | nil => rfl
      | cons => cases h1
  subst hv0
  obtain ⟨xs, hrow, hbk, hone, hrep⟩ := hL.blk 0 _ rfl
  have exs := repL_v (repL_ofA hrep)
  subst exs
  have hlen := sortL_len hO d
  obtain ⟨-, ⟨ev, en⟩ | ⟨b, cap, cur, ev, -, hb, hcap, hmax, hsz, htk⟩⟩ := hrow
  · have ed : d = [] := List.eq_nil_of_length_eq_zero en
    rw [ev]
    refine (hnone none 0 (.func (.func g) #[] #[]) w).mono ?_
    rintro e w' ⟨rfl, rfl⟩
    refine ⟨_, J, rfl, RepF.tup [] [] rfl (fun k u x h => by simp at h), ⟨fun i B hB => ?_, fun i j _ hi hj _ _ => by simp at hi hj; omega⟩, Grew.refl _ _, fun i B hB hs => rfl⟩
    rcases i with _ | i
    · cases hB
      have hr : w'.ownsRow 0 T k (J 0) d.length [] := ⟨by rw [ed]; simp, .inl ⟨ev, en⟩⟩
      have hl : RepL w' (Mb (cxG P G M X [Blk.arr T k d.length (List.map AV.f (List.map FV.v (List.flatMap enc d)))] J) (blkL [Blk.arr T k d.length (List.map AV.f (List.map FV.v (List.flatMap enc (sortL cf d))))]) J) [] (List.map FV.v (List.flatMap enc (sortL cf d))) := by
        have e0 : sortL cf d = [] := by rw [ed]; exact sortL_nil hO
        rw [e0]; exact RepL.nil _ _
      exact ⟨[], hr, hbk, (fun u hu => by simp at hu), repA_ofL hl⟩
    · cases hB
  · have hXb : X b := (hX b).2 ⟨0, by simp, by rw [ev]; rfl⟩
    have hbw : b < w.heap.size := (Array.getElem?_eq_some_iff.1 hb).1
    have hfl := flatK_list hk h0 d
    have hH : HoldsK enc k w b 0 d.toArray := by
      intro j hj
      have hj' : j < d.length * k := by simpa using hj
      have hc : cur[j]? = some ((flatK enc k d.toArray)[j]!) := by
        have h2 : (cur.toList.take (d.length * k))[j]? = (flatK enc k d.toArray).toList[j]? := by rw [htk, hfl]
        rw [List.getElem?_take, if_pos hj'] at h2
        rw [← Array.getElem?_toList, h2, Array.getElem?_toList, Array.getElem?_eq_getElem (by simpa using hj'), getElem!_pos _ _ (by simpa using hj')]
      refine ⟨?_, ?_⟩
      · unfold World.cell?
        simp only [hb]
        simpa using hc
      · unfold World.frozen?
        simp only [hb]
        simp
    have hS := AnyQ.slices_SortFunc_eq L k aE zE enc hk h1 cf hO g #[] b 0 cap d.toArray w eg (fun m os dk _ x y => by simpa using hcmp x y _) hH hbw (by simpa using hd)
    rw [ev]
    have e0 : d.toArray.size = d.length := by simp
    rw [e0] at hS
    refine hS.mono ?_
    rintro e w' ⟨rfl, m, os, rfl⟩
    obtain ⟨F, hF⟩ : ∃ F, F = flatK enc k (sortL cf d).toArray := ⟨_, rfl⟩
    have hFl : F.toList = (sortL cf d).flatMap enc := by rw [hF]; exact flatK_list hk h0 _
    have hFs : F.size = d.length * k := by rw [hF]; simp [hlen]
    have hw : sortWorldK enc k w b 0 m (pdq (ltOf cf) d.toArray 0 d.length (Lib.bitLen d.length) true true) os = grow (putRow id (Sort.ahead w m) b 0 F) os := by rw [hF]; unfold sortWorldK putRowK sortL; rfl
    rw [hw]
    have hsize : (putRow id (Sort.ahead w m) b 0 F).heap.size = w.heap.size := by simp [putRow, mapBlock, Sort.ahead]
    have hat : ∀ i, i < w.heap.size → (grow (putRow id (Sort.ahead w m) b 0 F) os).heap[i]? = if b = i then (w.heap[i]?).map (onCells (putCells id 0 F)) else w.heap[i]? := fun i hi => by
      show ((putRow id (Sort.ahead w m) b 0 F).heap ++ os)[i]? = _
      rw [Array.getElem?_append_left (by rw [hsize]; exact hi)]
      simp only [putRow, mapBlock, Sort.ahead, Array.getElem?_modify]
    have hpc : (putCells id 0 F cur).toList.take (d.length * k) = (sortL cf d).flatMap enc := by
      rw [← hFl]
      apply List.ext_getElem?
      intro j
      rw [List.getElem?_take]
      by_cases hj : j < d.length * k
      · rw [if_pos hj, Array.getElem?_toList, Array.getElem?_toList, putCells, Array.getElem?_mapIdx]
        have hcu : j < cur.size := by rw [hsz]; exact Nat.lt_of_lt_of_le hj (Nat.mul_le_mul_right _ hcap)
        rw [Array.getElem?_eq_getElem hcu, Array.getElem?_eq_getElem (by rw [hFs]; exact hj)]
        simp [hFs, hj]
      · rw [if_neg hj, Array.getElem?_toList, Array.getElem?_eq_none (by omega)]
    have hnew : (grow (putRow id (Sort.ahead w m) b 0 F) os).heap[b]? = some (.cells (putCells id 0 F cur) T (0, 0)) := by
      rw [hat b hbw, if_pos rfl, hb]; rfl
    refine ⟨_, J, rfl, RepF.tup [] [] rfl (fun k u x h => by simp at h), ⟨fun i B hB => ?_, fun i j _ hi hj _ _ => by simp at hi hj; omega⟩, ⟨rfl, rfl, rfl, ?_, fun i hi hx => ?_⟩, fun i B hB hs => rfl⟩
    · rcases i with _ | i
      · cases hB
        refine ⟨(sortL cf d).flatMap enc, ⟨by rw [fk_len hk, hlen], .inr ⟨b, cap, putCells id 0 F cur, ev, Nat.zero_le _, hnew, hcap, hmax, by simp [putCells, hsz], hpc⟩⟩, hbk, fun u hu => ?_, repA_ofL (repL_of _)⟩
        obtain ⟨x, _, hx⟩ := List.mem_flatMap.1 hu
        exact h1 x u hx
      · cases hB
    · show _ ≤ ((putRow id (Sort.ahead w m) b 0 F).heap ++ os).size
      rw [Array.size_append, hsize]; omega
    · rw [hat i hi, if_neg (fun (e : b = i) => hx (e ▸ hXb))]
end
end Go.Ab
namespace Go.Proofs.YtnmaabejdmaahaaGreatDoor
open Go.Proofs Go.Shelf
def sortP_ren : Go.Shelf.Ren := ⟨fun | 6 => 39 | 15 => 76 | 14 => 75 | 28 => 108 | 29 => 109 | 20 => 100 | 21 => 101 | 22 => 102 | 23 => 103 | 24 => 104 | 25 => 105 | 26 => 106 | 27 => 107 | 46 => 131 | 47 => 132 | 48 => 133 | 49 => 134 | 50 => 135 | 57 => 158 | n => n, fun | 22 => 31 | 24 => 85 | 25 => 95 | 3 => 3 | 39 => 138 | 0 => 0 | 53 => 183 | 55 => 185 | 4 => 4 | 46 => 177 | 45 => 176 | 50 => 157 | 5 => 5 | 9 => 9 | 66 => 198 | 70 => 202 | 76 => 224 | 77 => 116 | n => n, fun | n => n⟩
theorem sortP : Go.Proofs.SlLaysF0.n6 Tryz.prog sortP_ren := {
  mixed := by kernel_rfl
  f6 := ⟨Tryz.f39.name, by decide, Tryz.func39.trans (congrArg some (by kernel_rfl))⟩
  f14 := ⟨Tryz.f75.name, by decide, Tryz.func75.trans (congrArg some (by kernel_rfl))⟩
  f15 := Tryz.func76.trans (congrArg some (by kernel_rfl))
  f20 := ⟨Tryz.f100.name, by decide, Tryz.func100.trans (congrArg some (by kernel_rfl))⟩
  f21 := ⟨Tryz.f101.name, by decide, Tryz.func101.trans (congrArg some (by kernel_rfl))⟩
  f22 := ⟨Tryz.f102.name, by decide, Tryz.func102.trans (congrArg some (by kernel_rfl))⟩
  f23 := ⟨Tryz.f103.name, by decide, Tryz.func103.trans (congrArg some (by kernel_rfl))⟩
  f24 := ⟨Tryz.f104.name, by decide, Tryz.func104.trans (congrArg some (by kernel_rfl))⟩
  f25 := ⟨Tryz.f105.name, by decide, Tryz.func105.trans (congrArg some (by kernel_rfl))⟩
  f26 := ⟨Tryz.f106.name, by decide, Tryz.func106.trans (congrArg some (by kernel_rfl))⟩
  f27 := ⟨Tryz.f107.name, by decide, Tryz.func107.trans (congrArg some (by kernel_rfl))⟩
  f28 := Tryz.func108.trans (congrArg some (by kernel_rfl))
  f29 := Tryz.func109.trans (congrArg some (by kernel_rfl))
  f46 := ⟨Tryz.f131.name, by decide, Tryz.func131.trans (congrArg some (by kernel_rfl))⟩
  f47 := Tryz.func132.trans (congrArg some (by kernel_rfl))
  f48 := Tryz.func133.trans (congrArg some (by kernel_rfl))
  f49 := ⟨Tryz.f134.name, by decide, Tryz.func134.trans (congrArg some (by kernel_rfl))⟩
  f50 := ⟨Tryz.f135.name, by decide, Tryz.func135.trans (congrArg some (by kernel_rfl))⟩
  f57 := ⟨Tryz.f158.name, by decide, Tryz.func158.trans (congrArg some (by kernel_rfl))⟩
  t0 := Tryz.underlying0
  a0 := Tryz.isAgg0
  z0 := Tryz.sizeOf0
  v0 := Tryz.zeroValue0
  t3 := Tryz.underlying3
  a3 := Tryz.isAgg3
  z3 := Tryz.sizeOf3
  v3 := Tryz.zeroValue3
  t4 := Tryz.underlying4
  a4 := Tryz.isAgg4
  z4 := Tryz.sizeOf4
  v4 := Tryz.zeroValue4
  t5 := Tryz.underlying5
  a5 := Tryz.isAgg5
  z5 := Tryz.sizeOf5
  v5 := Tryz.zeroValue5
  t9 := Tryz.underlying9
  a9 := Tryz.isAgg9
  z9 := Tryz.sizeOf9
  v9 := Tryz.zeroValue9
  t22 := Tryz.underlying31
  a22 := Tryz.isAgg31
  z22 := Tryz.sizeOf31
  v22 := Tryz.zeroValue31
  t25 := Tryz.underlying95
  a25 := Tryz.isAgg95
  z25 := Tryz.sizeOf95
  v25 := Tryz.zeroValue95
  t39 := Tryz.underlying138
  a39 := Tryz.isAgg138
  z39 := Tryz.sizeOf138
  v39 := Tryz.zeroValue138
  t45 := Tryz.underlying176
  a45 := Tryz.isAgg176
  z45 := Tryz.sizeOf176
  v45 := Tryz.zeroValue176
  t46 := Tryz.underlying177
  a46 := Tryz.isAgg177
  z46 := Tryz.sizeOf177
  v46 := Tryz.zeroValue177
  t50 := Tryz.underlying157
  a50 := Tryz.isAgg157
  z50 := Tryz.sizeOf157
  v50 := Tryz.zeroValue157
  t53 := Tryz.underlying183
  a53 := Tryz.isAgg183
  z53 := Tryz.sizeOf183
  v53 := Tryz.zeroValue183
  t55 := Tryz.underlying185
  a55 := Tryz.isAgg185
  z55 := Tryz.sizeOf185
  v55 := Tryz.zeroValue185
  t66 := Tryz.underlying198
  a66 := Tryz.isAgg198
  z66 := Tryz.sizeOf198
  v66 := Tryz.zeroValue198
  t70 := Tryz.underlying202
  a70 := Tryz.isAgg202
  z70 := Tryz.sizeOf202
  v70 := Tryz.zeroValue202
  t76 := Tryz.underlying224
  a76 := Tryz.isAgg224
  z76 := Tryz.sizeOf224
  v76 := Tryz.zeroValue224
  t77 := Tryz.underlying116
  a77 := Tryz.isAgg116
  z77 := Tryz.sizeOf116
  v77 := Tryz.zeroValue116 }
open Go Go.RowKit Go.Proofs Go.Shelf Go.Ab Go.Sort
def cmpI (a b : Int) : Int := if a < b then -1 else if b < a then 1 else 0
def cmpP (a b : Plc) : Int := firstE [cmpI a.x b.x, cmpI a.y b.y, cmpI a.z b.z]
theorem cmpP_neg (a b : Plc) : cmpP a b < 0 ↔ befP a b := by
  unfold cmpP firstE firstE firstE firstE cmpI befP
  repeat (first | omega | split)
instance (a b : Plc) : Decidable (befP a b) := by unfold befP; infer_instance
theorem befP_trans {a b c : Plc} (h : befP a b) (k : befP b c) : befP a c := by unfold befP at *; omega
theorem befP_tot {a b : Plc} : befP a b ∨ a = b ∨ befP b a := by
  cases a; cases b
  simp only [befP, Plc.mk.injEq]
  omega
attribute [local go_sem] Oper.semAt_some
theorem isNaN_w (n : Int) (W : World) : Calls Tryz.prog 110 #[.int .i64 n] W fun e w' => e = .returned (.bool false) ∧ W = w' := by
  go_enter Tryz.func110, Tryz.ntmps110
  go_wp2
  go_ret
  exact ⟨rfl, rfl⟩
theorem Compare_w (a b : Int) (W : World) : Calls Tryz.prog 78 #[.int .i64 a, .int .i64 b] W fun e w' => e = .returned (.int .i64 (cmpI a b)) ∧ W = w' := by
  unfold cmpI
  by_cases h1 : a < b
  · rw [if_pos h1]
    go_enter Tryz.func78, Tryz.ntmps78
    go_wp2_with (go_at_call 110; refine (isNaN_w _ _).mono ?_; rintro e w' ⟨rfl, rfl⟩)
    go_ret
    exact ⟨rfl, rfl⟩
  · rw [if_neg h1]
    by_cases h2 : b < a
    · rw [if_pos h2]
      go_enter Tryz.func78, Tryz.ntmps78
      go_wp2_with (go_at_call 110; refine (isNaN_w _ _).mono ?_; rintro e w' ⟨rfl, rfl⟩)
      go_ret
      exact ⟨rfl, rfl⟩
    · rw [if_neg h2]
      go_enter Tryz.func78, Tryz.ntmps78
      go_wp2_with (go_at_call 110; refine (isNaN_w _ _).mono ?_; rintro e w' ⟨rfl, rfl⟩)
      go_ret
      exact ⟨rfl, rfl⟩
theorem Or3_w (B : Nat) (a b c : Int) (W : World) (h0 : W.cell? ⟨B, 0, none⟩ = some (.int .i64 a)) (h1 : W.cell? ⟨B, 1, none⟩ = some (.int .i64 b)) (h2 : W.cell? ⟨B, 2, none⟩ = some (.int .i64 c)) : Calls Tryz.prog 77 #[.slice (some ⟨B, 0, none⟩) 3 3] W fun e w' => e = .returned (.int .i64 (firstE [a, b, c])) ∧ W = w' := by
  go_enter Tryz.func77, Tryz.ntmps77
  go_wp2
  go_loopw [8] (fun i wr => wr = W ∧ ((i = .int .i64 0) ∨ (i = .int .i64 1 ∧ a = 0) ∨ (i = .int .i64 2 ∧ a = 0 ∧ b = 0) ∨ (i = .int .i64 3 ∧ a = 0 ∧ b = 0 ∧ c = 0))) (fun i _ => 3 - (intOf i).toNat)
  case atStart => exact ⟨rfl, .inl rfl⟩
  case round =>
    obtain ⟨rfl, hr⟩ := hrel
    rcases hr with rfl | ⟨rfl, rfl⟩ | ⟨rfl, rfl, rfl⟩ | ⟨rfl, rfl, rfl, rfl⟩
    · by_cases he : a = 0
      · subst he
        go_wp2
        go_roundw
        case rel => simp
        case measure => simp [intOf]
      · go_wp2
        go_ret
        exact ⟨by simp [firstE, he], rfl⟩
    · by_cases he : b = 0
      · subst he
        go_wp2
        go_roundw
        case rel => simp
        case measure => simp [intOf]
      · go_wp2
        go_ret
        exact ⟨by simp [firstE, he], rfl⟩
    · by_cases he : c = 0
      · subst he
        go_wp2
        go_roundw
        case rel => simp
        case measure => simp [intOf]
      · go_wp2
        go_ret
        exact ⟨by simp [firstE, he], rfl⟩
    · go_wp2
      go_ret
      exact ⟨by simp [firstE], rfl⟩
def encP (x : Plc) : List Value := [.int .i64 x.x, .int .i64 x.y, .int .i64 x.z]
theorem cellN (W : World) (a b : Obj) (n : Nat) (cs : Array Value) (T : TypeId) (k : Nat) (v : Value) (h : cs[k]? = some v) : ((((W.alloc a).alloc b).drewN n).alloc (Obj.cells cs T)).cell? ⟨W.heap.size + 1 + 1, k, none⟩ = some v := by
  rw [← h]
  show (match ((((W.heap.push a).push b).push (Obj.cells cs T)))[W.heap.size + 1 + 1]? with
    | some (.cells c _ _) => if (none : Option Nat).isSome then none else c[k]?
    | _ => none) = cs[k]?
  have e : (((W.heap.push a).push b).push (Obj.cells cs T))[W.heap.size + 1 + 1]? = some (Obj.cells cs T) := by
    have h1 := Array.getElem?_push_size (xs := (W.heap.push a).push b) (x := Obj.cells cs T)
    rwa [show ((W.heap.push a).push b).size = W.heap.size + 1 + 1 by simp] at h1
  rw [e]; rfl
set_option maxHeartbeats 1600000 in
theorem compare_w (x y : Plc) (W : World) : Calls Tryz.prog 40 #[.agg (encP x).toArray, .agg (encP y).toArray] W fun e w' => e = .returned (.int .i64 (cmpP x y)) ∧ ∃ q os', w' = grow (W.drewN q) os' := by
  unfold encP cmpP
  obtain ⟨x0, x1, x2⟩ := x
  obtain ⟨y0, y1, y2⟩ := y
  go_enter Tryz.func40, Tryz.ntmps40
  go_wp2
  refine wp_region_quiet_tail (fun w' => ∃ n, w' = World.drewN _ n) 15 (by kernel_rfl) (by kernel_rfl) ⟨1, rfl⟩ ?_
  repeat (quiet_step ((go_at_call 78; exact Calls.quiet_of_same ((Compare_w _ _ _).mono fun _ _ ⟨h1, h2⟩ => ⟨h1, h2.symm⟩))))
  refine wpQuiet_nil ?_
  intro w' hw'
  obtain ⟨nq, rfl⟩ := hw'
  go_wp2_with (go_at_call 77; refine (Or3_w _ (cmpI x0 y0) (cmpI x1 y1) (cmpI x2 y2) _ (cellN _ _ _ _ _ _ 0 _ rfl) (cellN _ _ _ _ _ _ 1 _ rfl) (cellN _ _ _ _ _ _ 2 _ rfl)).mono ?_; rintro e w' ⟨rfl, rfl⟩)
  go_ret
  exact ⟨rfl, nq, _, by rw [alloc_eq_grow, alloc_eq_grow, alloc_eq_grow, grow_grow]; show grow (grow (W.drewN nq) _) _ = _; rw [grow_grow]⟩
theorem ltP (x y : Plc) : ltOf cmpP x y = decide (befP x y) := by
  unfold ltOf
  exact decide_eq_decide.2 (cmpP_neg x y)
theorem swoP : SWO (ltOf cmpP) where
  irrefl x := by rw [ltP]; exact decide_eq_false fun h => befP_irr h h
  trans x y z h1 h2 := by
    rw [ltP] at *
    exact decide_eq_true (befP_trans (of_decide_eq_true h1) (of_decide_eq_true h2))
  ntrans x y z h1 h2 := by
    rw [ltP] at *
    have a := of_decide_eq_false h1
    have b := of_decide_eq_false h2
    refine decide_eq_false fun h => ?_
    rcases befP_tot (a := x) (b := y) with q | q | q
    · exact a q
    · subst q; exact b h
    · exact b (befP_trans q h)
def sortPl (l : List Plc) : List Plc := sortL cmpP l
theorem sortPl_perm (l : List Plc) : (sortPl l).Perm l := sortL_perm swoP l
theorem sortPl_len (l : List Plc) : (sortPl l).length = l.length := sortL_len swoP l
theorem sortPl_weak (l : List Plc) : (sortPl l).Pairwise fun x y => ¬ befP y x := (sortL_pw swoP l).imp fun {x y} h => fun hb => h ((cmpP_neg y x).2 hb)
theorem encP_F (l : List Plc) : (l.flatMap encP).map FV.v = plcsF l := by
  induction l with
  | nil => rfl
  | cons r l ih => rw [List.flatMap_cons, List.map_append, ih]; simp [plcsF, plcF, iv, encP]
theorem sortFuncP_s (l : List Plc) (h60 : l.length < 1000000) : SummG Tryz.prog GG 39 [.arr 85 3 l.length ((plcsF l).map .f)] [.ow 0, .f (.fn 40 [])] (.f (.tup [])) [.arr 85 3 l.length ((plcsF (sortPl l)).map .f)] :=
  sortG (ρ := sortP_ren) sortP Tryz.isAgg85 Tryz.sizeOf85 (enc := encP) (k := 3) (fun _ => rfl) (by decide) (fun x v hv => by simp [encP] at hv; rcases hv with rfl | rfl | rfl <;> rfl) cmpP swoP 40 (enters_of Tryz.func40 (by kernel_rfl) rfl) compare_w
    (fun pp cap fv w => AnyF.slices_SortFunc_none (P := Tryz.prog) (ρ := sortP_ren) { sortP with } pp cap fv w) (enters_of Tryz.func39 (by kernel_rfl) rfl) l (by omega) 85 rfl (encP_F l) (encP_F _)
end Go.Proofs.YtnmaabejdmaahaaGreatDoor
namespace Go.Proofs.YtnmaabejdmaahaaGreatDoor
open Go Go.RowKit Go.Proofs Go.Shelf Go.Ab
theorem bwithin_T (n lo hi : Int) (h : lo ≤ n ∧ n ≤ hi) : Summ Tryz.prog GG 33 [iv n, iv lo, iv hi] (.v (.bool true)) := by
  obtain ⟨h1, h2⟩ := h
  refine summW Tryz.func33 rfl rfl 15 rfl (by simp) (fun M0 => ?_)
  repeat (first
    | (apply s_a TY; exact rfl)
    | (apply s_t; exact rfl; (first | assumption | omega))
    | apply w_seq
    | apply w_region
    | apply s_nil
    | apply t_norm
    | apply w_ret)
  exact lv_ret (ret1 rfl (res_tmp rfl))
theorem bwithin_F (n lo hi : Int) (h : ¬ (lo ≤ n ∧ n ≤ hi)) : Summ Tryz.prog GG 33 [iv n, iv lo, iv hi] (.v (.bool false)) := by
  by_cases h1 : lo ≤ n
  · have h2 : ¬ n ≤ hi := fun h2 => h ⟨h1, h2⟩
    refine summW Tryz.func33 rfl rfl 15 rfl (by simp) (fun M0 => ?_)
    repeat (first
    | (apply s_a TY; exact rfl)
    | (apply s_t; exact rfl; (first | assumption | omega))
    | (apply s_f; exact rfl; (first | assumption | omega))
    | apply w_seq
    | apply w_region
    | apply s_nil
    | apply t_norm
    | apply w_ret)
    exact lv_ret (ret1 rfl (res_tmp rfl))
  · refine summW Tryz.func33 rfl rfl 15 rfl (by simp) (fun M0 => ?_)
    repeat (first
    | (apply s_a TY; exact rfl)
    | (apply s_f; exact rfl; (first | assumption | omega))
    | apply w_seq
    | apply w_region
    | apply s_nil
    | apply t_norm
    | apply w_ret
    | (apply s_s; exact rfl))
    exact lv_ret (ret1 rfl (res_tmp rfl))
end Go.Proofs.YtnmaabejdmaahaaGreatDoor
namespace Go.Proofs.YtnmaabejdmaahaaGreatDoor
open Go Go.RowKit Go.Proofs Go.Shelf Go.Ab
theorem rep_nilsl {w : World} {M : Nat → Prop} {v : Value} (h : RepF w M v (.v (.slice none 0 0))) : RepF w M v (.sl 0 []) := by
  have := repV h; subst this
  exact RepF.sl none 0 0 [] [] (Nat.le_refl _) rfl (fun u hu => by cases hu) (fun h => absurd rfl h) (fun k u x h => by simp at h)
end Go.Proofs.YtnmaabejdmaahaaGreatDoor
namespace Go.Proofs.YtnmaabejdmaahaaGreatDoor
open Go Go.RowKit Go.Proofs Go.Shelf Go.Ab
section
variable (F : Plc → Bool) (x0 y0 z0 : Int) (nx ny : Nat)
def rowX (y z : Int) (k : Nat) : List Plc := ((List.range k).map fun i : Nat => (⟨x0 + i, y, z⟩ : Plc)).filter F
def rowY (z : Int) (k : Nat) : List Plc := (List.range k).flatMap fun j : Nat => rowX F x0 (y0 + j) z nx
def rowZ (k : Nat) : List Plc := (List.range k).flatMap fun j : Nat => rowY F x0 y0 nx (z0 + j) ny
theorem rowX_succ (y z : Int) (k : Nat) : rowX F x0 y z (k + 1) = rowX F x0 y z k ++ (if F ⟨x0 + k, y, z⟩ = true then [⟨x0 + k, y, z⟩] else []) := by
  unfold rowX
  rw [List.range_succ, List.map_append, List.filter_append]
  congr 1
  cases h : F ⟨x0 + k, y, z⟩ <;> simp [h]
theorem rowY_succ (z : Int) (k : Nat) : rowY F x0 y0 nx z (k + 1) = rowY F x0 y0 nx z k ++ rowX F x0 (y0 + k) z nx := by
  unfold rowY
  rw [List.range_succ, List.flatMap_append]; simp
theorem rowZ_succ (k : Nat) : rowZ F x0 y0 z0 nx ny (k + 1) = rowZ F x0 y0 z0 nx ny k ++ rowY F x0 y0 nx (z0 + k) ny := by
  unfold rowZ
  rw [List.range_succ, List.flatMap_append]; simp
theorem rowX_len (y z : Int) (k : Nat) : (rowX F x0 y z k).length ≤ k := by
  unfold rowX
  exact Nat.le_trans (List.length_filter_le _ _) (by simp)
theorem rowY_len (z : Int) : ∀ k, (rowY F x0 y0 nx z k).length ≤ k * nx
  | 0 => by simp [rowY]
  | k + 1 => by
    have := rowY_len z k
    have := rowX_len F x0 (y0 + k) z nx
    rw [rowY_succ, List.length_append, Nat.succ_mul]; omega
theorem rowZ_len : ∀ k, (rowZ F x0 y0 z0 nx ny k).length ≤ k * (ny * nx)
  | 0 => by simp [rowZ]
  | k + 1 => by
    have := rowZ_len k
    have := rowY_len F x0 y0 nx (z0 + k) ny
    rw [rowZ_succ, List.length_append, Nat.succ_mul]; omega
end
theorem plcP_rows (F : Plc → Bool) (x0 x1 y0 y1 z0 z1 : Int) : plcP F x0 x1 y0 y1 z0 z1 = rowZ F x0 y0 z0 (x1 + 1 - x0).toNat (y1 + 1 - y0).toNat (z1 + 1 - z0).toNat := by
  unfold plcP rowZ rowY rowX upto
  rw [List.flatMap_map]
  congr 1
  funext c
  rw [List.flatMap_map]
  congr 1
  funext b
  rw [List.map_map]
  rfl
theorem plcP_nodup (F : Plc → Bool) (x0 x1 y0 y1 z0 z1 : Int) : (plcP F x0 x1 y0 y1 z0 z1).Nodup := by
  have h : (plcP F x0 x1 y0 y1 z0 z1).Pairwise fun a b : Plc => a.z < b.z ∨ (a.z = b.z ∧ (a.y < b.y ∨ (a.y = b.y ∧ a.x < b.x))) := by
    unfold plcP
    refine List.pairwise_flatMap.2 ⟨fun a _ => List.pairwise_flatMap.2 ⟨fun b _ => List.Pairwise.filter _ (List.pairwise_map.2 ((upto_asc x0 x1).imp fun h => .inr ⟨rfl, .inr ⟨rfl, h⟩⟩)), (upto_asc y0 y1).imp fun {b b'} h p hp q hq => ?_⟩, (upto_asc z0 z1).imp fun {a a'} h p hp q hq => ?_⟩
    · simp only [List.mem_filter, List.mem_map] at hp hq
      obtain ⟨⟨c, _, rfl⟩, _⟩ := hp
      obtain ⟨⟨d, _, rfl⟩, _⟩ := hq
      exact .inr ⟨rfl, .inl h⟩
    · simp only [List.mem_flatMap, List.mem_filter, List.mem_map] at hp hq
      obtain ⟨b, _, ⟨c, _, rfl⟩, _⟩ := hp
      obtain ⟨d, _, ⟨e, _, rfl⟩, _⟩ := hq
      exact .inl h
  exact h.imp fun {a b} q e => by subst e; omega
theorem strict_of {s : List Plc} (h : s.Pairwise fun x y => ¬ befP y x) (hn : s.Nodup) : s.Pairwise befP := (List.Pairwise.and h hn).imp fun {a b} ⟨q, r⟩ => by
  rcases befP_tot (a := a) (b := b) with k | k | k
  · exact k
  · exact absurd k r
  · exact absurd k q
def plcL (x : Srch) : List Plc := plcR (fitL x.ds) x.box.x0 x.box.x1 x.box.y0 x.box.y1 x.box.z0 x.box.z1
theorem rowP3 {n m : Nat} {cs cs' : List FV} (h : n = m) (k : cs = cs') : some (Blk.row 85 3 n cs) = some (Blk.row 85 3 m cs') := by rw [h, k]
theorem rowP2 {a b : List Plc} (h : a = b) : some (Blk.row 85 3 a.length (plcsF a)) = some (Blk.row 85 3 b.length (plcsF b)) := by rw [h]
theorem res_nl {C : Ctx} {n : Nat} {st : St} {t : Nat} (h : st.s t = .f (.v (.slice none 0 0))) : ResOk C n st (.tmp t) (.sl 0 []) := fun w0 a w S =>
  let ⟨v, h1, h2⟩ := res_tmp h w0 a w S
  ⟨v, h1, rep_nilsl h2⟩
set_option maxRecDepth 100000 in
set_option maxHeartbeats 3200000 in
theorem PlacesIn_err (x : Srch) (hl : x.ds.length ≤ 1000000) (he0 : srE x ≠ 0) : Summ Tryz.prog GG 7 [srF x] (.tup [.sl 0 [], iv (srE x)]) := by
  by_cases h8 : x.ds.length ≤ 8
  · refine summW Tryz.func7 rfl rfl 98 rfl (by simp) (fun M0 => ?_)
    repeat (first
    | (apply s_a TY; exact rfl)
    | (apply s_t; exact rfl; (first | assumption | omega))
    | apply w_seq
    | apply w_region
    | (apply w_draw (id := 1) 16 rfl (by kernel_rfl))
    | apply s_nil
    | apply t_norm
    | apply w_block
    | (apply s_k (ifirst4_s _ _ _ _); exact rfl)
    | (apply s_k (sideErr_s _ _); exact rfl)
    | (apply s_k (iunless_T _); exact rfl))
    apply w_loop (fun k : Nat => ⟨(Ab.upd (Ab.upd (Ab.upd (Ab.upd (Ab.upd (fun _ => .bot) 1 (.f (.pt (srL x) 0))) 4 (.f (iv (firstE ([sdE x.box.x0 x.box.x1, sdE x.box.y0 x.box.y1, sdE x.box.z0 x.box.z1, unlessE (decide (x.ds.length ≤ 8)) 8] ++ (x.ds.map dsE).take k))))) 32 (.f (.sl x.ds.length (dstsF x.ds)))) 33 (.f (iv x.ds.length))) 34 (.f (iv ((k : Nat) : Int)))), (fun _ => none), 0⟩) (fun k => k ≤ x.ds.length) (fun k => x.ds.length - k) 0 (Nat.zero_le _) (gh_le ⟨le_upd rfl trivial (le_upd rfl trivial (le_upd rfl trivial (le_upd (congrArg (fun z => AV.f (iv z)) (by rw [List.take_zero, List.append_nil, decide_eq_true h8]; rfl)) trivial (le_upd rfl trivial (le_nil _))))), le_h0 _ _⟩)
    intro k hk
    by_cases hc : k < x.ds.length
    · have hs : firstE ([sdE x.box.x0 x.box.x1, sdE x.box.y0 x.box.y1, sdE x.box.z0 x.box.z1, unlessE (decide (x.ds.length ≤ 8)) 8] ++ (x.ds.map dsE).take (k + 1)) = firstE [firstE ([sdE x.box.x0 x.box.x1, sdE x.box.y0 x.box.y1, sdE x.box.z0 x.box.z1, unlessE (decide (x.ds.length ≤ 8)) 8] ++ (x.ds.map dsE).take k), dsE x.ds[k]] := by
        rw [List.take_succ_eq_append_getElem (by rw [List.length_map]; exact hc), ← List.append_assoc, firstE_app (_ ++ _) [_], List.getElem_map]
        by_cases q : firstE ([sdE x.box.x0 x.box.x1, sdE x.box.y0 x.box.y1, sdE x.box.z0 x.box.z1, unlessE (decide (x.ds.length ≤ 8)) 8] ++ (x.ds.map dsE).take k) = 0
        · rw [if_pos q, q, firstE_tl]
        · rw [if_neg q, firstE_hd q]
      repeat (first
    | (apply s_a TY; exact rfl)
    | (apply s_t; exact rfl; (first | assumption | omega))
    | apply w_seq
    | apply w_region
    | apply s_nil
    | apply t_norm
    | apply k_norm
    | apply w_block
    | apply w_skip
    | (apply w_condT; exact rfl; exact rfl)
    | (apply s_k (ifirst2_s _ _); exact rfl)
    | (apply s_k (distanceErr_s _); exact rfl)
    | (apply s_c TY; exact rfl; (first | omega | exact ⟨by omega, by (first | with_reducible assumption | ((with_reducible apply dstsF_ne); omega) | assumption)⟩))
    | (apply s_m TY; exact rfl; (first | with_reducible assumption | ((with_reducible apply dstsF_sub); omega) | exact rfl); exact rfl)
    | (apply s_alloc TY; exact rfl; exact rfl; exact rfl)
    | (apply s_store TY; exact rfl; exact rfl; exact rfl; exact rfl; exact rfl; exact rfl))
      exact ⟨k + 1, by omega, by omega, gh_le ⟨le_upd rfl trivial (le_upd rfl trivial (le_upd rfl trivial (le_upd (congrArg (fun z => AV.f (iv z)) hs) trivial (le_upd rfl trivial (le_nil _))))), le_h0 _ _⟩⟩
    have hke : k = x.ds.length := by omega
    subst hke
    have he : firstE ([sdE x.box.x0 x.box.x1, sdE x.box.y0 x.box.y1, sdE x.box.z0 x.box.z1, unlessE (decide (x.ds.length ≤ 8)) 8] ++ (x.ds.map dsE).take x.ds.length) = srE x := by rw [List.take_of_length_le (by rw [List.length_map]; exact Nat.le_refl _)]; rfl
    rw [he]
    repeat (first
    | (apply s_a TY; exact rfl)
    | (apply s_f; exact rfl; (first | assumption | omega))
    | apply w_seq
    | apply w_region
    | apply s_nil
    | apply t_norm
    | apply t_exit
    | apply t_ret
    | apply k_hit
    | apply w_exit
    | apply w_ret
    | (apply w_condT; exact rfl; exact rfl)
    | (apply w_condF; exact rfl; exact rfl))
    exact lv_ret (ret2 rfl (res_nl rfl) (res_tmp rfl))
  · refine summW Tryz.func7 rfl rfl 98 rfl (by simp) (fun M0 => ?_)
    repeat (first
    | (apply s_a TY; exact rfl)
    | (apply s_f; exact rfl; (first | assumption | omega))
    | apply w_seq
    | apply w_region
    | (apply w_draw (id := 1) 16 rfl (by kernel_rfl))
    | apply s_nil
    | apply t_norm
    | apply w_block
    | (apply s_k (ifirst4_s _ _ _ _); exact rfl)
    | (apply s_k (sideErr_s _ _); exact rfl)
    | (apply s_k (iunless_F _); exact rfl))
    apply w_loop (fun k : Nat => ⟨(Ab.upd (Ab.upd (Ab.upd (Ab.upd (Ab.upd (fun _ => .bot) 1 (.f (.pt (srL x) 0))) 4 (.f (iv (firstE ([sdE x.box.x0 x.box.x1, sdE x.box.y0 x.box.y1, sdE x.box.z0 x.box.z1, unlessE (decide (x.ds.length ≤ 8)) 8] ++ (x.ds.map dsE).take k))))) 32 (.f (.sl x.ds.length (dstsF x.ds)))) 33 (.f (iv x.ds.length))) 34 (.f (iv ((k : Nat) : Int)))), (fun _ => none), 0⟩) (fun k => k ≤ x.ds.length) (fun k => x.ds.length - k) 0 (Nat.zero_le _) (gh_le ⟨le_upd rfl trivial (le_upd rfl trivial (le_upd rfl trivial (le_upd (congrArg (fun z => AV.f (iv z)) (by rw [List.take_zero, List.append_nil, decide_eq_false h8]; rfl)) trivial (le_upd rfl trivial (le_nil _))))), le_h0 _ _⟩)
    intro k hk
    by_cases hc : k < x.ds.length
    · have hs : firstE ([sdE x.box.x0 x.box.x1, sdE x.box.y0 x.box.y1, sdE x.box.z0 x.box.z1, unlessE (decide (x.ds.length ≤ 8)) 8] ++ (x.ds.map dsE).take (k + 1)) = firstE [firstE ([sdE x.box.x0 x.box.x1, sdE x.box.y0 x.box.y1, sdE x.box.z0 x.box.z1, unlessE (decide (x.ds.length ≤ 8)) 8] ++ (x.ds.map dsE).take k), dsE x.ds[k]] := by
        rw [List.take_succ_eq_append_getElem (by rw [List.length_map]; exact hc), ← List.append_assoc, firstE_app (_ ++ _) [_], List.getElem_map]
        by_cases q : firstE ([sdE x.box.x0 x.box.x1, sdE x.box.y0 x.box.y1, sdE x.box.z0 x.box.z1, unlessE (decide (x.ds.length ≤ 8)) 8] ++ (x.ds.map dsE).take k) = 0
        · rw [if_pos q, q, firstE_tl]
        · rw [if_neg q, firstE_hd q]
      repeat (first
    | (apply s_a TY; exact rfl)
    | (apply s_t; exact rfl; (first | assumption | omega))
    | apply w_seq
    | apply w_region
    | apply s_nil
    | apply t_norm
    | apply k_norm
    | apply w_block
    | apply w_skip
    | (apply w_condT; exact rfl; exact rfl)
    | (apply s_k (ifirst2_s _ _); exact rfl)
    | (apply s_k (distanceErr_s _); exact rfl)
    | (apply s_c TY; exact rfl; (first | omega | exact ⟨by omega, by (first | with_reducible assumption | ((with_reducible apply dstsF_ne); omega) | assumption)⟩))
    | (apply s_m TY; exact rfl; (first | with_reducible assumption | ((with_reducible apply dstsF_sub); omega) | exact rfl); exact rfl)
    | (apply s_alloc TY; exact rfl; exact rfl; exact rfl)
    | (apply s_store TY; exact rfl; exact rfl; exact rfl; exact rfl; exact rfl; exact rfl))
      exact ⟨k + 1, by omega, by omega, gh_le ⟨le_upd rfl trivial (le_upd rfl trivial (le_upd rfl trivial (le_upd (congrArg (fun z => AV.f (iv z)) hs) trivial (le_upd rfl trivial (le_nil _))))), le_h0 _ _⟩⟩
    have hke : k = x.ds.length := by omega
    subst hke
    have he : firstE ([sdE x.box.x0 x.box.x1, sdE x.box.y0 x.box.y1, sdE x.box.z0 x.box.z1, unlessE (decide (x.ds.length ≤ 8)) 8] ++ (x.ds.map dsE).take x.ds.length) = srE x := by rw [List.take_of_length_le (by rw [List.length_map]; exact Nat.le_refl _)]; rfl
    rw [he]
    repeat (first
    | (apply s_a TY; exact rfl)
    | (apply s_f; exact rfl; (first | assumption | omega))
    | apply w_seq
    | apply w_region
    | apply s_nil
    | apply t_norm
    | apply t_exit
    | apply t_ret
    | apply k_hit
    | apply w_exit
    | apply w_ret
    | (apply w_condT; exact rfl; exact rfl)
    | (apply w_condF; exact rfl; exact rfl))
    exact lv_ret (ret2 rfl (res_nl rfl) (res_tmp rfl))
set_option maxRecDepth 100000 in
set_option maxHeartbeats 6400000 in
theorem PlacesIn_ok (x : Srch) (v : SrOk x) : Summ Tryz.prog GG 7 [srF x] (.tup [.sl (plcL x).length (plcsF (plcL x)), iv 0]) := by
  have hl := v.n
  have h8 := v.n
  have hz0 := srE_zero.2 v
  obtain ⟨⟨X1, X2⟩, ⟨X3, X4⟩, X5, X6⟩ := v.sx
  obtain ⟨⟨Y1, Y2⟩, ⟨Y3, Y4⟩, Y5, Y6⟩ := v.sy
  obtain ⟨⟨Z1, Z2⟩, ⟨Z3, Z4⟩, Z5, Z6⟩ := v.sz
  have hnx : (x.box.x1 + 1 - x.box.x0).toNat ≤ 21 := by omega
  have hny : (x.box.y1 + 1 - x.box.y0).toNat ≤ 21 := by omega
  have hnz : (x.box.z1 + 1 - x.box.z0).toNat ≤ 21 := by omega
  have hyx : (x.box.y1 + 1 - x.box.y0).toNat * (x.box.x1 + 1 - x.box.x0).toNat ≤ 21 * 21 := Nat.mul_le_mul hny hnx
  have hL : plcP (fitL x.ds) x.box.x0 x.box.x1 x.box.y0 x.box.y1 x.box.z0 x.box.z1 = rowZ (fitL x.ds) x.box.x0 x.box.y0 x.box.z0 (x.box.x1 + 1 - x.box.x0).toNat (x.box.y1 + 1 - x.box.y0).toNat (x.box.z1 + 1 - x.box.z0).toNat := plcP_rows _ _ _ _ _ _ _
  have hsrt : sortPl (rowZ (fitL x.ds) x.box.x0 x.box.y0 x.box.z0 (x.box.x1 + 1 - x.box.x0).toNat (x.box.y1 + 1 - x.box.y0).toNat (x.box.z1 + 1 - x.box.z0).toNat) = plcL x := by rw [← hL]; exact plc_sorted _ _ _ _ _ _ _ (strict_of (sortPl_weak _) ((sortPl_perm _).nodup_iff.2 (plcP_nodup _ _ _ _ _ _ _))) (sortPl_perm _)
  refine summW Tryz.func7 rfl rfl 98 rfl (by simp) (fun M0 => ?_)
  repeat (first
    | (apply s_a TY; exact rfl)
    | (apply s_t; exact rfl; (first | assumption | omega))
    | apply w_seq
    | apply w_region
    | (apply w_draw (id := 1) 16 rfl (by kernel_rfl))
    | apply s_nil
    | apply t_norm
    | apply w_block
    | (apply s_k (ifirst4_s _ _ _ _); exact rfl)
    | (apply s_k (sideErr_s _ _); exact rfl)
    | (apply s_k (iunless_T _); exact rfl))
  apply w_loop (fun k : Nat => ⟨(Ab.upd (Ab.upd (Ab.upd (Ab.upd (Ab.upd (fun _ => .bot) 1 (.f (.pt (srL x) 0))) 4 (.f (iv (firstE ([sdE x.box.x0 x.box.x1, sdE x.box.y0 x.box.y1, sdE x.box.z0 x.box.z1, unlessE (decide (x.ds.length ≤ 8)) 8] ++ (x.ds.map dsE).take k))))) 32 (.f (.sl x.ds.length (dstsF x.ds)))) 33 (.f (iv x.ds.length))) 34 (.f (iv ((k : Nat) : Int)))), (fun _ => none), 0⟩) (fun k => k ≤ x.ds.length) (fun k => x.ds.length - k) 0 (Nat.zero_le _) (gh_le ⟨le_upd rfl trivial (le_upd rfl trivial (le_upd rfl trivial (le_upd (congrArg (fun z => AV.f (iv z)) (by rw [List.take_zero, List.append_nil, decide_eq_true h8]; rfl)) trivial (le_upd rfl trivial (le_nil _))))), le_h0 _ _⟩)
  intro k hk
  by_cases hc : k < x.ds.length
  · have hs : firstE ([sdE x.box.x0 x.box.x1, sdE x.box.y0 x.box.y1, sdE x.box.z0 x.box.z1, unlessE (decide (x.ds.length ≤ 8)) 8] ++ (x.ds.map dsE).take (k + 1)) = firstE [firstE ([sdE x.box.x0 x.box.x1, sdE x.box.y0 x.box.y1, sdE x.box.z0 x.box.z1, unlessE (decide (x.ds.length ≤ 8)) 8] ++ (x.ds.map dsE).take k), dsE x.ds[k]] := by
      rw [List.take_succ_eq_append_getElem (by rw [List.length_map]; exact hc), ← List.append_assoc, firstE_app (_ ++ _) [_], List.getElem_map]
      by_cases q : firstE ([sdE x.box.x0 x.box.x1, sdE x.box.y0 x.box.y1, sdE x.box.z0 x.box.z1, unlessE (decide (x.ds.length ≤ 8)) 8] ++ (x.ds.map dsE).take k) = 0
      · rw [if_pos q, q, firstE_tl]
      · rw [if_neg q, firstE_hd q]
    repeat (first
    | (apply s_a TY; exact rfl)
    | (apply s_t; exact rfl; (first | assumption | omega))
    | apply w_seq
    | apply w_region
    | apply s_nil
    | apply t_norm
    | apply k_norm
    | apply w_block
    | apply w_skip
    | (apply w_condT; exact rfl; exact rfl)
    | (apply s_k (ifirst2_s _ _); exact rfl)
    | (apply s_k (distanceErr_s _); exact rfl)
    | (apply s_c TY; exact rfl; (first | omega | exact ⟨by omega, by (first | with_reducible assumption | ((with_reducible apply dstsF_ne); omega) | assumption)⟩))
    | (apply s_m TY; exact rfl; (first | with_reducible assumption | ((with_reducible apply dstsF_sub); omega) | exact rfl); exact rfl)
    | (apply s_alloc TY; exact rfl; exact rfl; exact rfl)
    | (apply s_store TY; exact rfl; exact rfl; exact rfl; exact rfl; exact rfl; exact rfl))
    exact ⟨k + 1, by omega, by omega, gh_le ⟨le_upd rfl trivial (le_upd rfl trivial (le_upd rfl trivial (le_upd (congrArg (fun z => AV.f (iv z)) hs) trivial (le_upd rfl trivial (le_nil _))))), le_h0 _ _⟩⟩
  have hke : k = x.ds.length := by omega
  subst hke
  have he : firstE ([sdE x.box.x0 x.box.x1, sdE x.box.y0 x.box.y1, sdE x.box.z0 x.box.z1, unlessE (decide (x.ds.length ≤ 8)) 8] ++ (x.ds.map dsE).take x.ds.length) = srE x := by rw [List.take_of_length_le (by rw [List.length_map]; exact Nat.le_refl _)]; rfl
  rw [he]
  rw [hz0]
  repeat (first
    | (apply s_a TY; exact rfl)
    | (apply s_t; exact rfl; (first | assumption | omega))
    | (apply s_f; exact rfl; (first | assumption | omega))
    | apply w_seq
    | apply w_region
    | apply s_nil
    | apply t_norm
    | apply t_exit
    | apply k_hit
    | apply w_block
    | apply w_exit
    | apply w_skip
    | (apply w_condF; exact rfl; exact rfl))
  apply w_gh (gh_own 7 85 3 rfl rfl)
  apply w_loop (fun c : Nat => ⟨(Ab.upd (Ab.upd (Ab.upd (fun _ => .bot) 1 (.f (.pt (srL x) 0))) 7 (.ow 0)) 8 (.f (iv (x.box.z0 + ((c : Nat) : Int))))), (Ab.upd (fun _ => none) 0 (some (.row 85 3 (rowZ (fitL x.ds) x.box.x0 x.box.y0 x.box.z0 (x.box.x1 + 1 - x.box.x0).toNat (x.box.y1 + 1 - x.box.y0).toNat c).length (plcsF (rowZ (fitL x.ds) x.box.x0 x.box.y0 x.box.z0 (x.box.x1 + 1 - x.box.x0).toNat (x.box.y1 + 1 - x.box.y0).toNat c))))), 1⟩) (fun c => c ≤ (x.box.z1 + 1 - x.box.z0).toNat) (fun c => (x.box.z1 + 1 - x.box.z0).toNat - c) 0 (Nat.zero_le _) (gh_le ⟨le_upd (congrArg (fun z => AV.f (iv z)) (by omega : x.box.z0 + ((0 : Nat) : Int) = x.box.z0)) trivial (le_upd rfl rfl (le_upd rfl trivial (le_nil _))), le_hupd rfl trivial (le_h0 _ _)⟩)
  intro c hcz
  have lz := rowZ_len (fitL x.ds) x.box.x0 x.box.y0 x.box.z0 (x.box.x1 + 1 - x.box.x0).toNat (x.box.y1 + 1 - x.box.y0).toNat c
  have lz2 : c * ((x.box.y1 + 1 - x.box.y0).toNat * (x.box.x1 + 1 - x.box.x0).toNat) ≤ 21 * (21 * 21) := Nat.mul_le_mul (by omega) hyx
  by_cases hc : c < (x.box.z1 + 1 - x.box.z0).toNat
  · repeat (first
    | (apply s_a TY; exact rfl)
    | (apply s_t; exact rfl; (first | assumption | omega))
    | apply w_seq
    | apply w_region
    | apply s_nil
    | apply t_norm
    | apply w_block
    | apply w_skip
    | (apply w_condT; exact rfl; exact rfl))
    apply w_loop (fun b : Nat => ⟨(Ab.upd (Ab.upd (Ab.upd (Ab.upd (fun _ => .bot) 1 (.f (.pt (srL x) 0))) 7 (.ow 0)) 8 (.f (iv (x.box.z0 + ((c : Nat) : Int))))) 9 (.f (iv (x.box.y0 + ((b : Nat) : Int))))), (Ab.upd (fun _ => none) 0 (some (.row 85 3 ((rowZ (fitL x.ds) x.box.x0 x.box.y0 x.box.z0 (x.box.x1 + 1 - x.box.x0).toNat (x.box.y1 + 1 - x.box.y0).toNat c) ++ (rowY (fitL x.ds) x.box.x0 x.box.y0 (x.box.x1 + 1 - x.box.x0).toNat (x.box.z0 + ((c : Nat) : Int)) b)).length (plcsF ((rowZ (fitL x.ds) x.box.x0 x.box.y0 x.box.z0 (x.box.x1 + 1 - x.box.x0).toNat (x.box.y1 + 1 - x.box.y0).toNat c) ++ (rowY (fitL x.ds) x.box.x0 x.box.y0 (x.box.x1 + 1 - x.box.x0).toNat (x.box.z0 + ((c : Nat) : Int)) b)))))), 1⟩) (fun b => b ≤ (x.box.y1 + 1 - x.box.y0).toNat) (fun b => (x.box.y1 + 1 - x.box.y0).toNat - b) 0 (Nat.zero_le _) (gh_le ⟨le_upd (congrArg (fun z => AV.f (iv z)) (by omega : x.box.y0 + ((0 : Nat) : Int) = x.box.y0)) trivial (le_upd rfl trivial (le_upd rfl rfl (le_upd rfl trivial (le_nil _)))), le_hupd (rowP2 (List.append_nil _).symm) trivial (le_h0 _ _)⟩)
    intro b hby
    have ly := rowY_len (fitL x.ds) x.box.x0 x.box.y0 (x.box.x1 + 1 - x.box.x0).toNat (x.box.z0 + ((c : Nat) : Int)) b
    have ly2 : b * (x.box.x1 + 1 - x.box.x0).toNat ≤ 21 * 21 := Nat.mul_le_mul (by omega) hnx
    by_cases hb : b < (x.box.y1 + 1 - x.box.y0).toNat
    · repeat (first
    | (apply s_a TY; exact rfl)
    | (apply s_t; exact rfl; (first | assumption | omega))
    | apply w_seq
    | apply w_region
    | apply s_nil
    | apply t_norm
    | apply w_block
    | apply w_skip
    | (apply w_condT; exact rfl; exact rfl))
      apply w_loop (fun a : Nat => ⟨(Ab.upd (Ab.upd (Ab.upd (Ab.upd (Ab.upd (fun _ => .bot) 1 (.f (.pt (srL x) 0))) 7 (.ow 0)) 8 (.f (iv (x.box.z0 + ((c : Nat) : Int))))) 9 (.f (iv (x.box.y0 + ((b : Nat) : Int))))) 10 (.f (iv (x.box.x0 + ((a : Nat) : Int))))), (Ab.upd (fun _ => none) 0 (some (.row 85 3 ((rowZ (fitL x.ds) x.box.x0 x.box.y0 x.box.z0 (x.box.x1 + 1 - x.box.x0).toNat (x.box.y1 + 1 - x.box.y0).toNat c) ++ (rowY (fitL x.ds) x.box.x0 x.box.y0 (x.box.x1 + 1 - x.box.x0).toNat (x.box.z0 + ((c : Nat) : Int)) b) ++ (rowX (fitL x.ds) x.box.x0 (x.box.y0 + ((b : Nat) : Int)) (x.box.z0 + ((c : Nat) : Int)) a)).length (plcsF ((rowZ (fitL x.ds) x.box.x0 x.box.y0 x.box.z0 (x.box.x1 + 1 - x.box.x0).toNat (x.box.y1 + 1 - x.box.y0).toNat c) ++ (rowY (fitL x.ds) x.box.x0 x.box.y0 (x.box.x1 + 1 - x.box.x0).toNat (x.box.z0 + ((c : Nat) : Int)) b) ++ (rowX (fitL x.ds) x.box.x0 (x.box.y0 + ((b : Nat) : Int)) (x.box.z0 + ((c : Nat) : Int)) a)))))), 1⟩) (fun a => a ≤ (x.box.x1 + 1 - x.box.x0).toNat) (fun a => (x.box.x1 + 1 - x.box.x0).toNat - a) 0 (Nat.zero_le _) (gh_le ⟨le_upd (congrArg (fun z => AV.f (iv z)) (by omega : x.box.x0 + ((0 : Nat) : Int) = x.box.x0)) trivial (le_upd rfl trivial (le_upd rfl trivial (le_upd rfl rfl (le_upd rfl trivial (le_nil _))))), le_hupd (rowP2 (List.append_nil _).symm) trivial (le_h0 _ _)⟩)
      intro a hax
      have lx := rowX_len (fitL x.ds) x.box.x0 (x.box.y0 + ((b : Nat) : Int)) (x.box.z0 + ((c : Nat) : Int)) a
      have ll : ((rowZ (fitL x.ds) x.box.x0 x.box.y0 x.box.z0 (x.box.x1 + 1 - x.box.x0).toNat (x.box.y1 + 1 - x.box.y0).toNat c) ++ (rowY (fitL x.ds) x.box.x0 x.box.y0 (x.box.x1 + 1 - x.box.x0).toNat (x.box.z0 + ((c : Nat) : Int)) b) ++ (rowX (fitL x.ds) x.box.x0 (x.box.y0 + ((b : Nat) : Int)) (x.box.z0 + ((c : Nat) : Int)) a)).length ≤ 21 * (21 * 21) + 21 * 21 + 21 := by rw [List.length_append, List.length_append]; omega
      by_cases ha : a < (x.box.x1 + 1 - x.box.x0).toNat
      · have HF := fits_s (⟨x.box.x0 + ((a : Nat) : Int), x.box.y0 + ((b : Nat) : Int), x.box.z0 + ((c : Nat) : Int)⟩ : Plc) x.ds ⟨⟨by simp only; omega, by simp only; omega⟩, ⟨by simp only; omega, by simp only; omega⟩, ⟨by simp only; omega, by simp only; omega⟩⟩ (by omega) v.ds
        have hs := rowX_succ (fitL x.ds) x.box.x0 (x.box.y0 + ((b : Nat) : Int)) (x.box.z0 + ((c : Nat) : Int)) a
        cases hf : fitL x.ds (⟨x.box.x0 + ((a : Nat) : Int), x.box.y0 + ((b : Nat) : Int), x.box.z0 + ((c : Nat) : Int)⟩ : Plc) with
        | true =>
          rw [hf] at HF
          rw [hf, if_pos rfl] at hs
          repeat (first
    | (apply s_append TY; exact rfl; exact rfl; exact rfl; exact rfl; exact rfl; exact rfl; exact rfl; exact rfl; exact rfl; (unfold maxLen; omega); omega)
    | (apply s_a TY; exact rfl)
    | (apply s_t; exact rfl; (first | assumption | omega))
    | apply w_seq
    | apply w_region
    | apply s_nil
    | apply t_norm
    | apply k_norm
    | apply w_block
    | apply w_skip
    | (apply w_condT; exact rfl; exact rfl)
    | (apply s_k (HF); exact rfl)
    | (apply s_c TY; exact rfl; (first | omega | exact ⟨by omega, by (first | with_reducible assumption | ((with_reducible apply dstsF_ne); omega) | assumption)⟩))
    | (apply s_alloc TY; exact rfl; exact rfl; exact rfl)
    | (apply s_store TY; exact rfl; exact rfl; exact rfl; exact rfl; exact rfl; exact rfl))
          exact ⟨a + 1, by omega, by omega, gh_le ⟨le_upd (congrArg (fun z => AV.f (iv z)) (by omega : x.box.x0 + ((a + 1 : Nat) : Int) = x.box.x0 + ((a : Nat) : Int) + 1)) trivial (le_upd rfl trivial (le_upd rfl trivial (le_upd rfl rfl (le_upd rfl trivial (le_nil _))))), le_hupd (rowP3 (by rw [hs, ← List.append_assoc]; simp only [List.length_append, List.length_singleton]) (by rw [hs, ← List.append_assoc, plcsF_snoc]; rfl)) trivial (le_h0 _ _)⟩⟩
        | false =>
          rw [hf] at HF
          rw [hf, if_neg (by decide), List.append_nil] at hs
          repeat (first
    | (apply s_a TY; exact rfl)
    | (apply s_t; exact rfl; (first | assumption | omega))
    | apply w_seq
    | apply w_region
    | apply s_nil
    | apply t_norm
    | apply k_norm
    | apply w_block
    | apply w_skip
    | (apply w_condT; exact rfl; exact rfl)
    | (apply w_condF; exact rfl; exact rfl)
    | (apply s_k (HF); exact rfl)
    | (apply s_c TY; exact rfl; (first | omega | exact ⟨by omega, by (first | with_reducible assumption | ((with_reducible apply dstsF_ne); omega) | assumption)⟩))
    | (apply s_alloc TY; exact rfl; exact rfl; exact rfl)
    | (apply s_store TY; exact rfl; exact rfl; exact rfl; exact rfl; exact rfl; exact rfl))
          exact ⟨a + 1, by omega, by omega, gh_le ⟨le_upd (congrArg (fun z => AV.f (iv z)) (by omega : x.box.x0 + ((a + 1 : Nat) : Int) = x.box.x0 + ((a : Nat) : Int) + 1)) trivial (le_upd rfl trivial (le_upd rfl trivial (le_upd rfl rfl (le_upd rfl trivial (le_nil _))))), le_hupd (rowP2 (by rw [hs])) trivial (le_h0 _ _)⟩⟩
      · have hke : a = (x.box.x1 + 1 - x.box.x0).toNat := by omega
        subst hke
        have hs := rowY_succ (fitL x.ds) x.box.x0 x.box.y0 (x.box.x1 + 1 - x.box.x0).toNat (x.box.z0 + ((c : Nat) : Int)) b
        repeat (first
    | (apply s_a TY; exact rfl)
    | (apply s_f; exact rfl; (first | assumption | omega))
    | apply w_seq
    | apply w_region
    | apply s_nil
    | apply t_norm
    | apply t_exit
    | apply k_hit
    | apply k_norm
    | apply w_exit
    | (apply w_condF; exact rfl; exact rfl)
    | (apply s_c TY; exact rfl; (first | omega | exact ⟨by omega, by (first | with_reducible assumption | ((with_reducible apply dstsF_ne); omega) | assumption)⟩)))
        exact ⟨b + 1, by omega, by omega, gh_le ⟨le_upd (congrArg (fun z => AV.f (iv z)) (by omega : x.box.y0 + ((b + 1 : Nat) : Int) = x.box.y0 + ((b : Nat) : Int) + 1)) trivial (le_upd rfl trivial (le_upd rfl rfl (le_upd rfl trivial (le_nil _)))), le_hupd (rowP2 (by rw [hs, ← List.append_assoc])) trivial (le_h0 _ _)⟩⟩
    · have hke : b = (x.box.y1 + 1 - x.box.y0).toNat := by omega
      subst hke
      have hs := rowZ_succ (fitL x.ds) x.box.x0 x.box.y0 x.box.z0 (x.box.x1 + 1 - x.box.x0).toNat (x.box.y1 + 1 - x.box.y0).toNat c
      repeat (first
    | (apply s_a TY; exact rfl)
    | (apply s_f; exact rfl; (first | assumption | omega))
    | apply w_seq
    | apply w_region
    | apply s_nil
    | apply t_norm
    | apply t_exit
    | apply k_hit
    | apply k_norm
    | apply w_exit
    | (apply w_condF; exact rfl; exact rfl)
    | (apply s_c TY; exact rfl; (first | omega | exact ⟨by omega, by (first | with_reducible assumption | ((with_reducible apply dstsF_ne); omega) | assumption)⟩)))
      exact ⟨c + 1, by omega, by omega, gh_le ⟨le_upd (congrArg (fun z => AV.f (iv z)) (by omega : x.box.z0 + ((c + 1 : Nat) : Int) = x.box.z0 + ((c : Nat) : Int) + 1)) trivial (le_upd rfl rfl (le_upd rfl trivial (le_nil _))), le_hupd (rowP2 (by rw [hs])) trivial (le_h0 _ _)⟩⟩
  · have hke : c = (x.box.z1 + 1 - x.box.z0).toNat := by omega
    subst hke
    have HS := sortFuncP_s (rowZ (fitL x.ds) x.box.x0 x.box.y0 x.box.z0 (x.box.x1 + 1 - x.box.x0).toNat (x.box.y1 + 1 - x.box.y0).toNat (x.box.z1 + 1 - x.box.z0).toNat) (by omega)
    have hso := sortPl_len (rowZ (fitL x.ds) x.box.x0 x.box.y0 x.box.z0 (x.box.x1 + 1 - x.box.x0).toNat (x.box.y1 + 1 - x.box.y0).toNat (x.box.z1 + 1 - x.box.z0).toNat)
    rw [hsrt] at HS hso
    repeat (first
    | (apply s_a TY; exact rfl)
    | (apply s_f; exact rfl; (first | assumption | omega))
    | apply w_seq
    | apply w_region
    | apply s_nil
    | apply t_norm
    | apply t_exit
    | apply k_hit
    | apply w_exit
    | (apply w_condF; exact rfl; exact rfl))
    refine s_ghost rfl (gh_arr 0 (cs := plcsF (rowZ (fitL x.ds) x.box.x0 x.box.y0 x.box.z0 (x.box.x1 + 1 - x.box.x0).toNat (x.box.y1 + 1 - x.box.y0).toNat (x.box.z1 + 1 - x.box.z0).toNat)) rfl rfl) ?_
    repeat (first
    | (apply s_callG [0] HS; exact rfl; exact rfl; exact rfl; exact ⟨congrArg some (arr_ren _ _ _ _ _).symm, trivial⟩; exact rfl; exact ⟨rfl, rfl⟩)
    | (apply s_a TY; exact rfl)
    | apply w_seq
    | apply w_region
    | apply s_nil
    | apply t_norm
    | apply w_ret)
    exact lv_ret (ret_gh (gh_trans (gh_unarr 0 (e := 85) (sz := 3) (n := (rowZ (fitL x.ds) x.box.x0 x.box.y0 x.box.z0 (x.box.x1 + 1 - x.box.x0).toNat (x.box.y1 + 1 - x.box.y0).toNat (x.box.z1 + 1 - x.box.z0).toNat).length) (cs := plcsF (plcL x)) (congrArg some (arr_ren _ _ _ _ _))) (gh_row 0 rfl)) (by rw [hso]; exact ret2 rfl (res_tmp rfl) (res_tmp rfl)))
end Go.Proofs.YtnmaabejdmaahaaGreatDoor
