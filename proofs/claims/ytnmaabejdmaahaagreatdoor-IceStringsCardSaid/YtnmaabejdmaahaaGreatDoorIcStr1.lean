/- Laws on which the proofs of this seat stand. No condition. -/
import Derived.WalkKit
import Derived.WalkSpells
import Derived.WalkLawsBesides
import Derived.Deep.QuietTactic
import Derived.StillTailTactics
import Derived.Lib.Hide
import Derived.Deep.RegionWith
import Derived.Shelf.Abstract
import Derived.IntWalk
import Derived.Test.YtnmaabejdmaahaaGreatDoorProg
import Derived.Laws.AppendOwnNone
import Derived.Lib.SliceRun
import Derived.RangeFuncNested
import Derived.RangeFuncBound
import Derived.RangeFuncCalls
import Derived.RangeFuncLeaves
import Derived.OwnWalkIn
import Derived.TacticsInMore
import Derived.LoopNIn
import Derived.LoopIn
import Derived.Maps.RangeRun
import Derived.Maps.OwnIn
namespace Go
section
variable {P : Program} {ops : Array Oper} {md : Region.Mode} {C : World → Prop}
def wpAnyLQ (P : Program) (md : Region.Mode) (ops : Array Oper) (C : World → Prop) (n : Nat) (L : Array Bool → Act → Prop) : Nat → Array Bool → Act → Prop
  | 0, listed, a => L listed a
  | f + 1, listed, a =>
    Region.ready md ops listed ≠ [] ∧ ∀ i ∈ Region.ready md ops listed, i < n ∧ qOp P ops C i (wpAnyLQ P md ops C n L f (listed.setIfInBounds i true)) a
theorem wpAny_of_headQ {n g : Nat} {L : Array Bool → Act → Prop} {Q' : Exit → Act → World → Prop} (hL : ∀ listed a w, C w → L listed a → wpAny P md ops Q' g listed a w) :
    ∀ (f : Nat) (listed : Array Bool) (a : Act) (w : World), C w → wpAnyLQ P md ops C n L f listed a → wpAny P md ops Q' (f + g) listed a w
  | 0, listed, a, w, hC, h => by rw [Nat.zero_add]; exact hL _ _ _ hC h
  | f + 1, listed, a, w, hC, h => by
    rw [show f + 1 + g = (f + g) + 1 by omega]
    exact ⟨fun h0 => absurd h0 h.1, fun i hi => wpOp_of_qOp hC (fun a' w' hw' h' => wpAny_of_headQ hL f _ a' w' hw' h') (h.2 i hi).2⟩
theorem wpAnyLQ_first {n i : Nat} {oi : Oper} {v : Value} {L : Array Bool → Act → Prop} (hi : ops[i]? = some oi) (hsel : ∀ (j : Nat) (o : Oper) cs b, ops[j]? = some o → o.op ≠ .select cs b)
    (hs : Region.sinkB md ops n = true) (hc : Region.chainB md ops n = true) (hn : n < ops.size) (hin : i < n)
    (hdone : ∀ listed a, L listed a → ∀ j ∈ Region.ready md ops listed, n ≤ j) :
    ∀ (f : Nat) (listed : Array Bool) (a : Act), HeadInv md ops n listed →
      (∀ j oj, ops[j]? = some oj → j ≠ i → listed.getD j true = false → (∀ e ∈ oj.after, Region.binds md e = true → e.on ≠ i) → oi.apart ops oj = true) →
      i ∈ Region.ready md ops listed → YieldsIn P ops C oi v a →
      wpAnyLQ P md ops C n L f (listed.setIfInBounds i true) (a.put oi.dst v) → wpAnyLQ P md ops C n L (f + 1) listed a := by
  intro f
  induction f with
  | zero =>
    intro listed a inv _ hr hy H
    have hun := (mem_ready.1 hr).1
    refine ⟨fun h => (by rw [h] at hr; cases hr), fun j hj => ?_⟩
    have hjn : j < n := by
      rcases Nat.lt_or_ge j n with h | h
      · exact h
      · exact absurd hj (tail_waits hs hc hn inv _ i rfl hin hun j h)
    refine ⟨hjn, ?_⟩
    by_cases hji : j = i
    · subst hji; exact hy.qOp hi H
    · have := hdone _ _ H j (ready_mono hj hji)
      omega
  | succ f ih =>
    intro listed a inv hfree hr hy H
    have hun := (mem_ready.1 hr).1
    refine ⟨fun h => (by rw [h] at hr; cases hr), fun j hj => ?_⟩
    have hjn : j < n := by
      rcases Nat.lt_or_ge j n with h | h
      · exact h
      · exact absurd hj (tail_waits hs hc hn inv _ i rfl hin hun j h)
    refine ⟨hjn, ?_⟩
    by_cases hji : j = i
    · subst hji; exact hy.qOp hi H
    · have h1 := (H.2 j (ready_mono hj hji)).2
      obtain ⟨hjun, oj, hoj, hall⟩ := mem_ready.1 hj
      have hnot : ∀ e ∈ oj.after, Region.binds md e = true → e.on ≠ i := fun e he hb heq => by
        have h1 := hall e he hb
        rw [heq, getD_both hun] at h1
        cases h1
      have h2 := qOp_put hoj (hfree j oj hoj hji hjun hnot) (fun cs b => hsel i oi cs b hi) (fun cs b => hsel j oj cs b hoj) hy h1
      have hfree' : ∀ k ok, ops[k]? = some ok → k ≠ i → (listed.setIfInBounds j true).getD k true = false →
          (∀ e ∈ ok.after, Region.binds md e = true → e.on ≠ i) → oi.apart ops ok = true := fun k ok hk hki hun hno => by
        refine hfree k ok hk hki ?_ hno
        by_cases hjk : j = k
        · subst hjk; exact hjun
        · rw [getD_set_ne true hjk] at hun; exact hun
      refine qOp_mono (fun a' h3 => ih (listed.setIfInBounds j true) a' (inv.set hj hjn) hfree' (ready_mono hr (Ne.symm hji)) h3.1 ?_) h2
      rw [Array.setIfInBounds_comm _ _ hji]
      exact h3.2
theorem wpAnyLQ_lex {n g : Nat} {Lq : Act → Prop} (hsel : Region.noSelect ops = true) (hs : Region.sinkB md ops n = true) (hc : Region.chainB md ops n = true) (hn : n < ops.size) :
    ∀ (l : List Oper) (k : Nat) (listed : Array Bool) (a : Act), (∀ j, j < l.length → l[j]? = ops[k + j]?) → k + l.length = n → HeadInv md ops n listed →
    Region.lexHead md ops g l.length k listed = true → wpQuiet P ops C Lq l a →
    wpAnyLQ P md ops C n (fun listed' a' => Region.seqB md ops g n listed' = true ∧ Lq a') l.length listed a
  | [], k, listed, a, _, hk, _, hB, h => by
    have : k = n := by simpa using hk
    subst this
    exact ⟨by simpa [Region.lexHead] using hB, h⟩
  | o :: l, k, listed, a, hl, hk, inv, hB, h => by
    have h0 : ops[k]? = some o := by simpa using (hl 0 (by simp)).symm
    simp only [List.length_cons, Region.lexHead, Bool.and_eq_true] at hB
    obtain ⟨⟨hr, hf⟩, hB'⟩ := hB
    have hkn : k < n := by simp only [List.length_cons] at hk; omega
    have hr' : k ∈ Region.ready md ops listed := by simpa using hr
    have hst : qOp P ops C k (wpQuiet P ops C Lq l) a := by unfold qOp; simp only [h0]; exact h
    obtain ⟨v, hy, hK⟩ := yieldsIn_of_qOp h0 hst
    exact wpAnyLQ_first h0 (Region.noSelect_spec hsel) hs hc hn hkn (fun listed' a' hL => seqB_ready hL.1) l.length listed a inv (Region.free_spec h0 hf) hr' hy
      (wpAnyLQ_lex hsel hs hc hn l (k + 1) _ _ (fun j hj => by have := hl (j + 1) (by simp; omega); simpa [Nat.add_assoc, Nat.add_comm 1 j] using this) (by simp only [List.length_cons] at hk; omega) (inv.set hr' hkn) hB' hK)
theorem wp_region_quiet_tail (C : World → Prop) {id : Nat} {Q : Exit → Act → World → Prop} {a : Act} {w : World} {l : List Oper} (n : Nat) (hm : P.follows .mixedOrders = true) (hB : Region.lexTailB .any l.toArray n = true)
    (hC : C { w with drawn := w.drawn + 1 })
    (h : wpQuiet P l.toArray C (fun a' => ∀ w', C w' → wpList P l.toArray Q (l.drop n) a' w') (l.take n) a) : (Code.region id l.toArray true).wp P Q a w := by
  simp only [Region.lexTailB, Bool.and_eq_true, decide_eq_true_eq] at hB
  obtain ⟨⟨⟨⟨hsel, hn⟩, hs⟩, hc⟩, hlex⟩ := hB
  have hn' : n < l.length := by simpa using hn
  have htl : (l.take n).length = n := by simp; omega
  have hdl : (l.drop n).length = l.toArray.size - n := by simp
  have inv0 : HeadInv .any l.toArray n (Array.replicate l.toArray.size false) :=
    ⟨by simp, fun j oj _ hl => (by rw [getD_replicate_false] at hl; cases hl), fun t _ ht => getD_in (by simpa using ht) (getD_replicate_false _ _)⟩
  have H := wpAnyLQ_lex (md := .any) (C := C) (g := l.toArray.size - n) hsel hs hc hn (l.take n) 0 _ a (fun j hj => by
    have hj' : j < n := by rw [htl] at hj; exact hj
    simp [hj']) (by simpa using htl) inv0 (by rw [htl]; exact hlex) h
  refine wp_region_any hm ?_
  have := wpAny_of_headQ (Q' := Q) (g := l.toArray.size - n) (fun listed a' w' hw' hL => by
    have := wpAny_of_seq (md := .any) (Q' := Q) (l.drop n) n listed a' w' (fun j => by simp [List.getElem?_drop]) (by rw [hdl]; exact hL.1) (hL.2 w' hw')
    rwa [hdl] at this) _ _ _ _ hC H
  rw [htl, show n + (l.toArray.size - n) = l.toArray.size by omega] at this
  exact this
end
open Go.RowKit
def Ext (w w' : World) : Prop := Below w.heap.size w w'
theorem Ext.refl (w : World) : Ext w w := Below.refl _ _
theorem Ext.trans {a b c : World} (h : Ext a b) (k : Ext b c) : Ext a c := Below.trans h (Below.mono k h.size)
theorem Ext.alloc (w : World) (o : Obj) : Ext w (w.alloc o) := (Below.refl _ w).alloc (Nat.le_refl _) o
theorem Ext.drew (w : World) : Ext w w.drew := (Below.refl _ w).drew
theorem Ext.le {w w' : World} (h : Ext w w') : w.heap.size ≤ w'.heap.size := Below.size h
theorem Ext.cell {w w' : World} (h : Ext w w') {b o : Nat} (hb : b < w.heap.size) : w'.cell? ⟨b, o, none⟩ = w.cell? ⟨b, o, none⟩ := Below.cell h (p := ⟨b, o, none⟩) hb
theorem Ext.frozen {w w' : World} (h : Ext w w') {b o : Nat} (hb : b < w.heap.size) : w'.frozen? ⟨b, o, none⟩ = w.frozen? ⟨b, o, none⟩ := Below.frozen h (p := ⟨b, o, none⟩) hb
theorem Ext.cell_of {w w' : World} (h : Ext w w') {b o : Nat} {v : Value} (hc : w.cell? ⟨b, o, none⟩ = some v) : w'.cell? ⟨b, o, none⟩ = some v :=
  (h.cell (World.block_lt_of_cell? _ _ hc)).trans hc
theorem Ext.setCell {w w' : World} (h : Ext w w') {b o : Nat} (hb : w.heap.size ≤ b) (v : Value) : Ext w (w'.setCell ⟨b, o, none⟩ v) := Below.setCell h (p := ⟨b, o, none⟩) hb v
theorem Ext.toAlloc {w w' : World} (h : Ext w w') (o : Obj) : Ext w (w'.alloc o) := h.trans (Ext.alloc _ _)
theorem Ext.toDrew {w w' : World} (h : Ext w w') : Ext w w'.drew := h.trans (Ext.drew _)
theorem World.cell_at {w : World} {c : Array Value} {t : TypeId} {n i : Nat} (hn : n = w.heap.size) : (w.alloc (.cells c t)).cell? ⟨n, i, none⟩ = c[i]? := by subst hn; simp
theorem World.frozen_at {w : World} {c : Array Value} {t : TypeId} {n i : Nat} (hn : n = w.heap.size) : (w.alloc (.cells c t)).frozen? ⟨n, i, none⟩ = false := by subst hn; simp
theorem Ext.frozen_of {w w' : World} (h : Ext w w') {b o : Nat} (hb : b < w.heap.size) (hf : w.frozen? ⟨b, o, none⟩ = false) : w'.frozen? ⟨b, o, none⟩ = false := (h.frozen hb).trans hf
structure Row (w : World) (a : Option Addr) (cs : List Value) : Prop where
  at_ : cs ≠ [] → ∃ b off, a = some ⟨b, off, none⟩ ∧ b < w.heap.size ∧ ∀ k, k < cs.length → w.cell? ⟨b, off + k, none⟩ = cs[k]?
theorem Row.ext {w w' : World} {a : Option Addr} {cs : List Value} (h : Row w a cs) (hx : Ext w w') : Row w' a cs :=
  ⟨fun hne => let ⟨b, off, e, hb, hc⟩ := h.at_ hne; ⟨b, off, e, Nat.lt_of_lt_of_le hb hx.le, fun k hk => (hx.cell hb).trans (hc k hk)⟩⟩
theorem Row.nil (w : World) (a : Option Addr) : Row w a [] := ⟨fun h => absurd rfl h⟩
def intV (z : Int) : Value := .int .i64 z
def RowI (w : World) (a : Option Addr) (zs : List Int) : Prop := Row w a (zs.map intV)
theorem RowI.ext {w w' : World} {a : Option Addr} {zs : List Int} (h : RowI w a zs) (hx : Ext w w') : RowI w' a zs := Row.ext h hx
theorem RowI.get {w : World} {a : Option Addr} {zs : List Int} (h : RowI w a zs) {k : Nat} (hk : k < zs.length) :
    ∃ b off, a = some ⟨b, off, none⟩ ∧ b < w.heap.size ∧ ∀ k, (hk : k < zs.length) → w.cell? ⟨b, off + k, none⟩ = some (.int .i64 zs[k]) := by
  obtain ⟨b, off, e, hb, hc⟩ := h.at_ (by intro e; rw [List.map_eq_nil_iff] at e; rw [e] at hk; cases hk)
  exact ⟨b, off, e, hb, fun k hk => by rw [hc k (by simpa using hk)]; simp [hk, intV]⟩
def RowS {α : Type} (enc : α → List Value) (w : World) (a : Option Addr) (l : List α) : Prop := Row w a (l.flatMap enc)
theorem flatMap_getElem? {α β : Type} {enc : α → List β} {s : Nat} (hs : ∀ x, (enc x).length = s) : ∀ (l : List α) (i j : Nat) (hi : i < l.length), j < s → (l.flatMap enc)[i * s + j]? = (enc l[i])[j]?
  | x :: l, 0, j, _, hj => by simp [List.flatMap_cons, List.getElem?_append, hs, hj]
  | x :: l, i + 1, j, hi, hj => by
    have := flatMap_getElem? hs l i j (by simpa using hi) hj
    rw [List.flatMap_cons, List.getElem?_append_right (by rw [hs, Nat.add_mul]; omega), hs, show (i + 1) * s + j - s = i * s + j by rw [Nat.add_mul]; omega, this]
    simp
theorem flatMap_length {α β : Type} {enc : α → List β} {s : Nat} (hs : ∀ x, (enc x).length = s) (l : List α) : (l.flatMap enc).length = l.length * s := by
  induction l with
  | nil => simp
  | cons x l ih => simp [List.flatMap_cons, hs, ih, Nat.add_mul]; omega
theorem RowS.ext {α : Type} {enc : α → List Value} {w w' : World} {a : Option Addr} {l : List α} (h : RowS enc w a l) (hx : Ext w w') : RowS enc w' a l := Row.ext h hx
theorem RowS.get {α : Type} {enc : α → List Value} {s : Nat} (hs : ∀ x, (enc x).length = s) (h0 : 0 < s) {w : World} {a : Option Addr} {l : List α} (h : RowS enc w a l) {k : Nat} (hk : k < l.length) :
    ∃ b off, a = some ⟨b, off, none⟩ ∧ b < w.heap.size ∧ ∀ i j, (hi : i < l.length) → j < s → w.cell? ⟨b, off + (i * s + j), none⟩ = (enc l[i])[j]? := by
  have hlen := flatMap_length hs l
  have hp : 0 < l.length * s := Nat.mul_pos (by omega) h0
  obtain ⟨b, off, e, hb, hc⟩ := h.at_ (by intro e; rw [e] at hlen; simp at hlen; omega)
  refine ⟨b, off, e, hb, fun i j hi hj => ?_⟩
  rw [hc (i * s + j) (by rw [hlen]; calc i * s + j < i * s + s := by omega
    _ = (i + 1) * s := by rw [Nat.add_mul]; omega
    _ ≤ l.length * s := Nat.mul_le_mul_right _ hi)]
  exact flatMap_getElem? hs l i j hi hj
open Classical in
noncomputable def World.over (W x : World) : World := if Ext W x then x else W
theorem World.over_ext (W x : World) : Ext W (W.over x) := by
  unfold World.over
  split
  · assumption
  · exact Ext.refl _
theorem World.over_of {W x : World} (h : Ext W x) : x = W.over x := by
  unfold World.over
  rw [if_pos h]
@[go_sem] theorem World.cell?_over (W x : World) (b o : Nat) (hb : b < W.heap.size) : (W.over x).cell? ⟨b, o, none⟩ = W.cell? ⟨b, o, none⟩ := (W.over_ext x).cell hb
@[go_sem] theorem World.frozen?_over (W x : World) (b o : Nat) (hb : b < W.heap.size) : (W.over x).frozen? ⟨b, o, none⟩ = W.frozen? ⟨b, o, none⟩ := (W.over_ext x).frozen hb
theorem Calls.over_same {P : Program} {f : FuncId} {args : Array Value} {W x : World} {v : Value}
    (h : Calls P f args (W.over x) fun e w' => e = .returned v ∧ W.over x = w') : Calls P f args (W.over x) fun e w'' => e = .returned v ∧ ∃ y, w'' = W.over y :=
  h.mono fun _ _ ⟨he, hm⟩ => ⟨he, x, hm.symm⟩
theorem Calls.over_ext {P : Program} {f : FuncId} {args : Array Value} {W x : World} {v : Value}
    (h : Calls P f args (W.over x) fun e w' => e = .returned v ∧ Ext (W.over x) w') : Calls P f args (W.over x) fun e w'' => e = .returned v ∧ ∃ y, w'' = W.over y :=
  h.mono fun _ _ ⟨he, hm⟩ => ⟨he, _, World.over_of ((W.over_ext x).trans hm)⟩
theorem wp_region_over {P : Program} {id : Nat} {Q : Exit → Act → World → Prop} {a : Act} {w : World} {l : List Oper} (n : Nat) (hm : P.follows .mixedOrders = true) (hB : Region.lexTailB .any l.toArray n = true)
    (h : wpQuiet P l.toArray (fun w' => ∃ x, w' = w.over x) (fun a' => ∀ w', (∃ x, w' = w.over x) → wpList P l.toArray Q (l.drop n) a' w') (l.take n) a) : (Code.region id l.toArray true).wp P Q a w :=
  wp_region_quiet_tail _ n hm hB ⟨_, World.over_of (Ext.drew w)⟩ h
theorem wp_region_over_all {P : Program} {id : Nat} {Q : Exit → Act → World → Prop} {a : Act} {w : World} {l : List Oper} (hm : P.follows .mixedOrders = true) (hB : Region.lexB .any l.toArray = true)
    (h : wpQuiet P l.toArray (fun w' => ∃ x, w' = w.over x) (fun a' => ∀ w', (∃ x, w' = w.over x) → Q .normal a' w') l a) : (Code.region id l.toArray true).wp P Q a w :=
  wp_region_quiet (C := fun w' => ∃ x, w' = w.over x) hm hB ⟨_, World.over_of (Ext.drew w)⟩ (by simpa using h)
end Go
namespace Go.Proofs.YtnmaabejdmaahaaGreatDoor.Ice
open Go.RowKit Go.Proofs Go.Shelf
def withinB (n lo hi : Int) : Bool := decide (lo ≤ n) && decide (n ≤ hi)
theorem ret_bool {a b : Bool} (h : a = b) : Ending.returned (.bool a) = .returned (.bool b) := by rw [h]
theorem ret_int {k : IntKind} {a b : Int} (h : a = b) : Ending.returned (.int k a) = .returned (.int k b) := by rw [h]
theorem within_any (n lo hi : Int) (w : World) : Calls Tryz.prog 69 #[.int .i64 n, .int .i64 lo, .int .i64 hi] w fun e w' => e = .returned (.bool (withinB n lo hi)) ∧ w = w' := by
  go_enter Tryz.func69, Tryz.ntmps69
  go_wp2
  all_goals (go_ret; exact ⟨ret_bool (by unfold withinB; first | (have h1 : lo ≤ n := (by assumption); simp [h1]) | (have h1 : ¬ lo ≤ n := (by omega); simp [h1])), rfl⟩)
def unlessE (b : Bool) (k : Int) : Int := if b then 0 else k
theorem unless_any (b : Bool) (k : Int) (w : World) : Calls Tryz.prog 36 #[.bool b, .int .i64 k] w fun e w' => e = .returned (.int .i64 (unlessE b k)) ∧ w = w' := by
  cases b
  all_goals
    go_enter Tryz.func36, Tryz.ntmps36
    go_wp2
    go_ret
    exact ⟨rfl, rfl⟩
def firstE : List Int → Int
  | [] => 0
  | e :: l => if e = 0 then firstE l else e
theorem first_any (b off : Nat) (zs : List Int) (cap : Nat) (w : World) (hlen : zs.length ≤ maxLen) (hc : ∀ k, k < zs.length → w.cell? ⟨b, off + k, none⟩ = some (.int .i64 (zs.getD k 0))) :
    Calls Tryz.prog 34 #[.slice (some ⟨b, off, none⟩) zs.length cap] w fun e w' => e = .returned (.int .i64 (firstE zs)) ∧ w = w' := by
  unfold maxLen at hlen
  have H := Lib.hid hc
  clear hc
  go_enter Tryz.func34, Tryz.ntmps34
  go_wp2
  go_loop [7] (fun i => ∃ k : Nat, k ≤ zs.length ∧ i = .int .i64 k ∧ firstE zs = firstE (zs.drop k)) (fun i => zs.length - (intOf i).toNat)
  case atStart => exact ⟨0, Nat.zero_le _, rfl, rfl⟩
  case round =>
    obtain ⟨k, hk, rfl, hf⟩ := hrel
    have Hf := Lib.hid hf
    clear hf
    have hcell : k < zs.length → w.cell? ⟨b, off + k, none⟩ = some (.int .i64 (zs.getD k 0)) := H.out k
    go_wp2
    · have hlt : k < zs.length := by assumption
      have hz : (zs[k] != 0) = true := by assumption
      go_ret
      exact ⟨ret_int (by rw [Hf.out, List.drop_eq_getElem_cons hlt, firstE, if_neg (by simpa using hz)]), rfl⟩
    · have hlt : k < zs.length := by assumption
      have hz : (zs[k] != 0) = false := by assumption
      go_round
      case rel => exact ⟨k + 1, by omega, by go_num, by rw [Hf.out, List.drop_eq_getElem_cons hlt, firstE, if_pos (by simpa using hz)]⟩
      case measure => simp [intOf]; omega
    · go_ret
      exact ⟨ret_int (by rw [Hf.out, List.drop_eq_nil_of_le (by omega)]; rfl), rfl⟩
theorem first_row (b off n cap : Nat) (zs : List Int) (w : World) (hn : zs.length = n) (hlen : n ≤ maxLen) (hc : ∀ k, k < zs.length → w.cell? ⟨b, off + k, none⟩ = some (.int .i64 (zs.getD k 0))) :
    Calls Tryz.prog 34 #[.slice (some ⟨b, off, none⟩) n cap] w fun e w' => e = .returned (.int .i64 (firstE zs)) ∧ w = w' := by
  subst hn
  exact first_any b off zs cap w hlen hc
theorem first_two (x0 x1 : Int) (W : World) : Calls Tryz.prog 34 #[.slice (some ⟨W.heap.size, 0, none⟩) 2 2] (W.alloc (.cells #[.int .i64 x0, .int .i64 x1] 32)) fun e w' => e = .returned (.int .i64 (firstE [x0, x1])) ∧ W.alloc (.cells #[.int .i64 x0, .int .i64 x1] 32) = w' :=
  first_row _ 0 2 2 [x0, x1] _ rfl (by decide) (fun k hk => by match k, hk with
    | 0, _ => simp
    | 1, _ => simp)
theorem first_three (x0 x1 x2 : Int) (W : World) : Calls Tryz.prog 34 #[.slice (some ⟨W.heap.size, 0, none⟩) 3 3] (W.alloc (.cells #[.int .i64 x0, .int .i64 x1, .int .i64 x2] 32)) fun e w' => e = .returned (.int .i64 (firstE [x0, x1, x2])) ∧ W.alloc (.cells #[.int .i64 x0, .int .i64 x1, .int .i64 x2] 32) = w' :=
  first_row _ 0 3 3 [x0, x1, x2] _ rfl (by decide) (fun k hk => by match k, hk with
    | 0, _ => simp
    | 1, _ => simp
    | 2, _ => simp)
theorem first_six (x0 x1 x2 x3 x4 x5 : Int) (W : World) : Calls Tryz.prog 34 #[.slice (some ⟨W.heap.size, 0, none⟩) 6 6] (W.alloc (.cells #[.int .i64 x0, .int .i64 x1, .int .i64 x2, .int .i64 x3, .int .i64 x4, .int .i64 x5] 32)) fun e w' => e = .returned (.int .i64 (firstE [x0, x1, x2, x3, x4, x5])) ∧ W.alloc (.cells #[.int .i64 x0, .int .i64 x1, .int .i64 x2, .int .i64 x3, .int .i64 x4, .int .i64 x5] 32) = w' :=
  first_row _ 0 6 6 [x0, x1, x2, x3, x4, x5] _ rfl (by decide) (fun k hk => by match k, hk with
    | 0, _ => simp
    | 1, _ => simp
    | 2, _ => simp
    | 3, _ => simp
    | 4, _ => simp
    | 5, _ => simp)
end Go.Proofs.YtnmaabejdmaahaaGreatDoor.Ice
namespace Go.Proofs.YtnmaabejdmaahaaGreatDoor.Ice
open Go.RowKit Go.Proofs Go.Shelf
structure Layer where
  delay : Int
  loss : Int
  scatter : Int
deriving DecidableEq
def Layer.enc (l : Layer) : List Value := [.int .i64 l.delay, .int .i64 l.loss, .int .i64 l.scatter]
theorem Layer.enc_length (l : Layer) : l.enc.length = 3 := rfl
structure Cel where
  col : Int
  row : Int
deriving DecidableEq
def Cel.enc (c : Cel) : List Value := [.int .i64 c.col, .int .i64 c.row]
theorem Cel.enc_length (l : Cel) : l.enc.length = 2 := rfl
structure Rng where
  lo : Int
  hi : Int
deriving DecidableEq
def Rng.enc (c : Rng) : List Value := [.int .i64 c.lo, .int .i64 c.hi]
theorem Rng.enc_length (l : Rng) : l.enc.length = 2 := rfl
structure Flash where
  name : ByteArray
  frm : Cel
  to : Cel
  time : Rng
def Flash.enc (f : Flash) : List Value := [.string f.name, .int .i64 f.frm.col, .int .i64 f.frm.row, .int .i64 f.to.col, .int .i64 f.to.row, .int .i64 f.time.lo, .int .i64 f.time.hi]
theorem Flash.enc_length (l : Flash) : l.enc.length = 7 := rfl
def encI (z : Int) : List Value := [.int .i64 z]
theorem encI_length (z : Int) : (encI z).length = 1 := rfl
structure Sl where
  a : Option Addr
  n : Nat
  c : Nat
def Sl.enc (z : Sl) : List Value := [.slice z.a z.n z.c]
theorem Sl.enc_length (z : Sl) : z.enc.length = 1 := rfl
def idxI : Option Nat → Int
  | some i => i
  | none => -1
theorem idxI_ge {l : Option Nat} : decide (0 ≤ idxI l) = l.isSome := by cases l <;> simp [idxI]
theorem findIdx_some {α : Type} {p : α → Bool} {l : List α} {k : Nat} (hlt : k < l.length) (h : p l[k] = true) (hf : ∀ j, (h : j < l.length) → j < k → p l[j] = false) : l.findIdx? p = some k := by
  rw [List.findIdx?_eq_some_iff_getElem]
  exact ⟨hlt, h, fun j hj => by rw [hf j (by omega) hj]; simp⟩
theorem findIdx_none {α : Type} {p : α → Bool} {l : List α} (hf : ∀ j, (h : j < l.length) → p l[j] = false) : l.findIdx? p = none := by
  rw [List.findIdx?_eq_none_iff]
  intro x hx
  obtain ⟨j, hj, rfl⟩ := List.mem_iff_getElem.1 hx
  rw [hf j hj]
theorem findIdx_any {α : Type} {p : α → Bool} (l : List α) : (l.findIdx? p).isSome = l.any p := by
  rw [List.findIdx?_isSome]
set_option maxRecDepth 100000 in
theorem indexLayer (p : Layer → Bool) (gf : Nat) (lb : Array Value) (eg : ∀ args w, (callFunc gf args).run Tryz.prog w = .ok (.enter gf args) w) (a : Option Addr) (l : List (Layer)) (cap : Nat) (w : World) (hl : l.length ≤ maxLen) (hr : RowS Layer.enc w a l)
    (hp : ∀ x w', x ∈ l → Ext w w' → Calls Tryz.prog gf (#[.agg #[.int .i64 x.delay, .int .i64 x.loss, .int .i64 x.scatter]] ++ lb) w' fun e w'' => e = .returned (.bool (p x)) ∧ Ext w' w'') :
    Calls Tryz.prog 121 #[.slice a l.length cap, .func (.func gf) #[] lb] w fun e w' => e = .returned (.int .i64 (idxI (l.findIdx? p))) ∧ Ext w w' := by
  unfold maxLen at hl
  have HP := Lib.hid hp
  have HR := Lib.hid hr
  clear hp hr
  go_enter Tryz.func121, Tryz.ntmps121
  go_wp2
  go_loopw [8] (fun i wr => ∃ k : Nat, k ≤ l.length ∧ i = .int .i64 k ∧ Hid (Ext w wr) ∧ Hid (∀ j, (h : j < l.length) → j < k → p l[j] = false)) (fun i _ => l.length - (intOf i).toNat)
  case atStart => exact ⟨0, Nat.zero_le _, rfl, Lib.hid (Ext.refl _), Lib.hid (fun _ _ h => absurd h (Nat.not_lt_zero _))⟩
  case round =>
    obtain ⟨k, hk, rfl, Hx, Hf⟩ := hrel
    by_cases hlt : k < l.length
    · obtain ⟨b, off, rfl, hb, hc⟩ := (RowS.ext HR.out Hx.out).get Layer.enc_length (by decide) hlt
      have c0 : wr.cell? ⟨b, off + k * 3, none⟩ = some (.int .i64 l[k].delay) := hc k 0 hlt (by decide)
      have c1 : wr.cell? ⟨b, off + k * 3 + 1, none⟩ = some (.int .i64 l[k].loss) := hc k 1 hlt (by decide)
      have c2 : wr.cell? ⟨b, off + k * 3 + 2, none⟩ = some (.int .i64 l[k].scatter) := hc k 2 hlt (by decide)
      clear hc
      go_wp2_with fail
      refine (HP.out l[k] wr (List.getElem_mem hlt) Hx.out).mono ?_
      rintro e w1 ⟨rfl, hx⟩
      have Hx1 := Lib.hid (Hx.out.trans hx)
      clear hx Hx c0 c1 c2 hb
      cases hpk : p l[k]
      · have Hpk := Lib.hid hpk
        clear hpk
        go_wp2_with fail
        go_roundw
        case rel => exact ⟨k + 1, by omega, by go_num, Hx1, Lib.hid (fun j h hj => by rcases Nat.lt_succ_iff_lt_or_eq.1 hj with h' | rfl; exact Hf.out j h h'; exact Hpk.out)⟩
        case measure => simp [intOf]; omega
      · have Hpk := Lib.hid hpk
        clear hpk
        go_wp2_with fail
        go_ret
        exact ⟨ret_int (by rw [findIdx_some hlt Hpk.out Hf.out]; rfl), Hx1.out⟩
    · go_wp2_with fail
      go_ret
      exact ⟨ret_int (by rw [findIdx_none (fun j hj => Hf.out j hj (by omega))]; rfl), Hx.out⟩
set_option maxRecDepth 100000 in
theorem indexInt (p : Int → Bool) (gf : Nat) (lb : Array Value) (eg : ∀ args w, (callFunc gf args).run Tryz.prog w = .ok (.enter gf args) w) (a : Option Addr) (l : List (Int)) (cap : Nat) (w : World) (hl : l.length ≤ maxLen) (hr : RowS encI w a l)
    (hp : ∀ x w', x ∈ l → Ext w w' → Calls Tryz.prog gf (#[.int .i64 x] ++ lb) w' fun e w'' => e = .returned (.bool (p x)) ∧ Ext w' w'') :
    Calls Tryz.prog 125 #[.slice a l.length cap, .func (.func gf) #[] lb] w fun e w' => e = .returned (.int .i64 (idxI (l.findIdx? p))) ∧ Ext w w' := by
  unfold maxLen at hl
  have HP := Lib.hid hp
  have HR := Lib.hid hr
  clear hp hr
  go_enter Tryz.func125, Tryz.ntmps125
  go_wp2
  go_loopw [8] (fun i wr => ∃ k : Nat, k ≤ l.length ∧ i = .int .i64 k ∧ Hid (Ext w wr) ∧ Hid (∀ j, (h : j < l.length) → j < k → p l[j] = false)) (fun i _ => l.length - (intOf i).toNat)
  case atStart => exact ⟨0, Nat.zero_le _, rfl, Lib.hid (Ext.refl _), Lib.hid (fun _ _ h => absurd h (Nat.not_lt_zero _))⟩
  case round =>
    obtain ⟨k, hk, rfl, Hx, Hf⟩ := hrel
    by_cases hlt : k < l.length
    · obtain ⟨b, off, rfl, hb, hc⟩ := (RowS.ext HR.out Hx.out).get encI_length (by decide) hlt
      have c0 : wr.cell? ⟨b, off + k, none⟩ = some (.int .i64 l[k]) := by have := hc k 0 hlt (by decide); rwa [Nat.mul_one] at this
      clear hc
      go_wp2_with fail
      refine (HP.out l[k] wr (List.getElem_mem hlt) Hx.out).mono ?_
      rintro e w1 ⟨rfl, hx⟩
      have Hx1 := Lib.hid (Hx.out.trans hx)
      clear hx Hx c0 hb
      cases hpk : p l[k]
      · have Hpk := Lib.hid hpk
        clear hpk
        go_wp2_with fail
        go_roundw
        case rel => exact ⟨k + 1, by omega, by go_num, Hx1, Lib.hid (fun j h hj => by rcases Nat.lt_succ_iff_lt_or_eq.1 hj with h' | rfl; exact Hf.out j h h'; exact Hpk.out)⟩
        case measure => simp [intOf]; omega
      · have Hpk := Lib.hid hpk
        clear hpk
        go_wp2_with fail
        go_ret
        exact ⟨ret_int (by rw [findIdx_some hlt Hpk.out Hf.out]; rfl), Hx1.out⟩
    · go_wp2_with fail
      go_ret
      exact ⟨ret_int (by rw [findIdx_none (fun j hj => Hf.out j hj (by omega))]; rfl), Hx.out⟩
set_option maxRecDepth 100000 in
theorem containsInt (p : Int → Bool) (gf : Nat) (lb : Array Value) (eg : ∀ args w, (callFunc gf args).run Tryz.prog w = .ok (.enter gf args) w) (a : Option Addr) (l : List (Int)) (cap : Nat) (w : World) (hl : l.length ≤ maxLen) (hr : RowS encI w a l)
    (hp : ∀ x w', x ∈ l → Ext w w' → Calls Tryz.prog gf (#[.int .i64 x] ++ lb) w' fun e w'' => e = .returned (.bool (p x)) ∧ Ext w' w'') :
    Calls Tryz.prog 93 #[.slice a l.length cap, .func (.func gf) #[] lb] w fun e w' => e = .returned (.bool (l.any p)) ∧ Ext w w' := by
  have HC := Lib.hid (indexInt p gf lb eg a l cap w hl hr hp)
  clear hl hr hp
  go_enter Tryz.func93, Tryz.ntmps93
  go_wp2_with fail
  refine HC.out.mono ?_
  rintro e w1 ⟨rfl, hx⟩
  have HX := Lib.hid hx
  clear hx HC
  go_wp2_with fail
  go_ret
  exact ⟨ret_bool (idxI_ge.trans (findIdx_any l)), HX.out⟩
set_option maxRecDepth 100000 in
theorem indexFlash (p : Flash → Bool) (gf : Nat) (lb : Array Value) (eg : ∀ args w, (callFunc gf args).run Tryz.prog w = .ok (.enter gf args) w) (a : Option Addr) (l : List (Flash)) (cap : Nat) (w : World) (hl : l.length ≤ maxLen) (hr : RowS Flash.enc w a l)
    (hp : ∀ x w', x ∈ l → Ext w w' → Calls Tryz.prog gf (#[.agg #[.string x.name, .int .i64 x.frm.col, .int .i64 x.frm.row, .int .i64 x.to.col, .int .i64 x.to.row, .int .i64 x.time.lo, .int .i64 x.time.hi]] ++ lb) w' fun e w'' => e = .returned (.bool (p x)) ∧ Ext w' w'') :
    Calls Tryz.prog 171 #[.slice a l.length cap, .func (.func gf) #[] lb] w fun e w' => e = .returned (.int .i64 (idxI (l.findIdx? p))) ∧ Ext w w' := by
  unfold maxLen at hl
  have HP := Lib.hid hp
  have HR := Lib.hid hr
  clear hp hr
  go_enter Tryz.func171, Tryz.ntmps171
  go_wp2
  go_loopw [8] (fun i wr => ∃ k : Nat, k ≤ l.length ∧ i = .int .i64 k ∧ Hid (Ext w wr) ∧ Hid (∀ j, (h : j < l.length) → j < k → p l[j] = false)) (fun i _ => l.length - (intOf i).toNat)
  case atStart => exact ⟨0, Nat.zero_le _, rfl, Lib.hid (Ext.refl _), Lib.hid (fun _ _ h => absurd h (Nat.not_lt_zero _))⟩
  case round =>
    obtain ⟨k, hk, rfl, Hx, Hf⟩ := hrel
    by_cases hlt : k < l.length
    · obtain ⟨b, off, rfl, hb, hc⟩ := (RowS.ext HR.out Hx.out).get Flash.enc_length (by decide) hlt
      have c0 : wr.cell? ⟨b, off + k * 7, none⟩ = some (.string l[k].name) := hc k 0 hlt (by decide)
      have c1 : wr.cell? ⟨b, off + k * 7 + 1, none⟩ = some (.int .i64 l[k].frm.col) := hc k 1 hlt (by decide)
      have c2 : wr.cell? ⟨b, off + k * 7 + 2, none⟩ = some (.int .i64 l[k].frm.row) := hc k 2 hlt (by decide)
      have c3 : wr.cell? ⟨b, off + k * 7 + 3, none⟩ = some (.int .i64 l[k].to.col) := hc k 3 hlt (by decide)
      have c4 : wr.cell? ⟨b, off + k * 7 + 4, none⟩ = some (.int .i64 l[k].to.row) := hc k 4 hlt (by decide)
      have c5 : wr.cell? ⟨b, off + k * 7 + 5, none⟩ = some (.int .i64 l[k].time.lo) := hc k 5 hlt (by decide)
      have c6 : wr.cell? ⟨b, off + k * 7 + 6, none⟩ = some (.int .i64 l[k].time.hi) := hc k 6 hlt (by decide)
      clear hc
      go_wp2_with fail
      refine (HP.out l[k] wr (List.getElem_mem hlt) Hx.out).mono ?_
      rintro e w1 ⟨rfl, hx⟩
      have Hx1 := Lib.hid (Hx.out.trans hx)
      clear hx Hx c0 c1 c2 c3 c4 c5 c6 hb
      cases hpk : p l[k]
      · have Hpk := Lib.hid hpk
        clear hpk
        go_wp2_with fail
        go_roundw
        case rel => exact ⟨k + 1, by omega, by go_num, Hx1, Lib.hid (fun j h hj => by rcases Nat.lt_succ_iff_lt_or_eq.1 hj with h' | rfl; exact Hf.out j h h'; exact Hpk.out)⟩
        case measure => simp [intOf]; omega
      · have Hpk := Lib.hid hpk
        clear hpk
        go_wp2_with fail
        go_ret
        exact ⟨ret_int (by rw [findIdx_some hlt Hpk.out Hf.out]; rfl), Hx1.out⟩
    · go_wp2_with fail
      go_ret
      exact ⟨ret_int (by rw [findIdx_none (fun j hj => Hf.out j hj (by omega))]; rfl), Hx.out⟩
set_option maxRecDepth 100000 in
theorem containsFlash (p : Flash → Bool) (gf : Nat) (lb : Array Value) (eg : ∀ args w, (callFunc gf args).run Tryz.prog w = .ok (.enter gf args) w) (a : Option Addr) (l : List (Flash)) (cap : Nat) (w : World) (hl : l.length ≤ maxLen) (hr : RowS Flash.enc w a l)
    (hp : ∀ x w', x ∈ l → Ext w w' → Calls Tryz.prog gf (#[.agg #[.string x.name, .int .i64 x.frm.col, .int .i64 x.frm.row, .int .i64 x.to.col, .int .i64 x.to.row, .int .i64 x.time.lo, .int .i64 x.time.hi]] ++ lb) w' fun e w'' => e = .returned (.bool (p x)) ∧ Ext w' w'') :
    Calls Tryz.prog 152 #[.slice a l.length cap, .func (.func gf) #[] lb] w fun e w' => e = .returned (.bool (l.any p)) ∧ Ext w w' := by
  have HC := Lib.hid (indexFlash p gf lb eg a l cap w hl hr hp)
  clear hl hr hp
  go_enter Tryz.func152, Tryz.ntmps152
  go_wp2_with fail
  refine HC.out.mono ?_
  rintro e w1 ⟨rfl, hx⟩
  have HX := Lib.hid hx
  clear hx HC
  go_wp2_with fail
  go_ret
  exact ⟨ret_bool (idxI_ge.trans (findIdx_any l)), HX.out⟩
end Go.Proofs.YtnmaabejdmaahaaGreatDoor.Ice
namespace Go.Proofs.YtnmaabejdmaahaaGreatDoor.Ice
open Go.RowKit Go.Proofs Go.Shelf
theorem isDelay_any (n : Int) (w : World) : Calls Tryz.prog 123 #[.int .i64 n] w fun e w' => e = .returned (.bool (withinB n 1 1000)) ∧ w = w' := by
  go_enter Tryz.func123, Tryz.ntmps123
  go_wp2_with (go_at_call 69; refine (within_any _ _ _ _).mono ?_; rintro e w' ⟨rfl, rfl⟩)
  go_ret
  exact ⟨rfl, rfl⟩
theorem isPart_any (n : Int) (w : World) : Calls Tryz.prog 124 #[.int .i64 n] w fun e w' => e = .returned (.bool (withinB n 0 1000)) ∧ w = w' := by
  go_enter Tryz.func124, Tryz.ntmps124
  go_wp2_with (go_at_call 69; refine (within_any _ _ _ _).mono ?_; rintro e w' ⟨rfl, rfl⟩)
  go_ret
  exact ⟨rfl, rfl⟩
theorem isPhotons_any (n : Int) (w : World) : Calls Tryz.prog 63 #[.int .i64 n] w fun e w' => e = .returned (.bool (withinB n 0 1000000)) ∧ w = w' := by
  go_enter Tryz.func63, Tryz.ntmps63
  go_wp2_with (go_at_call 69; refine (within_any _ _ _ _).mono ?_; rintro e w' ⟨rfl, rfl⟩)
  go_ret
  exact ⟨rfl, rfl⟩
def layerOk (l : Layer) : Bool := withinB l.delay 1 1000 && withinB l.loss 0 1000 && withinB l.scatter 0 1000
theorem ckLayer_any (l : Layer) (w : World) : Calls Tryz.prog 122 #[.agg #[.int .i64 l.delay, .int .i64 l.loss, .int .i64 l.scatter]] w fun e w' => e = .returned (.bool (!layerOk l)) ∧ Ext w w' := by
  go_enter Tryz.func122, Tryz.ntmps122
  go_wp2_with (first | (go_at_call 123; refine (isDelay_any _ _).mono ?_; rintro e w' ⟨rfl, rfl⟩) | (go_at_call_of 102 (.int .i64 l.loss); refine (isPart_any _ _).mono ?_; rintro e w' ⟨rfl, rfl⟩) | (go_at_call 124; refine (isPart_any _ _).mono ?_; rintro e w' ⟨rfl, rfl⟩))
  all_goals (go_ret; exact ⟨ret_bool (by simp [layerOk, *]), Ext.alloc _ _⟩)
theorem ckTilt_any (n : Int) (w : World) : Calls Tryz.prog 126 #[.int .i64 n] w fun e w' => e = .returned (.bool (!withinB n (-12) 12)) ∧ Ext w w' := by
  go_enter Tryz.func126, Tryz.ntmps126
  go_wp2_with (go_at_call 69; refine (within_any _ _ _ _).mono ?_; rintro e w' ⟨rfl, rfl⟩)
  go_ret
  exact ⟨rfl, Ext.refl _⟩
structure Grid where
  layers : List Layer
  rows : Int
  tilt : List Int
structure GridAt (w : World) (la ta : Option Addr) (x : Grid) : Prop where
  layers : RowS Layer.enc w la x.layers
  tilt : RowS encI w ta x.tilt
  nl : x.layers.length ≤ 140737488355328
  nt : x.tilt.length ≤ 140737488355328
theorem GridAt.ext {w w' : World} {la ta : Option Addr} {x : Grid} (h : GridAt w la ta x) (hx : Ext w w') : GridAt w' la ta x := ⟨h.layers.ext hx, h.tilt.ext hx, h.nl, h.nt⟩
def iceE1 (x : Grid) : Int := firstE [unlessE (decide (0 < x.layers.length)) 10, unlessE (decide ((x.layers.length : Int) ≤ 6)) 8]
def iceE2 (x : Grid) : Int := firstE [unlessE (withinB x.rows 1 12) 2, unlessE (decide (0 < x.tilt.length)) 10, unlessE (decide ((x.tilt.length : Int) ≤ 8)) 8]
def iceI1 (x : Grid) : Int := idxI (x.layers.findIdx? (fun l => !layerOk l))
def iceI2 (x : Grid) : Int := idxI (x.tilt.findIdx? (fun n => !withinB n (-12) 12))
def checkIce (x : Grid) : Int × Int :=
  if (iceE1 x != 0) = true then (0, iceE1 x) else
  if 0 ≤ iceI1 x then (iceI1 x, 2) else
  if (iceE2 x != 0) = true then (0, iceE2 x) else
  if 0 ≤ iceI2 x then (iceI2 x, 2) else (0, 0)
theorem ret_pair {p : Int × Int} {c d : Int} (h : p = (c, d)) : Ending.returned (.tuple #[.int .i64 c, .int .i64 d]) = .returned (.tuple #[.int .i64 p.1, .int .i64 p.2]) := by cases h; rfl
set_option maxRecDepth 100000 in
set_option maxHeartbeats 1000000 in
theorem CheckIce_any (la ta : Option Addr) (lc tc : Nat) (x : Grid) (w : World) (hg : GridAt w la ta x) :
    Calls Tryz.prog 87 #[.agg #[.slice la x.layers.length lc, .int .i64 x.rows, .slice ta x.tilt.length tc]] w fun e w' => e = .returned (.tuple #[.int .i64 (checkIce x).1, .int .i64 (checkIce x).2]) ∧ Ext w w' := by
  have HG := Lib.hid hg
  have h1 := hg.nl
  have h2 := hg.nt
  clear hg
  go_enter Tryz.func87, Tryz.ntmps87
  go_wp2_with fail
  generalize hW : w.alloc _ = W
  have e0 := Lib.hid (show Ext w W by rw [← hW]; exact Ext.alloc _ _)
  have hb : w.heap.size < W.heap.size := by rw [← hW]; simp
  have b0 : W.cell? ⟨w.heap.size, 0, none⟩ = some (.slice la x.layers.length lc) := by rw [← hW]; simp
  have b1 : W.cell? ⟨w.heap.size, 1, none⟩ = some (.int .i64 x.rows) := by rw [← hW]; simp
  have b2 : W.cell? ⟨w.heap.size, 2, none⟩ = some (.slice ta x.tilt.length tc) := by rw [← hW]; simp
  clear hW
  refine wp_region_over 10 (by kernel_rfl) (by kernel_rfl) ?_
  simp only [List.take_succ_cons, List.take_zero, List.drop_succ_cons, List.drop_zero]
  repeat (quiet_step ((go_at_call 36; exact Calls.over_same (unless_any _ _ _))))
  refine wpQuiet_nil ?_
  rintro _ ⟨x1, rfl⟩
  go_wp2_with fail
  refine (first_two _ _ _).mono ?_
  rintro e w1 ⟨rfl, hw1⟩
  have hx : Ext W w1 := by rw [← hw1]; exact (W.over_ext x1).toAlloc _
  clear hw1
  replace b0 := hx.cell_of b0
  replace b1 := hx.cell_of b1
  replace b2 := hx.cell_of b2
  replace hb := Nat.lt_of_lt_of_le hb hx.le
  have e1 := Lib.hid (e0.out.trans hx)
  clear hx e0
  rw [show firstE [unlessE (decide (0 < x.layers.length)) 10, unlessE (decide ((x.layers.length : Int) ≤ 6)) 8] = iceE1 x from rfl]
  by_cases t1 : (iceE1 x != 0) = true
  · go_wp2_with fail
    go_ret2
    exact ⟨ret_pair (by rw [checkIce, if_pos t1]), e1.out⟩
  have T1 := Lib.hid t1
  replace t1 : (iceE1 x != 0) = false := by simpa using t1
  go_wp2_with fail
  refine (indexLayer (fun l => !layerOk l) 122 #[] (enters_of Tryz.func122 (by kernel_rfl) rfl) la x.layers lc w1 (by unfold maxLen; omega) (HG.out.layers.ext e1.out) (fun l w' _ _ => ckLayer_any l w')).mono ?_
  rintro e w2 ⟨rfl, hx⟩
  replace b0 := hx.cell_of b0
  replace b1 := hx.cell_of b1
  replace b2 := hx.cell_of b2
  replace hb := Nat.lt_of_lt_of_le hb hx.le
  have e2 := Lib.hid (e1.out.trans hx)
  clear hx e1
  rw [show idxI (x.layers.findIdx? (fun l => !layerOk l)) = iceI1 x from rfl]
  by_cases t2 : 0 ≤ iceI1 x
  · go_wp2_with fail
    go_ret2
    exact ⟨ret_pair (by rw [checkIce, if_neg T1.out, if_pos t2]), e2.out⟩
  have T2 := Lib.hid t2
  go_wp2_with fail
  refine wp_region_over 14 (by kernel_rfl) (by kernel_rfl) ?_
  simp only [List.take_succ_cons, List.take_zero, List.drop_succ_cons, List.drop_zero]
  repeat (quiet_step ((first | (go_at_call 36; exact Calls.over_same (unless_any _ _ _)) | (go_at_call 69; exact Calls.over_same (within_any _ _ _ _)))))
  refine wpQuiet_nil ?_
  rintro _ ⟨x1, rfl⟩
  go_wp2_with fail
  refine (first_three _ _ _ _).mono ?_
  rintro e w3 ⟨rfl, hw3⟩
  have hx : Ext w2 w3 := by rw [← hw3]; exact (w2.over_ext x1).toAlloc _
  clear hw3
  replace b2 := hx.cell_of b2
  replace hb := Nat.lt_of_lt_of_le hb hx.le
  have e3 := Lib.hid (e2.out.trans hx)
  clear hx e2 b0 b1
  rw [show firstE [unlessE (withinB x.rows 1 12) 2, unlessE (decide (0 < x.tilt.length)) 10, unlessE (decide ((x.tilt.length : Int) ≤ 8)) 8] = iceE2 x from rfl]
  by_cases t3 : (iceE2 x != 0) = true
  · go_wp2_with fail
    go_ret2
    exact ⟨ret_pair (by rw [checkIce, if_neg T1.out, if_neg (Int.not_le.2 T2.out), if_pos t3]), e3.out⟩
  have T3 := Lib.hid t3
  replace t3 : (iceE2 x != 0) = false := by simpa using t3
  go_wp2_with fail
  refine (indexInt (fun n => !withinB n (-12) 12) 126 #[] (enters_of Tryz.func126 (by kernel_rfl) rfl) ta x.tilt tc w3 (by unfold maxLen; omega) (HG.out.tilt.ext e3.out) (fun l w' _ _ => ckTilt_any l w')).mono ?_
  rintro e w4 ⟨rfl, hx⟩
  have e4 := Lib.hid (e3.out.trans hx)
  clear hx e3
  rw [show idxI (x.tilt.findIdx? (fun n => !withinB n (-12) 12)) = iceI2 x from rfl]
  by_cases t4 : 0 ≤ iceI2 x
  · go_wp2_with fail
    go_ret2
    exact ⟨ret_pair (by rw [checkIce, if_neg T1.out, if_neg (Int.not_le.2 T2.out), if_neg T3.out, if_pos t4]), e4.out⟩
  have T4 := Lib.hid t4
  go_wp2_with fail
  go_ret2
  exact ⟨ret_pair (by rw [checkIce, if_neg T1.out, if_neg (Int.not_le.2 T2.out), if_neg T3.out, if_neg (Int.not_le.2 T4.out)]), e4.out⟩
end Go.Proofs.YtnmaabejdmaahaaGreatDoor.Ice
namespace Go.Proofs.YtnmaabejdmaahaaGreatDoor.Ice
open Go.RowKit Go.Proofs Go.Shelf
structure Valid (x : Grid) : Prop where
  l1 : 1 ≤ x.layers.length
  l6 : x.layers.length ≤ 6
  lay : ∀ l ∈ x.layers, (1 ≤ l.delay ∧ l.delay ≤ 1000) ∧ (0 ≤ l.loss ∧ l.loss ≤ 1000) ∧ 0 ≤ l.scatter ∧ l.scatter ≤ 1000
  r1 : 1 ≤ x.rows
  r12 : x.rows ≤ 12
  t1 : 1 ≤ x.tilt.length
  t8 : x.tilt.length ≤ 8
  til : ∀ t ∈ x.tilt, -12 ≤ t ∧ t ≤ 12
theorem idxI_neg {o : Option Nat} : idxI o < 0 ↔ o = none := by cases o <;> simp [idxI] <;> omega
theorem checkIce_zero (x : Grid) : (checkIce x).2 = 0 ↔ Valid x := by
  have a1 : iceE1 x = 0 ↔ 1 ≤ x.layers.length ∧ x.layers.length ≤ 6 := by
    unfold iceE1 firstE unlessE firstE firstE
    by_cases h1 : 0 < x.layers.length <;> by_cases h2 : (x.layers.length : Int) ≤ 6 <;> simp [h1, h2] <;> omega
  have a2 : iceE2 x = 0 ↔ (1 ≤ x.rows ∧ x.rows ≤ 12) ∧ 1 ≤ x.tilt.length ∧ x.tilt.length ≤ 8 := by
    unfold iceE2 firstE unlessE firstE firstE firstE withinB
    by_cases h1 : 0 < x.tilt.length <;> by_cases h2 : (x.tilt.length : Int) ≤ 8 <;> by_cases h3 : 1 ≤ x.rows <;> by_cases h4 : x.rows ≤ 12 <;> simp [h1, h2, h3, h4] <;> omega
  have a3 : iceI1 x < 0 ↔ ∀ l ∈ x.layers, (1 ≤ l.delay ∧ l.delay ≤ 1000) ∧ (0 ≤ l.loss ∧ l.loss ≤ 1000) ∧ 0 ≤ l.scatter ∧ l.scatter ≤ 1000 := by
    unfold iceI1
    rw [idxI_neg, List.findIdx?_eq_none_iff]
    simp [layerOk, withinB, and_assoc]
  have a4 : iceI2 x < 0 ↔ ∀ t ∈ x.tilt, -12 ≤ t ∧ t ≤ 12 := by
    unfold iceI2
    rw [idxI_neg, List.findIdx?_eq_none_iff]
    simp [withinB]
  unfold checkIce
  constructor
  · intro h
    split at h
    · rename_i g; exact absurd h (by simpa using g)
    rename_i g1
    split at h
    · cases h
    rename_i g2
    split at h
    · rename_i g; exact absurd h (by simpa using g)
    rename_i g3
    split at h
    · cases h
    rename_i g4
    have b1 := a1.1 (by simpa using g1)
    have b2 := a2.1 (by simpa using g3)
    exact ⟨b1.1, b1.2, a3.1 (by omega), b2.1.1, b2.1.2, b2.2.1, b2.2.2, a4.1 (by omega)⟩
  · intro v
    rw [if_neg (by simpa using a1.2 ⟨v.l1, v.l6⟩), if_neg (by have := a3.2 v.lay; omega), if_neg (by simpa using a2.2 ⟨⟨v.r1, v.r12⟩, v.t1, v.t8⟩), if_neg (by have := a4.2 v.til; omega)]
def iceErrE (x : Grid) : Int := (checkIce x).2
def cellB (x : Grid) (c : Cel) : Bool := withinB c.col 0 ((x.tilt.length : Int) - 1) && withinB c.row 0 (wrap64 (x.rows - 1))
def cellErrE (x : Grid) (c : Cel) : Int := unlessE (cellB x c) 6
def layerI (x : Grid) (c : Cel) : Int := max 0 (min (c.row - x.tilt.getD c.col.toNat 0) ((x.layers.length : Int) - 1))
def delayAt (x : Grid) (c : Cel) : Int := (x.layers.getD (layerI x c).toNat ⟨0, 0, 0⟩).delay
def stepI (x : Grid) (a b : Cel) : Int := delayAt x a + delayAt x b
theorem layerI_bd {x : Grid} (v : Valid x) (c : Cel) : 0 ≤ layerI x c ∧ layerI x c < x.layers.length := by
  have := v.l1; unfold layerI; omega
theorem delayAt_bd {x : Grid} (v : Valid x) (c : Cel) : 1 ≤ delayAt x c ∧ delayAt x c ≤ 1000 := by
  obtain ⟨h1, h2⟩ := layerI_bd v c
  have h3 : (layerI x c).toNat < x.layers.length := by omega
  unfold delayAt
  rw [List.getD_eq_getElem?_getD, List.getElem?_eq_getElem h3, Option.getD_some]
  exact (v.lay _ (List.getElem_mem h3)).1
set_option maxRecDepth 100000 in
set_option maxHeartbeats 1000000 in
theorem iceErr_any (la ta : Option Addr) (lc tc : Nat) (x : Grid) (w : World) (hg : GridAt w la ta x) :
    Calls Tryz.prog 52 #[.agg #[.slice la x.layers.length lc, .int .i64 x.rows, .slice ta x.tilt.length tc]] w fun e w' => e = .returned (.int .i64 (iceErrE x)) ∧ Ext w w' := by
  have HG := Lib.hid hg
  clear hg
  go_enter Tryz.func52, Tryz.ntmps52
  go_wp2_with fail
  generalize hW : World.alloc w _ = W0
  have e0 := Lib.hid (show Ext w W0 by rw [← hW]; exact Ext.alloc _ _)
  have q0 : w.heap.size < W0.heap.size := by rw [← hW]; simp <;> omega
  have b00 : W0.cell? ⟨w.heap.size, 0, none⟩ = some (.slice la x.layers.length lc) := by rw [← hW]; exact ((World.cell_at (by simp)).trans rfl)
  have b01 : W0.cell? ⟨w.heap.size, 1, none⟩ = some (.int .i64 x.rows) := by rw [← hW]; exact ((World.cell_at (by simp)).trans rfl)
  have b02 : W0.cell? ⟨w.heap.size, 2, none⟩ = some (.slice ta x.tilt.length tc) := by rw [← hW]; exact ((World.cell_at (by simp)).trans rfl)
  clear hW
  refine (CheckIce_any la ta lc tc x W0 (HG.out.ext e0.out)).mono ?_
  rintro e w1 ⟨rfl, hx⟩
  replace b00 := hx.cell_of b00
  replace b01 := hx.cell_of b01
  replace b02 := hx.cell_of b02
  replace q0 := Nat.lt_of_lt_of_le q0 hx.le
  have e1 := Lib.hid (e0.out.trans hx)
  clear hx e0
  go_wp2_with fail
  go_ret
  exact ⟨rfl, e1.out⟩
set_option maxRecDepth 100000 in
set_option maxHeartbeats 1000000 in
theorem cellErr_any (la ta : Option Addr) (lc tc : Nat) (x : Grid) (c : Cel) (w : World) (hg : GridAt w la ta x) :
    Calls Tryz.prog 59 #[.agg #[.slice la x.layers.length lc, .int .i64 x.rows, .slice ta x.tilt.length tc], .agg #[.int .i64 c.col, .int .i64 c.row]] w fun e w' => e = .returned (.int .i64 (cellErrE x c)) ∧ Ext w w' := by
  have h2 := hg.nt
  clear hg
  go_enter Tryz.func59, Tryz.ntmps59
  go_wp2_with (first | (go_at_call_of 92 (.int .i64 c.col); refine (within_any _ _ _ _).mono ?_; rintro e w' ⟨rfl, rfl⟩) | (go_at_call 69; refine (within_any _ _ _ _).mono ?_; rintro e w' ⟨rfl, rfl⟩) | (go_at_call 36; refine (unless_any _ _ _).mono ?_; rintro e w' ⟨rfl, rfl⟩))
  all_goals go_ret
  all_goals exact ⟨ret_int (by unfold cellErrE cellB; simp [*]), (Ext.alloc _ _).toAlloc _⟩
set_option maxRecDepth 100000 in
set_option maxHeartbeats 1000000 in
theorem layer_any (la ta : Option Addr) (lc tc : Nat) (x : Grid) (c : Cel) (w : World) (hg : GridAt w la ta x) (v : Valid x) (h1 : 0 ≤ c.col) (h2 : c.col < x.tilt.length) (h3 : -1000000 ≤ c.row) (h4 : c.row ≤ 1000000) :
    Calls Tryz.prog 127 #[.agg #[.slice la x.layers.length lc, .int .i64 x.rows, .slice ta x.tilt.length tc], .agg #[.int .i64 c.col, .int .i64 c.row]] w fun e w' => e = .returned (.int .i64 (layerI x c)) ∧ Ext w w' := by
  obtain ⟨k, hk⟩ := Int.eq_ofNat_of_zero_le h1
  have hkt : k < x.tilt.length := by omega
  have ht := v.til _ (List.getElem_mem hkt)
  have hl6 := v.l6
  have hl1 := v.l1
  have HL : Hid (max 0 (min (c.row - x.tilt[k]) ((x.layers.length : Int) - 1)) = layerI x c) := Lib.hid (by unfold layerI; rw [hk, Int.toNat_natCast, List.getD_eq_getElem?_getD, List.getElem?_eq_getElem hkt, Option.getD_some])
  obtain ⟨b, off, rfl, hb, hc⟩ := hg.tilt.get encI_length (by decide) hkt
  have hcell : w.cell? ⟨b, off + k, none⟩ = some (.int .i64 x.tilt[k]) := by have := hc k 0 hkt (by decide); rwa [Nat.mul_one] at this
  clear hc hg v
  obtain ⟨cc, cr⟩ := c
  simp only at hk h1 h2 h3 h4
  subst hk
  go_enter Tryz.func127, Tryz.ntmps127
  go_wp2_with fail
  generalize hW : World.alloc (World.alloc w _) _ = W0
  have e0 := Lib.hid (show Ext w W0 by rw [← hW]; exact (Ext.alloc _ _).toAlloc _)
  have q0 : w.heap.size < W0.heap.size := by rw [← hW]; simp <;> omega
  have b00 : W0.cell? ⟨w.heap.size, 0, none⟩ = some (.slice la x.layers.length lc) := by rw [← hW]; exact ((Ext.alloc _ _).cell_of ((World.cell_at (by simp)).trans rfl))
  have b01 : W0.cell? ⟨w.heap.size, 1, none⟩ = some (.int .i64 x.rows) := by rw [← hW]; exact ((Ext.alloc _ _).cell_of ((World.cell_at (by simp)).trans rfl))
  have b02 : W0.cell? ⟨w.heap.size, 2, none⟩ = some (.slice (some ⟨b, off, none⟩) x.tilt.length tc) := by rw [← hW]; exact ((Ext.alloc _ _).cell_of ((World.cell_at (by simp)).trans rfl))
  have q1 : w.heap.size + 1 < W0.heap.size := by rw [← hW]; simp <;> omega
  have b10 : W0.cell? ⟨w.heap.size + 1, 0, none⟩ = some (.int .i64 k) := by rw [← hW]; exact ((World.cell_at (by simp)).trans rfl)
  have b11 : W0.cell? ⟨w.heap.size + 1, 1, none⟩ = some (.int .i64 cr) := by rw [← hW]; exact ((World.cell_at (by simp)).trans rfl)
  clear hW
  replace hcell := e0.out.cell_of hcell
  replace hb := Nat.lt_of_lt_of_le hb e0.out.le
  have hs1 : IntKind.i64.wrap (cr - x.tilt[k]) = cr - x.tilt[k] := IntWalk.i64_in _ (by omega)
  have hs2 : IntKind.i64.wrap ((x.layers.length : Int) - 1) = (x.layers.length : Int) - 1 := IntWalk.i64_in _ (by omega)
  refine wp_region_over_all (by kernel_rfl) (by kernel_rfl) ?_
  repeat (quiet_step (fail))
  refine wpQuiet_nil ?_
  rintro _ ⟨x1, rfl⟩
  generalize hw1 : W0.over x1 = w1
  have hx : Ext W0 w1 := by rw [← hw1]; exact W0.over_ext x1
  clear hw1
  replace b00 := hx.cell_of b00
  replace b01 := hx.cell_of b01
  replace b02 := hx.cell_of b02
  replace b10 := hx.cell_of b10
  replace b11 := hx.cell_of b11
  replace hcell := hx.cell_of hcell
  replace q0 := Nat.lt_of_lt_of_le q0 hx.le
  replace q1 := Nat.lt_of_lt_of_le q1 hx.le
  replace hb := Nat.lt_of_lt_of_le hb hx.le
  have e1 := Lib.hid (e0.out.trans hx)
  clear hx e0
  clear hs1 hs2
  go_wp2_with fail
  all_goals go_ret
  all_goals exact ⟨ret_int (by rw [← HL.out]; omega), e1.out⟩
set_option maxRecDepth 100000 in
set_option maxHeartbeats 1000000 in
theorem step_any (la ta : Option Addr) (lc tc : Nat) (x : Grid) (a b : Cel) (w : World) (hg : GridAt w la ta x) (v : Valid x) (h1 : 0 ≤ a.col) (h2 : a.col < x.tilt.length) (h3 : -1000000 ≤ a.row) (h4 : a.row ≤ 1000000) (g1 : 0 ≤ b.col) (g2 : b.col < x.tilt.length) (g3 : -1000000 ≤ b.row) (g4 : b.row ≤ 1000000) :
    Calls Tryz.prog 92 #[.agg #[.slice la x.layers.length lc, .int .i64 x.rows, .slice ta x.tilt.length tc], .agg #[.int .i64 a.col, .int .i64 a.row], .agg #[.int .i64 b.col, .int .i64 b.row]] w fun e w' => e = .returned (.int .i64 (stepI x a b)) ∧ Ext w w' := by
  have HG := Lib.hid hg
  have HV := Lib.hid v
  have la1 := layerI_bd v a
  have la2 := layerI_bd v b
  have da1 := delayAt_bd v a
  have da2 := delayAt_bd v b
  have hl1 := v.l1
  obtain ⟨ka, ha⟩ := Int.eq_ofNat_of_zero_le la1.1
  obtain ⟨kb, hb⟩ := Int.eq_ofNat_of_zero_le la2.1
  have hka : ka < x.layers.length := by omega
  have hkb : kb < x.layers.length := by omega
  have hda : delayAt x a = x.layers[ka].delay := by unfold delayAt; rw [ha, Int.toNat_natCast, List.getD_eq_getElem?_getD, List.getElem?_eq_getElem hka, Option.getD_some]
  have hdb : delayAt x b = x.layers[kb].delay := by unfold delayAt; rw [hb, Int.toNat_natCast, List.getD_eq_getElem?_getD, List.getElem?_eq_getElem hkb, Option.getD_some]
  rw [hda] at da1
  rw [hdb] at da2
  have HR : Hid (x.layers[ka].delay + x.layers[kb].delay = stepI x a b) := Lib.hid (by unfold stepI; rw [hda, hdb])
  have HA := Lib.hid ha
  have HB := Lib.hid hb
  clear hda hdb ha hb la1 la2
  obtain ⟨bl, off, rfl, hbl, hc⟩ := hg.layers.get Layer.enc_length (by decide) hka
  have ca : w.cell? ⟨bl, off + ka * 3, none⟩ = some (.int .i64 x.layers[ka].delay) := hc ka 0 hka (by decide)
  have cb : w.cell? ⟨bl, off + kb * 3, none⟩ = some (.int .i64 x.layers[kb].delay) := hc kb 0 hkb (by decide)
  clear hc hg v
  go_enter Tryz.func92, Tryz.ntmps92
  go_wp2_with fail
  generalize hW : World.alloc (World.alloc (World.alloc w _) _) _ = W0
  have e0 := Lib.hid (show Ext w W0 by rw [← hW]; exact ((Ext.alloc _ _).toAlloc _).toAlloc _)
  have q0 : w.heap.size < W0.heap.size := by rw [← hW]; simp <;> omega
  have b00 : W0.cell? ⟨w.heap.size, 0, none⟩ = some (.slice (some ⟨bl, off, none⟩) x.layers.length lc) := by rw [← hW]; exact ((Ext.alloc _ _).cell_of ((Ext.alloc _ _).cell_of ((World.cell_at (by simp)).trans rfl)))
  have b01 : W0.cell? ⟨w.heap.size, 1, none⟩ = some (.int .i64 x.rows) := by rw [← hW]; exact ((Ext.alloc _ _).cell_of ((Ext.alloc _ _).cell_of ((World.cell_at (by simp)).trans rfl)))
  have b02 : W0.cell? ⟨w.heap.size, 2, none⟩ = some (.slice ta x.tilt.length tc) := by rw [← hW]; exact ((Ext.alloc _ _).cell_of ((Ext.alloc _ _).cell_of ((World.cell_at (by simp)).trans rfl)))
  have q1 : w.heap.size + 1 < W0.heap.size := by rw [← hW]; simp <;> omega
  have b10 : W0.cell? ⟨w.heap.size + 1, 0, none⟩ = some (.int .i64 a.col) := by rw [← hW]; exact ((Ext.alloc _ _).cell_of ((World.cell_at (by simp)).trans rfl))
  have b11 : W0.cell? ⟨w.heap.size + 1, 1, none⟩ = some (.int .i64 a.row) := by rw [← hW]; exact ((Ext.alloc _ _).cell_of ((World.cell_at (by simp)).trans rfl))
  have q2 : w.heap.size + 1 + 1 < W0.heap.size := by rw [← hW]; simp <;> omega
  have b20 : W0.cell? ⟨w.heap.size + 1 + 1, 0, none⟩ = some (.int .i64 b.col) := by rw [← hW]; exact ((World.cell_at (by simp)).trans rfl)
  have b21 : W0.cell? ⟨w.heap.size + 1 + 1, 1, none⟩ = some (.int .i64 b.row) := by rw [← hW]; exact ((World.cell_at (by simp)).trans rfl)
  clear hW
  replace ca := e0.out.cell_of ca
  replace cb := e0.out.cell_of cb
  replace hbl := Nat.lt_of_lt_of_le hbl e0.out.le
  have hs1 : IntKind.i64.wrap (x.layers[ka].delay + x.layers[kb].delay) = x.layers[ka].delay + x.layers[kb].delay := IntWalk.i64_in _ (by omega)
  have LA : ∀ y, Calls Tryz.prog 127 #[.agg #[.slice (some ⟨bl, off, none⟩) x.layers.length lc, .int .i64 x.rows, .slice ta x.tilt.length tc], .agg #[.int .i64 a.col, .int .i64 a.row]] (W0.over y) fun e w' => e = .returned (.int .i64 ka) ∧ Ext (W0.over y) w' := fun y => by
    have := layer_any _ ta lc tc x a (W0.over y) (HG.out.ext (e0.out.trans (W0.over_ext y))) HV.out h1 h2 h3 h4
    rwa [HA.out] at this
  replace LA := Lib.hid LA
  have LB : ∀ y, Calls Tryz.prog 127 #[.agg #[.slice (some ⟨bl, off, none⟩) x.layers.length lc, .int .i64 x.rows, .slice ta x.tilt.length tc], .agg #[.int .i64 b.col, .int .i64 b.row]] (W0.over y) fun e w' => e = .returned (.int .i64 kb) ∧ Ext (W0.over y) w' := fun y => by
    have := layer_any _ ta lc tc x b (W0.over y) (HG.out.ext (e0.out.trans (W0.over_ext y))) HV.out g1 g2 g3 g4
    rwa [HB.out] at this
  replace LB := Lib.hid LB
  refine wp_region_over_all (by kernel_rfl) (by kernel_rfl) ?_
  iterate 5 (quiet_step ((go_at_call 127; exact Calls.over_ext (LA.out _))))
  repeat (quiet_step ((go_at_call 127; exact Calls.over_ext (LB.out _))))
  refine wpQuiet_nil ?_
  rintro _ ⟨x1, rfl⟩
  clear hs1
  go_wp2_with fail
  go_ret
  exact ⟨ret_int HR.out, e0.out.trans (W0.over_ext x1)⟩
end Go.Proofs.YtnmaabejdmaahaaGreatDoor.Ice
namespace Go
open Go.RowKit
theorem Ext.of_grown {w w' : World} (h : w.grownBy w' none) : Ext w w' := (Below.refl _ w).grown h (Nat.le_refl _) (fun _ e => by cases e)
theorem Ext.grown {w0 w w' : World} {row : Option Nat} (h : Ext w0 w) (hg : w.grownBy w' row) (hr : ∀ k, row = some k → w0.heap.size ≤ k) : Ext w0 w' := Below.grown h hg h.le hr
theorem Ext.grownBy {w w' : World} (h : Ext w w') (row : Option Nat) : w.grownBy w' row := ⟨h.os, h.tape, h.output, h.size, fun k hk _ => h.block k hk⟩
theorem World.grownBy.cellOf {w w' : World} {row : Option Nat} (hg : w.grownBy w' row) {b o : Nat} {v : Value} (h : w.cell? ⟨b, o, none⟩ = some v) (hne : some b ≠ row) : w'.cell? ⟨b, o, none⟩ = some v :=
  hg.cell h hne
theorem World.grownBy.row {w w' : World} {row : Option Nat} (hg : w.grownBy w' row) {a : Option Addr} {cs : List Value} (h : Row w a cs) (hne : ∀ x, a = some x → some x.block ≠ row) : Row w' a cs :=
  ⟨fun hn => let ⟨b, off, e, hb, hc⟩ := h.at_ hn; ⟨b, off, e, Nat.lt_of_lt_of_le hb hg.size, fun k hk => (World.cell?_of_block (w := w) (w' := w') (a := ⟨b, off + k, none⟩) (hg.block b hb (hne _ e))).trans (hc k hk)⟩⟩
theorem World.ownsRow.toRow {w : World} {base : Nat} {e : TypeId} {size : Nat} {a : Option Addr} {n c : Nat} {xs : List Value} (h : w.ownsRow base e size (.slice a n c) n xs) : Row w a xs := by
  refine ⟨fun hne => ?_⟩
  rcases h.2 with ⟨_, rfl⟩ | ⟨g, cap, cur, e1, _, hg, _⟩
  · have := h.1; simp at this; exact absurd this hne
  · simp only [Value.slice.injEq, true_and] at e1
    obtain ⟨rfl, rfl⟩ := e1
    have hlt : g < w.heap.size := (Array.getElem?_eq_some_iff.1 hg).1
    refine ⟨g, 0, rfl, hlt, fun k hk => ?_⟩
    rw [Nat.zero_add]
    exact h.cellAt k (by rw [← h.1]; exact hk)
theorem World.ownsRow.isSlice {w : World} {base : Nat} {e : TypeId} {size : Nat} {v : Value} {n : Nat} {xs : List Value} (h : w.ownsRow base e size v n xs) : ∃ a c, v = .slice a n c := by
  rcases h.2 with ⟨rfl, rfl⟩ | ⟨g, cap, cur, rfl, _⟩
  · exact ⟨none, 0, rfl⟩
  · exact ⟨_, _, rfl⟩
theorem World.ownsRow.ext {w w' : World} {base : Nat} {e : TypeId} {size : Nat} {v : Value} {n : Nat} {xs : List Value} (h : w.ownsRow base e size v n xs) (hx : Ext w w') : w'.ownsRow base e size v n xs := by
  refine h.kept (hx.grownBy none) ?_
  rcases h.2 with ⟨rfl, _⟩ | ⟨g, cap, cur, rfl, _⟩
  · exact .inl rfl
  · exact .inr (by simp [Value.ownBlock])
theorem World.ownsRow.below {w : World} {base base' : Nat} {e : TypeId} {size : Nat} {v : Value} {n : Nat} {xs : List Value} (h : w.ownsRow base e size v n xs) (hb : base' ≤ base) : w.ownsRow base' e size v n xs := by
  refine ⟨h.1, ?_⟩
  rcases h.2 with h2 | ⟨g, cap, cur, e1, h3, h4⟩
  · exact .inl h2
  · exact .inr ⟨g, cap, cur, e1, Nat.le_trans hb h3, h4⟩
theorem World.ownsRow.ge {w : World} {base : Nat} {e : TypeId} {size : Nat} {v : Value} {n : Nat} {xs : List Value} (h : w.ownsRow base e size v n xs) : ∀ k, v.ownBlock = some k → base ≤ k := fun k hk => (h.lt k hk).1
theorem run_append_none (P : Program) (w : World) (base : Nat) (t ty e : TypeId) (i : TypeInfo) (size c : Nat) (ht : P.underlying t = some (.slice e)) (hi : P.info? e = some i)
    (v : Value) (n : Nat) (xs : List Value) (hown : w.ownsRow base e size v n xs) :
    (Builtin.append_ #[t, t] ty #[v, .slice none 0 c]).run P w = .ok v w := by
  rcases hown.2 with ⟨rfl, rfl⟩ | ⟨g, cap, cur, rfl, _, _, hnc, _⟩
  · simp [Builtin.append_, run_underlying ht, sizeOf, typeInfo, hi, Builtin.lenOf, Builtin.firstCells]
  · simp [Builtin.append_, run_underlying ht, sizeOf, typeInfo, hi, Builtin.lenOf, Builtin.firstCells, hnc, storeCells]
theorem wpList_append_row {P : Program} {w : World} {ops : Array Oper} {rest : List Oper} {o : Oper} {a : Act} {Q : Exit → Act → World → Prop} (hgd : o.guard = none) (s x : Operand) (t : TypeId)
    (ho : o.op = .call { callee := .builtin .append, args := #[s, x], argTypes := #[t, t] })
    (base : Nat) (e : TypeId) (i : TypeInfo) (z : Value) (size bytes : Nat) (ht : P.underlying t = some (.slice e)) (hi : P.info? e = some i) (hz : i.zero = some z)
    (hsize : i.size = size) (hby : i.bytes = bytes) (hzs : z.cells.size = size) (hsz : 0 < size)
    (v : Value) (n : Nat) (xs : List Value) (hs : a.eval s = v) (hown : w.ownsRow base e size v n xs)
    (ad : Option Addr) (m c : Nat) (news : List Value) (hx : a.eval x = .slice ad m c) (hl : news.length = m * size) (hnews : Row w ad news) (h1 : ∀ u ∈ news, u.oneCell' = true)
    (h63 : n + m ≤ maxLen) (hbytes : (n + m) * bytes ≤ 140737488355328) (hbase : base ≤ w.heap.size)
    (h : ∀ v' w', w'.ownsRow base e size v' (n + m) (xs ++ news) → w.grownBy w' v.ownBlock → wpList P ops Q rest (a.put o.dst v') w') : wpList P ops Q (o :: rest) a w := by
  cases ad with
  | some ad =>
    obtain ⟨b, off, sp⟩ := ad
    by_cases hn : news = []
    · exact wpList_append_own w hgd s x t ho base e i z size bytes ht hi hz hsize hby hzs hsz v n xs hs hown _ m c news hx hl (fun j u hj => by rw [hn] at hj; simp at hj) h1 h63 hbytes hbase (fun v' w' a b _ => h v' w' a b)
    obtain ⟨b', off', e1, hb, hc⟩ := hnews.at_ hn
    cases e1
    refine wpList_append_own w hgd s x t ho base e i z size bytes ht hi hz hsize hby hzs hsz v n xs hs hown _ m c news hx hl (fun j u hj => ?_) h1 h63 hbytes hbase (fun v' w' a b _ => h v' w' a b)
    have hj' : j < news.length := (List.getElem?_eq_some_iff.1 hj).1
    have := hc j hj'
    rw [hj] at this
    unfold Addr.add
    split
    · subst j; simpa using this
    · exact this
  | none =>
    have hn : news = [] := Classical.byContradiction fun hne => by obtain ⟨_, _, e1, _⟩ := hnews.at_ hne; cases e1
    subst hn
    have hm : m = 0 := by
      rcases Nat.mul_eq_zero.1 (hl.symm.trans (by rfl)) with h | h
      · exact h
      · omega
    subst hm
    refine wpList_plain hgd fun K hK => ?_
    have hrun := run_append_none P w base t o.type e i size c ht hi v n xs hown
    unfold Oper.wp
    simp [execOp, ho, resolve, invoke, builtin, hs, hx, hrun, Result.andThen]
    exact hK _ _ (h v w (by simpa using hown) (World.grownBy.refl _ _))
theorem madeInts (n : Nat) : (madeCells #[Value.int .i64 0] n).toList = (List.replicate n (0 : Int)).flatMap (fun z => [Value.int .i64 z]) := by
  rw [toList_madeCells_one]
  induction n with
  | zero => rfl
  | succ n ih => simp [List.replicate_succ, List.flatMap_cons] at ih ⊢; exact ih
theorem flat_set (s : List Int) (k : Nat) (z : Int) : (s.flatMap (fun z => [Value.int .i64 z])).set k (.int .i64 z) = (s.set k z).flatMap (fun z => [Value.int .i64 z]) := by
  induction s generalizing k with
  | nil => simp
  | cons x s ih => cases k with
    | zero => simp [List.flatMap_cons]
    | succ k => simp [List.flatMap_cons] at ih ⊢; exact ih k
theorem flat_get (s : List Int) (k : Nat) (h : k < s.length) : (s.flatMap (fun z => [Value.int .i64 z]))[k]? = some (.int .i64 s[k]) := by
  have := flatMap_getElem? (enc := fun z => [Value.int .i64 z]) (s := 1) (fun _ => rfl) s k 0 h (by decide)
  simpa using this
theorem flat_len (s : List Int) : (s.flatMap (fun z => [Value.int .i64 z])).length = s.length := by
  rw [flatMap_length (s := 1) (fun _ => rfl), Nat.mul_one]
theorem World.cell_other {W : World} {b o b' o' : Nat} {v u : Value} (h : W.cell? ⟨b, o, none⟩ = some u) (hne : b ≠ b') : (W.setCell ⟨b', o', none⟩ v).cell? ⟨b, o, none⟩ = some u := by
  rw [World.cell?_setCell_other (h := fun e => hne (by cases e; rfl))]; exact h
theorem World.cell_same {W : World} {b o : Nat} {v u : Value} (h : W.cell? ⟨b, o, none⟩ = some u) : (W.setCell ⟨b, o, none⟩ v).cell? ⟨b, o, none⟩ = some v := World.cell?_setCell_same (h := h) ..
end Go
namespace Go.Proofs.YtnmaabejdmaahaaGreatDoor.Ice
open Go.RowKit Go.Proofs Go.Shelf
def restOf (l : Layer) (n : Int) : Int := n - n * l.loss / 1000
def lateOf (l : Layer) (n : Int) : Int := restOf l n * l.scatter / 1000
def spreadOne (l : Layer) (t : List Int) (s : List Int) (k : Nat) : List Int :=
  let n := t.getD k 0
  let s1 := s.set k (s.getD k 0 + (restOf l n - lateOf l n))
  let j := if k + 1 < t.length then k + 1 else t.length - 1
  s1.set j (s1.getD j 0 + lateOf l n)
def spreadTo (l : Layer) (t : List Int) : Nat → List Int
  | 0 => List.replicate t.length 0
  | k + 1 => spreadOne l t (spreadTo l t k) k
def spreadStep (l : Layer) (t : List Int) : List Int := spreadTo l t t.length
def layerAtI (x : Grid) (k : Int) : Layer := x.layers.getD k.toNat ⟨0, 0, 0⟩
def spreadL (x : Grid) (t : List Int) : List Int → List Int
  | [] => t
  | k :: ks => spreadL x (spreadStep (layerAtI x k) t) ks
theorem spreadL_snoc (x : Grid) (t : List Int) (l : List Int) (k : Int) : spreadL x t (l ++ [k]) = spreadStep (layerAtI x k) (spreadL x t l) := by
  induction l generalizing t with
  | nil => rfl
  | cons a l ih => exact ih _
theorem spreadTo_len (l : Layer) (t : List Int) (k : Nat) : (spreadTo l t k).length = t.length := by
  induction k with
  | zero => simp [spreadTo]
  | succ k ih => simp [spreadTo, spreadOne, ih]
theorem spreadStep_len (l : Layer) (t : List Int) : (spreadStep l t).length = t.length := spreadTo_len l t _
theorem spreadL_len (x : Grid) (t l : List Int) : (spreadL x t l).length = t.length := by
  induction l generalizing t with
  | nil => rfl
  | cons a l ih => rw [spreadL, ih, spreadStep_len]
def LayerV (l : Layer) : Prop := (0 ≤ l.loss ∧ l.loss ≤ 1000) ∧ 0 ≤ l.scatter ∧ l.scatter ≤ 1000
theorem mulfrac {n a : Int} (hn : 0 ≤ n) (ha : 0 ≤ a) (hb : a ≤ 1000) : 0 ≤ n * a / 1000 ∧ n * a / 1000 ≤ n := by
  have h1 : 0 ≤ n * a := Int.mul_nonneg hn ha
  have h2 : n * a ≤ n * 1000 := Int.mul_le_mul_of_nonneg_left hb hn
  omega
theorem rest_bd {l : Layer} (v : LayerV l) {n : Int} (hn : 0 ≤ n) : 0 ≤ restOf l n ∧ restOf l n ≤ n := by
  have := mulfrac hn v.1.1 v.1.2
  unfold restOf; omega
theorem late_bd {l : Layer} (v : LayerV l) {n : Int} (hn : 0 ≤ n) : 0 ≤ lateOf l n ∧ lateOf l n ≤ restOf l n :=
  mulfrac (rest_bd v hn).1 v.2.1 v.2.2
theorem sum_set : ∀ (s : List Int) (k : Nat) (z : Int), k < s.length → (s.set k z).sum = s.sum - s.getD k 0 + z
  | x :: s, 0, z, _ => by simp; omega
  | x :: s, k + 1, z, h => by have := sum_set s k z (by simpa using h); simp at this ⊢; omega
theorem sum_nonneg {s : List Int} (h : ∀ z ∈ s, 0 ≤ z) : 0 ≤ s.sum := by
  induction s with
  | nil => simp
  | cons x s ih => have := ih (fun z hz => h z (by simp [hz])); have := h x (by simp); simp; omega
theorem le_sum {s : List Int} (h : ∀ z ∈ s, 0 ≤ z) {z : Int} (hz : z ∈ s) : z ≤ s.sum := by
  induction s with
  | nil => cases hz
  | cons x s ih =>
    have h1 := sum_nonneg (s := s) (fun z hz => h z (by simp [hz]))
    have h2 := h x (by simp)
    rcases List.mem_cons.1 hz with rfl | hz
    · simp; omega
    · have := ih (fun z hz => h z (by simp [hz])) hz; simp; omega
theorem getD_mem0 {s : List Int} {k : Nat} {P : Int → Prop} (h : ∀ z ∈ s, P z) (h0 : P 0) : P (s.getD k 0) := by
  by_cases hk : k < s.length
  · rw [List.getD_eq_getElem?_getD, List.getElem?_eq_getElem hk, Option.getD_some]; exact h _ (List.getElem_mem hk)
  · rw [List.getD_eq_getElem?_getD, List.getElem?_eq_none (by omega), Option.getD_none]; exact h0
theorem set_all {s : List Int} {k : Nat} {z : Int} {P : Int → Prop} (h : ∀ z ∈ s, P z) (hz : P z) : ∀ y ∈ s.set k z, P y := fun y hy => by
  rcases List.mem_or_eq_of_mem_set hy with h' | rfl
  · exact h _ h'
  · exact hz
theorem take_sum_succ {t : List Int} {k : Nat} (hk : k < t.length) : (t.take (k + 1)).sum = (t.take k).sum + t.getD k 0 := by
  rw [List.take_succ_eq_append_getElem hk, List.sum_append, List.getD_eq_getElem?_getD, List.getElem?_eq_getElem hk]; simp
theorem take_sum_le {t : List Int} (h : ∀ z ∈ t, 0 ≤ z) (k : Nat) : (t.take k).sum ≤ t.sum := by
  have h1 := sum_nonneg (s := t.drop k) (fun z hz => h z (List.mem_of_mem_drop hz))
  have h2 : (t.take k).sum + (t.drop k).sum = t.sum := by rw [← List.sum_append, List.take_append_drop]
  omega
theorem spreadTo_bd {l : Layer} (v : LayerV l) {t : List Int} (ht : ∀ z ∈ t, 0 ≤ z) : ∀ k, k ≤ t.length → (∀ z ∈ spreadTo l t k, 0 ≤ z) ∧ (spreadTo l t k).sum ≤ (t.take k).sum
  | 0, _ => ⟨fun z hz => by simp [spreadTo] at hz; omega, by simp [spreadTo]⟩
  | k + 1, hk => by
    obtain ⟨h1, h2⟩ := spreadTo_bd v ht k (by omega)
    have hn : 0 ≤ t.getD k 0 := getD_mem0 ht (Int.le_refl 0)
    have r := rest_bd v hn
    have la := late_bd v hn
    have g1 := getD_mem0 (k := k) h1 (Int.le_refl 0)
    have hl := spreadTo_len l t k
    have a1 : ∀ z ∈ (spreadTo l t k).set k ((spreadTo l t k).getD k 0 + (restOf l (t.getD k 0) - lateOf l (t.getD k 0))), 0 ≤ z := set_all h1 (by omega)
    refine ⟨?_, ?_⟩
    · rw [spreadTo, spreadOne]
      exact set_all a1 (by have := getD_mem0 (k := if k + 1 < t.length then k + 1 else t.length - 1) a1 (Int.le_refl 0); omega)
    · rw [spreadTo, spreadOne, sum_set _ _ _ (by simp [hl]; split <;> omega), sum_set _ _ _ (by omega), take_sum_succ (by omega)]
      omega
theorem spreadStep_bd {l : Layer} (v : LayerV l) {t : List Int} (ht : ∀ z ∈ t, 0 ≤ z) : (∀ z ∈ spreadStep l t, 0 ≤ z) ∧ (spreadStep l t).sum ≤ t.sum := by
  have := spreadTo_bd v ht t.length (Nat.le_refl _)
  rw [List.take_length] at this
  exact this
theorem layerAtI_v {x : Grid} (v : Valid x) {k : Int} (h0 : 0 ≤ k) (hk : k < x.layers.length) : LayerV (layerAtI x k) := by
  have h : k.toNat < x.layers.length := by omega
  unfold layerAtI
  rw [List.getD_eq_getElem?_getD, List.getElem?_eq_getElem h, Option.getD_some]
  exact (v.lay _ (List.getElem_mem h)).2
theorem spreadL_bd {x : Grid} (v : Valid x) : ∀ (l t : List Int), (∀ k ∈ l, 0 ≤ k ∧ k < x.layers.length) → (∀ z ∈ t, 0 ≤ z) → (∀ z ∈ spreadL x t l, 0 ≤ z) ∧ (spreadL x t l).sum ≤ t.sum
  | [], t, _, ht => ⟨ht, Int.le_refl _⟩
  | k :: l, t, hl, ht => by
    have hk := hl k (by simp)
    obtain ⟨h1, h2⟩ := spreadStep_bd (layerAtI_v v hk.1 hk.2) ht
    obtain ⟨h3, h4⟩ := spreadL_bd v l _ (fun k hk => hl k (by simp [hk])) h1
    exact ⟨h3, Int.le_trans h4 h2⟩
theorem Tryz.info3 : (Tryz.prog.info? 3).map (fun i => (i.zero, i.size, i.bytes)) = some (some (.int .i64 0), 1, 8) := by kernel_rfl
theorem cells_own {w : World} {base g n : Nat} {s : List Int} (h : w.ownsRow base 3 1 (.slice (some ⟨g, 0, none⟩) n n) n (s.flatMap encI)) {j : Nat} (hj : j < s.length) : w.cell? ⟨g, j, none⟩ = some (.int .i64 s[j]) := by
  have hl := h.1
  have : (s.flatMap encI).length = s.length := flat_len s
  rw [h.cellAt j (by omega)]
  exact flat_get s j hj
theorem store_own {w : World} {base g n : Nat} {s : List Int} (h : w.ownsRow base 3 1 (.slice (some ⟨g, 0, none⟩) n n) n (s.flatMap encI)) (j : Nat) (z : Int) :
    (w.setCell ⟨g, j, none⟩ (.int .i64 z)).ownsRow base 3 1 (.slice (some ⟨g, 0, none⟩) n n) n ((s.set j z).flatMap encI) ∧ w.grownBy (w.setCell ⟨g, j, none⟩ (.int .i64 z)) (some g) := by
  have := h.stored j (.int .i64 z)
  rw [show (s.flatMap encI).set j (.int .i64 z) = (s.set j z).flatMap encI from flat_set s j z] at this
  exact this
theorem getD_get {s : List Int} {k : Nat} (h : k < s.length) : s.getD k 0 = s[k] := by rw [List.getD_eq_getElem?_getD, List.getElem?_eq_getElem h, Option.getD_some]
set_option maxRecDepth 100000 in
set_option maxHeartbeats 1000000 in
theorem spread_any (la ta : Option Addr) (lc tc : Nat) (x : Grid) (ta0 la0 : Option Addr) (tc0 lc0 : Nat) (t l : List Int) (w : World) (hg : GridAt w la ta x) (v : Valid x) (ht : RowS encI w ta0 t) (hl : RowS encI w la0 l) (hn : t.length ≤ 1000000) (hm : l.length ≤ 1000000) (hk : ∀ k ∈ l, 0 ≤ k ∧ k < x.layers.length) (htp : ∀ z ∈ t, 0 ≤ z) (hts : t.sum ≤ 1000000000) :
    Calls Tryz.prog 65 #[.agg #[.slice la x.layers.length lc, .int .i64 x.rows, .slice ta x.tilt.length tc], .slice ta0 t.length tc0, .slice la0 l.length lc0] w fun e w' => ∃ a c, e = .returned (.slice a t.length c) ∧ RowS encI w' a (spreadL x t l) ∧ Ext w w' := by
  have HG := Lib.hid hg
  have HV := Lib.hid v
  have HT := Lib.hid ht
  have HK := Lib.hid hk
  have HL := Lib.hid hl
  have HTP := Lib.hid htp
  have HTS := Lib.hid hts
  obtain ⟨i0, hi, hz0, hz1, hz2⟩ := info_parts Tryz.info3
  have HI := Lib.hid hi
  have HZ0 := Lib.hid hz0
  have HZ1 := Lib.hid hz1
  have HZ2 := Lib.hid hz2
  clear hg v ht hl hk htp hts hi hz0 hz1 hz2
  go_enter Tryz.func65, Tryz.ntmps65
  go_wp2_with fail
  generalize hW : World.alloc w _ = W0
  have e0 := Lib.hid (show Ext w W0 by rw [← hW]; exact Ext.alloc _ _)
  have q0 : w.heap.size < W0.heap.size := by rw [← hW]; simp <;> omega
  have b00 : W0.cell? ⟨w.heap.size, 0, none⟩ = some (.slice la x.layers.length lc) := by rw [← hW]; exact ((World.cell_at (by simp)).trans rfl)
  have b01 : W0.cell? ⟨w.heap.size, 1, none⟩ = some (.int .i64 x.rows) := by rw [← hW]; exact ((World.cell_at (by simp)).trans rfl)
  have b02 : W0.cell? ⟨w.heap.size, 2, none⟩ = some (.slice ta x.tilt.length tc) := by rw [← hW]; exact ((World.cell_at (by simp)).trans rfl)
  clear hW
  have HB0 := Lib.hid b00
  have HQ0 := Lib.hid q0
  clear b00 b01 b02 q0
  go_loopw [1, 15] (fun v i wr => ∃ (k : Nat) (a : Option Addr) (c : Nat), k ≤ l.length ∧ i = .int .i64 k ∧ v = .slice a t.length c ∧ Hid (RowS encI wr a (spreadL x t (l.take k))) ∧ Hid (Ext W0 wr)) (fun _ i _ => l.length - (intOf i).toNat)
  case atStart => exact ⟨0, ta0, tc0, Nat.zero_le _, rfl, rfl, Lib.hid (HT.out.ext e0.out), Lib.hid (Ext.refl _)⟩
  case round =>
    obtain ⟨k, a, c, hk, rfl, rfl, HR, Hx⟩ := hrel
    by_cases hlt : k < l.length
    · obtain ⟨wo, rfl⟩ : ∃ wo : World, wo = wr := ⟨_, rfl⟩
      obtain ⟨bl, off, rfl, hb, hc⟩ := (HL.out.ext (e0.out.trans Hx.out)).get encI_length (by decide) hlt
      obtain ⟨hk0, hk1⟩ := HK.out _ (List.getElem_mem hlt)
      obtain ⟨kk, hkk⟩ := Int.eq_ofNat_of_zero_le hk0
      have hkl : kk < x.layers.length := by omega
      have cl : wo.cell? ⟨bl, off + k, none⟩ = some (.int .i64 kk) := by have := hc k 0 hlt (by decide); rw [Nat.mul_one] at this; rw [← hkk]; exact this
      have HKK := Lib.hid hkk
      clear hkk hk0 hk1 hc hb
      have LV : LayerV x.layers[kk] := (HV.out.lay _ (List.getElem_mem hkl)).2
      have CUR : ∃ cur, cur = spreadL x t (l.take k) ∧ cur.length = t.length ∧ (∀ z ∈ cur, 0 ≤ z) ∧ cur.sum ≤ 1000000000 := by
        have := spreadL_bd HV.out (l.take k) t (fun j hj => HK.out j (List.mem_of_mem_take hj)) HTP.out
        exact ⟨_, rfl, spreadL_len _ _ _, this.1, Int.le_trans this.2 HTS.out⟩
      obtain ⟨cur, hcur, hcl, hcp, hcs⟩ := CUR
      rw [← hcur] at HR
      have HCUR := Lib.hid hcur
      have HCL := Lib.hid hcl
      have HCP := Lib.hid hcp
      clear hcur hcl hcp
      have Hn0 : t.length ≤ 281474976710656 := by omega
      go_wp2_with (refine wpList_make_full _ rfl (.tmp 20) (.tmp 20) 43 rfl wo.heap.size 3 i0 (.int .i64 0) 1 Tryz.underlying43 HI.out HZ0.out HZ1.out .i64 .i64 t.length t.length t.length rfl rfl rfl rfl ?m1 ?m2 (Nat.le_refl _) ?_)
      case m1 => rw [HZ2.out]; omega
      case m2 => unfold maxLen; omega
      intro w1 hown hgrow
      rw [madeInts] at hown
      replace hown := Lib.hid hown
      have hx1 := Lib.hid (Ext.of_grown hgrow)
      clear hgrow cl
      have hgs : Hid (W0.heap.size ≤ wo.heap.size) := Lib.hid Hx.out.le
      have HR1 := Lib.hid (HR.out.ext hx1.out)
      obtain ⟨bb, boff, hbb, hbl2, hlay⟩ := (HG.out.layers.ext (e0.out.trans (Hx.out.trans hx1.out))).get Layer.enc_length (by decide) hkl
      have cl1 : w1.cell? ⟨bb, boff + kk * 3 + 1, none⟩ = some (.int .i64 x.layers[kk].loss) := hlay kk 1 hkl (by decide)
      have cl2 : w1.cell? ⟨bb, boff + kk * 3 + 2, none⟩ = some (.int .i64 x.layers[kk].scatter) := hlay kk 2 hkl (by decide)
      have cl1' := Lib.hid cl1
      have cl2' := Lib.hid cl2
      have bbw := Lib.hid (show bb < w.heap.size from ?bw)
      case bw =>
        obtain ⟨b1, o1, e1, h1, _⟩ := HG.out.layers.get Layer.enc_length (by decide) hkl
        rw [hbb] at e1; cases e1; exact h1
      have cb0' := Lib.hid ((Hx.out.trans hx1.out).cell_of HB0.out)
      subst hbb
      clear hlay hbl2 cl1 cl2
      go_wp2_with fail
      have HW0 := Lib.hid (show w.heap.size < wo.heap.size from Nat.lt_of_lt_of_le HQ0.out Hx.out.le)
      go_loopw [24] (fun i wr => ∃ j : Nat, j ≤ t.length ∧ i = .int .i64 j ∧ Hid (wr.ownsRow wo.heap.size 3 1 (.slice (some ⟨wo.heap.size, 0, none⟩) t.length t.length) t.length ((spreadTo x.layers[kk] cur j).flatMap encI)) ∧ Hid (w1.grownBy wr (some wo.heap.size))) (fun i _ => t.length - (intOf i).toNat)
      case atStart => exact ⟨0, Nat.zero_le _, rfl, by rw [spreadTo, HCL.out]; exact hown, Lib.hid (World.grownBy.refl _ _)⟩
      case round =>
        obtain ⟨j, hj, rfl, hown2, hg2⟩ := hrel
        by_cases hjt : j < t.length
        · obtain ⟨s, hs⟩ : ∃ s, s = spreadTo x.layers[kk] cur j := ⟨_, rfl⟩
          rw [← hs] at hown2
          have hsl : s.length = t.length := by rw [hs, spreadTo_len, HCL.out]
          obtain ⟨sp, ss⟩ : (∀ z ∈ s, 0 ≤ z) ∧ s.sum ≤ 1000000000 := by
            have := spreadTo_bd LV HCP.out j (by rw [HCL.out]; omega)
            rw [hs]; exact ⟨this.1, Int.le_trans this.2 (Int.le_trans (take_sum_le HCP.out j) hcs)⟩
          have hjc : j < cur.length := by rw [HCL.out]; exact hjt
          have hjs : j < s.length := by omega
          obtain ⟨ab, aoff, rfl, hab, hac⟩ := HR.out.get encI_length (by decide) hjc
          have ct : wr.cell? ⟨ab, aoff + j, none⟩ = some (.int .i64 cur[j]) := by
            have := hac j 0 hjc (by decide); rw [Nat.mul_one] at this
            exact hg2.out.cellOf (hx1.out.cell_of this) (by simp; omega)
          have cx : wr.cell? ⟨w.heap.size, 0, none⟩ = some (.slice (some ⟨bb, boff, none⟩) x.layers.length lc) := hg2.out.cellOf cb0'.out (by have := HW0.out; simp; omega)
          have cl1 := hg2.out.cellOf cl1'.out (by have := HW0.out; have := bbw.out; simp; omega)
          have cl2 := hg2.out.cellOf cl2'.out (by have := HW0.out; have := bbw.out; simp; omega)
          have cs : wr.cell? ⟨wo.heap.size, j, none⟩ = some (.int .i64 s[j]) := cells_own hown2.out hjs
          have cf : ∀ j, wr.frozen? ⟨wo.heap.size, j, none⟩ = false := fun j => hown2.out.frozenAt j
          have n0 : 0 ≤ cur[j] := HCP.out _ (List.getElem_mem hjc)
          have n1 : cur[j] ≤ 1000000000 := Int.le_trans (le_sum HCP.out (List.getElem_mem hjc)) hcs
          have s0 : 0 ≤ s[j] := sp _ (List.getElem_mem hjs)
          have s1 : s[j] ≤ 1000000000 := Int.le_trans (le_sum sp (List.getElem_mem hjs)) ss
          obtain ⟨r0, r1⟩ := rest_bd LV n0
          obtain ⟨l0, l1⟩ := late_bd LV n0
          unfold restOf at r0 r1
          unfold lateOf restOf at l0 l1
          obtain ⟨⟨lo0, lo1⟩, sc0, sc1⟩ := LV
          have m1 : 0 ≤ cur[j] * x.layers[kk].loss := Int.mul_nonneg n0 lo0
          have m2 : cur[j] * x.layers[kk].loss ≤ 1000000000000 := Int.le_trans (Int.mul_le_mul n1 lo1 lo0 (by omega)) (by decide)
          have m3 : 0 ≤ (cur[j] - cur[j] * x.layers[kk].loss / 1000) * x.layers[kk].scatter := Int.mul_nonneg r0 sc0
          have m4 : (cur[j] - cur[j] * x.layers[kk].loss / 1000) * x.layers[kk].scatter ≤ 1000000000000 := Int.le_trans (Int.mul_le_mul (Int.le_trans r1 n1) sc1 sc0 (by omega)) (by decide)
          have HOUT : ∀ j2, (hj2 : j2 < s.length) → j2 = (if j + 1 < t.length then j + 1 else t.length - 1) → ∀ V V2, V = s[j] + (cur[j] - cur[j] * x.layers[kk].loss / 1000 - (cur[j] - cur[j] * x.layers[kk].loss / 1000) * x.layers[kk].scatter / 1000) →
              V2 = (s.set j V)[j2]'(by simpa using hj2) + (cur[j] - cur[j] * x.layers[kk].loss / 1000) * x.layers[kk].scatter / 1000 →
              ((wr.setCell ⟨wo.heap.size, j, none⟩ (.int .i64 V)).setCell ⟨wo.heap.size, j2, none⟩ (.int .i64 V2)).ownsRow wo.heap.size 3 1 (.slice (some ⟨wo.heap.size, 0, none⟩) t.length t.length) t.length ((spreadTo x.layers[kk] cur (j + 1)).flatMap encI) ∧
              w1.grownBy ((wr.setCell ⟨wo.heap.size, j, none⟩ (.int .i64 V)).setCell ⟨wo.heap.size, j2, none⟩ (.int .i64 V2)) (some wo.heap.size) := by
            intro j2 hj2 ej V V2 eV eV2
            obtain ⟨o1, g1⟩ := store_own hown2.out j V
            obtain ⟨o2, g2⟩ := store_own o1 j2 V2
            refine ⟨?_, (hg2.out.trans g1).trans g2⟩
            rw [spreadTo, ← hs, spreadOne]
            simp only [HCL.out, ← ej, getD_get hjc, getD_get hjs, restOf, lateOf]
            rw [← eV, getD_get (by simpa using hj2), ← eV2]
            exact o2
          replace HOUT := Lib.hid HOUT
          have HS := Lib.hid hs
          have HSL := Lib.hid hsl
          clear hs hsl sp ss hac
          by_cases hlast : j + 1 < t.length
          · have hj1 : j + 1 < s.length := by rw [HSL.out]; exact hlast
            have cs2 : ∀ V, (wr.setCell ⟨wo.heap.size, j, none⟩ (.int .i64 V)).cell? ⟨wo.heap.size, j + 1, none⟩ = some (.int .i64 s[j + 1]) := fun V => by
              have := cells_own (store_own hown2.out j V).1 (j := j + 1) (by simpa using hj1)
              rw [this, List.getElem_set_ne (by omega)]
            have s2 : 0 ≤ s[j + 1] ∧ s[j + 1] ≤ 1000000000 := by
              have := spreadTo_bd (l := x.layers[kk]) ⟨⟨lo0, lo1⟩, sc0, sc1⟩ HCP.out j (by rw [HCL.out]; omega)
              rw [← HS.out] at this
              exact ⟨this.1 _ (List.getElem_mem hj1), Int.le_trans (le_sum this.1 (List.getElem_mem hj1)) (Int.le_trans this.2 (Int.le_trans (take_sum_le HCP.out j) hcs))⟩
            obtain ⟨s20, s21⟩ := s2
            go_wp2_with fail
            go_roundw
            case rel =>
              have := HOUT.out (j + 1) hj1 (by rw [if_pos hlast]) _ _ rfl (by rw [List.getElem_set_ne (by omega)])
              exact ⟨j + 1, by omega, by go_num, Lib.hid this.1, Lib.hid this.2⟩
            case measure => simp [intOf]; omega
          · have hje : t.length - 1 = j := by omega
            go_wp2_with fail
            go_roundw
            case rel =>
              have := HOUT.out j hjs (by rw [if_neg hlast]; omega) _ _ rfl (by rw [List.getElem_set_self])
              exact ⟨j + 1, by omega, by go_num, Lib.hid this.1, Lib.hid this.2⟩
            case measure => simp [intOf]; omega
        · have hje : j = t.length := by omega
          have hown3 : Hid (wr.ownsRow wo.heap.size 3 1 (.slice (some ⟨wo.heap.size, 0, none⟩) t.length t.length) t.length ((spreadStep x.layers[kk] cur).flatMap encI)) := by
            have := hown2
            rw [hje, ← HCL.out] at this
            rw [spreadStep, ← HCL.out]
            exact this
          clear hje hown2
          go_wp2_with fail
          go_roundw
          case rel =>
            refine ⟨k + 1, _, _, by omega, by go_num, rfl, Lib.hid ?_, Lib.hid ((Hx.out.trans hx1.out).grown hg2.out (fun b e => by cases e; exact hgs.out))⟩
            rw [List.take_succ_eq_append_getElem hlt, spreadL_snoc, ← HCUR.out, HKK.out]
            rw [show layerAtI x (kk : Int) = x.layers[kk] by unfold layerAtI; rw [Int.toNat_natCast, List.getD_eq_getElem?_getD, List.getElem?_eq_getElem hkl, Option.getD_some]]
            exact hown3.out.toRow
          case measure => simp [intOf]; omega
    · go_wp2_with fail
      go_ret
      refine ⟨_, _, rfl, ?_, e0.out.trans Hx.out⟩
      have := HR.out
      rwa [List.take_of_length_le (by omega)] at this
end Go.Proofs.YtnmaabejdmaahaaGreatDoor.Ice
namespace Go.Proofs.YtnmaabejdmaahaaGreatDoor.Ice
open Go.RowKit Go.Proofs Go.Shelf
theorem Tryz.info103 : (Tryz.prog.info? 103).map (fun i => (i.zero, i.size, i.bytes)) = some (some (.agg #[.int .i64 0, .int .i64 0, .int .i64 0]), 3, 24) := by kernel_rfl
theorem encI_one (l : List Int) : ∀ u ∈ l.flatMap encI, u.oneCell' = true := by
  intro u hu
  obtain ⟨z, _, h⟩ := List.mem_flatMap.1 hu
  simp [encI] at h
  subst h; rfl
theorem encL_one (l : List Layer) : ∀ u ∈ l.flatMap Layer.enc, u.oneCell' = true := by
  intro u hu
  obtain ⟨z, _, h⟩ := List.mem_flatMap.1 hu
  simp [Layer.enc] at h
  rcases h with rfl | rfl | rfl <;> rfl
set_option maxRecDepth 100000 in
set_option maxHeartbeats 1000000 in
theorem cloneInt (a : Option Addr) (l : List Int) (c : Nat) (w : World) (hr : RowS encI w a l) (hl : l.length ≤ 1000000) :
    Calls Tryz.prog 157 #[.slice a l.length c] w fun e w' => ∃ a' c', e = .returned (.slice a' l.length c') ∧ w'.ownsRow w.heap.size 3 1 (.slice a' l.length c') l.length (l.flatMap encI) ∧ Ext w w' := by
  obtain ⟨i0, hi, hz0, hz1, hz2⟩ := info_parts Tryz.info3
  have HI := Lib.hid hi
  have HZ0 := Lib.hid hz0
  have HZ1 := Lib.hid hz1
  have HZ2 := Lib.hid hz2
  clear hi hz0 hz1 hz2
  have HR := Lib.hid hr
  clear hr
  have hnil := fun (w : World) (a : Option Addr) (n c : Nat) => Lib.run_eql_slice_nil (P := Tryz.prog) w 43 3 a n c 0 0 Tryz.underlying43
  cases ha : a with
  | none =>
    subst ha
    have hl : l = [] := Classical.byContradiction fun hne => by
      cases l with
      | nil => exact hne rfl
      | cons x l =>
        obtain ⟨_, _, e, _⟩ := HR.out.at_ (by simp [List.flatMap_cons, encI])
        cases e
    subst hl
    go_enter Tryz.func157, Tryz.ntmps157
    go_wp2_with fail
    go_ret
    exact ⟨none, 0, rfl, World.ownsRow_nil _ _ _ _, Ext.refl _⟩
  | some ad =>
    subst ha
    go_enter Tryz.func157, Tryz.ntmps157
    have hown0 := Lib.hid (World.ownsRow_lit (base := w.heap.size) (size := 1) (e := 3) w #[] 0 (Nat.le_refl _) (by decide) (by simp))
    go_wp2_with (refine wpList_append_row rfl (.tmp 5) (.tmp 6) 43 rfl w.heap.size 3 i0 (.int .i64 0) 1 8 Tryz.underlying43 HI.out HZ0.out HZ1.out HZ2.out rfl (by decide) _ 0 _ rfl hown0.out (some ad) l.length c (l.flatMap encI) rfl (flatMap_length encI_length l) (HR.out.ext (Ext.alloc _ _)) (encI_one l) ?m1 ?m2 ?m3 ?_)
    case m1 => unfold maxLen; omega
    case m2 => omega
    intro v' w1 hown hgrow
    have hx := Lib.hid ((Ext.alloc w _).grown hgrow (fun k e => by simp [Value.ownBlock] at e; omega))
    obtain ⟨a', c', rfl⟩ := hown.isSlice
    have HO := Lib.hid hown
    clear hown hgrow hown0
    go_wp2_with fail
    go_ret
    exact ⟨a', c', rfl, HO.out, hx.out⟩
set_option maxRecDepth 100000 in
set_option maxHeartbeats 1000000 in
theorem cloneLayer (a : Option Addr) (l : List Layer) (c : Nat) (w : World) (hr : RowS Layer.enc w a l) (hl : l.length ≤ 1000000) :
    Calls Tryz.prog 156 #[.slice a l.length c] w fun e w' => ∃ a' c', e = .returned (.slice a' l.length c') ∧ w'.ownsRow w.heap.size 103 3 (.slice a' l.length c') l.length (l.flatMap Layer.enc) ∧ Ext w w' := by
  obtain ⟨i0, hi, hz0, hz1, hz2⟩ := info_parts Tryz.info103
  have HI := Lib.hid hi
  have HZ0 := Lib.hid hz0
  have HZ1 := Lib.hid hz1
  have HZ2 := Lib.hid hz2
  clear hi hz0 hz1 hz2
  have HR := Lib.hid hr
  clear hr
  have hnil := fun (w : World) (a : Option Addr) (n c : Nat) => Lib.run_eql_slice_nil (P := Tryz.prog) w 42 103 a n c 0 0 Tryz.underlying42
  cases ha : a with
  | none =>
    subst ha
    have hl : l = [] := Classical.byContradiction fun hne => by
      cases l with
      | nil => exact hne rfl
      | cons x l =>
        obtain ⟨_, _, e, _⟩ := HR.out.at_ (by simp [List.flatMap_cons, Layer.enc])
        cases e
    subst hl
    go_enter Tryz.func156, Tryz.ntmps156
    go_wp2_with fail
    go_ret
    exact ⟨none, 0, rfl, World.ownsRow_nil _ _ _ _, Ext.refl _⟩
  | some ad =>
    subst ha
    go_enter Tryz.func156, Tryz.ntmps156
    have hown0 := Lib.hid (World.ownsRow_lit (base := w.heap.size) (size := 3) (e := 103) w #[] 0 (Nat.le_refl _) (by decide) (by simp))
    go_wp2_with (refine wpList_append_row rfl (.tmp 5) (.tmp 6) 42 rfl w.heap.size 103 i0 (.agg #[.int .i64 0, .int .i64 0, .int .i64 0]) 3 24 Tryz.underlying42 HI.out HZ0.out HZ1.out HZ2.out rfl (by decide) _ 0 _ rfl hown0.out (some ad) l.length c (l.flatMap Layer.enc) rfl (flatMap_length Layer.enc_length l) (HR.out.ext (Ext.alloc _ _)) (encL_one l) ?m1 ?m2 ?m3 ?_)
    case m1 => unfold maxLen; omega
    case m2 => omega
    intro v' w1 hown hgrow
    have hx := Lib.hid ((Ext.alloc w _).grown hgrow (fun k e => by simp [Value.ownBlock] at e; omega))
    obtain ⟨a', c', rfl⟩ := hown.isSlice
    have HO := Lib.hid hown
    clear hown hgrow hown0
    go_wp2_with fail
    go_ret
    exact ⟨a', c', rfl, HO.out, hx.out⟩
def beamL (n : Int) : List Int := (List.replicate 30 (0 : Int)).set 0 n
theorem beamL_len (n : Int) : (beamL n).length = 30 := by simp [beamL]
set_option maxRecDepth 100000 in
set_option maxHeartbeats 1000000 in
theorem flash_any (n : Int) (w : World) :
    Calls Tryz.prog 66 #[.int .i64 n] w fun e w' => ∃ a c, e = .returned (.slice a 30 c) ∧ RowS encI w' a (beamL n) ∧ Ext w w' := by
  obtain ⟨i0, hi, hz0, hz1, hz2⟩ := info_parts Tryz.info3
  have HI := Lib.hid hi
  have HZ0 := Lib.hid hz0
  have HZ1 := Lib.hid hz1
  have HZ2 := Lib.hid hz2
  clear hi hz0 hz1 hz2
  go_enter Tryz.func66, Tryz.ntmps66
  go_wp2_with (refine wpList_make_full _ rfl (.const (.int .i64 30)) (.const (.int .i64 30)) 43 rfl w.heap.size 3 i0 (.int .i64 0) 1 Tryz.underlying43 HI.out HZ0.out HZ1.out .i64 .i64 30 30 30 rfl rfl rfl rfl ?m1 (by decide) (Nat.le_refl _) ?_)
  case m1 => rw [HZ2.out]; omega
  intro w1 hown hgrow
  rw [madeInts] at hown
  have hx := Lib.hid (Ext.of_grown hgrow)
  have HO := Lib.hid (store_own hown 0 n)
  have c0 : w1.cell? ⟨w.heap.size, 0, none⟩ = some (.int .i64 0) := cells_own (s := List.replicate 30 0) hown (j := 0) (by simp)
  have f0 : w1.frozen? ⟨w.heap.size, 0, none⟩ = false := hown.frozenAt 0
  clear hown hgrow
  go_wp2_with fail
  go_ret
  exact ⟨_, _, rfl, HO.out.1.toRow, (hx.out).grown HO.out.2 (fun k e => by cases e; exact Nat.le_refl _)⟩
set_option maxRecDepth 100000 in
theorem ckLayerNo_any (B : Nat) (la : Option Addr) (n lc : Nat) (k : Int) (w : World) (hn : n ≤ 140737488355328) (hb : w.cell? ⟨B, 0, none⟩ = some (.slice la n lc)) : Calls Tryz.prog 94 #[.int .i64 k, .pointer (some ⟨B, 0, none⟩)] w fun e w' => e = .returned (.bool (!withinB k 0 ((n : Int) - 1))) ∧ Ext w w' := by
  go_enter Tryz.func94, Tryz.ntmps94
  go_wp2_with (go_at_call 69; refine (within_any _ _ _ _).mono ?_; rintro e w' ⟨rfl, rfl⟩)
  go_ret
  exact ⟨rfl, Ext.refl _⟩
def layersB (x : Grid) (l : List Int) : Bool := l.any fun k => !withinB k 0 ((x.layers.length : Int) - 1)
def layersErrE (x : Grid) (l : List Int) : Int := firstE [unlessE (decide ((l.length : Int) ≤ 40)) 8, unlessE (!layersB x l) 6]
set_option maxRecDepth 100000 in
set_option maxHeartbeats 1000000 in
theorem layersErr_any (la ta : Option Addr) (lc tc : Nat) (x : Grid) (la0 : Option Addr) (lc0 : Nat) (l : List Int) (w : World) (hg : GridAt w la ta x) (hl : RowS encI w la0 l) (hm : l.length ≤ 140737488355328) :
    Calls Tryz.prog 64 #[.agg #[.slice la x.layers.length lc, .int .i64 x.rows, .slice ta x.tilt.length tc], .slice la0 l.length lc0] w fun e w' => e = .returned (.int .i64 (layersErrE x l)) ∧ Ext w w' := by
  have HG := Lib.hid hg
  have h1 := hg.nl
  have HL := Lib.hid hl
  clear hg hl
  go_enter Tryz.func64, Tryz.ntmps64
  go_wp2_with fail
  generalize hW : World.alloc w _ = W0
  have e0 := Lib.hid (show Ext w W0 by rw [← hW]; exact Ext.alloc _ _)
  have q0 : w.heap.size < W0.heap.size := by rw [← hW]; simp <;> omega
  have b00 : W0.cell? ⟨w.heap.size, 0, none⟩ = some (.slice la x.layers.length lc) := by rw [← hW]; exact ((World.cell_at (by simp)).trans rfl)
  have b01 : W0.cell? ⟨w.heap.size, 1, none⟩ = some (.int .i64 x.rows) := by rw [← hW]; exact ((World.cell_at (by simp)).trans rfl)
  have b02 : W0.cell? ⟨w.heap.size, 2, none⟩ = some (.slice ta x.tilt.length tc) := by rw [← hW]; exact ((World.cell_at (by simp)).trans rfl)
  clear hW
  have HB0 := Lib.hid b00
  refine (containsInt (fun k => !withinB k 0 ((x.layers.length : Int) - 1)) 94 #[.pointer (some ⟨w.heap.size, 0, none⟩)] (enters_of Tryz.func94 (by kernel_rfl) rfl) la0 l lc0 W0 (by unfold maxLen; omega) (HL.out.ext e0.out) (fun k w' _ hx => ckLayerNo_any _ la _ lc k w' h1 (hx.cell_of HB0.out))).mono ?_
  rintro e w1 ⟨rfl, hx⟩
  replace b00 := hx.cell_of b00
  replace b01 := hx.cell_of b01
  replace b02 := hx.cell_of b02
  replace q0 := Nat.lt_of_lt_of_le q0 hx.le
  have e1 := Lib.hid (e0.out.trans hx)
  clear hx e0
  rw [show (l.any fun k => !withinB k 0 ((x.layers.length : Int) - 1)) = layersB x l from rfl]
  go_wp2_with (go_at_call 36; refine (unless_any _ _ _).mono ?_; rintro e w' ⟨rfl, rfl⟩)
  refine (first_two _ _ _).mono ?_
  rintro e w2 ⟨rfl, hw2⟩
  have hx : Ext w1 w2 := by rw [← hw2]; exact Ext.alloc _ _
  have e2 := Lib.hid (e1.out.trans hx)
  clear hw2 hx b00 b01 b02
  go_wp2_with fail
  go_ret
  exact ⟨rfl, e2.out⟩
theorem firstE_zero {l : List Int} : firstE l = 0 ↔ ∀ e ∈ l, e = 0 := by
  induction l with
  | nil => simp [firstE]
  | cons a l ih => unfold firstE; split <;> simp_all
theorem unlessE_zero {b : Bool} {k : Int} (hk : k ≠ 0) : unlessE b k = 0 ↔ b = true := by cases b <;> simp [unlessE, hk]
theorem cellB_valid {x : Grid} {c : Cel} (v : Valid x) : cellB x c = true ↔ (0 ≤ c.col ∧ c.col < x.tilt.length) ∧ 0 ≤ c.row ∧ c.row < x.rows := by
  have h1 := v.r1
  have h2 := v.r12
  unfold cellB withinB
  rw [IntWalk.wrap64_in _ ⟨by omega, by omega⟩]
  simp
  omega
end Go.Proofs.YtnmaabejdmaahaaGreatDoor.Ice
namespace Go
open Go.RowKit
def Obj.stays : Obj → Bool
  | .loop .. => false
  | .deferred .. => false
  | _ => true
structure KeepsP (s : Obj → Bool) (B : Nat) (A A' : World) : Prop where
  os : A'.os = A.os
  tape : A'.tape = A.tape
  output : A'.output = A.output
  size : A.heap.size ≤ A'.heap.size
  same : ∀ (j : Nat) (o : Obj), A.heap[j]? = some o → (j < B ∨ s o = true) → A'.heap[j]? = some o
abbrev Keeps := KeepsP Obj.isCells
theorem Ext.heap {A A' : World} (h : Ext A A') {j : Nat} {o : Obj} (hj : A.heap[j]? = some o) : A'.heap[j]? = some o :=
  (h.block j (Array.getElem?_eq_some_iff.1 hj).1).trans hj
theorem Ext.keepsP {s : Obj → Bool} {A A' : World} (h : Ext A A') (B : Nat) : KeepsP s B A A' := ⟨h.os, h.tape, h.output, h.size, fun _ _ hj _ => h.heap hj⟩
theorem Ext.keeps {A A' : World} (h : Ext A A') (B : Nat) : Keeps B A A' := h.keepsP B
theorem KeepsP.putObj {s : Obj → Bool} {B : Nat} (W : World) {l : Nat} {o : Obj} (o' : Obj) (hB : B ≤ l) (hl : W.heap[l]? = some o) (ho : s o = false) : KeepsP s B W (W.putObj l o') :=
  ⟨rfl, rfl, rfl, by simp, fun j o2 hj hc => by
    by_cases e : j = l
    · subst e
      rw [hl] at hj; cases hj
      rcases hc with hc | hc
      · omega
      · rw [ho] at hc; cases hc
    · exact (World.putObj_heap_other e).trans hj⟩
theorem Keeps.putObj {B : Nat} (W : World) {l : Nat} {o : Obj} (o' : Obj) (hB : B ≤ l) (hl : W.heap[l]? = some o) (ho : o.isCells = false) : Keeps B W (W.putObj l o') := KeepsP.putObj W o' hB hl ho
theorem KeepsP.trans {s : Obj → Bool} {B : Nat} {a b c : World} (h : KeepsP s B a b) (k : KeepsP s B b c) : KeepsP s B a c :=
  ⟨k.os.trans h.os, k.tape.trans h.tape, k.output.trans h.output, Nat.le_trans h.size k.size, fun j o hj hc => k.same j o (h.same j o hj hc) hc⟩
theorem KeepsP.cell {s : Obj → Bool} (hs : ∀ c t f, s (.cells c t f) = true) {B : Nat} {A A' : World} (h : KeepsP s B A A') {b o : Nat} {v : Value} (hc : A.cell? ⟨b, o, none⟩ = some v) : A'.cell? ⟨b, o, none⟩ = some v := by
  unfold World.cell? at hc ⊢
  cases ho : A.heap[b]? with
  | none => simp [ho] at hc
  | some x =>
    cases x with
    | cells c t f =>
      rw [h.same b _ ho (.inr (hs _ _ _))]
      simp only [ho] at hc
      exact hc
    | _ => simp [ho] at hc
theorem Keeps.trans {B : Nat} {a b c : World} (h : Keeps B a b) (k : Keeps B b c) : Keeps B a c :=
  ⟨k.os.trans h.os, k.tape.trans h.tape, k.output.trans h.output, Nat.le_trans h.size k.size, fun j o hj hc => k.same j o (h.same j o hj hc) hc⟩
theorem Keeps.cell {B : Nat} {A A' : World} (h : Keeps B A A') {b o : Nat} {v : Value} (hc : A.cell? ⟨b, o, none⟩ = some v) : A'.cell? ⟨b, o, none⟩ = some v := by
  unfold World.cell? at hc ⊢
  cases ho : A.heap[b]? with
  | none => simp [ho] at hc
  | some x =>
    cases x with
    | cells c t f =>
      rw [h.same b _ ho (.inr rfl)]
      simp only [ho] at hc
      exact hc
    | _ => simp [ho] at hc
theorem Keeps.frozen {B : Nat} {A A' : World} (h : Keeps B A A') {b o : Nat} {v : Value} (hc : A.cell? ⟨b, o, none⟩ = some v) (hf : A.frozen? ⟨b, o, none⟩ = false) : A'.frozen? ⟨b, o, none⟩ = false := by
  unfold World.cell? at hc
  unfold World.frozen? at hf ⊢
  cases ho : A.heap[b]? with
  | none => simp [ho] at hc
  | some x =>
    cases x with
    | cells c t f =>
      rw [h.same b _ ho (.inr rfl)]
      simp only [ho] at hf
      exact hf
    | _ => simp [ho] at hc
theorem Keeps.ext {B : Nat} {w A A' : World} (h : Keeps B A A') (he : Ext w A) (hB : w.heap.size ≤ B) : Ext w A' :=
  ⟨h.os.trans he.os, h.tape.trans he.tape, h.output.trans he.output, Nat.le_trans he.size h.size, fun j hj => by
    have h1 := he.block j hj
    cases ho : w.heap[j]? with
    | none => have := Array.getElem?_eq_none_iff.1 ho; omega
    | some o =>
      rw [ho] at h1
      exact h.same j o h1 (.inl (by omega))⟩
theorem Keeps.below {B n : Nat} {A A' : World} (h : Keeps B A A') (hB : n ≤ B) (hn : n ≤ A.heap.size) : Below n A A' :=
  ⟨h.os, h.tape, h.output, h.size, fun j hj => by
    cases ho : A.heap[j]? with
    | none => have := Array.getElem?_eq_none_iff.1 ho; omega
    | some o => exact h.same j o ho (.inl (by omega))⟩
theorem Keeps.heap {B : Nat} {A A' : World} (h : Keeps B A A') {j : Nat} {o : Obj} (hj : j < B) (ho : A.heap[j]? = some o) : A'.heap[j]? = some o := h.same j o ho (.inl hj)
theorem Keeps.row {B : Nat} {A A' : World} (h : Keeps B A A') {a : Option Addr} {cs : List Value} (hr : Row A a cs) : Row A' a cs :=
  ⟨fun hn => let ⟨b, off, e, hb, hc⟩ := hr.at_ hn; ⟨b, off, e, Nat.lt_of_lt_of_le hb h.size, fun k hk => by
    have := hc k hk
    rw [List.getElem?_eq_getElem hk] at this ⊢
    exact h.cell this⟩⟩
theorem Keeps.ownsRow {B : Nat} {A A' : World} (h : Keeps B A A') {base : Nat} {e : TypeId} {size : Nat} {v : Value} {n : Nat} {xs : List Value} (hr : A.ownsRow base e size v n xs) : A'.ownsRow base e size v n xs := by
  refine ⟨hr.1, ?_⟩
  rcases hr.2 with h2 | ⟨g, cap, cur, e1, h3, h4, h5⟩
  · exact .inl h2
  · exact .inr ⟨g, cap, cur, e1, h3, h.same g _ h4 (.inr rfl), h5⟩
theorem Ext.keepsOthers {A A' : World} (h : Ext A A') : KeepsOthers A A' := ⟨h.size, fun _ _ hj _ => h.heap hj⟩
def SeqL {α : Type} (P : Program) (g : Nat) (lb : Array Value) (encs : α → Array Value) (L : List α) (Rd : World → Prop) : Prop :=
  ∀ (l : Nat) (J Jx : Nat → World → Prop) (W : World), (∀ k A A', Ext A A' → J k A → J k A') → (∀ k A A', Ext A A' → Jx k A → Jx k A') → (∀ k A, J k A → Rd A) →
    (∀ (k : Nat) (hk : k < L.length) (W1 : World), J k W1 → YieldAt Fence.wide 7 P l (encs L[k]) W1 fun e W' =>
      (e = .returned (.bool true) ∧ J (k + 1) W') ∨ (e = .returned (.bool false) ∧ Jx (k + 1) W')) →
    J 0 W →
    CallsIn Fence.wide 8 P g (#[.func (.yield l) #[] #[]] ++ lb) W fun e W' => (∃ v, e = .returned v) ∧ (J L.length W' ∨ ∃ k, k ≤ L.length ∧ Jx k W')
def rangeRound (B : Nat) (I : Nat → World → Prop) (Ix : Code → Nat → World → Prop) (k : Nat) (W : World) : Exit → Act → World → Prop
  | .normal, _, W' => KeepsFrom B W W' ∧ I (k + 1) W'
  | .ret, _, W' => KeepsFrom B W W' ∧ Ix .ret (k + 1) W'
  | .exit id, _, W' => KeepsFrom B W W' ∧ Ix (.exit id) (k + 1) W'
  | .goto t, _, W' => KeepsFrom B W W' ∧ Ix (.goto t) (k + 1) W'
  | .panic _, _, _ => False
  | .outgrown, _, _ => False
def markOf (D : Nat) : Deferred := { target := .collected D, args := #[] }
theorem wp_rangeP {s : Obj → Bool} (sl : ∀ r, s (.loop r) = false) {P : Program} {α : Type} {g : Operand} {ps : Array Tmp} {assign body : Code} {Q : Exit → Act → World → Prop} {a : Act} {w : World}
    {gf : Nat} {lb : Array Value} (hg : a.eval g = .func (.func gf) #[] lb) (eg : ∀ args w, (callFunc gf args).run P w = .ok (.enter gf args) w)
    {encs : α → Array Value} {L : List α} {Rd : World → Prop} (hseq : SeqL P gf lb encs L Rd) (hps : ∀ x, (encs x).size = ps.size)
    (I : Nat → World → Prop) (Ix : Code → Nat → World → Prop) (hI : ∀ k A A', KeepsP s w.heap.size A A' → I k A → I k A') (hIx : ∀ c k A A', KeepsP s w.heap.size A A' → Ix c k A → Ix c k A') (hRd : ∀ k A, I k A → Rd A) (h0 : I 0 w)
    (Ax : Act → Nat → Act → World → Prop) (hAx : ∀ k a' A A', KeepsP s w.heap.size A A' → Ax a k a' A → Ax a k a' A')
    (hassign : ∀ (l k : Nat) (hk : k < L.length) (W : World) (K : Act → World → Prop), I k W → (∀ a' W', KeepsFrom w.heap.size W W' → I k W' → Ax a k a' W' → K a' W') →
      assign.wpIn (Fence.wide.inRound l) 7 P (Exit.then K (fun _ _ _ => False)) { tmps := (ps.zip (encs L[k])).foldl (fun t (p, v) => t.setIfInBounds p v) a.tmps, defers := [] } W)
    (hbody : ∀ (l k : Nat) (_ : k < L.length) (a' : Act) (W : World), w.heap.size ≤ l → I k W → Ax a k a' W → body.wpIn (Fence.wide.inRound l) 7 P (rangeRound w.heap.size I Ix k W) a' W)
    (hdone : ∀ (D : Nat) (W : World), w.heap.size ≤ D → I L.length W → W.heap[D]? = some (.deferred (some [])) → Q .normal { a with defers := markOf D :: a.defers } W)
    (hstop : ∀ (D : Nat) (c : Code) (k : Nat) (W : World), w.heap.size ≤ D → k ≤ L.length → Ix c k W → W.heap[D]? = some (.deferred (some [])) → c.wp P Q { a with defers := markOf D :: a.defers } W) :
    (Code.rangeFunc g ps assign body).wp P Q a w := by
  refine (wpIn_wide (n := 9)).1 ?_
  refine wpIn_rangeFunc ?_
  intro fn hfn
  obtain ⟨rec, hrec⟩ : ∃ rec : LoopState → Option Code → Loop, rec = fun st pe => { state := st, pending := pe, fn, tmps := a.tmps, params := ps, assign, body, defers := w.heap.size } := ⟨_, rfl⟩
  obtain ⟨W1, hW1⟩ : ∃ W1, (w.alloc (.deferred (some []))).alloc (.loop (rec .ready none)) = W1 := ⟨_, rfl⟩
  have hL1 : W1.heap[w.heap.size + 1]? = some (.loop (rec .ready none)) := by
    rw [← hW1]; have := World.alloc_heap_new (w.alloc (.deferred (some []))) (.loop (rec .ready none)); rwa [World.size_alloc] at this
  have hK1 : W1.heap[w.heap.size]? = some (.deferred (some [])) := by
    rw [← hW1]; exact (Below.heap_alloc _ _ _ (by simp)).trans (World.alloc_heap_new w _)
  have hx1 : Ext w W1 := by rw [← hW1]; exact (Ext.alloc _ _).toAlloc _
  have hI1 : I 0 W1 := hI 0 w W1 (hx1.keepsP _) h0
  refine ⟨w.heap.size + 1, [{ target := .collected w.heap.size, args := #[] }], W1, { target := .fn (.func gf) lb, args := #[.func (.yield (w.heap.size + 1)) #[] #[]] }, W1, gf,
    #[.func (.yield (w.heap.size + 1)) #[] #[]] ++ lb, W1, ?_, ?_, ?_, ?_, (fun h => by simp [Fence.wide] at h), ?_⟩
  · rw [← hW1, hrec]; exact run_enterLoop_outer _ _ _ _ _
  · simp only [resolve, hg]
    simp [go_sem]
  · intro f' hf'; trivial
  · simp [invoke, go_sem, eg]
  · refine (hseq (w.heap.size + 1)
      (fun k W => I k W ∧ W.heap[w.heap.size + 1]? = some (.loop (rec .ready none)) ∧ W.heap[w.heap.size]? = some (.deferred (some [])))
      (fun k W => ∃ c, Ix c k W ∧ W.heap[w.heap.size + 1]? = some (.loop (rec .done (some c))) ∧ W.heap[w.heap.size]? = some (.deferred (some [])))
      W1
      (fun k A A' hx hs => ⟨hI k A A' (hx.keepsP _) hs.1, hx.heap hs.2.1, hx.heap hs.2.2⟩)
      (fun k A A' hx hs => by
        obtain ⟨c, hc, hl, hk⟩ := hs
        exact ⟨c, hIx c k A A' (hx.keepsP _) hc, hx.heap hl, hx.heap hk⟩)
      (fun k A hs => hRd k A hs.1) ?_ ⟨hI1, hL1, hK1⟩).mono ?_
    · rintro k hk W ⟨hi, hl, hkk⟩
      have hlt : w.heap.size + 1 < W.heap.size := (Array.getElem?_eq_some_iff.1 hl).1
      have hy := run_yield (P := P) (args := encs L[k]) hl (by rw [hrec]; exact hps _)
      rw [hrec] at hy
      refine ⟨fn, _, assign, body, hy, roundIn_of_wpIn hfn (hassign _ k hk W _ hi ?_)⟩
      clear hy
      intro a' Wa hkfa hia hax
      replace hl := hkfa.same _ _ (by omega) hl rfl
      replace hkk := hkfa.same _ _ (Nat.le_refl _) hkk rfl
      replace hlt : w.heap.size + 1 < Wa.heap.size := (Array.getElem?_eq_some_iff.1 hl).1
      refine ⟨_, run_beginRound hl (by rw [hrec]), ?_⟩
      have hl2 : (Wa.putObj (w.heap.size + 1) (.loop { rec .ready none with state := .busy })).heap[w.heap.size + 1]? = some (.loop { rec .ready none with state := .busy }) := World.putObj_heap_same hlt
      have hk2 : (Wa.putObj (w.heap.size + 1) (.loop { rec .ready none with state := .busy })).heap[w.heap.size]? = some (.deferred (some [])) := (World.putObj_heap_other (by omega)).trans hkk
      have kp2 : KeepsP s w.heap.size Wa (Wa.putObj (w.heap.size + 1) (.loop { rec .ready none with state := .busy })) := KeepsP.putObj _ _ (by omega) hl (sl _)
      refine wpIn_mono (hbody _ k hk a' _ (by omega) (hI k _ _ kp2 hia) (hAx k a' _ _ kp2 hax)) ?_
      have fin : ∀ (jump : Option Code) (W3 : World), KeepsFrom w.heap.size (Wa.putObj (w.heap.size + 1) (.loop { rec .ready none with state := .busy })) W3 →
          (Instr.endRound (w.heap.size + 1) jump).run P W3 = .ok (.bool jump.isNone) (W3.putObj (w.heap.size + 1) (.loop (rec (if jump.isNone then .ready else .done) jump))) ∧
          KeepsP s w.heap.size W3 (W3.putObj (w.heap.size + 1) (.loop (rec (if jump.isNone then .ready else .done) jump))) ∧ w.heap.size ≤ W3.heap.size ∧
          (W3.putObj (w.heap.size + 1) (.loop (rec (if jump.isNone then .ready else .done) jump))).heap[w.heap.size + 1]? = some (.loop (rec (if jump.isNone then .ready else .done) jump)) ∧
          (W3.putObj (w.heap.size + 1) (.loop (rec (if jump.isNone then .ready else .done) jump))).heap[w.heap.size]? = some (.deferred (some [])) := fun jump W3 hk3 => by
        have hl3 := hk3.same _ _ (by omega) hl2 rfl
        have := run_endRound (P := P) jump hl3
        have hsz := (Array.getElem?_eq_some_iff.1 hl3).1
        have kp3 := KeepsP.putObj (B := w.heap.size) W3 (.loop (rec (if jump.isNone then .ready else .done) jump)) (by omega) hl3 (sl _)
        refine ⟨?_, kp3, by omega, World.putObj_heap_same hsz, (World.putObj_heap_other (by omega)).trans (hk3.same _ _ (Nat.le_refl _) hk2 rfl)⟩
        rw [hrec] at this ⊢
        exact this
      rintro e a3 W3 hp
      cases e with
      | normal =>
        obtain ⟨hk3, hi3⟩ := hp
        obtain ⟨hr, kp3, hs3, hl4, hk4⟩ := fin none W3 hk3
        exact ⟨_, _, hr, .inl ⟨rfl, hI _ _ _ kp3 hi3, hl4, hk4⟩⟩
      | ret =>
        obtain ⟨hk3, hi3⟩ := hp
        obtain ⟨hr, kp3, hs3, hl4, hk4⟩ := fin (some .ret) W3 hk3
        exact ⟨_, _, hr, .inr ⟨rfl, .ret, hIx _ _ _ _ kp3 hi3, hl4, hk4⟩⟩
      | exit id =>
        obtain ⟨hk3, hi3⟩ := hp
        obtain ⟨hr, kp3, hs3, hl4, hk4⟩ := fin (some (.exit id)) W3 hk3
        exact ⟨_, _, hr, .inr ⟨rfl, .exit id, hIx _ _ _ _ kp3 hi3, hl4, hk4⟩⟩
      | goto t =>
        obtain ⟨hk3, hi3⟩ := hp
        obtain ⟨hr, kp3, hs3, hl4, hk4⟩ := fin (some (.goto t)) W3 hk3
        exact ⟨_, _, hr, .inr ⟨rfl, .goto t, hIx _ _ _ _ kp3 hi3, hl4, hk4⟩⟩
      | panic ch => exact hp.elim
      | outgrown => exact hp.elim
    · rintro e W2 ⟨⟨v, rfl⟩, (⟨hi, hl, hk⟩ | ⟨k, hkl, c, hi, hl, hk⟩)⟩
      · have kp := KeepsP.putObj (B := w.heap.size) W2 (.loop { rec .ready none with state := .exhausted }) (by omega) hl (sl _)
        exact ⟨none, _, by have := run_endLoop (P := P) hl (by rw [hrec]; simp); rw [hrec] at this; exact this, hdone _ _ (Nat.le_refl _) (hI _ _ _ (by rw [hrec] at kp; exact kp) hi) ((World.putObj_heap_other (by omega)).trans hk)⟩
      · have kp := KeepsP.putObj (B := w.heap.size) W2 (.loop { rec .done (some c) with state := .exhausted }) (by omega) hl (sl _)
        exact ⟨some c, _, by have := run_endLoop (P := P) hl (by rw [hrec]; simp); rw [hrec] at this; exact this, wpIn_wide.2 (hstop _ c k _ (Nat.le_refl _) hkl (hIx _ _ _ _ (by rw [hrec] at kp; exact kp) hi) ((World.putObj_heap_other (by omega)).trans hk))⟩
theorem wp_range {P : Program} {α : Type} {g : Operand} {ps : Array Tmp} {assign body : Code} {Q : Exit → Act → World → Prop} {a : Act} {w : World}
    {gf : Nat} {lb : Array Value} (hg : a.eval g = .func (.func gf) #[] lb) (eg : ∀ args w, (callFunc gf args).run P w = .ok (.enter gf args) w)
    {encs : α → Array Value} {L : List α} {Rd : World → Prop} (hseq : SeqL P gf lb encs L Rd) (hps : ∀ x, (encs x).size = ps.size)
    (I : Nat → World → Prop) (Ix : Code → Nat → World → Prop) (hI : ∀ k A A', Keeps w.heap.size A A' → I k A → I k A') (hIx : ∀ c k A A', Keeps w.heap.size A A' → Ix c k A → Ix c k A') (hRd : ∀ k A, I k A → Rd A) (h0 : I 0 w)
    (Ax : Act → Nat → Act → World → Prop) (hAx : ∀ k a' A A', Keeps w.heap.size A A' → Ax a k a' A → Ax a k a' A')
    (hassign : ∀ (l k : Nat) (hk : k < L.length) (W : World) (K : Act → World → Prop), I k W → (∀ a' W', KeepsFrom w.heap.size W W' → I k W' → Ax a k a' W' → K a' W') →
      assign.wpIn (Fence.wide.inRound l) 7 P (Exit.then K (fun _ _ _ => False)) { tmps := (ps.zip (encs L[k])).foldl (fun t (p, v) => t.setIfInBounds p v) a.tmps, defers := [] } W)
    (hbody : ∀ (l k : Nat) (_ : k < L.length) (a' : Act) (W : World), w.heap.size ≤ l → I k W → Ax a k a' W → body.wpIn (Fence.wide.inRound l) 7 P (rangeRound w.heap.size I Ix k W) a' W)
    (hdone : ∀ (D : Nat) (W : World), w.heap.size ≤ D → I L.length W → W.heap[D]? = some (.deferred (some [])) → Q .normal { a with defers := markOf D :: a.defers } W)
    (hstop : ∀ (D : Nat) (c : Code) (k : Nat) (W : World), w.heap.size ≤ D → k ≤ L.length → Ix c k W → W.heap[D]? = some (.deferred (some [])) → c.wp P Q { a with defers := markOf D :: a.defers } W) :
    (Code.rangeFunc g ps assign body).wp P Q a w :=
  wp_rangeP (fun _ => rfl) hg eg hseq hps I Ix hI hIx hRd h0 Ax hAx hassign hbody hdone hstop
def Marks (B : Nat) (W : World) : List Deferred → Prop
  | [] => True
  | d :: ds => (∃ D, d = markOf D ∧ B ≤ D ∧ W.heap[D]? = some (.deferred (some [])) ∧ markOf D ∉ ds) ∧ Marks B W ds
theorem Marks.keeps {B : Nat} {W W' : World} : ∀ {ds : List Deferred}, Marks B W ds → (∀ D, markOf D ∈ ds → W.heap[D]? = some (.deferred (some [])) → W'.heap[D]? = some (.deferred (some []))) → Marks B W' ds
  | [], _, _ => trivial
  | _ :: _, ⟨⟨D, e, hB, hD, hn⟩, hs⟩, h => ⟨⟨D, e, hB, h D (by subst e; simp) hD, hn⟩, hs.keeps fun D' hm => h D' (by simp [hm])⟩
theorem leaves_marksP {s : Obj → Bool} (sd : ∀ r, s (.deferred r) = false) {P : Program} {fn : Func} {tmps : Array Value} {R : Ending → World → Prop} (B : Nat) : ∀ (ds : List Deferred) (W : World), Marks B W ds →
    (∀ W', KeepsP s B W W' → ∃ v, (results fn tmps).run P W' = .ok v W' ∧ R (.returned v) W') → LeavesInM Fence.wide 9 P fn tmps R ds .returning W
  | [], W, _, h => by
    obtain ⟨v, h1, h2⟩ := h W ((Ext.refl W).keepsP _)
    exact ⟨v, h1, h2⟩
  | _ :: ds, W, ⟨⟨D, rfl, hB, hD, hn⟩, hs⟩, h => by
    refine ⟨by simp, .inl ⟨D, _, rfl, run_takeDeferred hD, ?_⟩⟩
    have kp := KeepsP.putObj (B := B) W (.deferred none) hB hD (sd _)
    refine leaves_marksP sd B ds _ (hs.keeps fun D' hm hD' => ?_) (fun W' hk => h W' (kp.trans hk))
    rw [World.putObj_heap_other (by rintro rfl; exact hn hm)]
    exact hD'
theorem bodyPostM_marksP {s : Obj → Bool} (sd : ∀ r, s (.deferred r) = false) {P : Program} {fn : Func} {R : Ending → World → Prop} {a : Act} {W : World} (B : Nat) (hm : Marks B W a.defers)
    (h : ∀ W', KeepsP s B W W' → ∃ v, (results fn a.tmps).run P W' = .ok v W' ∧ R (.returned v) W') : bodyPostM Fence.wide 9 P fn R .ret a W := leaves_marksP sd B _ _ hm h
theorem bodyPostM_marks {P : Program} {fn : Func} {R : Ending → World → Prop} {a : Act} {W : World} (B : Nat) (hm : Marks B W a.defers)
    (h : ∀ W', Keeps B W W' → ∃ v, (results fn a.tmps).run P W' = .ok v W' ∧ R (.returned v) W') : bodyPostM Fence.wide 9 P fn R .ret a W := bodyPostM_marksP (fun _ => rfl) B hm h
theorem bodyPostM_two {P : Program} {fn : Func} {R : Ending → World → Prop} {a : Act} {W : World} {t u : Tmp} (hr : fn.results = #[.tmp t, .tmp u]) (B : Nat) (hm : Marks B W a.defers)
    (h : ∀ W', Keeps B W W' → R (.returned (.tuple #[a.tmps.getD t undef, a.tmps.getD u undef])) W') : bodyPostM Fence.wide 9 P fn R .ret a W :=
  bodyPostM_marks B hm fun W' hk => ⟨_, results_tmp2 hr _ _ _, h W' hk⟩
theorem bodyPostM_one {P : Program} {fn : Func} {R : Ending → World → Prop} {a : Act} {W : World} {t : Tmp} (hr : fn.results = #[.tmp t]) (B : Nat) (hm : Marks B W a.defers)
    (h : ∀ W', Keeps B W W' → R (.returned (a.tmps.getD t undef)) W') : bodyPostM Fence.wide 9 P fn R .ret a W :=
  bodyPostM_marks B hm fun W' hk => ⟨_, results_tmp hr _ _ _, h W' hk⟩
theorem calls_of_wp_marks {P : Program} {f : FuncId} {fn : Func} {c : Code} {args : Array Value} {w : World} {R : Ending → World → Prop}
    (hf : P.funcs[f]? = some fn) (hb : fn.body = some c)
    (h : c.wp P (bodyPostM Fence.wide 9 P fn R) { tmps := args ++ Array.replicate (fn.ntmps - args.size) undef, defers := [] } w) : Calls P f args w R :=
  (callsIn_wide (n := 9)).1 (callsIn_of_wp_marks hf hb trivial (wpIn_wide.2 h) rfl)
end Go
namespace Go
open Go.RowKit
def Fence.wr (ro : Option Nat) : Fence := { Fence.wide with round := ro }
theorem callsIn_wr {ro : Option Nat} {n : Nat} {P : Program} {f : FuncId} {args : Array Value} {w : World} {R : Ending → World → Prop} (h : Calls P f args w R) : CallsIn (Fence.wr ro) n P f args w R :=
  show CallsIn Fence.wide n P f args w R from callsIn_wide.2 h
theorem CallsIn.round {l : Nat} {n : Nat} {P : Program} {f : FuncId} {args : Array Value} {w : World} {R : Ending → World → Prop} (h : Calls P f args w R) : CallsIn (Fence.wide.inRound l) n P f args w R :=
  show CallsIn Fence.wide n P f args w R from callsIn_wide.2 h
section
variable {P : Program} {ops : Array Oper} {md : Region.Mode} {C : World → Prop} {ro : Option Nat} {n : Nat}
theorem quiet_not_defer {o : Oper} {a : Act} {w : World} {v : Value} (h : o.quietAt P a C w v) : ∀ c, o.op ≠ .defer c := by
  intro c hc
  unfold Oper.quietAt at h
  unfold execOp at h
  rw [hc] at h
  simp only [Sem.run_bind] at h
  cases hr : (resolve a.eval c o.type).run P w with
  | ok d w' => simp [hr, Result.andThen, Sem.run_pure, Oper.quietUpon] at h
  | halt x w' => simp [hr, Result.andThen, Oper.quietUpon] at h
theorem Oper.wpIn_of_quietR {o : Oper} {a : Act} {K : Act → Prop} {K' : Act → World → Prop} {Q' : Exit → Act → World → Prop} {w : World} (hw : C w) (h : ∀ a w', C w' → K a → K' a w') (hh : o.quiet P a C K) : o.wpIn (Fence.wr ro) n P a w K' Q' := by
  obtain ⟨v, h1, h2⟩ := hh
  have h3 := h1 w hw
  have hnd := quiet_not_defer h3
  unfold Oper.quietAt at h3
  unfold Oper.wpIn
  refine ⟨fun _ _ => trivial, ?_⟩
  rw [Oper.semAt_eq _ _ _ hnd]
  generalize (execOp a.eval o).run P w = r at *
  cases r with
  | ok x w' =>
    cases x <;> simp only [Oper.quietUpon] at h3 <;> simp only [Oper.uponIn]
    case value u =>
      obtain ⟨e1, e2⟩ := h3
      rw [e1, e2]
      exact h _ _ hw h2
    case skip =>
      obtain ⟨e1, e2⟩ := h3
      rw [e1, ← e2]
      exact h _ _ hw h2
    case enter f args =>
      obtain ⟨e1, hc⟩ := h3
      rw [e1]
      refine ⟨fun hd => by simp [Fence.wr, Fence.wide] at hd, ?_⟩
      exact callsIn_wr (hc.mono fun e w'' ⟨he, hw''⟩ => by subst he; exact h _ _ hw'' h2)
  | halt x w' => simp only [Oper.quietUpon] at h3
theorem wpOpIn_of_qOp {i : Nat} {a : Act} {K : Act → Prop} {K' : Act → World → Prop} {Q' : Exit → Act → World → Prop} {w : World} (hC : C w) (h : ∀ a w', C w' → K a → K' a w') (hh : qOp P ops C i K a) : wpOpIn (Fence.wr ro) n P ops Q' i K' a w := by
  unfold qOp at hh
  unfold wpOpIn
  split
  · rename_i ho; simp only [ho] at hh; exact h _ _ hC hh
  · rename_i o ho
    simp only [ho] at hh
    split
    · rename_i hw; simp only [hw, if_true] at hh; exact Oper.wpIn_of_quietR hC h hh
    · rename_i hw; simp only [hw] at hh; exact ⟨fun _ _ => trivial, h _ _ hC hh⟩
theorem wpAnyIn_of_headQ {m g : Nat} {L : Array Bool → Act → Prop} {Q' : Exit → Act → World → Prop} (hL : ∀ listed a w, C w → L listed a → wpAnyIn (Fence.wr ro) n P md ops Q' g listed a w) :
    ∀ (f : Nat) (listed : Array Bool) (a : Act) (w : World), C w → wpAnyLQ P md ops C m L f listed a → wpAnyIn (Fence.wr ro) n P md ops Q' (f + g) listed a w
  | 0, listed, a, w, hC, h => by rw [Nat.zero_add]; exact hL _ _ _ hC h
  | f + 1, listed, a, w, hC, h => by
    rw [show f + 1 + g = (f + g) + 1 by omega]
    exact ⟨fun h0 => absurd h0 h.1, fun i hi => wpOpIn_of_qOp hC (fun a' w' hw' h' => wpAnyIn_of_headQ hL f _ a' w' hw' h') (h.2 i hi).2⟩
theorem wpAnyIn_of_quietR {Q : Act → Prop} {Q' : Exit → Act → World → Prop} (hQ : ∀ a w, C w → Q a → Q' .normal a w) : ∀ (fuel : Nat) (listed : Array Bool) (a : Act) (w : World), C w →
    wpAnyQ P md ops C Q fuel listed a → wpAnyIn (Fence.wr ro) n P md ops Q' fuel listed a w
  | 0, _, _, _, hw, h => ⟨h.1, hQ _ _ hw h.2⟩
  | fuel + 1, _, _, _, hw, h => ⟨fun h0 => hQ _ _ hw (h.1 h0), fun i hi => wpOpIn_of_qOp hw (fun a' w' hw' => wpAnyIn_of_quietR hQ fuel _ a' w' hw') (h.2 i hi)⟩
theorem wpAnyIn_of_seq {F : Fence} {Q' : Exit → Act → World → Prop} : ∀ (l : List Oper) (k : Nat) (listed : Array Bool) (a : Act) (w : World), (∀ j, l[j]? = ops[k + j]?) →
    Region.seqB md ops l.length k listed = true → wpListIn F n P ops Q' l a w → wpAnyIn F n P md ops Q' l.length listed a w
  | [], _, _, _, _, _, hB, h => ⟨by simpa [Region.seqB] using hB, h⟩
  | o :: l, k, listed, a, w, hl, hB, h => by
    have h0 : ops[k]? = some o := by simpa using (hl 0).symm
    simp only [List.length_cons, Region.seqB, Bool.and_eq_true, decide_eq_true_eq] at hB
    refine ⟨fun h1 => (by rw [hB.1] at h1; cases h1), fun i hi => ?_⟩
    rw [hB.1] at hi
    have hik : i = k := by simpa using hi
    subst hik
    have hw : wpOpIn F n P ops Q' i (wpListIn F n P ops Q' l) a w := by unfold wpOpIn; simp only [h0]; exact h
    exact wpOpIn_mono (fun a' w' h' => wpAnyIn_of_seq l (i + 1) _ a' w' (fun j => by have := hl (j + 1); simpa [Nat.add_assoc, Nat.add_comm 1 j] using this) hB.2 h') hw
theorem wpIn_region_quiet_tail (C : World → Prop) {id : Nat} {Q : Exit → Act → World → Prop} {a : Act} {w : World} {l : List Oper} (m : Nat) (hm : P.follows .mixedOrders = true) (hB : Region.lexTailB .any l.toArray m = true)
    (hC : C { w with drawn := w.drawn + 1 })
    (h : wpQuiet P l.toArray C (fun a' => ∀ w', C w' → wpListIn (Fence.wr ro) n P l.toArray Q (l.drop m) a' w') (l.take m) a) : (Code.region id l.toArray true).wpIn (Fence.wr ro) n P Q a w := by
  simp only [Region.lexTailB, Bool.and_eq_true, decide_eq_true_eq] at hB
  obtain ⟨⟨⟨⟨hsel, hn⟩, hs⟩, hc⟩, hlex⟩ := hB
  have hn' : m < l.length := by simpa using hn
  have htl : (l.take m).length = m := by simp; omega
  have hdl : (l.drop m).length = l.toArray.size - m := by simp
  have inv0 : HeadInv .any l.toArray m (Array.replicate l.toArray.size false) :=
    ⟨by simp, fun j oj _ hl => (by rw [getD_replicate_false] at hl; cases hl), fun t _ ht => getD_in (by simpa using ht) (getD_replicate_false _ _)⟩
  have H := wpAnyLQ_lex (md := .any) (C := C) (g := l.toArray.size - m) hsel hs hc hn (l.take m) 0 _ a (fun j hj => by
    have hj' : j < m := by rw [htl] at hj; exact hj
    simp [hj']) (by simpa using htl) inv0 (by rw [htl]; exact hlex) h
  refine wpIn_region_any hm ?_
  have := wpAnyIn_of_headQ (n := n) (ro := ro) (Q' := Q) (g := l.toArray.size - m) (fun listed a' w' hw' hL => by
    have := wpAnyIn_of_seq (F := Fence.wr ro) (n := n) (md := .any) (Q' := Q) (l.drop m) m listed a' w' (fun j => by simp [List.getElem?_drop]) (by rw [hdl]; exact hL.1) (hL.2 w' hw')
    rwa [hdl] at this) _ _ _ _ hC H
  rw [htl, show m + (l.toArray.size - m) = l.toArray.size by omega] at this
  exact this
end
theorem wpIn_region_over {P : Program} {n : Nat} {id : Nat} {Q : Exit → Act → World → Prop} {a : Act} {w : World} {l : List Oper} (m : Nat) (hm : P.follows .mixedOrders = true) (hB : Region.lexTailB .any l.toArray m = true)
    (h : wpQuiet P l.toArray (fun w' => ∃ x, w' = w.over x) (fun a' => ∀ w', (∃ x, w' = w.over x) → wpListIn Fence.wide n P l.toArray Q (l.drop m) a' w') (l.take m) a) : (Code.region id l.toArray true).wpIn Fence.wide n P Q a w :=
  wpIn_region_quiet_tail (ro := none) _ m hm hB ⟨_, World.over_of (Ext.drew w)⟩ h
theorem wpIn_region_over_all_round {P : Program} {n l₀ : Nat} {id : Nat} {Q : Exit → Act → World → Prop} {a : Act} {w : World} {l : List Oper} (hm : P.follows .mixedOrders = true) (hB : Region.lexB .any l.toArray = true)
    (h : wpQuiet P l.toArray (fun w' => ∃ x, w' = w.over x) (fun a' => ∀ w', (∃ x, w' = w.over x) → Q .normal a' w') l a) : (Code.region id l.toArray true).wpIn (Fence.wide.inRound l₀) n P Q a w := by
  have hC : ∃ x, ({ w with drawn := w.drawn + 1 } : World) = w.over x := ⟨_, World.over_of (Ext.drew w)⟩
  simp only [Region.lexB, Bool.and_eq_true] at hB
  refine wpIn_region_any hm (wpAnyIn_of_quietR (ro := some l₀) (C := fun w' => ∃ x, w' = w.over x) (Q := fun a' => ∀ w', (∃ x, w' = w.over x) → Q .normal a' w') (fun _ w' hw' h => h w' hw') _ _ _ _ hC ?_)
  have := wpAnyQ_lex (C := fun w' => ∃ x, w' = w.over x) (md := .any) hB.1 l 0 (Array.replicate l.toArray.size false) a (by simp) (by simpa using hB.2) h
  simpa using this
end Go
namespace Go.Proofs.YtnmaabejdmaahaaGreatDoor.Ice
open Go.RowKit Go.Proofs Go.Shelf
attribute [local go_sem] Oper.semAt_some
def cand (c : Cel) : List Cel := [⟨c.col + -1, c.row + 0⟩, ⟨c.col + 0, c.row + -1⟩, ⟨c.col + 0, c.row + 1⟩, ⟨c.col + 1, c.row + 0⟩]
def nbrs (x : Grid) (c : Cel) : List Cel := (cand c).filter (cellB x)
def nbTimes (x : Grid) (c : Cel) : List (Cel × Int) := (nbrs x c).map fun n => (n, stepI x c n)
def encNb (p : Cel × Int) : Array Value := #[.agg #[.int .i64 p.1.col, .int .i64 p.1.row], .int .i64 p.2]
structure Sides (w : World) : Prop where
  s0 : w.cell? ⟨0, 0, none⟩ = some (.int .i64 (-1))
  s1 : w.cell? ⟨0, 1, none⟩ = some (.int .i64 0)
  s2 : w.cell? ⟨0, 2, none⟩ = some (.int .i64 0)
  s3 : w.cell? ⟨0, 3, none⟩ = some (.int .i64 (-1))
  s4 : w.cell? ⟨0, 4, none⟩ = some (.int .i64 0)
  s5 : w.cell? ⟨0, 5, none⟩ = some (.int .i64 1)
  s6 : w.cell? ⟨0, 6, none⟩ = some (.int .i64 1)
  s7 : w.cell? ⟨0, 7, none⟩ = some (.int .i64 0)
theorem Sides.ext {w w' : World} (h : Sides w) (hx : Ext w w') : Sides w' :=
  ⟨hx.cell_of h.s0, hx.cell_of h.s1, hx.cell_of h.s2, hx.cell_of h.s3, hx.cell_of h.s4, hx.cell_of h.s5, hx.cell_of h.s6, hx.cell_of h.s7⟩
theorem Sides.keeps {n : Nat} {w w' : World} (h : Sides w) (hx : Keeps n w w') : Sides w' :=
  ⟨hx.cell h.s0, hx.cell h.s1, hx.cell h.s2, hx.cell h.s3, hx.cell h.s4, hx.cell h.s5, hx.cell h.s6, hx.cell h.s7⟩
theorem GridAt.keeps {n : Nat} {w w' : World} {la ta : Option Addr} {x : Grid} (h : GridAt w la ta x) (hx : Keeps n w w') : GridAt w' la ta x := ⟨hx.row h.layers, hx.row h.tilt, h.nl, h.nt⟩
structure NbRd (Bc Bx : Nat) (la ta : Option Addr) (lc tc : Nat) (x : Grid) (c : Cel) (w : World) : Prop where
  c0 : w.cell? ⟨Bc, 0, none⟩ = some (.int .i64 c.col)
  c1 : w.cell? ⟨Bc, 1, none⟩ = some (.int .i64 c.row)
  x0 : w.cell? ⟨Bx, 0, none⟩ = some (.slice la x.layers.length lc)
  x1 : w.cell? ⟨Bx, 1, none⟩ = some (.int .i64 x.rows)
  x2 : w.cell? ⟨Bx, 2, none⟩ = some (.slice ta x.tilt.length tc)
  at_ : GridAt w la ta x
  sides : Sides w
theorem NbRd.ext {Bc Bx : Nat} {la ta : Option Addr} {lc tc : Nat} {x : Grid} {c : Cel} {w w' : World} (r : NbRd Bc Bx la ta lc tc x c w) (hx : Ext w w') : NbRd Bc Bx la ta lc tc x c w' :=
  ⟨hx.cell_of r.c0, hx.cell_of r.c1, hx.cell_of r.x0, hx.cell_of r.x1, hx.cell_of r.x2, r.at_.ext hx, r.sides.ext hx⟩
theorem NbRd.keeps {n Bc Bx : Nat} {la ta : Option Addr} {lc tc : Nat} {x : Grid} {c : Cel} {w w' : World} (r : NbRd Bc Bx la ta lc tc x c w) (hx : Keeps n w w') : NbRd Bc Bx la ta lc tc x c w' :=
  ⟨hx.cell r.c0, hx.cell r.c1, hx.cell r.x0, hx.cell r.x1, hx.cell r.x2, r.at_.keeps hx, r.sides.keeps hx⟩
def nbNo (x : Grid) (c : Cel) (k : Nat) : Nat := (((cand c).take k).filter (cellB x)).length
theorem nbNo_succ (x : Grid) (c : Cel) {k : Nat} (hk : k < 4) : nbNo x c (k + 1) = nbNo x c k + if cellB x ((cand c)[k]'(by simpa [cand] using hk)) then 1 else 0 := by
  have hk' : k < (cand c).length := by simpa [cand] using hk
  unfold nbNo
  rw [List.take_succ_eq_append_getElem hk', List.filter_append, List.length_append]
  by_cases h : cellB x (cand c)[k] = true <;> simp [h]
theorem nbNo_get (x : Grid) (c : Cel) {k : Nat} (hk : k < 4) (h : cellB x ((cand c)[k]'(by simpa [cand] using hk)) = true) :
    ∃ hl : nbNo x c k < (nbTimes x c).length, (nbTimes x c)[nbNo x c k] = ((cand c)[k]'(by simpa [cand] using hk), stepI x c ((cand c)[k]'(by simpa [cand] using hk))) := by
  have hk' : k < (cand c).length := by simpa [cand] using hk
  have e : nbrs x c = ((cand c).take k).filter (cellB x) ++ (cand c)[k] :: ((cand c).drop (k + 1)).filter (cellB x) := by
    unfold nbrs
    conv => lhs; rw [← List.take_append_drop k (cand c), List.filter_append, List.drop_eq_getElem_cons hk', List.filter_cons, if_pos h]
  have hl : nbNo x c k < (nbTimes x c).length := by unfold nbTimes nbNo; rw [List.length_map, e]; simp
  refine ⟨hl, ?_⟩
  have : (nbrs x c)[nbNo x c k]'(by simpa [nbTimes] using hl) = (cand c)[k] := by
    simp only [e, nbNo]
    rw [List.getElem_append_right (Nat.le_refl _)]
    simp
  simp [nbTimes, this]
theorem nbNo_all (x : Grid) (c : Cel) : nbNo x c 4 = (nbTimes x c).length := by simp [nbNo, nbTimes, nbrs, cand]
def InG (x : Grid) (c : Cel) : Prop := (0 ≤ c.col ∧ c.col < x.tilt.length) ∧ 0 ≤ c.row ∧ c.row < x.rows
theorem cellB_in {x : Grid} {c : Cel} (v : Valid x) : cellB x c = true ↔ InG x c := cellB_valid v
set_option maxRecDepth 100000 in
set_option maxHeartbeats 1000000 in
theorem neighbours_any (la ta : Option Addr) (lc tc : Nat) (x : Grid) (c : Cel) (w : World) (hg : GridAt w la ta x) (hs : Sides w) :
    Calls Tryz.prog 62 #[.agg #[.slice la x.layers.length lc, .int .i64 x.rows, .slice ta x.tilt.length tc], .agg #[.int .i64 c.col, .int .i64 c.row]] w fun e w' => ∃ Bc Bx, w.heap.size ≤ Bc ∧ w.heap.size ≤ Bx ∧ e = .returned (.func (.func 91) #[] #[.pointer (some ⟨Bc, 0, none⟩), .pointer (some ⟨Bx, 0, none⟩)]) ∧ NbRd Bc Bx la ta lc tc x c w' ∧ Ext w w' := by
  have HG := Lib.hid hg
  have HS := Lib.hid hs
  clear hg hs
  go_enter Tryz.func62, Tryz.ntmps62
  go_wp2_with fail
  go_ret
  have x2 : Ext w ((w.alloc (.cells #[.slice la x.layers.length lc, .int .i64 x.rows, .slice ta x.tilt.length tc] 45)).alloc (.cells #[.int .i64 c.col, .int .i64 c.row] 61)) := (Ext.alloc _ _).toAlloc _
  exact ⟨w.heap.size + 1, w.heap.size, by omega, by omega, rfl, ⟨(World.cell_at (by simp)).trans rfl, (World.cell_at (by simp)).trans rfl, (Ext.alloc _ _).cell_of ((World.cell_at rfl).trans rfl), (Ext.alloc _ _).cell_of ((World.cell_at rfl).trans rfl), (Ext.alloc _ _).cell_of ((World.cell_at rfl).trans rfl), HG.out.ext x2, HS.out.ext x2⟩, x2⟩
set_option maxRecDepth 100000 in
set_option maxHeartbeats 2000000 in
theorem nbs_seq (Bc Bx : Nat) (la ta : Option Addr) (lc tc : Nat) (x : Grid) (c : Cel) (v : Valid x) (hin : InG x c) : SeqL Tryz.prog 91 #[.pointer (some ⟨Bc, 0, none⟩), .pointer (some ⟨Bx, 0, none⟩)] encNb (nbTimes x c) (NbRd Bc Bx la ta lc tc x c) := by
  intro l J Jx W hJ hJx hRd hY h0
  have HV := Lib.hid v
  have HIN := Lib.hid hin
  have HJ := Lib.hid hJ
  have HY := Lib.hid hY
  have HRD := Lib.hid hRd
  have H0 := Lib.hid h0
  obtain ⟨⟨g1, g2⟩, g3, g4⟩ := hin
  have g5 := v.t8
  have g6 := v.r12
  obtain ⟨s0, s1, s2, s3, s4, s5, s6, s7⟩ := (hRd 0 W h0).sides
  clear hJ hJx hY hRd h0 v
  refine callsIn_of_wp Tryz.func91 rfl trivial ?_ rfl
  simp only [Tryz.ntmps91, List.size_toArray, List.length_cons, List.length_nil, Nat.reduceAdd, Nat.reduceSub, Array.replicate_succ, Array.replicate_zero, List.push_toArray, List.append_toArray, List.nil_append, List.cons_append]
  gi_wp2
  gi_loopw [8] (fun i wr => ∃ k : Nat, k ≤ 4 ∧ i = .int .i64 k ∧ Hid (J (nbNo x c k) wr)) (fun i _ => 4 - (intOf i).toNat)
  case atStart => exact ⟨0, Nat.zero_le _, rfl, H0⟩
  case round =>
    obtain ⟨k, hk, rfl, Hj⟩ := hrel
    clear s0 s1 s2 s3 s4 s5 s6 s7
    by_cases hlt : k < 4
    · skip
      obtain ⟨dc, dr, hi, hcd, d1, d2, d3, d4⟩ : ∃ dc dr : Int, (∀ w, (Instr.index 162 (.agg #[.int .i64 (-1), .int .i64 0, .int .i64 0, .int .i64 (-1), .int .i64 0, .int .i64 1, .int .i64 1, .int .i64 0]) (.int .i64 k)).run Tryz.prog w = .ok (.agg #[.int .i64 dc, .int .i64 dr]) w) ∧ (cand c)[k]'(by simpa [cand] using hlt) = ⟨c.col + dc, c.row + dr⟩ ∧ -1 ≤ dc ∧ dc ≤ 1 ∧ -1 ≤ dr ∧ dr ≤ 1 := by
        rcases (by omega : k = 0 ∨ k = 1 ∨ k = 2 ∨ k = 3) with rfl | rfl | rfl | rfl
        · exact ⟨-1, 0, fun _ => by kernel_rfl, rfl, by decide, by decide, by decide, by decide⟩
        · exact ⟨0, -1, fun _ => by kernel_rfl, rfl, by decide, by decide, by decide, by decide⟩
        · exact ⟨0, 1, fun _ => by kernel_rfl, rfl, by decide, by decide, by decide, by decide⟩
        · exact ⟨1, 0, fun _ => by kernel_rfl, rfl, by decide, by decide, by decide, by decide⟩
      have HCD := Lib.hid hcd
      have hr := HRD.out _ wr Hj.out
      obtain ⟨c0, c1, x0, x1, x2, hat, hsd⟩ := hr
      have HAT := Lib.hid hat
      clear hat hsd hcd
      have qc := World.block_lt_of_cell? _ _ c0
      have qx := World.block_lt_of_cell? _ _ x0
      simp only at qc qx
      gi_wp2
      generalize hW : World.alloc (World.alloc wr _) _ = W0
      have e0 := Lib.hid (show Ext wr W0 by rw [← hW]; exact (Ext.alloc _ _).toAlloc _)
      have n0 : W0.cell? ⟨wr.heap.size + 1, 0, none⟩ = some (.int .i64 (c.col + dc)) := by rw [← hW]; exact ((World.cell_at (by simp)).trans rfl)
      have n1 : W0.cell? ⟨wr.heap.size + 1, 1, none⟩ = some (.int .i64 (c.row + dr)) := by rw [← hW]; exact ((World.cell_at (by simp)).trans rfl)
      have qn : wr.heap.size + 1 < W0.heap.size := by rw [← hW]; simp
      clear hW hi
      replace c0 := e0.out.cell_of c0
      replace c1 := e0.out.cell_of c1
      replace x0 := e0.out.cell_of x0
      replace x1 := e0.out.cell_of x1
      replace x2 := e0.out.cell_of x2
      replace qc := Nat.lt_of_lt_of_le qc e0.out.le
      replace qx := Nat.lt_of_lt_of_le qx e0.out.le
      have LA : ∀ y, Calls Tryz.prog 59 #[.agg #[.slice la x.layers.length lc, .int .i64 x.rows, .slice ta x.tilt.length tc], .agg #[.int .i64 (c.col + dc), .int .i64 (c.row + dr)]] (W0.over y) fun e w' => e = .returned (.int .i64 (cellErrE x ⟨c.col + dc, c.row + dr⟩)) ∧ Ext (W0.over y) w' := fun y => cellErr_any la ta lc tc x ⟨c.col + dc, c.row + dr⟩ _ (HAT.out.ext (e0.out.trans (W0.over_ext y)))
      cases hb : cellB x ⟨c.col + dc, c.row + dr⟩
      · have hs1 : nbNo x c (k + 1) = nbNo x c k := by rw [nbNo_succ x c hlt, HCD.out, hb]; rfl
        have HS1 := Lib.hid hs1
        have hE : cellErrE x ⟨c.col + dc, c.row + dr⟩ = 6 := by unfold cellErrE; rw [hb]; rfl
        rw [hE] at LA
        replace LA := Lib.hid LA
        clear hs1 hb hE
        refine wpIn_region_over 11 (by kernel_rfl) (by kernel_rfl) ?_
        simp only [List.take_succ_cons, List.take_zero, List.drop_succ_cons, List.drop_zero]
        repeat (quiet_step ((go_at_call 59; exact Calls.over_ext (LA.out _))))
        refine wpQuiet_nil ?_
        rintro _ ⟨y, rfl⟩
        have Hj2 : Hid (J (nbNo x c (k + 1)) (W0.over y)) := Lib.hid (by rw [HS1.out]; exact HJ.out _ _ _ (e0.out.trans (W0.over_ext y)) Hj.out)
        gi_wp2
        refine ⟨fun _ h => (by cases h), ?_⟩
        gi_wp2
        go_roundw
        case rel => exact ⟨k + 1, by omega, by go_num, Hj2⟩
        case measure => simp [intOf]; omega
      · have hs1 : nbNo x c (k + 1) = nbNo x c k + 1 := by rw [nbNo_succ x c hlt, HCD.out, hb]; rfl
        have HS1 := Lib.hid hs1
        have hE : cellErrE x ⟨c.col + dc, c.row + dr⟩ = 0 := by unfold cellErrE; rw [hb]; rfl
        rw [hE] at LA
        replace LA := Lib.hid LA
        have HN := Lib.hid ((cellB_in HV.out).1 hb)
        have HG : Hid (∃ hl : nbNo x c k < (nbTimes x c).length, (nbTimes x c)[nbNo x c k] = (⟨c.col + dc, c.row + dr⟩, stepI x c ⟨c.col + dc, c.row + dr⟩)) := Lib.hid (by have := nbNo_get x c hlt (by rw [HCD.out]; exact hb); simpa only [HCD.out] using this)
        have LB : Hid (∀ y, Calls Tryz.prog 92 #[.agg #[.slice la x.layers.length lc, .int .i64 x.rows, .slice ta x.tilt.length tc], .agg #[.int .i64 c.col, .int .i64 c.row], .agg #[.int .i64 (c.col + dc), .int .i64 (c.row + dr)]] (W0.over y) fun e w' => e = .returned (.int .i64 (stepI x c ⟨c.col + dc, c.row + dr⟩)) ∧ Ext (W0.over y) w') := Lib.hid (fun y => step_any la ta lc tc x c ⟨c.col + dc, c.row + dr⟩ _ (HAT.out.ext (e0.out.trans (W0.over_ext y))) HV.out HIN.out.1.1 HIN.out.1.2 (by have := HIN.out.2.1; omega) (by have := HIN.out.2.2; omega) HN.out.1.1 HN.out.1.2 (by have := HN.out.2.1; omega) (by have := HN.out.2.2; omega))
        clear hs1 hb hE
        refine wpIn_region_over 11 (by kernel_rfl) (by kernel_rfl) ?_
        simp only [List.take_succ_cons, List.take_zero, List.drop_succ_cons, List.drop_zero]
        repeat (quiet_step ((first | (go_at_call 59; exact Calls.over_ext (LA.out _)) | (go_at_call 92; exact Calls.over_ext (LB.out _)))))
        refine wpQuiet_nil ?_
        rintro _ ⟨y, rfl⟩
        have Hj2 := Lib.hid (HJ.out _ _ _ (e0.out.trans (W0.over_ext y)) Hj.out)
        generalize W0.over y = w1 at Hj2
        obtain ⟨hl, hget⟩ := HG.out
        have HYk := HY.out _ hl w1 Hj2.out
        rw [hget, encNb] at HYk
        obtain ⟨fn, tmps, assign, body, hy, hR⟩ := HYk
        replace hR := Lib.hid hR
        have HGET := Lib.hid hget
        clear hget c0 c1 x0 x1 x2 n0 n1
        gi_wp2
        refine hR.out.mono ?_
        rintro e W' (⟨rfl, hJ'⟩ | ⟨rfl, hJx'⟩)
        · have Hj3 : Hid (J (nbNo x c (k + 1)) W') := Lib.hid (by rw [HS1.out]; exact hJ')
          clear hJ' hy
          gi_wp2
          go_roundw
          case rel => exact ⟨k + 1, by omega, by go_num, Hj3⟩
          case measure => simp [intOf]; omega
        · have Hx3 := Lib.hid hJx'
          clear hJx' hy
          gi_wp2
          refine bodyPost_ret (results_none rfl _ _ _) rfl ?_
          exact ⟨⟨_, rfl⟩, .inr ⟨_, hl, Hx3.out⟩⟩
    · have hk4 : k = 4 := by omega
      subst hk4
      gi_wp2
      refine bodyPost_end (results_none rfl _ _ _) rfl ?_
      exact ⟨⟨_, rfl⟩, .inl (by rw [← nbNo_all]; exact Hj.out)⟩
end Go.Proofs.YtnmaabejdmaahaaGreatDoor.Ice
namespace Go.Proofs.YtnmaabejdmaahaaGreatDoor.Ice
open Go.RowKit Go.Proofs Go.Shelf
attribute [local go_sem] Oper.semAt_some
def cellsL (x : Grid) : List Cel := (List.range x.rows.toNat).flatMap fun (r : Nat) => (List.range x.tilt.length).map fun (c : Nat) => (⟨(c : Int), (r : Int)⟩ : Cel)
theorem cellsL_get {x : Grid} {r c : Nat} (hr : r < x.rows.toNat) (hc : c < x.tilt.length) : ∃ h : r * x.tilt.length + c < (cellsL x).length, (cellsL x)[r * x.tilt.length + c] = ⟨c, r⟩ := by
  have h := flatMap_getElem? (enc := fun (r : Nat) => (List.range x.tilt.length).map fun (c : Nat) => (⟨(c : Int), (r : Int)⟩ : Cel)) (s := x.tilt.length) (fun _ => by simp) (List.range x.rows.toNat) r c (by simpa using hr) hc
  have h' : (cellsL x)[r * x.tilt.length + c]? = some ⟨c, r⟩ := by
    unfold cellsL
    rw [h]
    simp [hc]
  obtain ⟨h1, h2⟩ := List.getElem?_eq_some_iff.1 h'
  exact ⟨h1, h2⟩
theorem cellsL_len (x : Grid) : (cellsL x).length = x.rows.toNat * x.tilt.length := by
  unfold cellsL
  rw [flatMap_length (s := x.tilt.length) (fun _ => by simp)]; simp
def encCel (c : Cel) : Array Value := #[.agg #[.int .i64 c.col, .int .i64 c.row]]
structure CellsRd (Bx : Nat) (ta : Option Addr) (tc : Nat) (x : Grid) (w : World) : Prop where
  x1 : w.cell? ⟨Bx, 1, none⟩ = some (.int .i64 x.rows)
  x2 : w.cell? ⟨Bx, 2, none⟩ = some (.slice ta x.tilt.length tc)
theorem CellsRd.keeps {n Bx : Nat} {ta : Option Addr} {tc : Nat} {x : Grid} {w w' : World} (r : CellsRd Bx ta tc x w) (hx : Keeps n w w') : CellsRd Bx ta tc x w' := ⟨hx.cell r.x1, hx.cell r.x2⟩
theorem CellsRd.ext {Bx : Nat} {ta : Option Addr} {tc : Nat} {x : Grid} {w w' : World} (r : CellsRd Bx ta tc x w) (hx : Ext w w') : CellsRd Bx ta tc x w' := ⟨hx.cell_of r.x1, hx.cell_of r.x2⟩
set_option maxRecDepth 100000 in
set_option maxHeartbeats 1000000 in
theorem cells_any (la ta : Option Addr) (lc tc : Nat) (x : Grid) (w : World) :
    Calls Tryz.prog 61 #[.agg #[.slice la x.layers.length lc, .int .i64 x.rows, .slice ta x.tilt.length tc]] w fun e w' => ∃ Bx, w.heap.size ≤ Bx ∧ e = .returned (.func (.func 90) #[] #[.pointer (some ⟨Bx, 0, none⟩)]) ∧ CellsRd Bx ta tc x w' ∧ Ext w w' := by
  go_enter Tryz.func61, Tryz.ntmps61
  go_wp2_with fail
  go_ret
  exact ⟨w.heap.size, Nat.le_refl _, rfl, ⟨by simp, by simp⟩, Ext.alloc _ _⟩
set_option maxRecDepth 100000 in
set_option maxHeartbeats 2000000 in
theorem cells_seq (Bx : Nat) (ta : Option Addr) (tc : Nat) (x : Grid) (v : Valid x) : SeqL Tryz.prog 90 #[.pointer (some ⟨Bx, 0, none⟩)] encCel (cellsL x) (CellsRd Bx ta tc x) := by
  intro l J Jx W hJ hJx hRd hY h0
  obtain ⟨R, hR⟩ := Int.eq_ofNat_of_zero_le (show 0 ≤ x.rows by have := v.r1; omega)
  have HRW := Lib.hid hR
  have g5 := v.t8
  have g1 := v.t1
  have g6 := v.r12
  rw [hR] at g6
  have HV := Lib.hid v
  have HJ := Lib.hid hJ
  have HY := Lib.hid hY
  have HRD := Lib.hid hRd
  have H0 := Lib.hid h0
  have x1 := (hRd 0 W h0).x1
  rw [hR] at x1
  clear hJ hJx hY hRd h0 v hR
  refine callsIn_of_wp Tryz.func90 rfl trivial ?_ rfl
  simp only [Tryz.ntmps90, List.size_toArray, List.length_cons, List.length_nil, Nat.reduceAdd, Nat.reduceSub, Array.replicate_succ, Array.replicate_zero, List.push_toArray, List.append_toArray, List.nil_append, List.cons_append]
  gi_wp2
  clear x1
  gi_loopw [7] (fun i wr => ∃ k : Nat, k ≤ R ∧ i = .int .i64 k ∧ Hid (J (k * x.tilt.length) wr)) (fun i _ => R - (intOf i).toNat)
  case atStart => exact ⟨0, Nat.zero_le _, rfl, by rw [Nat.zero_mul]; exact H0⟩
  case round =>
    obtain ⟨k, hk, rfl, Hj⟩ := hrel
    obtain ⟨wo, rfl⟩ : ∃ wo : World, wo = wr := ⟨_, rfl⟩
    by_cases hlt : k < R
    · have x2 := (HRD.out _ wo Hj.out).x2
      have hkR : k < x.rows.toNat := by rw [HRW.out, Int.toNat_natCast]; exact hlt
      gi_wp2
      clear x2
      gi_loopw [13] (fun i wr => ∃ j : Nat, j ≤ x.tilt.length ∧ i = .int .i64 j ∧ Hid (J (k * x.tilt.length + j) wr)) (fun i _ => x.tilt.length - (intOf i).toNat)
      case atStart => exact ⟨0, Nat.zero_le _, rfl, Hj⟩
      case round =>
        obtain ⟨j, hj, rfl, Hj2⟩ := hrel
        by_cases hjt : j < x.tilt.length
        · obtain ⟨hl, hget⟩ := cellsL_get hkR hjt
          have HYk := HY.out _ hl wr Hj2.out
          rw [hget, encCel] at HYk
          simp only at HYk
          obtain ⟨fn, tmps, assign, body, hy, hR⟩ := HYk
          replace hR := Lib.hid hR
          have HL := Lib.hid hl
          clear hget
          try clear hl
          gi_wp2
          refine hR.out.mono ?_
          rintro e W' (⟨rfl, hJ'⟩ | ⟨rfl, hJx'⟩)
          · have Hj3 := Lib.hid hJ'
            clear hJ' hy
            gi_wp2
            go_roundw
            case rel => exact ⟨j + 1, by omega, by go_num, Hj3⟩
            case measure => simp [intOf]; omega
          · have Hx3 := Lib.hid hJx'
            clear hJx' hy
            gi_wp2
            refine bodyPost_ret (results_none rfl _ _ _) rfl ?_
            exact ⟨⟨_, rfl⟩, .inr ⟨_, HL.out, Hx3.out⟩⟩
        · have Hj3 : Hid (J ((k + 1) * x.tilt.length) wr) := Lib.hid (by
            rw [Nat.add_mul, Nat.one_mul]
            have h2 := Hj2.out
            rwa [show j = x.tilt.length by omega] at h2)
          gi_wp2
          go_roundw
          case rel => exact ⟨k + 1, by omega, by go_num, Hj3⟩
          case measure => simp [intOf]; omega
    · have HE : Hid (J (cellsL x).length wo) := Lib.hid (by rw [cellsL_len, HRW.out, Int.toNat_natCast]; have := Hj.out; rwa [show k = R by omega] at this)
      gi_wp2
      refine bodyPost_end (results_none rfl _ _ _) rfl ?_
      exact ⟨⟨_, rfl⟩, .inl HE.out⟩
end Go.Proofs.YtnmaabejdmaahaaGreatDoor.Ice
namespace Go.Proofs.YtnmaabejdmaahaaGreatDoor.Ice
open Go.RowKit Go.Proofs Go.Shelf
open Go.ChangeMaps (setBlock)
def celV (c : Cel) : Value := .agg #[.int .i64 c.col, .int .i64 c.row]
theorem stood27 : Tryz.prog.stoodInHeld 61 = false := by kernel_rfl
theorem fields27 : Tryz.prog.fieldsOf 61 = #[{ name := "Column", type := 3, offset := 0, embedded := false, tag := "", pkgPath := "", byteOffset := 0 }, { name := "Row", type := 3, offset := 1, embedded := false, tag := "", pkgPath := "", byteOffset := 8 }] := by kernel_rfl
theorem equalIn_cel (d : Nat) (a b : Cel) (W : World) : (Op.equalIn (d + 2) 61 (celV a) (celV b)).run Tryz.prog W = .ok (decide (a = b)) W := by
  unfold celV
  rw [run_equalIn_agg W (d + 1) 61 _ _ (by rw [fields27]; exact Tryz.underlying61) stood27, fields27]
  have e : decide (a = b) = (a.col == b.col && a.row == b.row) := by
    cases a; cases b; simp [Cel.mk.injEq]; rfl
  rw [e]
  cases h1 : a.col == b.col <;> cases h2 : a.row == b.row <;> simp [Op.eqFields, part, run_equalIn_int W d 3 _ _ _ _ Tryz.underlying3, h1, h2]
theorem check_cel (d : Nat) (c : Cel) (em : Bool) (W : World) : (Instr.checkKey em (d + 2) 61 (celV c)).run Tryz.prog W = .ok () W := by
  unfold celV
  simp [Instr.checkKey, run_underlying Tryz.underlying61, run_underlying Tryz.underlying3, part]
abbrev Ent := Cel × Int × Nat
def ent (d : Ent) : MapEntry := { key := celV d.1, val := .int .i64 d.2.1, born := d.2.2 }
def valOf (D : List Ent) (c : Cel) : Option Int := (D.find? fun d => decide (c = d.1)).map (·.2.1)
def lookI (c : Cel) : List Ent → Nat → Option (Nat × Value)
  | [], _ => none
  | d :: D, i => if c = d.1 then some (i, .int .i64 d.2.1) else lookI c D (i + 1)
theorem findAsking_cel (c : Cel) (W : World) : ∀ (D : List Ent) (i : Nat), (Instr.findAsking 61 (celV c) (D.map ent) i).run Tryz.prog W = .ok (lookI c D i) W
  | [], i => by simp [Instr.findAsking, lookI]
  | d :: D, i => by
    have h1 : (Op.equal 61 (celV c) (celV d.1)).run Tryz.prog W = .ok (decide (c = d.1)) W := equalIn_cel 9998 c d.1 W
    have h2 := findAsking_cel c W D (i + 1)
    simp only [List.map_cons, Instr.findAsking, Sem.run_bind]
    rw [show (ent d).key = celV d.1 from rfl, h1]
    simp only [Result.andThen_ok, lookI]
    by_cases h : c = d.1
    · simp [h, ent, Sem.run_pure]
    · simp [h, h2]
theorem findKey_cel (c : Cel) (W : World) (D : List Ent) : (Instr.findKey 61 (celV c) (D.map ent)).run Tryz.prog W = .ok (lookI c D 0) W := by
  unfold Instr.findKey
  cases D with
  | nil => simp [run_underlying Tryz.underlying61, Instr.findNow, lookI]
  | cons d D =>
    have h := findAsking_cel c W (d :: D) 0
    have h0 : Instr.findNow (.struct #[{ name := "Column", type := 3, offset := 0, embedded := false, tag := "", pkgPath := "", byteOffset := 0 }, { name := "Row", type := 3, offset := 1, embedded := false, tag := "", pkgPath := "", byteOffset := 8 }]) (celV c) ((d :: D).map ent) 0 = none := by
      simp only [List.map_cons, Instr.findNow]
      rfl
    simp only [Sem.run_bind, run_underlying Tryz.underlying61, Result.andThen_ok, h0]
    exact h
theorem lookI_val (c : Cel) : ∀ (D : List Ent) (i : Nat), (lookI c D i).map (·.2) = (valOf D c).map (Value.int .i64)
  | [], _ => by simp [lookI, valOf]
  | d :: D, i => by
    have := lookI_val c D (i + 1)
    unfold lookI valOf
    by_cases h : c = d.1
    · simp [h]
    · simp only [if_neg h, this, valOf, List.find?_cons]
      simp [h]
structure MapAt (W : World) (r : Nat) (D : List Ent) : Prop where
  blk : ∃ clock, W.heap[r]? = some (.map (D.map ent).toArray clock) ∧ ∀ d ∈ D, d.2.2 < clock
  keys : (D.map (·.1)).Nodup
  born : (D.map (·.2.2)).Nodup
theorem MapAt.heap {W W' : World} {r : Nat} {D : List Ent} (h : MapAt W r D) (e : W'.heap[r]? = W.heap[r]?) : MapAt W' r D := ⟨by rw [e]; exact h.blk, h.keys, h.born⟩
theorem MapAt.lt {W : World} {r : Nat} {D : List Ent} (h : MapAt W r D) : r < W.heap.size := by obtain ⟨c, e, _⟩ := h.blk; exact (Array.getElem?_eq_some_iff.1 e).1
theorem MapAt.ext {W W' : World} {r : Nat} {D : List Ent} (h : MapAt W r D) (hx : Ext W W') : MapAt W' r D := h.heap (hx.block r h.lt)
theorem MapAt.alloc_new (W : World) : MapAt (W.alloc (.map #[] 0)) W.heap.size [] := ⟨⟨0, by rw [World.alloc_heap_new]; rfl, by simp⟩, by simp, by simp⟩
theorem lookup_ok {W : World} {r : Nat} {D : List Ent} (h : MapAt W r D) (c : Cel) :
    (Instr.lookup 119 (.map (some r)) (.agg #[.int .i64 c.col, .int .i64 c.row]) true).run Tryz.prog W = .ok (.tuple #[.int .i64 ((valOf D c).getD 0), .bool (valOf D c).isSome]) W := by
  obtain ⟨clock, hb, _⟩ := h.blk
  have h1 := check_cel 9998 c (D.map ent).toArray.isEmpty W
  have h2 := findKey_cel c W D
  have h3 := lookI_val c D 0
  rw [show (Value.agg #[.int .i64 c.col, .int .i64 c.row]) = celV c from rfl]
  simp only [Instr.lookup, Sem.run_bind, run_underlying Tryz.underlying119, Result.andThen_ok, MapKept.run_getObj_map hb, Sem.run_pure, h1, h2]
  cases hl : lookI c D 0 with
  | none =>
    rw [hl] at h3
    have h4 : valOf D c = none := by cases hv : valOf D c <;> simp_all
    simp [h4]
  | some p =>
    obtain ⟨i, v⟩ := p
    rw [hl] at h3
    cases hv : valOf D c with
    | none => rw [hv] at h3; simp at h3
    | some z => rw [hv] at h3; simp at h3; subst h3; simp [Sem.run_pure]
theorem lookup_plain {W : World} {r : Nat} {D : List Ent} (h : MapAt W r D) (c : Cel) :
    (Instr.lookup 119 (.map (some r)) (.agg #[.int .i64 c.col, .int .i64 c.row]) false).run Tryz.prog W = .ok (.int .i64 ((valOf D c).getD 0)) W := by
  obtain ⟨clock, hb, _⟩ := h.blk
  have h1 := check_cel 9998 c (D.map ent).toArray.isEmpty W
  have h2 := findKey_cel c W D
  have h3 := lookI_val c D 0
  rw [show (Value.agg #[.int .i64 c.col, .int .i64 c.row]) = celV c from rfl]
  simp only [Instr.lookup, Sem.run_bind, run_underlying Tryz.underlying119, Result.andThen_ok, MapKept.run_getObj_map hb, Sem.run_pure, h1, h2]
  cases hl : lookI c D 0 with
  | none =>
    rw [hl] at h3
    have h4 : valOf D c = none := by cases hv : valOf D c <;> simp_all
    simp [h4]
  | some p =>
    obtain ⟨i, v⟩ := p
    rw [hl] at h3
    cases hv : valOf D c with
    | none => rw [hv] at h3; simp at h3
    | some z => rw [hv] at h3; simp at h3; subst h3; simp [Sem.run_pure]
theorem len_map {W : World} {r : Nat} {D : List Ent} (h : MapAt W r D) :
    (Builtin.len_ #[119] 3 #[.map (some r)]).run Tryz.prog W = .ok (.int .i64 D.length) W := by
  obtain ⟨clock, hb, _⟩ := h.blk
  simp [Builtin.len_, run_underlying Tryz.underlying119, MapKept.run_getObj_map hb, goInt]
theorem lookI_some (c : Cel) : ∀ (D : List Ent) (i : Nat) (j : Nat) (v : Value), lookI c D i = some (j, v) → ∃ k, j = i + k ∧ ∃ h : k < D.length, (D[k]).1 = c ∧ v = .int .i64 (D[k]).2.1
  | [], _, _, _, h => by simp [lookI] at h
  | d :: D, i, j, v, h => by
    unfold lookI at h
    by_cases hc : c = d.1
    · rw [if_pos hc] at h; cases h; exact ⟨0, rfl, by simp, by simp [hc]⟩
    · rw [if_neg hc] at h
      obtain ⟨k, e, hk, h1, h2⟩ := lookI_some c D (i + 1) j v h
      exact ⟨k + 1, by omega, by simpa using hk, by simpa using h1, by simpa using h2⟩
theorem lookI_none (c : Cel) : ∀ (D : List Ent) (i : Nat), lookI c D i = none ↔ c ∉ D.map (·.1)
  | [], _ => by simp [lookI]
  | d :: D, i => by
    unfold lookI
    by_cases hc : c = d.1
    · simp [hc]
    · simp [hc, lookI_none c D (i + 1)]
theorem valOf_cons (d : Ent) (D : List Ent) (c : Cel) : valOf (d :: D) c = if c = d.1 then some d.2.1 else valOf D c := by
  unfold valOf; by_cases h : c = d.1 <;> simp [h]
theorem valOf_append (D E : List Ent) (c : Cel) : valOf (D ++ E) c = (valOf D c).or (valOf E c) := by
  induction D with
  | nil => simp [valOf]
  | cons d D ih => rw [List.cons_append, valOf_cons, valOf_cons, ih]; split <;> simp
theorem valOf_none {D : List Ent} {c : Cel} : valOf D c = none ↔ c ∉ D.map (·.1) := by
  induction D with
  | nil => simp [valOf]
  | cons d D ih => rw [valOf_cons]; by_cases h : c = d.1 <;> simp [h, ih]
theorem valOf_some {D : List Ent} {c : Cel} {z : Int} (h : valOf D c = some z) : ∃ d ∈ D, d.1 = c ∧ d.2.1 = z := by
  induction D with
  | nil => simp [valOf] at h
  | cons d D ih =>
    rw [valOf_cons] at h
    by_cases hc : c = d.1
    · rw [if_pos hc] at h; exact ⟨d, by simp, hc.symm, by simpa using h⟩
    · rw [if_neg hc] at h; obtain ⟨e, he, h1, h2⟩ := ih h; exact ⟨e, by simp [he], h1, h2⟩
theorem valOf_mem {D : List Ent} (hn : (D.map (·.1)).Nodup) {d : Ent} (hd : d ∈ D) : valOf D d.1 = some d.2.1 := by
  induction D with
  | nil => cases hd
  | cons e D ih =>
    rw [valOf_cons]
    simp only [List.map_cons, List.nodup_cons] at hn
    rcases List.mem_cons.1 hd with rfl | hd
    · simp
    · rw [if_neg (fun he => hn.1 (by rw [← he]; exact List.mem_map_of_mem hd))]
      exact ih hn.2 hd
def setAt (D : List Ent) (i : Nat) (z : Int) : List Ent := D.modify i (fun d => (d.1, z, d.2.2))
theorem setAt_map1 (D : List Ent) (i : Nat) (z : Int) : (setAt D i z).map (·.1) = D.map (·.1) := by
  apply List.ext_getElem? ; intro k; simp [setAt, List.getElem?_modify]; cases D[k]? <;> simp; split <;> simp
theorem setAt_map2 (D : List Ent) (i : Nat) (z : Int) : (setAt D i z).map (·.2.2) = D.map (·.2.2) := by
  apply List.ext_getElem? ; intro k; simp [setAt, List.getElem?_modify]; cases D[k]? <;> simp; split <;> simp
theorem valOf_setAt : ∀ (D : List Ent) (i : Nat) (z : Int) (_hn : (D.map (·.1)).Nodup) (hi : i < D.length) (c : Cel), valOf (setAt D i z) c = if c = (D[i]).1 then some z else valOf D c
  | d :: D, 0, z, _, _, c => by
    rw [show setAt (d :: D) 0 z = (d.1, z, d.2.2) :: D by simp [setAt], valOf_cons, valOf_cons]
    simp only [List.getElem_cons_zero]
    split <;> simp_all
  | d :: D, i + 1, z, hn, hi, c => by
    simp only [List.map_cons, List.nodup_cons] at hn
    rw [show setAt (d :: D) (i + 1) z = d :: setAt D i z by simp [setAt], valOf_cons, valOf_cons, valOf_setAt D i z hn.2 (by simpa using hi) c]
    simp only [List.getElem_cons_succ]
    by_cases h : c = d.1
    · rw [if_pos h, if_neg, if_pos h]
      intro h2
      exact hn.1 (by rw [← h, h2]; exact List.mem_map_of_mem (List.getElem_mem _))
    · simp only [if_neg h]
theorem putObj_getElem {W : World} {r : Nat} {o : Obj} (h : r < W.heap.size) : (W.putObj r o).heap[r]? = some o := World.putObj_heap_same h
theorem sameBits_cel (n : Nat) (c : Cel) : Instr.sameBits (n + 2) (celV c) (celV c) = true := by
  unfold celV; simp [Instr.sameBits]
theorem modify_ent (D : List Ent) (i : Nat) (z : Int) (c : Cel) (h : i < D.length) (hk : (D[i]).1 = c) :
    (D.map ent).toArray.modify i (fun e => { e with key := celV c, val := .int .i64 z }) = ((setAt D i z).map ent).toArray := by
  apply Array.ext'
  apply List.ext_getElem?
  intro k
  simp only [Array.toList_modify, List.getElem?_modify, List.getElem?_map, setAt]
  by_cases hik : i = k
  · subst hik
    simp [List.getElem?_eq_getElem h, ent, hk]
  · simp [hik]
theorem update_map {W : World} {r : Nat} {D : List Ent} (h : MapAt W r D) (c : Cel) (z : Int) :
    ∃ (o : Obj) (D' : List Ent), (Instr.mapUpdate 119 (.map (some r)) (.agg #[.int .i64 c.col, .int .i64 c.row]) (.int .i64 z)).run Tryz.prog W = .ok () (W.putObj r o) ∧ MapAt (W.putObj r o) r D' ∧
      (∀ c', valOf D' c' = if c' = c then some z else valOf D c') ∧ D'.length = if (valOf D c).isSome then D.length else D.length + 1 := by
  obtain ⟨clock, hb, hc⟩ := h.blk
  have h1 := check_cel 9998 c false W
  have h2 := findKey_cel c W D
  have hlt := h.lt
  rw [show (Value.agg #[.int .i64 c.col, .int .i64 c.row]) = celV c from rfl]
  cases hl : lookI c D 0 with
  | some p =>
    obtain ⟨j, v⟩ := p
    obtain ⟨i, e, hi, hk, _⟩ := lookI_some c D 0 j v hl
    have e : i = j := by omega
    subst e
    have hs : valOf D c = some (D[i]).2.1 := by rw [← hk]; exact valOf_mem h.keys (List.getElem_mem hi)
    refine ⟨.map ((setAt D i z).map ent).toArray clock, setAt D i z, ?_, ⟨⟨clock, putObj_getElem hlt, ?_⟩, by rw [setAt_map1]; exact h.keys, by rw [setAt_map2]; exact h.born⟩, fun c' => by rw [valOf_setAt D i z h.keys hi, hk], by rw [hs]; simp [setAt]⟩
    · rw [hl] at h2
      have h3 : (((D.map ent).toArray[i]?).map (·.key)).getD (celV c) = celV c := by simp [List.getElem?_eq_getElem hi, ent, hk]
      have h4 : (Instr.keyThatStays (celV c) (celV c)).run Tryz.prog W = .ok (celV c) W := by
        have := sameBits_cel 9998 c
        simp [Instr.keyThatStays, this, Sem.run_pure]
      simp only [Instr.mapUpdate, Sem.run_bind, run_underlying Tryz.underlying119, Result.andThen_ok, MapKept.run_getObj_map hb, h1, h2, h3, h4]
      rw [modify_ent D i z c hi hk]
      simp [setObj, Sem.run, hb, World.putObj]
    · intro d hd
      have : d.2.2 ∈ (setAt D i z).map (·.2.2) := List.mem_map_of_mem hd
      rw [setAt_map2] at this
      obtain ⟨d', hd', e'⟩ := List.mem_map.1 this
      rw [← e']; exact hc d' hd'
  | none =>
    have hn := (lookI_none c D 0).1 hl
    have hs : valOf D c = none := valOf_none.2 hn
    refine ⟨.map ((D ++ [(c, z, clock)]).map ent).toArray (clock + 1), D ++ [(c, z, clock)], ?_, ⟨⟨clock + 1, putObj_getElem hlt, ?_⟩, ?_, ?_⟩, fun c' => ?_, by rw [hs]; simp⟩
    · rw [hl] at h2
      simp only [Instr.mapUpdate, Sem.run_bind, run_underlying Tryz.underlying119, Result.andThen_ok, MapKept.run_getObj_map hb, h1, h2]
      simp [setObj, Sem.run, hb, World.putObj, ent]
    · intro d hd
      rcases List.mem_append.1 hd with hd | hd
      · have := hc d hd; omega
      · simp at hd; subst hd; simp
    · rw [List.map_append, List.nodup_append]
      refine ⟨h.keys, by simp, ?_⟩
      intro a ha b hb' e
      simp at hb'
      subst hb'; subst e
      exact hn ha
    · rw [List.map_append, List.nodup_append]
      refine ⟨h.born, by simp, ?_⟩
      intro a ha b hb' e
      simp at hb'
      subst hb'; subst e
      obtain ⟨d, hd, e2⟩ := List.mem_map.1 ha
      have := hc d hd
      omega
    · rw [valOf_append, valOf_cons]
      by_cases e : c' = c
      · subst e; rw [hs]; simp
      · simp [e, valOf]
theorem valOf_eraseIdx : ∀ (D : List Ent) (i : Nat) (_hn : (D.map (·.1)).Nodup) (hi : i < D.length) (c : Cel), valOf (D.eraseIdx i) c = if c = (D[i]).1 then none else valOf D c
  | d :: D, 0, hn, _, c => by
    simp only [List.map_cons, List.nodup_cons] at hn
    rw [show (d :: D).eraseIdx 0 = D from rfl, valOf_cons]
    simp only [List.getElem_cons_zero]
    by_cases h : c = d.1
    · rw [if_pos h]; exact valOf_none.2 (by rw [h]; exact hn.1)
    · simp [h]
  | d :: D, i + 1, hn, hi, c => by
    simp only [List.map_cons, List.nodup_cons] at hn
    rw [show (d :: D).eraseIdx (i + 1) = d :: D.eraseIdx i from rfl, valOf_cons, valOf_cons, valOf_eraseIdx D i hn.2 (by simpa using hi) c]
    simp only [List.getElem_cons_succ]
    by_cases h : c = d.1
    · rw [if_pos h, if_neg, if_pos h]
      intro h2
      exact hn.1 (by rw [← h, h2]; exact List.mem_map_of_mem (List.getElem_mem _))
    · simp only [if_neg h]
theorem delete_map {W : World} {r : Nat} {D : List Ent} (h : MapAt W r D) (c : Cel) (z : Int) (hz : valOf D c = some z) :
    ∃ (o : Obj) (D' : List Ent), (Builtin.delete_ #[119, 61] 0 #[.map (some r), .agg #[.int .i64 c.col, .int .i64 c.row]]).run Tryz.prog W = .ok (.tuple #[]) (W.putObj r o) ∧ MapAt (W.putObj r o) r D' ∧
      (∀ c', valOf D' c' = if c' = c then none else valOf D c') ∧ D'.length + 1 = D.length := by
  obtain ⟨clock, hb, hc⟩ := h.blk
  have h1 := check_cel 9998 c (D.map ent).toArray.isEmpty W
  have h2 := findKey_cel c W D
  have hlt := h.lt
  rw [show (Value.agg #[.int .i64 c.col, .int .i64 c.row]) = celV c from rfl]
  cases hl : lookI c D 0 with
  | some p =>
    obtain ⟨j, v⟩ := p
    obtain ⟨i, e, hi, hk, _⟩ := lookI_some c D 0 j v hl
    have e : i = j := by omega
    subst e
    refine ⟨.map ((D.eraseIdx i).map ent).toArray clock, D.eraseIdx i, ?_, ⟨⟨clock, putObj_getElem hlt, ?_⟩, ?_, ?_⟩, fun c' => by rw [valOf_eraseIdx D i h.keys hi, hk], ?_⟩
    · rw [hl] at h2
      simp only [Builtin.delete_]
      have e2 : (D.map ent).toArray.eraseIdxIfInBounds i = ((D.eraseIdx i).map ent).toArray := by
        rw [Array.eraseIdxIfInBounds, dif_pos (by simpa using hi)]
        apply Array.ext'
        simp [ChangeMaps.map_eraseIdx]
      have h1' : (Instr.checkKey D.isEmpty 10000 61 (celV c)).run Tryz.prog W = .ok () W := check_cel 9998 c D.isEmpty W
      have e3 : (D.map ent).eraseIdx i = (D.eraseIdx i).map ent := (ChangeMaps.map_eraseIdx ent D i).symm
      simp [MapKept.run_getObj_map hb, h1', h2, e3, setObj, Sem.run, hb, World.putObj]
    · intro d hd
      exact hc d (List.mem_of_mem_eraseIdx hd)
    · rw [ChangeMaps.map_eraseIdx]
      exact h.keys.sublist (List.eraseIdx_sublist _ _)
    · rw [ChangeMaps.map_eraseIdx]
      exact h.born.sublist (List.eraseIdx_sublist _ _)
    · rw [List.length_eraseIdx, if_pos hi]; omega
  | none =>
    have hn := (lookI_none c D 0).1 hl
    rw [valOf_none.2 hn] at hz
    cases hz
end Go.Proofs.YtnmaabejdmaahaaGreatDoor.Ice
namespace Go.Proofs.YtnmaabejdmaahaaGreatDoor.Ice
open Go.RowKit Go.Proofs Go.Shelf
open Go.ChangeMaps (setBlock)
structure Turn (r : Nat) (W W' : World) : Prop where
  os : W'.os = W.os
  tape : W'.tape = W.tape
  output : W'.output = W.output
  size : W'.heap.size = W.heap.size
  same : ∀ k, k ≠ r → W'.heap[k]? = W.heap[k]?
theorem Turn.putObj (W : World) (r : Nat) (o : Obj) : Turn r W (W.putObj r o) := ⟨rfl, rfl, rfl, by simp, fun k hk => World.putObj_heap_other hk⟩
theorem Turn.cell {r : Nat} {W W' : World} (t : Turn r W W') {o : Obj} (hr : W.heap[r]? = some o) (ho : o.isCells = false) {b off : Nat} {v : Value} (hc : W.cell? ⟨b, off, none⟩ = some v) : W'.cell? ⟨b, off, none⟩ = some v := by
  by_cases e : b = r
  · subst e
    unfold World.cell? at hc
    rw [hr] at hc
    cases o <;> simp_all [Obj.isCells]
  · unfold World.cell? at hc ⊢
    rw [t.same b e]; exact hc
theorem Turn.frozen {r : Nat} {W W' : World} (t : Turn r W W') {o : Obj} (hr : W.heap[r]? = some o) (ho : o.isCells = false) {b off : Nat} {v : Value} (hc : W.cell? ⟨b, off, none⟩ = some v) (hf : W.frozen? ⟨b, off, none⟩ = false) : W'.frozen? ⟨b, off, none⟩ = false := by
  by_cases e : b = r
  · subst e
    unfold World.cell? at hc
    rw [hr] at hc
    cases o <;> simp_all [Obj.isCells]
  · unfold World.frozen? at hf ⊢
    rw [t.same b e]; exact hf
theorem Turn.ext {r : Nat} {w W W' : World} (t : Turn r W W') (hx : Ext w W) (hr : w.heap.size ≤ r) : Ext w W' :=
  ⟨t.os.trans hx.os, t.tape.trans hx.tape, t.output.trans hx.output, by rw [t.size]; exact hx.size, fun k hk => (t.same k (by omega)).trans (hx.block k hk)⟩
theorem Turn.map {r : Nat} {W W' : World} (t : Turn r W W') {m : Nat} {D : List Ent} (h : MapAt W m D) (hm : m ≠ r) : MapAt W' m D := h.heap (t.same m hm)
theorem MapAt.notCells {W : World} {r : Nat} {D : List Ent} (h : MapAt W r D) : ∃ o, W.heap[r]? = some o ∧ o.isCells = false := by
  obtain ⟨c, e, _⟩ := h.blk; exact ⟨_, e, rfl⟩
theorem Turn.cellM {r : Nat} {W W' : World} (t : Turn r W W') {D : List Ent} (hm : MapAt W r D) {b off : Nat} {v : Value} (hc : W.cell? ⟨b, off, none⟩ = some v) : W'.cell? ⟨b, off, none⟩ = some v := by
  obtain ⟨o, h1, h2⟩ := hm.notCells; exact t.cell h1 h2 hc
theorem Turn.frozenM {r : Nat} {W W' : World} (t : Turn r W W') {D : List Ent} (hm : MapAt W r D) {b off : Nat} {v : Value} (hc : W.cell? ⟨b, off, none⟩ = some v) (hf : W.frozen? ⟨b, off, none⟩ = false) : W'.frozen? ⟨b, off, none⟩ = false := by
  obtain ⟨o, h1, h2⟩ := hm.notCells; exact t.frozen h1 h2 hc hf
structure MapIt (W : World) (r M : Nat) (D : List Ent) (seen : Array Nat) : Prop where
  it : ∃ clock c0, W.heap[r]? = some (.mapIter (some M) clock seen c0) ∧ clock ≤ c0 ∧ W.heap[M]? = some (.map (D.map ent).toArray clock) ∧ ∀ d ∈ D, d.2.2 < clock
  keys : (D.map (·.1)).Nodup
  born : (D.map (·.2.2)).Nodup
theorem MapIt.map {W : World} {r M : Nat} {D : List Ent} {seen : Array Nat} (h : MapIt W r M D seen) : MapAt W M D := by
  obtain ⟨clock, c0, h1, h2, h3, h4⟩ := h.it
  exact ⟨⟨clock, h3, h4⟩, h.keys, h.born⟩
theorem MapIt.heap {W W' : World} {r M : Nat} {D : List Ent} {seen : Array Nat} (h : MapIt W r M D seen) (e1 : W'.heap[r]? = W.heap[r]?) (e2 : W'.heap[M]? = W.heap[M]?) : MapIt W' r M D seen := by
  obtain ⟨clock, c0, h1, h2, h3, h4⟩ := h.it
  exact ⟨⟨clock, c0, by rw [e1]; exact h1, h2, by rw [e2]; exact h3, h4⟩, h.keys, h.born⟩
theorem MapIt.lt {W : World} {r M : Nat} {D : List Ent} {seen : Array Nat} (h : MapIt W r M D seen) : r < W.heap.size := by obtain ⟨_, _, e, _⟩ := h.it; exact (Array.getElem?_eq_some_iff.1 e).1
theorem MapIt.ext {W W' : World} {r M : Nat} {D : List Ent} {seen : Array Nat} (h : MapIt W r M D seen) (hx : Ext W W') : MapIt W' r M D seen := h.heap (hx.block r h.lt) (hx.block M h.map.lt)
theorem MapIt.setCell {W : World} {r M : Nat} {D : List Ent} {seen : Array Nat} (h : MapIt W r M D seen) (b o : Nat) (v : Value) : MapIt (W.setCell ⟨b, o, none⟩ v) r M D seen := by
  obtain ⟨clock, c0, h1, h2, h3, h4⟩ := h.it
  have k := KeepsOthers.setCell W ⟨b, o, none⟩ v
  exact ⟨⟨clock, c0, k.same _ _ h1 rfl, h2, k.same _ _ h3 rfl, h4⟩, h.keys, h.born⟩
theorem MapAt.setCell {W : World} {r : Nat} {D : List Ent} (h : MapAt W r D) (b o : Nat) (v : Value) : MapAt (W.setCell ⟨b, o, none⟩ v) r D := by
  obtain ⟨c, e, h1⟩ := h.blk
  exact ⟨⟨c, (KeepsOthers.setCell W ⟨b, o, none⟩ v).same _ _ e rfl, h1⟩, h.keys, h.born⟩
theorem range_map {W : World} {M : Nat} {D : List Ent} (h : MapAt W M D) :
    ∃ o, (Instr.range 119 (.map (some M))).run Tryz.prog W = .ok (.pointer (some ⟨W.heap.size, 0, none⟩)) (W.alloc o) ∧ MapIt (W.alloc o) W.heap.size M D #[] := by
  obtain ⟨clock, hb, hc⟩ := h.blk
  refine ⟨_, run_range_map W 119 61 3 M _ clock Tryz.underlying119 hb, ⟨⟨clock, clock, World.alloc_heap_new _ _, Nat.le_refl _, (Ext.alloc _ _).heap hb, hc⟩, h.keys, h.born⟩⟩
def leftE (D : List Ent) (seen : Array Nat) : List Ent := D.filter fun d => !seen.contains d.2.2
theorem leftE_push {D : List Ent} {seen : Array Nat} {d : Ent} (hd : d ∈ D) (hs : d.2.2 ∉ seen) : (leftE D (seen.push d.2.2)).length < (leftE D seen).length := by
  have e : leftE D (seen.push d.2.2) = (leftE D seen).filter fun x => decide (x.2.2 ≠ d.2.2) := by
    unfold leftE
    rw [List.filter_filter]
    apply List.filter_congr
    intro x _
    by_cases h : x.2.2 = d.2.2 <;> by_cases h2 : x.2.2 ∈ seen <;> simp_all [Array.mem_push]
  rw [e]
  exact List.length_filter_lt_length_iff_exists.2 ⟨d, List.mem_filter.2 ⟨hd, by simpa using hs⟩, by simp⟩
theorem next_map {W : World} {r M : Nat} {D : List Ent} {seen : Array Nat} (h : MapIt W r M D seen) (hrM : r ≠ M) (ty : TypeId) :
    ((∀ d ∈ D, d.2.2 ∈ seen) ∧ (Instr.next (.pointer (some ⟨r, 0, none⟩)) false ty).run Tryz.prog W = .ok (.tuple #[.bool false]) W) ∨
    ∃ d ∈ D, d.2.2 ∉ seen ∧ ∃ W' : World, (Instr.next (.pointer (some ⟨r, 0, none⟩)) false ty).run Tryz.prog W = .ok (.tuple #[.bool true, .agg #[.int .i64 d.1.col, .int .i64 d.1.row], .int .i64 d.2.1]) W' ∧
      (Instr.entry (.pointer (some ⟨r, 0, none⟩))).run Tryz.prog W' = .ok (.tuple #[.agg #[.int .i64 d.1.col, .int .i64 d.1.row], .int .i64 d.2.1]) W' ∧ MapIt W' r M D (seen.push d.2.2) ∧ Turn r W W' := by
  obtain ⟨clock, c0, h1, h2, h3, h4⟩ := h.it
  have hold : ∀ x ∈ (D.map ent).toArray.toList, x.born < clock := by
    intro x hx
    obtain ⟨d, hd, rfl⟩ := List.mem_map.1 hx
    exact h4 d hd
  have hmem : ∀ x, x ∈ (leftOf (D.map ent).toArray seen).toList ↔ ∃ d ∈ D, d.2.2 ∉ seen ∧ x = ent d := by
    intro x
    unfold leftOf
    simp only [Array.mem_toList_iff, Array.mem_filter, List.mem_toArray, List.mem_map]
    constructor
    · rintro ⟨⟨d, hd, rfl⟩, hs⟩; exact ⟨d, hd, by simpa [ent] using hs, rfl⟩
    · rintro ⟨d, hd, hs, rfl⟩; exact ⟨⟨d, hd, rfl⟩, by simpa [ent] using hs⟩
  rcases run_next_at (P := Tryz.prog) W ty r M clock c0 seen _ clock h1 h3 hold h2 with ⟨h0, hrun⟩ | ⟨e, he, w1, hw1, hrun⟩
  · refine .inl ⟨fun d hd => ?_, hrun⟩
    refine Classical.byContradiction fun hn => ?_
    have := (hmem (ent d)).2 ⟨d, hd, hn, rfl⟩
    rw [Array.eq_empty_of_size_eq_zero h0] at this
    simp at this
  · obtain ⟨d, hd, hs, rfl⟩ := (hmem e).1 he
    have hw : w1.heap = W.heap ∧ w1.os = W.os ∧ w1.tape = W.tape ∧ w1.output = W.output := by rcases hw1 with rfl | rfl <;> exact ⟨rfl, rfl, rfl, rfl⟩
    obtain ⟨q1, q2, q3, q4⟩ := hw
    have hlt : r < W.heap.size := h.lt
    have b1 : (setBlock w1 r (.mapIter (some M) clock (seen.push (ent d).born) clock)).heap[r]? = some (.mapIter (some M) clock (seen.push (ent d).born) clock) := by
      simp [setBlock, q1, hlt]
    have b2 : ∀ k, k ≠ r → (setBlock w1 r (.mapIter (some M) clock (seen.push (ent d).born) clock)).heap[k]? = W.heap[k]? := by
      intro k hk
      simp [setBlock, q1, Array.getElem?_setIfInBounds_ne (Ne.symm hk)]
    refine .inr ⟨d, hd, hs, _, hrun, ?_, ⟨⟨clock, clock, b1, Nat.le_refl _, (b2 M (Ne.symm hrM)).trans h3, h4⟩, h.keys, h.born⟩, ⟨q2, q3, q4, by simp [setBlock, q1], b2⟩⟩
    exact run_entry_at _ r M clock seen (D.map ent).toArray clock (ent d) b1 ((b2 M (Ne.symm hrM)).trans h3) (by simp only [List.mem_map]; exact ⟨d, hd, rfl⟩) (by simpa [Function.comp_def, ent] using h.born)
end Go.Proofs.YtnmaabejdmaahaaGreatDoor.Ice
namespace Go
open Go.RowKit
def Region.upB (ops : Array Oper) : Bool := (List.range ops.size).all fun i => match ops[i]? with
  | some o => o.after.all fun e => !Region.binds .any e || decide (e.on < i)
  | none => true
theorem Region.upB_spec {ops : Array Oper} (h : Region.upB ops = true) {i : Nat} {o : Oper} (ho : ops[i]? = some o) : ∀ e ∈ o.after, Region.binds .any e = true → e.on < i := by
  intro e he hb
  have hi : i < ops.size := (Array.getElem?_eq_some_iff.1 ho).1
  have h1 := List.all_eq_true.1 h i (List.mem_range.2 hi)
  rw [ho] at h1
  have h2 := Array.all_eq_true'.1 h1 e he
  simpa [hb] using h2
def lst (listed : Array Bool) (i : Nat) : Bool := listed.getD i false
theorem lst_set {listed : Array Bool} {i j : Nat} (hi : i < listed.size) : lst (listed.setIfInBounds i true) j = (decide (j = i) || lst listed j) := by
  unfold lst
  by_cases e : j = i
  · subst e; simp [hi]
  · rw [getD_set_ne false (by omega)]; simp [e]
theorem ready_all {ops : Array Oper} (hup : Region.upB ops = true) {listed : Array Bool} (hs : listed.size = ops.size) (h : Region.ready .any ops listed = []) : ∀ i, i < ops.size → lst listed i = true := by
  intro i
  induction i using Nat.strongRecOn with
  | _ i ih =>
    intro hi
    refine Classical.byContradiction fun hn => ?_
    have hin : i ∈ Region.ready .any ops listed := mem_ready.2 ⟨by unfold lst at hn; exact getD_in (by omega) (by simpa using hn), ops[i], by simp [hi], fun e he hb => by
      have := Region.upB_spec hup (i := i) (o := ops[i]) (by simp [hi]) e he hb
      exact ih e.on this (by omega)⟩
    rw [h] at hin
    cases hin
theorem wpAny_inv {P : Program} {ops : Array Oper} {Q : Exit → Act → World → Prop} (hup : Region.upB ops = true) (Inv : (Nat → Bool) → Act → World → Prop)
    (hstep : ∀ (s : Nat → Bool) (a : Act) (w : World) (i : Nat) (o : Oper), ops[i]? = some o → s i = false → (∀ e ∈ o.after, Region.binds .any e = true → s e.on = true) → Inv s a w →
      wpOp P ops Q i (fun a' w' => Inv (fun j => decide (j = i) || s j) a' w') a w)
    (hend : ∀ (s : Nat → Bool) (a : Act) (w : World), (∀ i, i < ops.size → s i = true) → Inv s a w → Q .normal a w) :
    ∀ (f : Nat) (listed : Array Bool) (a : Act) (w : World), listed.size = ops.size → ((List.range ops.size).filter fun i => !lst listed i).length ≤ f → Inv (lst listed) a w → wpAny P .any ops Q f listed a w
  | 0, listed, a, w, hs, hf, h => by
    have hall : ∀ i, i < ops.size → lst listed i = true := fun i hi => by
      have h0 := List.eq_nil_of_length_eq_zero (Nat.le_zero.1 hf)
      have := (List.filter_eq_nil_iff.1 h0) i (List.mem_range.2 hi)
      simpa using this
    refine ⟨?_, hend _ a w hall h⟩
    cases hr : Region.ready .any ops listed with
    | nil => rfl
    | cons i r =>
      have hi : i ∈ Region.ready .any ops listed := by rw [hr]; simp
      obtain ⟨h1, o, ho, _⟩ := mem_ready.1 hi
      have := hall i (Array.getElem?_eq_some_iff.1 ho).1
      unfold lst at this
      rw [getD_both h1] at this
      cases this
  | f + 1, listed, a, w, hs, hf, h => by
    refine ⟨fun h0 => hend _ a w (ready_all hup hs h0) h, fun i hi => ?_⟩
    obtain ⟨h1, o, ho, hall⟩ := mem_ready.1 hi
    have hlt : i < ops.size := (Array.getElem?_eq_some_iff.1 ho).1
    have hli : lst listed i = false := getD_both h1
    refine wpOp_mono (fun a' w' h' => ?_) (hstep (lst listed) a w i o ho hli hall h)
    refine wpAny_inv hup Inv hstep hend f _ a' w' (by simpa using hs) ?_ ?_
    · have e : ((List.range ops.size).filter fun j => !lst (listed.setIfInBounds i true) j) = ((List.range ops.size).filter fun j => !lst listed j).filter (fun j => decide (j ≠ i)) := by
        rw [List.filter_filter]
        apply List.filter_congr
        intro j _
        rw [lst_set (by omega)]
        by_cases ej : j = i <;> simp [ej]
      rw [e]
      have hm : i ∈ (List.range ops.size).filter fun j => !lst listed j := List.mem_filter.2 ⟨List.mem_range.2 hlt, by simp [hli]⟩
      have := List.length_filter_lt_length_iff_exists (p := fun j => decide (j ≠ i)) |>.2 ⟨i, hm, by simp⟩
      omega
    · have : lst (listed.setIfInBounds i true) = fun j => decide (j = i) || lst listed j := funext fun j => lst_set (by omega)
      rw [this]
      exact h'
theorem wp_region_inv {P : Program} {id : Nat} {Q : Exit → Act → World → Prop} {a : Act} {w : World} {l : List Oper} (hm : P.follows .mixedOrders = true) (hup : Region.upB l.toArray = true) (Inv : (Nat → Bool) → Act → World → Prop)
    (h0 : Inv (fun _ => false) a w.drew)
    (hstep : ∀ (s : Nat → Bool) (a : Act) (w : World) (i : Nat) (o : Oper), l.toArray[i]? = some o → s i = false → (∀ e ∈ o.after, Region.binds .any e = true → s e.on = true) → Inv s a w →
      wpOp P l.toArray Q i (fun a' w' => Inv (fun j => decide (j = i) || s j) a' w') a w)
    (hend : ∀ (s : Nat → Bool) (a : Act) (w : World), (∀ i, i < l.length → s i = true) → Inv s a w → Q .normal a w) : (Code.region id l.toArray true).wp P Q a w := by
  refine wp_region_any hm (wpAny_inv hup Inv hstep (by simpa using hend) _ _ _ _ (by simp) ?_ ?_)
  · refine Nat.le_trans (List.length_filter_le _ _) (by simp)
  · have : lst (Array.replicate l.toArray.size false) = fun _ => false := funext fun j => getD_replicate_false _ _
    rw [this]
    exact h0
end Go
namespace Go.Proofs.YtnmaabejdmaahaaGreatDoor.Ice
open Go.RowKit Go.Proofs Go.Shelf
theorem mem_nbrs {x : Grid} (v : Valid x) {c n : Cel} : n ∈ nbrs x c ↔ InG x n ∧ ((n.col = c.col - 1 ∧ n.row = c.row) ∨ (n.col = c.col ∧ n.row = c.row - 1) ∨ (n.col = c.col ∧ n.row = c.row + 1) ∨ (n.col = c.col + 1 ∧ n.row = c.row)) := by
  unfold nbrs
  rw [List.mem_filter, cellB_in v]
  have : n ∈ cand c ↔ ((n.col = c.col - 1 ∧ n.row = c.row) ∨ (n.col = c.col ∧ n.row = c.row - 1) ∨ (n.col = c.col ∧ n.row = c.row + 1) ∨ (n.col = c.col + 1 ∧ n.row = c.row)) := by
    cases n; cases c
    simp [cand]
    omega
  rw [this]
  exact And.comm
theorem nbrs_symm {x : Grid} (v : Valid x) {c n : Cel} (hc : InG x c) (h : n ∈ nbrs x c) : c ∈ nbrs x n := by
  rw [mem_nbrs v] at h ⊢
  refine ⟨hc, ?_⟩
  omega
theorem nbrs_in {x : Grid} (v : Valid x) {c n : Cel} (h : n ∈ nbrs x c) : InG x n := ((mem_nbrs v).1 h).1
theorem stepI_symm (x : Grid) (a b : Cel) : stepI x a b = stepI x b a := Int.add_comm _ _
theorem stepI_bd {x : Grid} (v : Valid x) (a b : Cel) : 2 ≤ stepI x a b ∧ stepI x a b ≤ 2000 := by
  have := delayAt_bd v a
  have := delayAt_bd v b
  unfold stepI; omega
structure IsDist (x : Grid) (fr : Cel) (d : Cel → Int) : Prop where
  zero : d fr = 0
  nonneg : ∀ c, InG x c → 0 ≤ d c
  le : ∀ c n, InG x c → n ∈ nbrs x c → d n ≤ d c + stepI x c n
  tight : ∀ c, InG x c → c ≠ fr → ∃ n ∈ nbrs x c, d c = d n + stepI x n c
theorem IsDist.le_of {x : Grid} (v : Valid x) {fr : Cel} {d d' : Cel → Int} (h : IsDist x fr d) (h' : IsDist x fr d') : ∀ (k : Nat) (c : Cel), InG x c → (d' c).toNat ≤ k → d c ≤ d' c := by
  intro k
  induction k using Nat.strongRecOn with
  | _ k ih =>
    intro c hc hk
    by_cases hf : c = fr
    · subst hf; rw [h.zero, h'.zero]; exact Int.le_refl _
    · obtain ⟨n, hn, e⟩ := h'.tight c hc hf
      have hin := nbrs_in v hn
      have s := stepI_bd v n c
      have p := h'.nonneg n hin
      have := ih (d' n).toNat (by omega) n hin (Nat.le_refl _)
      have := h.le n c hin (nbrs_symm v hc hn)
      omega
theorem IsDist.unique {x : Grid} (v : Valid x) {fr : Cel} {d d' : Cel → Int} (h : IsDist x fr d) (h' : IsDist x fr d') {c : Cel} (hc : InG x c) : d c = d' c :=
  Int.le_antisymm (h.le_of v h' _ c hc (Nat.le_refl _)) (h'.le_of v h _ c hc (Nat.le_refl _))
theorem IsDist.pos {x : Grid} (v : Valid x) {fr : Cel} {d : Cel → Int} (h : IsDist x fr d) {c : Cel} (hc : InG x c) : d c = 0 ↔ c = fr := by
  constructor
  · intro e
    refine Classical.byContradiction fun hn => ?_
    obtain ⟨n, hn, e2⟩ := h.tight c hc hn
    have := h.nonneg n (nbrs_in v hn)
    have := stepI_bd v n c
    omega
  · rintro rfl; exact h.zero
theorem grid_conn {x : Grid} (v : Valid x) {P : Cel → Prop} {fr : Cel} (hf : InG x fr) (h0 : P fr) (hs : ∀ c n, InG x c → P c → n ∈ nbrs x c → P n) : ∀ c, InG x c → P c := by
  have right : ∀ (k : Nat) (c r : Int), InG x ⟨c, r⟩ → P ⟨c, r⟩ → c + k < x.tilt.length → P ⟨c + k, r⟩ := by
    intro k
    induction k with
    | zero => intro c r _ hp _; simpa using hp
    | succ k ih =>
      intro c r hc hp hk
      have h1 := ih c r hc hp (by omega)
      have hin : InG x ⟨c + k, r⟩ := ⟨⟨by have := hc.1.1; simp only at this ⊢; omega, by simp only; omega⟩, hc.2⟩
      have := hs ⟨c + k, r⟩ ⟨c + (k + 1 : Nat), r⟩ hin h1 ((mem_nbrs v).2 ⟨⟨⟨by have := hc.1.1; simp only at this ⊢; omega, by simp only; omega⟩, hc.2⟩, .inr (.inr (.inr ⟨by simp only; omega, rfl⟩))⟩)
      exact this
  have left : ∀ (k : Nat) (c r : Int), InG x ⟨c, r⟩ → P ⟨c, r⟩ → 0 ≤ c - k → P ⟨c - k, r⟩ := by
    intro k
    induction k with
    | zero => intro c r _ hp _; simpa using hp
    | succ k ih =>
      intro c r hc hp hk
      have h1 := ih c r hc hp (by omega)
      have hin : InG x ⟨c - k, r⟩ := ⟨⟨by simp only; omega, by have := hc.1.2; simp only at this ⊢; omega⟩, hc.2⟩
      exact hs ⟨c - k, r⟩ ⟨c - (k + 1 : Nat), r⟩ hin h1 ((mem_nbrs v).2 ⟨⟨⟨by simp only; omega, by have := hc.1.2; simp only at this ⊢; omega⟩, hc.2⟩, .inl ⟨by simp only; omega, rfl⟩⟩)
  have down : ∀ (k : Nat) (c r : Int), InG x ⟨c, r⟩ → P ⟨c, r⟩ → r + k < x.rows → P ⟨c, r + k⟩ := by
    intro k
    induction k with
    | zero => intro c r _ hp _; simpa using hp
    | succ k ih =>
      intro c r hc hp hk
      have h1 := ih c r hc hp (by omega)
      have hin : InG x ⟨c, r + k⟩ := ⟨hc.1, by have := hc.2.1; simp only at this ⊢; omega, by simp only; omega⟩
      exact hs ⟨c, r + k⟩ ⟨c, r + (k + 1 : Nat)⟩ hin h1 ((mem_nbrs v).2 ⟨⟨hc.1, by have := hc.2.1; simp only at this ⊢; omega, by simp only; omega⟩, .inr (.inr (.inl ⟨rfl, by simp only; omega⟩))⟩)
  have up : ∀ (k : Nat) (c r : Int), InG x ⟨c, r⟩ → P ⟨c, r⟩ → 0 ≤ r - k → P ⟨c, r - k⟩ := by
    intro k
    induction k with
    | zero => intro c r _ hp _; simpa using hp
    | succ k ih =>
      intro c r hc hp hk
      have h1 := ih c r hc hp (by omega)
      have hin : InG x ⟨c, r - k⟩ := ⟨hc.1, by simp only; omega, by have := hc.2.2; simp only at this ⊢; omega⟩
      exact hs ⟨c, r - k⟩ ⟨c, r - (k + 1 : Nat)⟩ hin h1 ((mem_nbrs v).2 ⟨⟨hc.1, by simp only; omega, by have := hc.2.2; simp only at this ⊢; omega⟩, .inr (.inl ⟨rfl, by simp only; omega⟩)⟩)
  intro c hc
  obtain ⟨fc, fr⟩ := fr
  obtain ⟨cc, cr⟩ := c
  have m : P ⟨cc, fr⟩ := by
    rcases Int.le_total fc cc with h | h
    · have := right (cc - fc).toNat fc fr hf h0 (by have := hc.1.2; simp only at this; omega)
      rwa [show fc + ((cc - fc).toNat : Int) = cc by omega] at this
    · have := left (fc - cc).toNat fc fr hf h0 (by have := hc.1.1; simp only at this; omega)
      rwa [show fc - ((fc - cc).toNat : Int) = cc by omega] at this
  have hm : InG x ⟨cc, fr⟩ := ⟨hc.1, hf.2⟩
  rcases Int.le_total fr cr with h | h
  · have := down (cr - fr).toNat cc fr hm m (by have := hc.2.2; simp only at this; omega)
    rwa [show fr + ((cr - fr).toNat : Int) = cr by omega] at this
  · have := up (fr - cr).toNat cc fr hm m (by have := hc.2.1; simp only at this; omega)
    rwa [show fr - ((fr - cr).toNat : Int) = cr by omega] at this
structure Search (x : Grid) (fr : Cel) (S O : Cel → Option Int) (N : Nat) : Prop where
  apart : ∀ c t, O c = some t → S c = none
  sIn : ∀ c t, S c = some t → InG x c ∧ 0 ≤ t
  oIn : ∀ c t, O c = some t → InG x c ∧ 0 ≤ t ∧ t ≤ 2000 * N
  edge : ∀ a t n, S a = some t → n ∈ nbrs x a → ∃ u, (S n = some u ∨ O n = some u) ∧ u ≤ t + stepI x a n
  sTight : ∀ c t, S c = some t → c ≠ fr → ∃ n ∈ nbrs x c, ∃ u, S n = some u ∧ t = u + stepI x n c
  oTight : ∀ c t, O c = some t → c ≠ fr → ∃ n ∈ nbrs x c, ∃ u, S n = some u ∧ t = u + stepI x n c
  mono : ∀ a t c u, S a = some t → O c = some u → t ≤ u
  start : S fr = some 0 ∨ (O fr = some 0 ∧ (∀ c, S c = none) ∧ ∀ c t, O c = some t → c = fr)
theorem Search.done {x : Grid} (v : Valid x) {fr : Cel} (hf : InG x fr) {S O : Cel → Option Int} {N : Nat} (h : Search x fr S O N) (ho : ∀ c, O c = none) :
    IsDist x fr (fun c => (S c).getD 0) ∧ ∀ c, InG x c → ∃ t, S c = some t := by
  have hs : S fr = some 0 := by
    rcases h.start with h | ⟨h, _⟩
    · exact h
    · rw [ho] at h; cases h
  have hall : ∀ c, InG x c → ∃ t, S c = some t := grid_conn v hf ⟨0, hs⟩ (fun c n _ ⟨t, ht⟩ hn => by
    obtain ⟨u, hu | hu, _⟩ := h.edge c t n ht hn
    · exact ⟨u, hu⟩
    · rw [ho] at hu; cases hu)
  refine ⟨⟨by simp [hs], fun c hc => ?_, fun c n hc hn => ?_, fun c hc hne => ?_⟩, hall⟩
  · obtain ⟨t, ht⟩ := hall c hc
    simp only [ht, Option.getD_some]
    exact (h.sIn c t ht).2
  · obtain ⟨t, ht⟩ := hall c hc
    obtain ⟨u, hu | hu, hle⟩ := h.edge c t n ht hn
    · simp only [ht, hu, Option.getD_some]; exact hle
    · rw [ho] at hu; cases hu
  · obtain ⟨t, ht⟩ := hall c hc
    obtain ⟨n, hn, u, hu, e⟩ := h.sTight c t ht hne
    exact ⟨n, hn, by simp only [ht, hu, Option.getD_some]; exact e⟩
structure Round (x : Grid) (fr now : Cel) (m : Int) (S O : Cel → Option Int) (N : Nat) (pre : List Cel) : Prop where
  apart : ∀ c t, O c = some t → S c = none
  sIn : ∀ c t, S c = some t → InG x c ∧ 0 ≤ t
  oIn : ∀ c t, O c = some t → InG x c ∧ 0 ≤ t ∧ t ≤ 2000 * N
  edge : ∀ a t n, S a = some t → n ∈ nbrs x a → (a = now → n ∈ pre) → ∃ u, (S n = some u ∨ O n = some u) ∧ u ≤ t + stepI x a n
  sTight : ∀ c t, S c = some t → c ≠ fr → ∃ n ∈ nbrs x c, ∃ u, S n = some u ∧ t = u + stepI x n c
  oTight : ∀ c t, O c = some t → c ≠ fr → ∃ n ∈ nbrs x c, ∃ u, S n = some u ∧ t = u + stepI x n c
  mono : ∀ a t c u, S a = some t → O c = some u → t ≤ u
  top : ∀ a t, S a = some t → t ≤ m
  here : S now = some m
  start : S fr = some 0
  small : m ≤ 2000 * (N - 1 : Nat) ∧ 1 ≤ N
theorem Search.pick {x : Grid} (_v : Valid x) {fr now : Cel} {m : Int} {S O S' O' : Cel → Option Int} {N : Nat} (h : Search x fr S O N) (hn : O now = some m) (hmin : ∀ c t, O c = some t → m ≤ t)
    (hS : ∀ c, S' c = if c = now then some m else S c) (hO : ∀ c, O' c = if c = now then none else O c) : Round x fr now m S' O' (N + 1) [] := by
  have hin := h.oIn now m hn
  refine ⟨fun c t hc => ?_, fun c t hc => ?_, fun c t hc => ?_, fun a t n ha hna hp => ?_, fun c t hc hne => ?_, fun c t hc hne => ?_, fun a t c u ha hc => ?_, fun a t ha => ?_, by rw [hS]; simp, ?_, ?_⟩
  · rw [hO] at hc; split at hc
    · cases hc
    · rename_i e; rw [hS, if_neg e]; exact h.apart c t hc
  · rw [hS] at hc; split at hc
    · rename_i e; cases hc; subst e; exact ⟨hin.1, hin.2.1⟩
    · exact h.sIn c t hc
  · rw [hO] at hc; split at hc
    · cases hc
    · have := h.oIn c t hc; exact ⟨this.1, this.2.1, by omega⟩
  · rw [hS] at ha; split at ha
    · rename_i e; have := hp e; cases this
    · obtain ⟨u, hu, hle⟩ := h.edge a t n ha hna
      rcases hu with hu | hu
      · refine ⟨u, .inl ?_, hle⟩
        rw [hS, if_neg]
        · exact hu
        · rintro rfl; rw [h.apart _ _ hn] at hu; cases hu
      · by_cases e : n = now
        · subst e
          rw [hn] at hu; cases hu
          exact ⟨m, .inl (by rw [hS]; simp), hle⟩
        · exact ⟨u, .inr (by rw [hO, if_neg e]; exact hu), hle⟩
  · have keep : ∀ n u, S n = some u → S' n = some u := fun n u hu => by
      rw [hS, if_neg]
      · exact hu
      · rintro rfl; rw [h.apart _ _ hn] at hu; cases hu
    rw [hS] at hc; split at hc
    · rename_i e; cases hc; subst e
      obtain ⟨n, h1, u, h2, h3⟩ := h.oTight c m hn hne
      exact ⟨n, h1, u, keep n u h2, h3⟩
    · obtain ⟨n, h1, u, h2, h3⟩ := h.sTight c t hc hne
      exact ⟨n, h1, u, keep n u h2, h3⟩
  · have keep : ∀ n u, S n = some u → S' n = some u := fun n u hu => by
      rw [hS, if_neg]
      · exact hu
      · rintro rfl; rw [h.apart _ _ hn] at hu; cases hu
    rw [hO] at hc; split at hc
    · cases hc
    · obtain ⟨n, h1, u, h2, h3⟩ := h.oTight c t hc hne
      exact ⟨n, h1, u, keep n u h2, h3⟩
  · rw [hO] at hc; split at hc
    · cases hc
    · rw [hS] at ha; split at ha
      · cases ha; exact hmin c u hc
      · exact h.mono a t c u ha hc
  · rw [hS] at ha; split at ha
    · cases ha; exact Int.le_refl _
    · exact h.mono a t now m ha hn
  · rw [hS]
    rcases h.start with hs | ⟨h1, h2, h3⟩
    · rw [if_neg]
      · exact hs
      · rintro rfl; rw [h.apart _ _ hn] at hs; cases hs
    · have e := h3 now m hn
      subst e
      rw [h1] at hn; cases hn
      simp
  · have := hin.2.2
    exact ⟨by simpa using this, by omega⟩
theorem Round.end {x : Grid} {fr now : Cel} {m : Int} {S O : Cel → Option Int} {N : Nat} (h : Round x fr now m S O N (nbrs x now)) : Search x fr S O N :=
  ⟨h.apart, h.sIn, h.oIn, fun a t n ha hn => h.edge a t n ha hn (fun e => by rw [← e]; exact hn), h.sTight, h.oTight, h.mono, .inl h.start⟩
theorem Round.skip {x : Grid} (v : Valid x) {fr now : Cel} {m : Int} {S O : Cel → Option Int} {N : Nat} {pre : List Cel} (h : Round x fr now m S O N pre) {n : Cel} {u : Int} (hs : S n = some u) : Round x fr now m S O N (pre ++ [n]) :=
  ⟨h.apart, h.sIn, h.oIn, fun a t k ha hk hp => by
    by_cases e : a = now ∧ k = n
    · obtain ⟨rfl, rfl⟩ := e
      rw [h.here] at ha; cases ha
      have := h.top k u hs
      have := stepI_bd v a k
      exact ⟨u, .inl hs, by omega⟩
    · refine h.edge a t k ha hk (fun e2 => ?_)
      have := hp e2
      simp at this
      rcases this with h1 | h1
      · exact h1
      · exact absurd ⟨e2, h1⟩ e, h.sTight, h.oTight, h.mono, h.top, h.here, h.start, h.small⟩
theorem Round.stay {x : Grid} {fr now : Cel} {m : Int} {S O : Cel → Option Int} {N : Nat} {pre : List Cel} (h : Round x fr now m S O N pre) {n : Cel} {u : Int} (ho : O n = some u) (hle : u ≤ m + stepI x now n) : Round x fr now m S O N (pre ++ [n]) :=
  ⟨h.apart, h.sIn, h.oIn, fun a t k ha hk hp => by
    by_cases e : a = now ∧ k = n
    · obtain ⟨rfl, rfl⟩ := e
      rw [h.here] at ha; cases ha
      exact ⟨u, .inr ho, hle⟩
    · refine h.edge a t k ha hk (fun e2 => ?_)
      have := hp e2
      simp at this
      rcases this with h1 | h1
      · exact h1
      · exact absurd ⟨e2, h1⟩ e, h.sTight, h.oTight, h.mono, h.top, h.here, h.start, h.small⟩
theorem Round.lower {x : Grid} (v : Valid x) {fr now : Cel} {m : Int} {S O O' : Cel → Option Int} {N : Nat} {pre : List Cel} (h : Round x fr now m S O N pre) {n : Cel} (hn : n ∈ nbrs x now) (hs : S n = none) (hlow : ∀ u, O n = some u → m + stepI x now n ≤ u)
    (hO : ∀ c, O' c = if c = n then some (m + stepI x now n) else O c) : Round x fr now m S O' N (pre ++ [n]) := by
  have hm := h.sIn now m h.here
  have st := stepI_bd v now n
  have sm := h.small
  refine ⟨fun c t hc => ?_, h.sIn, fun c t hc => ?_, fun a t k ha hk hp => ?_, h.sTight, fun c t hc hne => ?_, fun a t c u ha hc => ?_, h.top, h.here, h.start, h.small⟩
  · rw [hO] at hc; split at hc
    · rename_i e; subst e; exact hs
    · exact h.apart c t hc
  · rw [hO] at hc; split at hc
    · rename_i e; cases hc; subst e
      exact ⟨nbrs_in v hn, by omega, by omega⟩
    · exact h.oIn c t hc
  · by_cases e : a = now ∧ k = n
    · obtain ⟨rfl, rfl⟩ := e
      rw [h.here] at ha; cases ha
      exact ⟨m + stepI x a k, .inr (by rw [hO]; simp), Int.le_refl _⟩
    · obtain ⟨u, hu, hle⟩ := h.edge a t k ha hk (fun e2 => by
        have := hp e2
        simp at this
        rcases this with h1 | h1
        · exact h1
        · exact absurd ⟨e2, h1⟩ e)
      rcases hu with hu | hu
      · exact ⟨u, .inl hu, hle⟩
      · by_cases e2 : k = n
        · subst e2
          have := hlow u hu
          exact ⟨m + stepI x now k, .inr (by rw [hO]; simp), by omega⟩
        · exact ⟨u, .inr (by rw [hO, if_neg e2]; exact hu), hle⟩
  · rw [hO] at hc; split at hc
    · rename_i e; cases hc; subst e
      exact ⟨now, nbrs_symm v hm.1 hn, m, h.here, rfl⟩
    · exact h.oTight c t hc hne
  · rw [hO] at hc; split at hc
    · cases hc
      have := h.top a t ha
      omega
    · exact h.mono a t c u ha hc
theorem Search.begin {x : Grid} {fr : Cel} (hf : InG x fr) {S O : Cel → Option Int} (hS : ∀ c, S c = none) (hO : ∀ c, O c = if c = fr then some 0 else none) : Search x fr S O 0 := by
  have ho : ∀ c t, O c = some t → c = fr ∧ t = 0 := fun c t h => by
    rw [hO] at h; split at h
    · rename_i e; cases h; exact ⟨e, rfl⟩
    · cases h
  refine ⟨fun c t _ => hS c, fun c t h => ?_, fun c t h => ?_, fun a t n h => ?_, fun c t h => ?_, fun c t h hne => absurd (ho c t h).1 hne, fun a t c u h => ?_, .inr ⟨by rw [hO]; simp, hS, fun c t h => (ho c t h).1⟩⟩
  · rw [hS] at h; cases h
  · obtain ⟨rfl, rfl⟩ := ho c t h; exact ⟨hf, by decide, by decide⟩
  · rw [hS] at h; cases h
  · rw [hS] at h; cases h
  · rw [hS] at h; cases h
end Go.Proofs.YtnmaabejdmaahaaGreatDoor.Ice
namespace Go.Proofs.YtnmaabejdmaahaaGreatDoor.Ice
open Go.RowKit Go.Proofs Go.Shelf
structure Opening (W0 : World) (fr : Cel) (s : Nat → Bool) (u5 u6 u17 u18 u19 u20 : Value) (W : World) : Prop where
  ext : Ext W0 W
  dep3 : s 3 = true → s 1 = true
  dep4 : s 4 = true → s 1 = true ∧ s 3 = true
  dep7 : s 7 = true → s 0 = true ∧ s 5 = true
  dep8 : s 8 = true → s 4 = true ∧ s 6 = true
  g17 : s 0 = true → ∃ m, u17 = .map (some m) ∧ W0.heap.size ≤ m ∧ MapAt W m []
  g18 : s 1 = true → ∃ m, u18 = .map (some m) ∧ W0.heap.size ≤ m ∧ m < W.heap.size ∧ (s 3 = false → MapAt W m []) ∧ (s 3 = true → ∃ D, MapAt W m D ∧ (∀ c, valOf D c = if c = fr then some 0 else none) ∧ D.length = 1) ∧ (s 0 = true → u17 ≠ .map (some m))
  g19 : s 2 = true → u19 = .agg #[.int .i64 fr.col, .int .i64 fr.row]
  g20 : s 4 = true → u20 = u18
  g5 : s 5 = true → ∃ b, u5 = .pointer (some ⟨b, 0, none⟩) ∧ W0.heap.size ≤ b ∧ b < W.heap.size ∧ W.frozen? ⟨b, 0, none⟩ = false ∧ W.cell? ⟨b, 0, none⟩ = some (if s 7 then u17 else .map none)
  g6 : s 6 = true → ∃ b, u6 = .pointer (some ⟨b, 0, none⟩) ∧ W0.heap.size ≤ b ∧ b < W.heap.size ∧ W.frozen? ⟨b, 0, none⟩ = false ∧ W.cell? ⟨b, 0, none⟩ = some (if s 8 then u20 else .map none) ∧ (s 5 = true → u5 ≠ .pointer (some ⟨b, 0, none⟩))
theorem Opening.begin (W0 W : World) (fr : Cel) (h : Ext W0 W) : Opening W0 fr (fun _ => false) undef undef undef undef undef undef W :=
  ⟨h, by simp, by simp, by simp, by simp, by simp, by simp, by simp, by simp, by simp, by simp⟩
theorem Opening.more {W0 W W' : World} {fr : Cel} {s : Nat → Bool} {u5 u6 u17 u18 u19 u20 : Value} (O : Opening W0 fr s u5 u6 u17 u18 u19 u20 W) (h : Ext W W') : Opening W0 fr s u5 u6 u17 u18 u19 u20 W' :=
  ⟨O.ext.trans h, O.dep3, O.dep4, O.dep7, O.dep8, fun h0 => let ⟨m, a, b, c⟩ := O.g17 h0; ⟨m, a, b, c.ext h⟩,
   fun h0 => let ⟨m, a, b, l, c, d, e⟩ := O.g18 h0; ⟨m, a, b, Nat.lt_of_lt_of_le l h.le, fun h3 => (c h3).ext h, fun h3 => let ⟨D, q, r⟩ := d h3; ⟨D, q.ext h, r⟩, e⟩, O.g19, O.g20,
   fun h0 => let ⟨m, a, b, l, c, d⟩ := O.g5 h0; ⟨m, a, b, Nat.lt_of_lt_of_le l h.le, h.frozen_of l c, h.cell_of d⟩,
   fun h0 => let ⟨m, a, b, l, c, d, e⟩ := O.g6 h0; ⟨m, a, b, Nat.lt_of_lt_of_le l h.le, h.frozen_of l c, h.cell_of d, e⟩⟩
theorem Opening.s0 {W0 W : World} {fr : Cel} {s : Nat → Bool} {u5 u6 u17 u18 u19 u20 : Value} (O : Opening W0 fr s u5 u6 u17 u18 u19 u20 W) (h : s 0 = false) :
    Opening W0 fr (fun j => decide (j = 0) || s j) u5 u6 (.map (some W.heap.size)) u18 u19 u20 (W.alloc (.map #[] 0)) := by
  have N := O.more (Ext.alloc W (.map #[] 0))
  have h7 : s 7 = false := by cases e : s 7 with | false => rfl | true => have := (O.dep7 e).1; simp_all
  refine ⟨N.ext, by simpa using N.dep3, by simpa using N.dep4, by simpa using fun e => (N.dep7 e).2, by simpa using N.dep8, fun _ => ⟨_, rfl, O.ext.le, MapAt.alloc_new W⟩, fun h1 => ?_, by simpa using N.g19, by simpa using N.g20, by simpa [h7] using N.g5, by simpa using N.g6⟩
  obtain ⟨m, a, b, l, c, d, e⟩ := N.g18 (by simpa using h1)
  have l' : m < W.heap.size := by obtain ⟨m', a', _, l', _⟩ := O.g18 (by simpa using h1); rw [a] at a'; cases a'; exact l'
  refine ⟨m, a, b, l, by simpa using c, by simpa using d, fun _ e => ?_⟩
  simp at e; omega
theorem Opening.s1 {W0 W : World} {fr : Cel} {s : Nat → Bool} {u5 u6 u17 u18 u19 u20 : Value} (O : Opening W0 fr s u5 u6 u17 u18 u19 u20 W) (h : s 1 = false) :
    Opening W0 fr (fun j => decide (j = 1) || s j) u5 u6 u17 (.map (some W.heap.size)) u19 u20 (W.alloc (.map #[] 0)) := by
  have N := O.more (Ext.alloc W (.map #[] 0))
  have h3 : s 3 = false := by cases e : s 3 with | false => rfl | true => have := (O.dep3 e); simp_all
  have h4 : s 4 = false := by cases e : s 4 with | false => rfl | true => have := (O.dep4 e).1; simp_all
  refine ⟨N.ext, by simp, by simpa using fun e => (N.dep4 e).2, by simpa using N.dep7, by simpa using N.dep8, by simpa using N.g17, fun h1 => ?_, by simpa using N.g19, by simp [h4], by simpa using N.g5, by simpa using N.g6⟩
  refine ⟨_, rfl, O.ext.le, by simp, fun _ => MapAt.alloc_new W, by simp [h3], fun h0 e => ?_⟩
  obtain ⟨m, a, b, c⟩ := O.g17 (by simpa using h0)
  rw [a] at e
  have := c.lt
  simp at e; omega
theorem Opening.s2 {W0 W : World} {fr : Cel} {s : Nat → Bool} {u5 u6 u17 u18 u19 u20 : Value} (O : Opening W0 fr s u5 u6 u17 u18 u19 u20 W) :
    Opening W0 fr (fun j => decide (j = 2) || s j) u5 u6 u17 u18 (.agg #[.int .i64 fr.col, .int .i64 fr.row]) u20 W :=
  ⟨O.ext, by simpa using O.dep3, by simpa using O.dep4, by simpa using O.dep7, by simpa using O.dep8, by simpa using O.g17, by simpa using O.g18, by simp, by simpa using O.g20, by simpa using O.g5, by simpa using O.g6⟩
theorem Opening.s3 {W0 W : World} {fr : Cel} {s : Nat → Bool} {u5 u6 u17 u18 u19 u20 : Value} (O : Opening W0 fr s u5 u6 u17 u18 u19 u20 W) (h : s 3 = false) (h1 : s 1 = true) :
    ∃ o m, u18 = .map (some m) ∧ (Instr.mapUpdate 119 u18 (.agg #[.int .i64 fr.col, .int .i64 fr.row]) (.int .i64 0)).run Tryz.prog W = .ok () (W.putObj m o) ∧
    Opening W0 fr (fun j => decide (j = 3) || s j) u5 u6 u17 u18 u19 u20 (W.putObj m o) := by
  obtain ⟨m, rfl, b, l, c, d, e⟩ := O.g18 h1
  have hm := c h
  obtain ⟨o, D', hrun, hm', hv, hl⟩ := update_map hm fr 0
  have t := Turn.putObj W m o
  refine ⟨o, m, rfl, hrun, ⟨t.ext O.ext b, by simpa using h1, by simpa using fun e => (O.dep4 e).1, by simpa using O.dep7, by simpa using O.dep8, fun h0 => ?_, fun _ => ?_, by simpa using O.g19, by simpa using O.g20, fun h5 => ?_, fun h6 => ?_⟩⟩
  · obtain ⟨m', a', b', c'⟩ := O.g17 (by simpa using h0)
    refine ⟨m', a', b', t.map c' (fun e' => ?_)⟩
    subst e'
    exact e (by simpa using h0) a'
  · exact ⟨m, rfl, b, by rw [t.size]; exact l, by simp, fun _ => ⟨D', hm', fun c' => by rw [hv]; simp [valOf], by rw [hl]; simp [valOf]⟩, by simpa using e⟩
  · obtain ⟨m', a', b', l', c', d'⟩ := O.g5 (by simpa using h5)
    exact ⟨m', a', b', by rw [t.size]; exact l', t.frozenM hm d' c', t.cellM hm (by simpa using d')⟩
  · obtain ⟨m', a', b', l', c', d', e'⟩ := O.g6 (by simpa using h6)
    exact ⟨m', a', b', by rw [t.size]; exact l', t.frozenM hm d' c', t.cellM hm (by simpa using d'), by simpa using e'⟩
theorem Opening.s4 {W0 W : World} {fr : Cel} {s : Nat → Bool} {u5 u6 u17 u18 u19 u20 : Value} (O : Opening W0 fr s u5 u6 u17 u18 u19 u20 W) (h4 : s 4 = false) (h1 : s 1 = true) (h3 : s 3 = true) :
    Opening W0 fr (fun j => decide (j = 4) || s j) u5 u6 u17 u18 u19 u18 W := by
  have h8 : s 8 = false := by cases e : s 8 with | false => rfl | true => have := (O.dep8 e).1; simp_all
  exact ⟨O.ext, by simpa using O.dep3, by simp [h1, h3], by simpa using O.dep7, by simpa using fun e => (O.dep8 e).2, by simpa using O.g17, by simpa using O.g18, by simpa using O.g19, by simp, by simpa using O.g5, by simpa [h8] using O.g6⟩
theorem Opening.s5 {W0 W : World} {fr : Cel} {s : Nat → Bool} {u5 u6 u17 u18 u19 u20 : Value} (O : Opening W0 fr s u5 u6 u17 u18 u19 u20 W) (h5 : s 5 = false) :
    Opening W0 fr (fun j => decide (j = 5) || s j) (.pointer (some ⟨W.heap.size, 0, none⟩)) u6 u17 u18 u19 u20 (W.alloc (.cells #[.map none] 119)) := by
  have N := O.more (Ext.alloc W (.cells #[.map none] 119))
  have h7 : s 7 = false := by cases e : s 7 with | false => rfl | true => have := (O.dep7 e).2; simp_all
  refine ⟨N.ext, by simpa using N.dep3, by simpa using N.dep4, by simpa using fun e => (N.dep7 e).1, by simpa using N.dep8, by simpa using N.g17, by simpa using N.g18, by simpa using N.g19, by simpa using N.g20, fun _ => ⟨_, rfl, O.ext.le, by simp, World.frozen_at (by simp), by simp [h7]⟩, fun h6 => ?_⟩
  obtain ⟨m, a, b, l, c, d, e⟩ := N.g6 (by simpa using h6)
  have l' : m < W.heap.size := by obtain ⟨m', a', _, l', _⟩ := O.g6 (by simpa using h6); rw [a] at a'; cases a'; exact l'
  refine ⟨m, a, b, l, c, by simpa using d, fun _ e => ?_⟩
  simp at e
theorem Opening.s6 {W0 W : World} {fr : Cel} {s : Nat → Bool} {u5 u6 u17 u18 u19 u20 : Value} (O : Opening W0 fr s u5 u6 u17 u18 u19 u20 W) (h6 : s 6 = false) :
    Opening W0 fr (fun j => decide (j = 6) || s j) u5 (.pointer (some ⟨W.heap.size, 0, none⟩)) u17 u18 u19 u20 (W.alloc (.cells #[.map none] 119)) := by
  have N := O.more (Ext.alloc W (.cells #[.map none] 119))
  have h8 : s 8 = false := by cases e : s 8 with | false => rfl | true => have := (O.dep8 e).2; simp_all
  refine ⟨N.ext, by simpa using N.dep3, by simpa using N.dep4, by simpa using N.dep7, by simpa using fun e => (N.dep8 e).1, by simpa using N.g17, by simpa using N.g18, by simpa using N.g19, by simpa using N.g20, by simpa using N.g5, fun _ => ⟨_, rfl, O.ext.le, by simp, World.frozen_at (by simp), by simp [h8], fun h5 e => ?_⟩⟩
  obtain ⟨m, a, b, l, c⟩ := O.g5 (by simpa using h5)
  rw [a] at e
  simp at e
theorem MapAt.setCell' {W : World} {r : Nat} {D : List Ent} (h : MapAt W r D) (b : Nat) (v : Value) : MapAt (W.setCell ⟨b, 0, none⟩ v) r D := h.setCell b 0 v
theorem Opening.s7 {W0 W : World} {fr : Cel} {s : Nat → Bool} {u5 u6 u17 u18 u19 u20 : Value} (O : Opening W0 fr s u5 u6 u17 u18 u19 u20 W) (h7 : s 7 = false) (h0 : s 0 = true) (h5 : s 5 = true) :
    ∃ b, u5 = .pointer (some ⟨b, 0, none⟩) ∧ W.frozen? ⟨b, 0, none⟩ = false ∧ W.cell? ⟨b, 0, none⟩ = some (.map none) ∧ Opening W0 fr (fun j => decide (j = 7) || s j) u5 u6 u17 u18 u19 u20 (W.setCell ⟨b, 0, none⟩ u17) := by
  obtain ⟨b, rfl, hb, l, f, c⟩ := O.g5 h5
  rw [h7] at c
  simp at c
  refine ⟨b, rfl, f, c, O.ext.setCell hb _, by simpa using O.dep3, by simpa using O.dep4, by simp [h0, h5], by simpa using O.dep8, fun h0 => ?_, fun h1 => ?_, by simpa using O.g19, by simpa using O.g20, fun _ => ?_, fun h6 => ?_⟩
  · obtain ⟨m, e1, e2, e3⟩ := O.g17 (by simpa using h0); exact ⟨m, e1, e2, e3.setCell' _ _⟩
  · obtain ⟨m, e1, e2, l, e3, e4, e5⟩ := O.g18 (by simpa using h1)
    exact ⟨m, e1, e2, by simpa using l, fun h => (e3 (by simpa using h)).setCell' _ _, fun h => let ⟨D, q, r⟩ := e4 (by simpa using h); ⟨D, q.setCell' _ _, r⟩, by simpa using e5⟩
  · exact ⟨b, rfl, hb, by simpa using l, by rw [World.frozen?_setCell]; exact f, by rw [World.cell_same c]; simp⟩
  · obtain ⟨m, e1, e2, l, e3, e4, e5⟩ := O.g6 (by simpa using h6)
    have hne : ¬ b = m := fun e => e5 h5 (by rw [e])
    exact ⟨m, e1, e2, by simpa using l, by rw [World.frozen?_setCell]; exact e3, by simpa using World.cell_other e4 (by omega), by simp⟩
theorem Opening.s8 {W0 W : World} {fr : Cel} {s : Nat → Bool} {u5 u6 u17 u18 u19 u20 : Value} (O : Opening W0 fr s u5 u6 u17 u18 u19 u20 W) (h8 : s 8 = false) (h4 : s 4 = true) (h6 : s 6 = true) :
    ∃ b, u6 = .pointer (some ⟨b, 0, none⟩) ∧ W.frozen? ⟨b, 0, none⟩ = false ∧ W.cell? ⟨b, 0, none⟩ = some (.map none) ∧ Opening W0 fr (fun j => decide (j = 8) || s j) u5 u6 u17 u18 u19 u20 (W.setCell ⟨b, 0, none⟩ u20) := by
  obtain ⟨b, rfl, hb, l, f, c, ne⟩ := O.g6 h6
  rw [h8] at c
  simp at c
  refine ⟨b, rfl, f, c, O.ext.setCell hb _, by simpa using O.dep3, by simpa using O.dep4, by simpa using O.dep7, by simp [h4, h6], fun h0 => ?_, fun h1 => ?_, by simpa using O.g19, by simpa using O.g20, fun h5 => ?_, fun _ => ?_⟩
  · obtain ⟨m, e1, e2, e3⟩ := O.g17 (by simpa using h0); exact ⟨m, e1, e2, e3.setCell' _ _⟩
  · obtain ⟨m, e1, e2, l, e3, e4, e5⟩ := O.g18 (by simpa using h1)
    exact ⟨m, e1, e2, by simpa using l, fun h => (e3 (by simpa using h)).setCell' _ _, fun h => let ⟨D, q, r⟩ := e4 (by simpa using h); ⟨D, q.setCell' _ _, r⟩, by simpa using e5⟩
  · obtain ⟨m, e1, e2, l, e3, e4⟩ := O.g5 (by simpa using h5)
    have hne : ¬ b = m := fun e => ne (by simpa using h5) (by rw [e, e1])
    exact ⟨m, e1, e2, by simpa using l, by rw [World.frozen?_setCell]; exact e3, by simpa using World.cell_other e4 (by omega)⟩
  · exact ⟨b, rfl, hb, by simpa using l, by rw [World.frozen?_setCell]; exact f, by rw [World.cell_same c]; simp, by simpa using ne⟩
theorem Opening.end {W0 W : World} {fr : Cel} {s : Nat → Bool} {u5 u6 u17 u18 u19 u20 : Value} (O : Opening W0 fr s u5 u6 u17 u18 u19 u20 W) (h : ∀ i, i < 9 → s i = true) :
    ∃ M5 M6 R5 R6 D, u5 = .pointer (some ⟨R5, 0, none⟩) ∧ u6 = .pointer (some ⟨R6, 0, none⟩) ∧ (M5 ≠ M6 ∧ W0.heap.size ≤ M5 ∧ W0.heap.size ≤ M6) ∧ W.cell? ⟨R5, 0, none⟩ = some (.map (some M5)) ∧ W.cell? ⟨R6, 0, none⟩ = some (.map (some M6)) ∧
      MapAt W M5 [] ∧ MapAt W M6 D ∧ (∀ c, valOf D c = if c = fr then some 0 else none) ∧ Ext W0 W := by
  obtain ⟨m, e1, e2, e3⟩ := O.g17 (h 0 (by omega))
  obtain ⟨m', f1, f2, l, f3, f4, f5⟩ := O.g18 (h 1 (by omega))
  obtain ⟨D, q, r, _⟩ := f4 (h 3 (by omega))
  have h20 := O.g20 (h 4 (by omega))
  obtain ⟨b, p1, p2, _, _, p3⟩ := O.g5 (h 5 (by omega))
  obtain ⟨b', q1, q2, _, _, q3, _⟩ := O.g6 (h 6 (by omega))
  rw [h 7 (by omega)] at p3
  rw [h 8 (by omega), h20] at q3
  subst e1 f1
  exact ⟨m, m', b, b', D, p1, q1, ⟨fun e => f5 (h 0 (by omega)) (by rw [e]), e2, f2⟩, by simpa using p3, by simpa using q3, e3, q, r, O.ext⟩
def slotsOf (a : Act) (i : Nat) : Value := a.tmps.getD i undef
def mapSize (W : World) (M : Nat) : Nat := match W.heap[M]? with | some (.map es _) => es.size | _ => 0
theorem MapAt.size {W : World} {M : Nat} {D : List Ent} (h : MapAt W M D) : mapSize W M = D.length := by
  obtain ⟨c, e, _⟩ := h.blk
  simp [mapSize, e]
theorem _root_.Go.Marks.lt {B : Nat} {W : World} : ∀ {ds : List Deferred}, Marks B W ds → ∀ D, markOf D ∈ ds → B ≤ D ∧ D < W.heap.size
  | [], _, _, h => by cases h
  | d :: ds, ⟨⟨D, e, hB, hD, hn⟩, hs⟩, D', h => by
    rcases List.mem_cons.1 h with h | h
    · rw [e] at h
      have : D' = D := by simpa [markOf] using h
      subst this
      exact ⟨hB, (Array.getElem?_eq_some_iff.1 hD).1⟩
    · exact Marks.lt hs D' h
theorem _root_.Go.Keeps.map {n : Nat} {W W' : World} (k : Keeps n W W') {M : Nat} {D : List Ent} (h : MapAt W M D) (hM : M < n) : MapAt W' M D := by
  obtain ⟨c, e, h1⟩ := h.blk
  exact ⟨⟨c, k.heap hM e, h1⟩, h.keys, h.born⟩
theorem ext_marks {B : Nat} {W W' : World} (h : Ext W W') {ds : List Deferred} (m : Marks B W ds) : Marks B W' ds := m.keeps fun _ _ e => h.heap e
structure TS (w : World) (la ta : Option Addr) (lc tc : Nat) (x : Grid) (fr : Cel) (R5 R6 M5 M6 NB : Nat) (ds : List Deferred) (D5 D6 : List Ent) (W : World) : Prop where
  st : M5 ≠ M6 ∧ w.heap.size ≤ M5 ∧ w.heap.size ≤ M6 ∧ M5 < NB ∧ M6 < NB ∧ w.heap.size ≤ NB ∧ NB ≤ W.heap.size
  b00 : W.cell? ⟨w.heap.size, 0, none⟩ = some (.slice la x.layers.length lc)
  b01 : W.cell? ⟨w.heap.size, 1, none⟩ = some (.int .i64 x.rows)
  b02 : W.cell? ⟨w.heap.size, 2, none⟩ = some (.slice ta x.tilt.length tc)
  b10 : W.cell? ⟨w.heap.size + 1, 0, none⟩ = some (.int .i64 fr.col)
  b11 : W.cell? ⟨w.heap.size + 1, 1, none⟩ = some (.int .i64 fr.row)
  c5 : W.cell? ⟨R5, 0, none⟩ = some (.map (some M5))
  c6 : W.cell? ⟨R6, 0, none⟩ = some (.map (some M6))
  m5 : MapAt W M5 D5
  m6 : MapAt W M6 D6
  hx : Ext w W
  marks : Marks NB W ds
section
variable {w : World} {la ta : Option Addr} {lc tc : Nat} {x : Grid} {fr : Cel} {R5 R6 M5 M6 NB : Nat} {ds : List Deferred} {D5 D6 : List Ent} {W W' : World}
theorem TS.ext (h : TS w la ta lc tc x fr R5 R6 M5 M6 NB ds D5 D6 W) (e : Ext W W') : TS w la ta lc tc x fr R5 R6 M5 M6 NB ds D5 D6 W' :=
  ⟨⟨h.st.1, h.st.2.1, h.st.2.2.1, h.st.2.2.2.1, h.st.2.2.2.2.1, h.st.2.2.2.2.2.1, Nat.le_trans h.st.2.2.2.2.2.2 e.le⟩, e.cell_of h.b00, e.cell_of h.b01, e.cell_of h.b02, e.cell_of h.b10, e.cell_of h.b11, e.cell_of h.c5, e.cell_of h.c6, h.m5.ext e, h.m6.ext e, h.hx.trans e, ext_marks e h.marks⟩
theorem TS.keeps {n : Nat} (h : TS w la ta lc tc x fr R5 R6 M5 M6 NB ds D5 D6 W) (e : Keeps n W W') (hn : NB ≤ n) (hd : ∀ D, markOf D ∈ ds → D < n) : TS w la ta lc tc x fr R5 R6 M5 M6 NB ds D5 D6 W' := by
  obtain ⟨s1, s2, s3, s4, s5, s6, s7⟩ := h.st
  exact ⟨⟨s1, s2, s3, s4, s5, s6, Nat.le_trans s7 e.size⟩, e.cell h.b00, e.cell h.b01, e.cell h.b02, e.cell h.b10, e.cell h.b11, e.cell h.c5, e.cell h.c6, e.map h.m5 (by omega), e.map h.m6 (by omega), e.ext h.hx (by omega), h.marks.keeps fun D hD hm => e.heap (hd D hD) hm⟩
theorem TS.turn6 (h : TS w la ta lc tc x fr R5 R6 M5 M6 NB ds D5 D6 W) (t : Turn M6 W W') {D6' : List Ent} (m : MapAt W' M6 D6') : TS w la ta lc tc x fr R5 R6 M5 M6 NB ds D5 D6' W' := by
  obtain ⟨s1, s2, s3, s4, s5, s6, s7⟩ := h.st
  exact ⟨⟨s1, s2, s3, s4, s5, s6, by rw [t.size]; exact s7⟩, t.cellM h.m6 h.b00, t.cellM h.m6 h.b01, t.cellM h.m6 h.b02, t.cellM h.m6 h.b10, t.cellM h.m6 h.b11, t.cellM h.m6 h.c5, t.cellM h.m6 h.c6, t.map h.m5 s1, m, t.ext h.hx s3, h.marks.keeps fun D hD hm => by
    have := (h.marks.lt D hD).1
    rw [t.same D (by omega)]; exact hm⟩
theorem TS.turn5 (h : TS w la ta lc tc x fr R5 R6 M5 M6 NB ds D5 D6 W) (t : Turn M5 W W') {D5' : List Ent} (m : MapAt W' M5 D5') : TS w la ta lc tc x fr R5 R6 M5 M6 NB ds D5' D6 W' := by
  obtain ⟨s1, s2, s3, s4, s5, s6, s7⟩ := h.st
  exact ⟨⟨s1, s2, s3, s4, s5, s6, by rw [t.size]; exact s7⟩, t.cellM h.m5 h.b00, t.cellM h.m5 h.b01, t.cellM h.m5 h.b02, t.cellM h.m5 h.b10, t.cellM h.m5 h.b11, t.cellM h.m5 h.c5, t.cellM h.m5 h.c6, m, t.map h.m6 (Ne.symm s1), t.ext h.hx s2, h.marks.keeps fun D hD hm => by
    have := (h.marks.lt D hD).1
    rw [t.same D (by omega)]; exact hm⟩
end
def Between (x : Grid) (fr : Cel) (D5 D6 : List Ent) : Prop := Search x fr (valOf D5) (valOf D6) D5.length ∧ ∀ c t, valOf D5 c = some t → t ≤ 2000 * D5.length
theorem cell_lt {W : World} {b o : Nat} {v : Value} (h : W.cell? ⟨b, o, none⟩ = some v) : b < W.heap.size := by
  unfold World.cell? at h
  cases hb : W.heap[b]? with
  | none => simp [hb] at h
  | some ob => exact (Array.getElem?_eq_some_iff.1 hb).1
theorem nodup_le : ∀ (n : Nat) (l : List Nat), l.Nodup → (∀ a ∈ l, a < n) → l.length ≤ n
  | 0, l, _, h => by
    cases l with
    | nil => simp
    | cons a l => have := h a (by simp); omega
  | n + 1, l, hn, h => by
    have h1 := nodup_le n (l.erase n) (hn.erase n) (fun a ha => by
      have := (List.Nodup.mem_erase_iff hn).1 ha
      have := h a this.2
      have := ‹_ ∧ _›.1
      omega)
    rw [List.length_erase] at h1
    split at h1 <;> omega
theorem keys_le {x : Grid} (v : Valid x) {D : List Ent} (hn : (D.map (·.1)).Nodup) (hin : ∀ d ∈ D, InG x d.1) : D.length ≤ 96 := by
  have h := nodup_le 96 ((D.map (·.1)).map fun c => (c.row * 8 + c.col).toNat) ?_ ?_
  · simpa using h
  · rw [List.Nodup, List.pairwise_map]
    refine List.Pairwise.imp_of_mem (fun {a b} ha hb hne e => hne ?_) hn
    obtain ⟨d, hd, rfl⟩ := List.mem_map.1 ha
    obtain ⟨d', hd', rfl⟩ := List.mem_map.1 hb
    obtain ⟨⟨p1, p2⟩, p3, p4⟩ := hin d hd
    obtain ⟨⟨q1, q2⟩, q3, q4⟩ := hin d' hd'
    have g1 := v.t8
    generalize d.1 = a at *
    generalize d'.1 = b at *
    cases a; cases b
    simp only [Cel.mk.injEq] at *
    omega
  · intro a ha
    obtain ⟨c, hc, rfl⟩ := List.mem_map.1 ha
    obtain ⟨d, hd, rfl⟩ := List.mem_map.1 hc
    obtain ⟨⟨p1, p2⟩, p3, p4⟩ := hin d hd
    have g1 := v.t8
    have g2 := v.r12
    omega
theorem Between.le {x : Grid} (v : Valid x) {fr : Cel} {D5 D6 : List Ent} (h : Between x fr D5 D6) (hn : (D5.map (·.1)).Nodup) : D5.length ≤ 96 :=
  keys_le v hn fun d hd => (h.1.sIn d.1 d.2.1 (valOf_mem hn hd)).1
theorem Between.end {x : Grid} (v : Valid x) {fr : Cel} (hf : InG x fr) {D5 D6 : List Ent} (h : Between x fr D5 D6) (hn : (D5.map (·.1)).Nodup) (h0 : D6.length = 0) :
    IsDist x fr (fun c => (valOf D5 c).getD 0) ∧ ∀ c, InG x c → valOf D5 c = some ((valOf D5 c).getD 0) ∧ (valOf D5 c).getD 0 ≤ 192000 := by
  obtain ⟨a, b⟩ := h.1.done v hf (fun c => by rw [List.eq_nil_of_length_eq_zero h0]; rfl)
  refine ⟨a, fun c hc => ?_⟩
  obtain ⟨t, ht⟩ := b c hc
  have := h.2 c t ht
  have := h.le v hn
  rw [ht]
  exact ⟨rfl, by simp only [Option.getD_some]; omega⟩
theorem born_inj {D : List Ent} (hb : (D.map (·.2.2)).Nodup) {e d : Ent} (he : e ∈ D) (hd : d ∈ D) (h : e.2.2 = d.2.2) : e = d := by
  induction D with
  | nil => cases he
  | cons a D ih =>
    simp only [List.map_cons, List.nodup_cons] at hb
    rcases List.mem_cons.1 he with h1 | h1 <;> rcases List.mem_cons.1 hd with h2 | h2
    · rw [h1, h2]
    · exact (hb.1 (by rw [← h1, h]; exact List.mem_map_of_mem (f := fun x : Ent => x.2.2) h2)).elim
    · exact (hb.1 (by rw [← h2, ← h]; exact List.mem_map_of_mem (f := fun x : Ent => x.2.2) h1)).elim
    · exact ih hb.2 h1 h2
def Found (D : List Ent) (seen : Array Nat) (now : Cel) (sm : Int) : Prop := (sm = -1 ∧ seen = #[]) ∨ (0 ≤ sm ∧ valOf D now = some sm ∧ ∀ d ∈ D, d.2.2 ∈ seen → sm ≤ d.2.1)
structure Pick (w0 : World) (r b7 b8 M : Nat) (D : List Ent) (seen : Array Nat) (now : Cel) (sm : Int) (W : World) : Prop where
  ext : Ext w0 W
  it : MapIt W r M D seen
  c7 : W.cell? ⟨b7, 0, none⟩ = some (.int .i64 now.col)
  c7' : W.cell? ⟨b7, 1, none⟩ = some (.int .i64 now.row)
  f7 : W.frozen? ⟨b7, 0, none⟩ = false
  f7' : W.frozen? ⟨b7, 1, none⟩ = false
  c8 : W.cell? ⟨b8, 0, none⟩ = some (.int .i64 sm)
  f8 : W.frozen? ⟨b8, 0, none⟩ = false
  found : Found D seen now sm
def itLeft (W : World) (r : Nat) (D : List Ent) : Nat := match W.heap[r]? with | some (.mapIter _ _ seen _) => (leftE D seen).length | _ => 0
theorem MapIt.left {W : World} {r M : Nat} {D : List Ent} {seen : Array Nat} (h : MapIt W r M D seen) : itLeft W r D = (leftE D seen).length := by
  obtain ⟨clock, c0, e, _⟩ := h.it
  simp [itLeft, e]
theorem MapIt.notCells {W : World} {r M : Nat} {D : List Ent} {seen : Array Nat} (h : MapIt W r M D seen) : ∃ o, W.heap[r]? = some o ∧ o.isCells = false := by
  obtain ⟨_, _, e, _⟩ := h.it; exact ⟨_, e, rfl⟩
theorem Found.all {D : List Ent} {seen : Array Nat} {now : Cel} {sm : Int} (h : Found D seen now sm) (h0 : D.length ≠ 0) (ha : ∀ d ∈ D, d.2.2 ∈ seen) : 0 ≤ sm ∧ valOf D now = some sm ∧ ∀ c t, valOf D c = some t → sm ≤ t := by
  rcases h with ⟨_, h⟩ | ⟨h1, h2, h3⟩
  · subst h
    cases D with
    | nil => simp at h0
    | cons d D => have := ha d (by simp); simp at this
  · refine ⟨h1, h2, fun c t ht => ?_⟩
    obtain ⟨d, hd, _, e⟩ := valOf_some ht
    have := h3 d hd (ha d hd)
    omega
theorem Found.skip {D : List Ent} {seen : Array Nat} {now : Cel} {sm : Int} (h : Found D seen now sm) (d : Ent) (hb : D.map (·.2.2) |>.Nodup) (hd : d ∈ D) (h0 : 0 ≤ sm) (h1 : sm ≤ d.2.1) : Found D (seen.push d.2.2) now sm := by
  rcases h with ⟨h, _⟩ | ⟨_, h2, h3⟩
  · omega
  · refine .inr ⟨h0, h2, fun e he hs => ?_⟩
    rcases Array.mem_push.1 hs with hs | hs
    · exact h3 e he hs
    · have : e = d := born_inj hb he hd hs
      subst this; exact h1
theorem Found.take {D : List Ent} {seen : Array Nat} {now : Cel} {sm : Int} (h : Found D seen now sm) (d : Ent) (hk : (D.map (·.1)).Nodup) (hb : D.map (·.2.2) |>.Nodup) (hd : d ∈ D) (h0 : 0 ≤ d.2.1) (h1 : sm < 0 ∨ d.2.1 < sm) : Found D (seen.push d.2.2) d.1 d.2.1 := by
  refine .inr ⟨h0, valOf_mem hk hd, fun e he hs => ?_⟩
  rcases Array.mem_push.1 hs with hs | hs
  · rcases h with ⟨_, h⟩ | ⟨h2, _, h3⟩
    · subst h; simp at hs
    · have := h3 e he hs; omega
  · have : e = d := born_inj hb he hd hs
    subst this; exact Int.le_refl _
theorem Pick.turn {w0 : World} {r b7 b8 M : Nat} {D : List Ent} {seen : Array Nat} {now : Cel} {sm : Int} {W W' : World} (h : Pick w0 r b7 b8 M D seen now sm W) (hr : w0.heap.size ≤ r) (t : Turn r W W') {s' : Array Nat} (hi : MapIt W' r M D s') :
    (Ext w0 W' ∧ MapIt W' r M D s') ∧ (W'.cell? ⟨b7, 0, none⟩ = some (.int .i64 now.col) ∧ W'.cell? ⟨b7, 1, none⟩ = some (.int .i64 now.row) ∧ W'.frozen? ⟨b7, 0, none⟩ = false ∧ W'.frozen? ⟨b7, 1, none⟩ = false) ∧
      W'.cell? ⟨b8, 0, none⟩ = some (.int .i64 sm) ∧ W'.frozen? ⟨b8, 0, none⟩ = false := by
  obtain ⟨o, h1, h2⟩ := h.it.notCells
  exact ⟨⟨t.ext h.ext hr, hi⟩, ⟨t.cell h1 h2 h.c7, t.cell h1 h2 h.c7', t.frozen h1 h2 h.c7 h.f7, t.frozen h1 h2 h.c7' h.f7'⟩, t.cell h1 h2 h.c8, t.frozen h1 h2 h.c8 h.f8⟩
theorem Pick.grow {w0 : World} {r b7 b8 M : Nat} {D : List Ent} {seen : Array Nat} {now : Cel} {sm : Int} {W W' : World} (h : Pick w0 r b7 b8 M D seen now sm W) (e : Ext W W') : Pick w0 r b7 b8 M D seen now sm W' :=
  ⟨h.ext.trans e, h.it.ext e, e.cell_of h.c7, e.cell_of h.c7', e.frozen_of (cell_lt h.c7) h.f7, e.frozen_of (cell_lt h.c7') h.f7', e.cell_of h.c8, e.frozen_of (cell_lt h.c8) h.f8, h.found⟩
theorem Pick.of {w0 : World} {r b7 b8 M : Nat} {D : List Ent} {seen : Array Nat} {now : Cel} {sm : Int} {W W' : World} (e : Ext W W')
    (h : (Ext w0 W ∧ MapIt W r M D seen) ∧ (W.cell? ⟨b7, 0, none⟩ = some (.int .i64 now.col) ∧ W.cell? ⟨b7, 1, none⟩ = some (.int .i64 now.row) ∧ W.frozen? ⟨b7, 0, none⟩ = false ∧ W.frozen? ⟨b7, 1, none⟩ = false) ∧
      W.cell? ⟨b8, 0, none⟩ = some (.int .i64 sm) ∧ W.frozen? ⟨b8, 0, none⟩ = false) (f : Found D seen now sm) : Pick w0 r b7 b8 M D seen now sm W' := by
  obtain ⟨⟨a, b⟩, ⟨c, d, g, i⟩, j, k⟩ := h
  exact ⟨a.trans e, b.ext e, e.cell_of c, e.cell_of d, e.frozen_of (cell_lt c) g, e.frozen_of (cell_lt d) i, e.cell_of j, e.frozen_of (cell_lt j) k, f⟩
theorem cell_off {W : World} {b o o' : Nat} {v u : Value} (h : W.cell? ⟨b, o, none⟩ = some u) (hne : o ≠ o') : (W.setCell ⟨b, o', none⟩ v).cell? ⟨b, o, none⟩ = some u := by
  rw [World.cell?_setCell_other (h := fun e => hne (by cases e; rfl))]; exact h
theorem Pick.set {w0 : World} {r b7 b8 M : Nat} {D : List Ent} {seen : Array Nat} {now : Cel} {sm : Int} {W : World} (n : Cel) (z : Int)
    (h : (Ext w0 W ∧ MapIt W r M D seen) ∧ (W.cell? ⟨b7, 0, none⟩ = some (.int .i64 now.col) ∧ W.cell? ⟨b7, 1, none⟩ = some (.int .i64 now.row) ∧ W.frozen? ⟨b7, 0, none⟩ = false ∧ W.frozen? ⟨b7, 1, none⟩ = false) ∧
      W.cell? ⟨b8, 0, none⟩ = some (.int .i64 sm) ∧ W.frozen? ⟨b8, 0, none⟩ = false) (h7 : w0.heap.size ≤ b7) (h8 : w0.heap.size ≤ b8) (hne : b7 ≠ b8) (f : Found D seen n z) :
    Pick w0 r b7 b8 M D seen n z (((W.setCell ⟨b7, 0, none⟩ (.int .i64 n.col)).setCell ⟨b7, 1, none⟩ (.int .i64 n.row)).setCell ⟨b8, 0, none⟩ (.int .i64 z)) := by
  obtain ⟨⟨a, b⟩, ⟨c, d, g, i⟩, j, k⟩ := h
  refine ⟨((a.setCell h7 _).setCell h7 _).setCell h8 _, ((b.setCell _ _ _).setCell _ _ _).setCell _ _ _, ?_, ?_, ?_, ?_, ?_, ?_, f⟩
  · exact World.cell_other (cell_off (World.cell_same c) (by decide)) hne
  · exact World.cell_other (World.cell_same (cell_off d (by decide))) hne
  · simp only [World.frozen?_setCell]; exact g
  · simp only [World.frozen?_setCell]; exact i
  · exact World.cell_same (World.cell_other (World.cell_other j (Ne.symm hne)) (Ne.symm hne))
  · simp only [World.frozen?_setCell]; exact k
theorem nb_at {x : Grid} {c n : Cel} {z : Int} {k : Nat} (h : (nbTimes x c)[k]? = some (n, z)) : z = stepI x c n ∧ n ∈ nbrs x c ∧ (nbrs x c).take (k + 1) = (nbrs x c).take k ++ [n] := by
  unfold nbTimes at h
  rw [List.getElem?_map] at h
  cases hn : (nbrs x c)[k]? with
  | none => rw [hn] at h; simp at h
  | some m =>
    rw [hn] at h
    simp only [Option.map_some, Option.some.injEq, Prod.mk.injEq] at h
    obtain ⟨rfl, rfl⟩ := h
    refine ⟨rfl, List.mem_of_getElem? hn, ?_⟩
    obtain ⟨hk, e⟩ := List.getElem?_eq_some_iff.1 hn
    rw [List.take_succ_eq_append_getElem hk, e]
theorem nb_len (x : Grid) (c : Cel) : (nbTimes x c).length = (nbrs x c).length := by simp [nbTimes]
end Go.Proofs.YtnmaabejdmaahaaGreatDoor.Ice
namespace Go.Proofs.YtnmaabejdmaahaaGreatDoor.Ice
open Go.RowKit Go.Proofs Go.Shelf
attribute [local go_sem] Oper.semAt_some
set_option maxRecDepth 100000 in
set_option maxHeartbeats 4000000 in
theorem times_fresh (la ta : Option Addr) (lc tc : Nat) (x : Grid) (fr : Cel) (w : World) (hg : GridAt w la ta x) (hs : Sides w) (v : Valid x) (hin : InG x fr) :
    Calls Tryz.prog 60 #[.agg #[.slice la x.layers.length lc, .int .i64 x.rows, .slice ta x.tilt.length tc], .agg #[.int .i64 fr.col, .int .i64 fr.row]] w fun e w' => ∃ M D d, e = .returned (.map (some M)) ∧ MapAt w' M D ∧ IsDist x fr d ∧ (∀ c, InG x c → valOf D c = some (d c) ∧ d c ≤ 192000) ∧ Ext w w' ∧ w.heap.size ≤ M := by
  have HG := Lib.hid hg
  have HS := Lib.hid hs
  have HV := Lib.hid v
  have HI := Lib.hid hin
  clear hg hs v hin
  refine calls_of_wp_marks Tryz.func60 rfl ?_
  simp only [Tryz.ntmps60, List.size_toArray, List.length_cons, List.length_nil, Nat.reduceAdd, Nat.reduceSub, Array.replicate_succ, Array.replicate_zero, List.push_toArray, List.append_toArray, List.nil_append, List.cons_append]
  go_wp2_with fail
  generalize hW : World.alloc (World.alloc w _) _ = W0
  have e0 := Lib.hid (show Ext w W0 by rw [← hW]; exact (Ext.alloc _ _).toAlloc _)
  have q0 : w.heap.size < W0.heap.size := by rw [← hW]; simp <;> omega
  have b00 : W0.cell? ⟨w.heap.size, 0, none⟩ = some (.slice la x.layers.length lc) := by rw [← hW]; exact ((Ext.alloc _ _).cell_of ((World.cell_at (by simp)).trans rfl))
  have b01 : W0.cell? ⟨w.heap.size, 1, none⟩ = some (.int .i64 x.rows) := by rw [← hW]; exact ((Ext.alloc _ _).cell_of ((World.cell_at (by simp)).trans rfl))
  have b02 : W0.cell? ⟨w.heap.size, 2, none⟩ = some (.slice ta x.tilt.length tc) := by rw [← hW]; exact ((Ext.alloc _ _).cell_of ((World.cell_at (by simp)).trans rfl))
  have q1 : w.heap.size + 1 < W0.heap.size := by rw [← hW]; simp <;> omega
  have b10 : W0.cell? ⟨w.heap.size + 1, 0, none⟩ = some (.int .i64 fr.col) := by rw [← hW]; exact ((World.cell_at (by simp)).trans rfl)
  have b11 : W0.cell? ⟨w.heap.size + 1, 1, none⟩ = some (.int .i64 fr.row) := by rw [← hW]; exact ((World.cell_at (by simp)).trans rfl)
  clear hW
  refine wp_region_inv rfl (by kernel_rfl) (fun s a W => ∃ u5 u6 u17 u18 u19 u20, a = { tmps := ((.agg #[.slice la x.layers.length lc, .int .i64 x.rows, .slice ta x.tilt.length tc]) :: (.agg #[.int .i64 fr.col, .int .i64 fr.row]) :: (.pointer (some ⟨w.heap.size, 0, none⟩)) :: (.pointer (some ⟨w.heap.size + 1, 0, none⟩)) :: (.map none) :: (u5) :: (u6) :: (undef) :: (undef) :: (undef) :: (undef) :: (undef) :: (undef) :: (undef) :: (undef) :: (undef) :: (undef) :: (u17) :: (u18) :: (u19) :: (u20) :: (undef) :: (undef) :: (undef) :: (undef) :: (undef) :: (undef) :: (undef) :: (undef) :: (undef) :: (undef) :: (undef) :: (undef) :: (undef) :: (undef) :: (undef) :: (undef) :: (undef) :: (undef) :: (undef) :: (undef) :: (undef) :: (undef) :: (undef) :: (undef) :: (undef) :: (undef) :: (undef) :: (undef) :: (undef) :: (undef) :: (undef) :: (undef) :: (undef) :: (undef) :: (undef) :: (undef) :: (undef) :: (undef) :: (undef) :: (undef) :: (undef) :: (undef) :: (undef) :: (undef) :: (undef) :: (undef) :: (undef) :: (undef) :: (undef) :: (undef) :: (undef) :: (undef) :: (undef) :: (undef) :: (undef) :: (undef) :: (undef) :: (undef) :: []).toArray, defers := [] } ∧ Opening W0 fr s u5 u6 u17 u18 u19 u20 W) ?h0 ?hstep ?hend
  case h0 => exact ⟨undef, undef, undef, undef, undef, undef, rfl, Opening.begin _ _ _ ⟨rfl, rfl, rfl, Nat.le_refl _, fun _ _ => rfl⟩⟩
  case hstep =>
    rename_i Q0 K0 hK0
    clear hK0
    rintro s a W i o ho hi hb ⟨u5, u6, u17, u18, u19, u20, rfl, O⟩
    have hlt : i < 9 := by have := (Array.getElem?_eq_some_iff.1 ho).1; simpa using this
    obtain rfl | rfl | rfl | rfl | rfl | rfl | rfl | rfl | rfl : i = 0 ∨ i = 1 ∨ i = 2 ∨ i = 3 ∨ i = 4 ∨ i = 5 ∨ i = 6 ∨ i = 7 ∨ i = 8 := by omega
    all_goals
      simp only [wpOp, List.getElem?_toArray, List.getElem?_cons_zero, List.getElem?_cons_succ]
      rw [if_pos (by simp [Region.wanted])]
      refine .inl ?_
      unfold Oper.wp
      simp only [execOp]
    · simp [go_sem, run_makeMap]
      exact ⟨_, _, _, _, _, _, ⟨rfl, rfl, rfl, rfl, rfl, rfl⟩, O.s0 hi⟩
    · simp [go_sem, run_makeMap]
      exact ⟨_, _, _, _, _, _, ⟨rfl, rfl, rfl, rfl, rfl, rfl⟩, O.s1 hi⟩
    · have c0 := O.ext.cell_of b10
      have c1 := O.ext.cell_of b11
      simp [go_sem, c0, c1]
      exact ⟨_, _, _, _, _, _, ⟨rfl, rfl, rfl, rfl, rfl, rfl⟩, O.s2⟩
    · obtain rfl := (Option.some.inj ho)
      have r1 := hb ⟨1, .data⟩ (by simp) rfl
      obtain ⟨o', m, rfl, hrun, O'⟩ := O.s3 hi r1
      obtain rfl := O.g19 (hb ⟨2, .data⟩ (by simp) rfl)
      simp [go_sem, hrun]
      exact ⟨_, _, _, _, _, _, ⟨rfl, rfl, rfl, rfl, rfl, rfl⟩, O'⟩
    · obtain rfl := (Option.some.inj ho)
      simp [go_sem]
      exact ⟨_, _, _, _, _, _, ⟨rfl, rfl, rfl, rfl, rfl, rfl⟩, O.s4 hi (hb ⟨1, .data⟩ (by simp) rfl) (hb ⟨3, .data⟩ (by simp) rfl)⟩
    · simp [go_sem]
      exact ⟨_, _, _, _, _, _, ⟨rfl, rfl, rfl, rfl, rfl, rfl⟩, O.s5 hi⟩
    · simp [go_sem]
      exact ⟨_, _, _, _, _, _, ⟨rfl, rfl, rfl, rfl, rfl, rfl⟩, O.s6 hi⟩
    · obtain rfl := (Option.some.inj ho)
      obtain ⟨m, rfl, _⟩ := O.g17 (hb ⟨0, .data⟩ (by simp) rfl)
      obtain ⟨b, rfl, f, c, O'⟩ := O.s7 hi (hb ⟨0, .data⟩ (by simp) rfl) (hb ⟨5, .data⟩ (by simp) rfl)
      simp [go_sem, f, c]
      exact ⟨_, _, _, _, _, _, ⟨rfl, rfl, rfl, rfl, rfl, rfl⟩, O'⟩
    · obtain rfl := (Option.some.inj ho)
      obtain ⟨m, rfl, _⟩ := O.g18 (O.dep4 (hb ⟨4, .data⟩ (by simp) rfl)).1
      obtain rfl := O.g20 (hb ⟨4, .data⟩ (by simp) rfl)
      obtain ⟨b, rfl, f, c, O'⟩ := O.s8 hi (hb ⟨4, .data⟩ (by simp) rfl) (hb ⟨6, .data⟩ (by simp) rfl)
      simp [go_sem, f, c]
      exact ⟨_, _, _, _, _, _, ⟨rfl, rfl, rfl, rfl, rfl, rfl⟩, O'⟩
  case hend =>
    rintro s a W hall ⟨u5, u6, u17, u18, u19, u20, rfl, O⟩
    obtain ⟨M5, M6, R5, R6, D, rfl, rfl, hd, c5, c6, m5, m6, hv, hx⟩ := O.end (fun i hi => hall i (by simpa using hi))
    have HTS : Hid (TS w la ta lc tc x fr R5 R6 M5 M6 W.heap.size [] [] D W) := Lib.hid ⟨⟨hd.1, Nat.le_trans e0.out.le hd.2.1, Nat.le_trans e0.out.le hd.2.2, m5.lt, m6.lt, (e0.out.trans hx).le, Nat.le_refl _⟩, hx.cell_of b00, hx.cell_of b01, hx.cell_of b02, hx.cell_of b10, hx.cell_of b11, c5, c6, m5, m6, e0.out.trans hx, trivial⟩
    have HB : Hid (Between x fr [] D) := Lib.hid ⟨Search.begin HI.out (fun _ => rfl) hv, fun c t h => by cases h⟩
    clear b00 b01 b02 b10 b11 c5 c6 m5 m6 hv hx q0 q1 hd hall O
    generalize W.heap.size = NB at HTS
    go_wp2_with fail
    obtain ⟨I, hI⟩ : ∃ I : Act → World → Prop, I = (fun a' W' => ∃ ds D5 D6, a' = { tmps := ((.agg #[.slice la x.layers.length lc, .int .i64 x.rows, .slice ta x.tilt.length tc]) :: (.agg #[.int .i64 fr.col, .int .i64 fr.row]) :: (.pointer (some ⟨w.heap.size, 0, none⟩)) :: (.pointer (some ⟨w.heap.size + 1, 0, none⟩)) :: (.map none) :: (.pointer (some ⟨R5, 0, none⟩)) :: (.pointer (some ⟨R6, 0, none⟩)) :: (slotsOf a' 7) :: (slotsOf a' 8) :: (slotsOf a' 9) :: (slotsOf a' 10) :: (slotsOf a' 11) :: (slotsOf a' 12) :: (slotsOf a' 13) :: (slotsOf a' 14) :: (slotsOf a' 15) :: (slotsOf a' 16) :: (u17) :: (u18) :: (u19) :: (u20) :: (slotsOf a' 21) :: (slotsOf a' 22) :: (slotsOf a' 23) :: (slotsOf a' 24) :: (slotsOf a' 25) :: (slotsOf a' 26) :: (slotsOf a' 27) :: (slotsOf a' 28) :: (slotsOf a' 29) :: (slotsOf a' 30) :: (slotsOf a' 31) :: (slotsOf a' 32) :: (slotsOf a' 33) :: (slotsOf a' 34) :: (slotsOf a' 35) :: (slotsOf a' 36) :: (slotsOf a' 37) :: (slotsOf a' 38) :: (slotsOf a' 39) :: (slotsOf a' 40) :: (slotsOf a' 41) :: (slotsOf a' 42) :: (slotsOf a' 43) :: (slotsOf a' 44) :: (slotsOf a' 45) :: (slotsOf a' 46) :: (slotsOf a' 47) :: (slotsOf a' 48) :: (slotsOf a' 49) :: (slotsOf a' 50) :: (slotsOf a' 51) :: (slotsOf a' 52) :: (slotsOf a' 53) :: (slotsOf a' 54) :: (slotsOf a' 55) :: (slotsOf a' 56) :: (slotsOf a' 57) :: (slotsOf a' 58) :: (slotsOf a' 59) :: (slotsOf a' 60) :: (slotsOf a' 61) :: (slotsOf a' 62) :: (slotsOf a' 63) :: (slotsOf a' 64) :: (slotsOf a' 65) :: (slotsOf a' 66) :: (slotsOf a' 67) :: (slotsOf a' 68) :: (slotsOf a' 69) :: (slotsOf a' 70) :: (slotsOf a' 71) :: (slotsOf a' 72) :: (slotsOf a' 73) :: (slotsOf a' 74) :: (slotsOf a' 75) :: (slotsOf a' 76) :: (slotsOf a' 77) :: (slotsOf a' 78) :: []).toArray, defers := ds } ∧ Hid (TS w la ta lc tc x fr R5 R6 M5 M6 NB ds D5 D6 W') ∧ Hid (Between x fr D5 D6)) := ⟨_, rfl⟩
    refine wp_loop I (fun _ W' => 97 - mapSize W' M5) ?_ ?_
    · rw [hI]; exact ⟨_, _, _, rfl, HTS, HB⟩
    · clear HTS HB
      have HINV := Lib.hid hI
      intro a0 wr hrel
      rw [hI] at hrel
      clear hI
      obtain ⟨ds, D5, D6, hrel, H, HB⟩ := hrel
      generalize slotsOf a0 = u at hrel
      subst hrel
      obtain ⟨st, b00, b01, b02, b10, b11, c5, c6, m5, m6, hx, mk⟩ := H.out
      have hl := len_map m6
      by_cases h0 : D6.length = 0
      · go_wp2_with fail
        refine bodyPostM_one rfl NB mk (fun W' hk => ?_)
        have q := HB.out.end HV.out HI.out m5.keys h0
        exact ⟨M5, D5, _, rfl, hk.map m5 st.2.2.2.1, q.1, q.2, hk.ext hx st.2.2.2.2.2.1, st.2.1⟩
      · have q0 := cell_lt b00
        have q1 := cell_lt b10
        have q5 := cell_lt c5
        have q6 := cell_lt c6
        obtain ⟨o1, hrun, hit⟩ := range_map (W := (wr.alloc (.cells #[.int .i64 fr.col, .int .i64 fr.row] 61)).alloc (.cells #[.int .i64 (-1)] 3)) (m6.ext ((Ext.alloc _ _).toAlloc _))
        rw [World.size_alloc, World.size_alloc] at hrun hit
        go_wp2_with fail
        generalize hW1 : World.alloc (World.alloc (World.alloc wr _) _) _ = W1 at hit
        have hx1 : Ext wr W1 := by rw [← hW1]; exact ((Ext.alloc _ _).toAlloc _).toAlloc _
        have HP : Hid (Pick wr (wr.heap.size + 1 + 1) wr.heap.size (wr.heap.size + 1) M6 D6 #[] fr (-1) W1) := Lib.hid ⟨hx1, hit, by rw [← hW1]; exact (Ext.alloc _ _).cell_of ((Ext.alloc _ _).cell_of ((World.cell_at (by simp)).trans rfl)), by rw [← hW1]; exact (Ext.alloc _ _).cell_of ((Ext.alloc _ _).cell_of ((World.cell_at (by simp)).trans rfl)),
          by rw [← hW1]; exact (Ext.alloc _ _).frozen_of (by simp <;> omega) ((Ext.alloc _ _).frozen_of (by simp <;> omega) (World.frozen_at (by simp))), by rw [← hW1]; exact (Ext.alloc _ _).frozen_of (by simp <;> omega) ((Ext.alloc _ _).frozen_of (by simp <;> omega) (World.frozen_at (by simp))),
          by rw [← hW1]; exact (Ext.alloc _ _).cell_of ((World.cell_at (by simp)).trans rfl), by rw [← hW1]; exact (Ext.alloc _ _).frozen_of (by simp <;> omega) (World.frozen_at (by simp)), .inl ⟨rfl, rfl⟩⟩
        clear hit hW1 hx1 hl b00 b01 b02 b10 b11 c5 c6 m5 m6 hx mk
        obtain ⟨wo, rfl⟩ : ∃ wo : World, wo = wr := ⟨_, rfl⟩
        go_loopw [10] (fun _ W => ∃ seen now sm, Hid (Pick wo (wo.heap.size + 1 + 1) wo.heap.size (wo.heap.size + 1) M6 D6 seen now sm W)) (fun _ W => itLeft W (wo.heap.size + 1 + 1) D6)
        case atStart => exact ⟨_, _, _, HP⟩
        case round =>
          clear HP
          obtain ⟨seen, now, sm, HP⟩ := hrel
          rcases next_map HP.out.it (by omega) 0 with ⟨hall, hrun⟩ | ⟨d, hd, hs, W', hrun, hent, hit, ht⟩
          · obtain ⟨hnn, hval, hmin⟩ := HP.out.found.all h0 hall
            have T := H.out.ext HP.out.ext
            obtain ⟨o2, D6', hdel, hm6, hv6, hl6⟩ := delete_map T.m6 now sm hval
            have t6 := Turn.putObj wr M6 o2
            have T6 := T.turn6 t6 hm6
            obtain ⟨o3, D5', hupd, hm5, hv5, hl5⟩ := update_map T6.m5 now sm
            have t5 := Turn.putObj (wr.putObj M6 o2) M5 o3
            have HT7 := Lib.hid (T6.turn5 t5 hm5)
            have c6 := T.c6
            have a5 := T6.c5
            have c7 := HP.out.c7
            have c7' := HP.out.c7'
            have c8 := HP.out.c8
            have a7 := t6.cellM T.m6 c7
            have a7' := t6.cellM T.m6 c7'
            have a8 := t6.cellM T.m6 c8
            have e7 := t5.cellM T6.m5 a7
            have e7' := t5.cellM T6.m5 a7'
            have e8 := t5.cellM T6.m5 a8
            have b00 := HT7.out.b00
            have b01 := HT7.out.b01
            have b02 := HT7.out.b02
            have HR : Hid (Round x fr now sm (valOf D5') (valOf D6') (D5.length + 1) []) := Lib.hid (HB.out.1.pick HV.out hval hmin hv5 hv6)
            have HL : Hid (D5'.length = D5.length + 1) := Lib.hid (by rw [hl5, if_neg]; rw [HB.out.1.apart _ _ hval]; simp)
            have HSB : Hid (∀ c t, valOf D5' c = some t → t ≤ 2000 * D5'.length) := Lib.hid (fun c t ht => by
              rw [HL.out]
              rw [hv5] at ht
              split at ht
              · cases ht
                have := (HB.out.1.oIn _ _ hval).2.2
                omega
              · have := HB.out.2 c t ht
                omega)
            have hN := HB.out.le HV.out H.out.m5.keys
            have HMS : Hid (mapSize wo M5 = D5.length) := Lib.hid H.out.m5.size
            have HIN := Lib.hid (HR.out.sIn now sm HR.out.here).1
            clear hm6 hv6 hl6 hm5 hv5 hl5 T T6 t6 t5 hmin hall hval
            go_wp2_with fail
            refine (neighbours_any la ta lc tc x now _ (HG.out.ext HT7.out.hx) (HS.out.ext HT7.out.hx)).mono ?_
            rintro e w4 ⟨Bc, Bx, hBc, hBx, rfl, hrd, hx⟩
            have HT8 := Lib.hid (HT7.out.ext hx)
            have c84 := hx.cell_of e8
            have HRD := Lib.hid hrd
            have HML : Hid (∀ D, markOf D ∈ ds → D < w4.heap.size) := Lib.hid (fun D hD => (HT8.out.marks.lt D hD).2)
            clear hrd hx c6 a5 c7 c7' c8 a7 a7' a8 e7 e7' e8 b00 b01 b02 hdel hupd hrun
            go_wp2_with fail
            refine wp_range (gf := 91) (lb := #[.pointer (some ⟨Bc, 0, none⟩), .pointer (some ⟨Bx, 0, none⟩)]) rfl (enters_of Tryz.func91 (by kernel_rfl) rfl) (nbs_seq Bc Bx la ta lc tc x now HV.out HIN.out) (fun _ => rfl)
              (fun k W => ∃ D6, TS w la ta lc tc x fr R5 R6 M5 M6 NB ds D5' D6 W ∧ NbRd Bc Bx la ta lc tc x now W ∧ W.cell? ⟨wo.heap.size + 1, 0, none⟩ = some (.int .i64 sm) ∧ Round x fr now sm (valOf D5') (valOf D6) (D5.length + 1) ((nbrs x now).take k))
              (fun _ _ _ => False)
              (fun k A A' hk ⟨D6, q1, q2, q3, q4⟩ => ⟨D6, q1.keeps hk HT8.out.st.2.2.2.2.2.2 HML.out, q2.keeps hk, hk.cell q3, q4⟩)
              (fun _ _ _ _ _ h => h)
              (fun k A ⟨D6, q1, q2, q3, q4⟩ => q2)
              ⟨D6', HT8.out, HRD.out, c84, HR.out⟩
              (fun a k a' W => ∃ b11 n z, (nbTimes x now)[k]? = some (n, z) ∧ a' = { tmps := (((a.tmps.setIfInBounds 49 (.agg #[.int .i64 n.col, .int .i64 n.row])).setIfInBounds 50 (.int .i64 z)).setIfInBounds 11 (.pointer (some ⟨b11, 0, none⟩))).setIfInBounds 12 (.int .i64 z), defers := [] } ∧ W.cell? ⟨b11, 0, none⟩ = some (.int .i64 n.col) ∧ W.cell? ⟨b11, 1, none⟩ = some (.int .i64 n.row))
              (fun k a' A A' hk ⟨b11, n, z, q1, q2, q3, q4⟩ => ⟨b11, n, z, q1, q2, hk.cell q3, hk.cell q4⟩) ?assign ?body ?done ?stop
            case assign =>
              intro l k hk W K hi hK
              obtain ⟨⟨n, z⟩, hp⟩ : ∃ p, (nbTimes x now)[k] = p := ⟨_, rfl⟩
              have hp' : (nbTimes x now)[k]? = some (n, z) := by rw [List.getElem?_eq_getElem hk, hp]
              rw [hp]
              simp only [encNb]
              gi_wp2
              exact hK _ _ ((KeepsOthers.alloc _ _).from _) (hi.imp fun D6 q => ⟨q.1.ext (Ext.alloc _ _), q.2.1.ext (Ext.alloc _ _), (Ext.alloc _ _).cell_of q.2.2.1, q.2.2.2⟩) ⟨W.heap.size, n, z, hp', rfl, (World.cell_at (by simp)).trans rfl, (World.cell_at (by simp)).trans rfl⟩
            case body =>
              rintro l k hk a' W hl ⟨D6, T, hrd, c8, hR⟩ ⟨b11, n, z, hp, rfl, g0, g1⟩
              simp only [List.setIfInBounds_toArray, List.set_cons_succ, List.set_cons_zero]
              obtain ⟨hz, hmem, htake⟩ := nb_at hp
              subst hz
              have HT := Lib.hid T
              have HRD2 := Lib.hid hrd
              have HC8 := Lib.hid c8
              have HR2 := Lib.hid hR
              have c5 := T.c5
              have c6 := T.c6
              have l1 := lookup_ok T.m5 n
              have l2 := lookup_ok T.m6 n
              have sb := stepI_bd HV.out now n
              have sm0 := (hR.sIn now sm hR.here).2
              have sm1 := hR.small.1
              have hw : IntKind.i64.wrap (sm + stepI x now n) = sm + stepI x now n := IntWalk.i64_in _ (by omega)
              obtain ⟨o4, D7, hupd, hm7, hv7, hl7⟩ := update_map T.m6 n (sm + stepI x now n)
              have t7 := Turn.putObj W M6 o4
              have fin : Hid (∀ D, TS w la ta lc tc x fr R5 R6 M5 M6 NB ds D5' D W → Round x fr now sm (valOf D5') (valOf D) (D5.length + 1) ((nbrs x now).take k ++ [n]) → KeepsFrom w4.heap.size W W ∧ ∃ D6, TS w la ta lc tc x fr R5 R6 M5 M6 NB ds D5' D6 W ∧ NbRd Bc Bx la ta lc tc x now W ∧ W.cell? ⟨wo.heap.size + 1, 0, none⟩ = some (.int .i64 sm) ∧ Round x fr now sm (valOf D5') (valOf D6) (D5.length + 1) ((nbrs x now).take (k + 1))) := Lib.hid (fun D q1 q2 => ⟨KeepsFrom.refl _ _, D, q1, HRD2.out, HC8.out, by rw [htake]; exact q2⟩)
              have HM := Lib.hid hm7
              have HV7 := Lib.hid hv7
              have HTK := Lib.hid htake
              have HMEM := Lib.hid hmem
              have up : Hid (valOf D5' n = none → (∀ u, valOf D6 n = some u → sm + stepI x now n ≤ u) → KeepsFrom w4.heap.size W (W.putObj M6 o4) ∧ ∃ D6, TS w la ta lc tc x fr R5 R6 M5 M6 NB ds D5' D6 (W.putObj M6 o4) ∧ NbRd Bc Bx la ta lc tc x now (W.putObj M6 o4) ∧ (W.putObj M6 o4).cell? ⟨wo.heap.size + 1, 0, none⟩ = some (.int .i64 sm) ∧ Round x fr now sm (valOf D5') (valOf D6) (D5.length + 1) ((nbrs x now).take (k + 1))) := Lib.hid (fun hs hlow => by
                have hst := HT8.out.st
                have k6 : Keeps 0 W (W.putObj M6 o4) := by obtain ⟨o, h1, h2⟩ := HT.out.m6.notCells; exact Keeps.putObj W o4 (Nat.zero_le _) h1 h2
                have kf : KeepsFrom w4.heap.size W (W.putObj M6 o4) := ⟨by simp, fun j o hB ho _ => (World.putObj_heap_other (by omega)).trans ho⟩
                exact ⟨kf, D7, HT.out.turn6 t7 HM.out, HRD2.out.keeps k6, k6.cell HC8.out, by rw [HTK.out]; exact HR2.out.lower HV.out HMEM.out hs hlow HV7.out⟩)
              clear T hrd hR hm7 hv7 hl7 t7 htake hmem hp
              cases hs : valOf D5' n with
              | some t =>
                rw [hs] at l1
                simp only [Option.getD_some, Option.isSome_some] at l1
                gi_wp2
                exact fin.out D6 HT.out (HR2.out.skip HV.out hs)
              | none =>
                rw [hs] at l1
                simp only [Option.getD_none, Option.isSome_none] at l1
                cases ho : valOf D6 n with
                | none =>
                  rw [ho] at l2
                  simp only [Option.getD_none, Option.isSome_none] at l2
                  gi_wp2
                  exact up.out hs (fun u hu => by rw [ho] at hu; cases hu)
                | some t =>
                  rw [ho] at l2
                  simp only [Option.getD_some, Option.isSome_some] at l2
                  by_cases hlt : sm + stepI x now n < t
                  · gi_wp2
                    exact up.out hs (fun u hu => by rw [ho] at hu; cases hu; omega)
                  · gi_wp2
                    exact fin.out D6 HT.out (HR2.out.stay ho (by omega))
            case done =>
              rintro D W hD ⟨D6, T, hrd, c8, hR⟩ hKD
              have HT9 : Hid (TS w la ta lc tc x fr R5 R6 M5 M6 NB (markOf D :: ds) D5' D6 W) := Lib.hid ⟨T.st, T.b00, T.b01, T.b02, T.b10, T.b11, T.c5, T.c6, T.m5, T.m6, T.hx, ⟨⟨D, rfl, Nat.le_trans HT8.out.st.2.2.2.2.2.2 hD, hKD, fun hm => absurd (HML.out D hm) (by omega)⟩, T.marks⟩⟩
              rw [nb_len, List.take_length] at hR
              have HB2 : Hid (Between x fr D5' D6) := Lib.hid ⟨by rw [HL.out]; exact hR.end, HSB.out⟩
              clear T hrd c8 hR hKD
              go_wp2_with fail
              refine ⟨by rw [HINV.out]; exact ⟨_, _, _, rfl, HT9, HB2⟩, ?_⟩
              rw [HT9.out.m5.size, HMS.out, HL.out]
              omega
            case stop =>
              rintro D c k W hD hk h
              exact h.elim
          · have HN := Lib.hid (HP.out.turn (by omega) ht hit)
            have HL := HP.out.it.left
            obtain ⟨_, ⟨c7, c7', f7, f7'⟩, c8, f8⟩ := HN.out
            have q7 := cell_lt c7
            have q8 := cell_lt c8
            have hnn : 0 ≤ d.2.1 := (HB.out.1.oIn d.1 d.2.1 (valOf_mem H.out.m6.keys hd)).2.1
            have HQ1 : Hid (sm < 0 ∨ d.2.1 < sm → Pick wo (wo.heap.size + 1 + 1) wo.heap.size (wo.heap.size + 1) M6 D6 (seen.push d.2.2) d.1 d.2.1 ((((W'.setCell ⟨wo.heap.size, 0, none⟩ (.int .i64 d.1.col)).setCell ⟨wo.heap.size, 1, none⟩ (.int .i64 d.1.row)).setCell ⟨wo.heap.size + 1, 0, none⟩ (.int .i64 d.2.1)).alloc (.cells #[.int .i64 d.1.col, .int .i64 d.1.row] 61))) := Lib.hid (fun hlt =>
              (Pick.set d.1 d.2.1 HN.out (by omega) (by omega) (by omega) (HP.out.found.take d H.out.m6.keys H.out.m6.born hd hnn hlt)).grow (Ext.alloc _ _))
            have HQ2 : Hid (0 ≤ sm → sm ≤ d.2.1 → Pick wo (wo.heap.size + 1 + 1) wo.heap.size (wo.heap.size + 1) M6 D6 (seen.push d.2.2) now sm (W'.alloc (.cells #[.int .i64 d.1.col, .int .i64 d.1.row] 61))) := Lib.hid (fun h0 h1 => Pick.of (Ext.alloc _ _) HN.out (HP.out.found.skip d H.out.m6.born hd h0 h1))
            have HLT := leftE_push hd hs
            rw [← HL] at HLT
            clear HL hit ht
            by_cases h1 : sm < 0
            · go_wp2_with fail
              go_roundw
              case rel => exact ⟨_, _, _, Lib.hid (HQ1.out (by omega))⟩
              case measure => rw [(HQ1.out (by omega)).it.left]; exact HLT
            · by_cases h2 : d.2.1 < sm
              · go_wp2_with fail
                go_roundw
                case rel => exact ⟨_, _, _, Lib.hid (HQ1.out (by omega))⟩
                case measure => rw [(HQ1.out (by omega)).it.left]; exact HLT
              · go_wp2_with fail
                go_roundw
                case rel => exact ⟨_, _, _, Lib.hid (HQ2.out (by omega) (by omega))⟩
                case measure => rw [(HQ2.out (by omega) (by omega)).it.left]; exact HLT
theorem times_any (la ta : Option Addr) (lc tc : Nat) (x : Grid) (fr : Cel) (w : World) (hg : GridAt w la ta x) (hs : Sides w) (v : Valid x) (hin : InG x fr) :
    Calls Tryz.prog 60 #[.agg #[.slice la x.layers.length lc, .int .i64 x.rows, .slice ta x.tilt.length tc], .agg #[.int .i64 fr.col, .int .i64 fr.row]] w fun e w' => ∃ M D d, e = .returned (.map (some M)) ∧ MapAt w' M D ∧ IsDist x fr d ∧ (∀ c, InG x c → valOf D c = some (d c) ∧ d c ≤ 192000) ∧ Ext w w' :=
  (times_fresh la ta lc tc x fr w hg hs v hin).mono fun _e _w' ⟨M, D, d, h1, h2, h3, h4, h5, _⟩ => ⟨M, D, d, h1, h2, h3, h4, h5⟩
end Go.Proofs.YtnmaabejdmaahaaGreatDoor.Ice
namespace Go
open Go.RowKit
theorem wpAnyIn_inv {F : Fence} {n : Nat} {P : Program} {ops : Array Oper} {Q : Exit → Act → World → Prop} (hup : Region.upB ops = true) (Inv : (Nat → Bool) → Act → World → Prop)
    (hstep : ∀ (s : Nat → Bool) (a : Act) (w : World) (i : Nat) (o : Oper), ops[i]? = some o → s i = false → (∀ e ∈ o.after, Region.binds .any e = true → s e.on = true) → Inv s a w →
      wpOpIn F n P ops Q i (fun a' w' => Inv (fun j => decide (j = i) || s j) a' w') a w)
    (hend : ∀ (s : Nat → Bool) (a : Act) (w : World), (∀ i, i < ops.size → s i = true) → Inv s a w → Q .normal a w) :
    ∀ (f : Nat) (listed : Array Bool) (a : Act) (w : World), listed.size = ops.size → ((List.range ops.size).filter fun i => !lst listed i).length ≤ f → Inv (lst listed) a w → wpAnyIn F n P .any ops Q f listed a w
  | 0, listed, a, w, hs, hf, h => by
    have hall : ∀ i, i < ops.size → lst listed i = true := fun i hi => by
      have h0 := List.eq_nil_of_length_eq_zero (Nat.le_zero.1 hf)
      have := (List.filter_eq_nil_iff.1 h0) i (List.mem_range.2 hi)
      simpa using this
    refine ⟨?_, hend _ a w hall h⟩
    cases hr : Region.ready .any ops listed with
    | nil => rfl
    | cons i r =>
      have hi : i ∈ Region.ready .any ops listed := by rw [hr]; simp
      obtain ⟨h1, o, ho, _⟩ := mem_ready.1 hi
      have := hall i (Array.getElem?_eq_some_iff.1 ho).1
      unfold lst at this
      rw [getD_both h1] at this
      cases this
  | f + 1, listed, a, w, hs, hf, h => by
    refine ⟨fun h0 => hend _ a w (ready_all hup hs h0) h, fun i hi => ?_⟩
    obtain ⟨h1, o, ho, hall⟩ := mem_ready.1 hi
    have hlt : i < ops.size := (Array.getElem?_eq_some_iff.1 ho).1
    have hli : lst listed i = false := getD_both h1
    refine wpOpIn_mono (fun a' w' h' => ?_) (hstep (lst listed) a w i o ho hli hall h)
    refine wpAnyIn_inv hup Inv hstep hend f _ a' w' (by simpa using hs) ?_ ?_
    · have e : ((List.range ops.size).filter fun j => !lst (listed.setIfInBounds i true) j) = ((List.range ops.size).filter fun j => !lst listed j).filter (fun j => decide (j ≠ i)) := by
        rw [List.filter_filter]
        apply List.filter_congr
        intro j _
        rw [lst_set (by omega)]
        by_cases ej : j = i <;> simp [ej]
      rw [e]
      have hm : i ∈ (List.range ops.size).filter fun j => !lst listed j := List.mem_filter.2 ⟨List.mem_range.2 hlt, by simp [hli]⟩
      have := List.length_filter_lt_length_iff_exists (p := fun j => decide (j ≠ i)) |>.2 ⟨i, hm, by simp⟩
      omega
    · have : lst (listed.setIfInBounds i true) = fun j => decide (j = i) || lst listed j := funext fun j => lst_set (by omega)
      rw [this]
      exact h'
theorem wpIn_region_inv {F : Fence} {n : Nat} {P : Program} {id : Nat} {Q : Exit → Act → World → Prop} {a : Act} {w : World} {l : List Oper} (hm : P.follows .mixedOrders = true) (hup : Region.upB l.toArray = true) (Inv : (Nat → Bool) → Act → World → Prop)
    (h0 : Inv (fun _ => false) a w.drew)
    (hstep : ∀ (s : Nat → Bool) (a : Act) (w : World) (i : Nat) (o : Oper), l.toArray[i]? = some o → s i = false → (∀ e ∈ o.after, Region.binds .any e = true → s e.on = true) → Inv s a w →
      wpOpIn F n P l.toArray Q i (fun a' w' => Inv (fun j => decide (j = i) || s j) a' w') a w)
    (hend : ∀ (s : Nat → Bool) (a : Act) (w : World), (∀ i, i < l.length → s i = true) → Inv s a w → Q .normal a w) : (Code.region id l.toArray true).wpIn F n P Q a w := by
  refine wpIn_region_any hm (wpAnyIn_inv hup Inv hstep (by simpa using hend) _ _ _ _ (by simp) ?_ ?_)
  · refine Nat.le_trans (List.length_filter_le _ _) (by simp)
  · have : lst (Array.replicate l.toArray.size false) = fun _ => false := funext fun j => getD_replicate_false _ _
    rw [this]
    exact h0
end Go
