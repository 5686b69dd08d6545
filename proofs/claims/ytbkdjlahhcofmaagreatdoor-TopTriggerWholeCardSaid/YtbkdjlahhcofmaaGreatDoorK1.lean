/- Laws on which the proofs of this seat stand. No condition. -/
import Derived.WalkKit
import Derived.WalkSpells
import Derived.WalkLawsBesides
import Derived.Deep.QuietTactic
import Derived.StillTailTactics
import Derived.Lib.Hide
import Derived.Deep.RegionWith
import Derived.Shelf.Abstract
import Derived.IntWalk
import Derived.Laws.AppendOwnNone
import Derived.RangeFuncNested
import Derived.RangeFuncBound
import Derived.RangeFuncCalls
import Derived.RangeFuncLeaves
import Derived.OwnWalkIn
import Derived.TacticsInMore
import Derived.LoopNIn
import Derived.LoopIn
import Derived.Laws.IdiomCopy
import Derived.Laws.MakeOwn
import Derived.Maps.AppendAt
namespace Go
section
variable {P : Program} {ops : Array Oper} {md : Region.Mode} {C : World -> Prop}
def wpAnyLQ (P : Program) (md : Region.Mode) (ops : Array Oper) (C : World -> Prop) (n : Nat) (L : Array Bool -> Act -> Prop) : Nat -> Array Bool -> Act -> Prop
 | 0, listed, a => L listed a
 | f + 1, listed, a =>
   Region.ready md ops listed ≠ [] /\ ∀ i ∈ Region.ready md ops listed, i < n /\ qOp P ops C i (wpAnyLQ P md ops C n L f (listed.setIfInBounds i true)) a
theorem wpAny_of_headQ {n g : Nat} {L : Array Bool -> Act -> Prop} {Q' : Exit -> Act -> World -> Prop} (hL : ∀ listed a w, C w -> L listed a -> wpAny P md ops Q' g listed a w) :
 ∀ (f : Nat) (listed : Array Bool) (a : Act) (w : World), C w -> wpAnyLQ P md ops C n L f listed a -> wpAny P md ops Q' (f + g) listed a w
 | 0, listed, a, w, hC, h => by rw [Nat.zero_add]; exact hL _ _ _ hC h
 | f + 1, listed, a, w, hC, h => by
   rw [show f + 1 + g = (f + g) + 1 by omega]
   exact ⟨fun h0 => absurd h0 h.1, fun i hi => wpOp_of_qOp hC (fun a' w' hw' h' => wpAny_of_headQ hL f _ a' w' hw' h') (h.2 i hi).2⟩
theorem wpAnyLQ_first {n i : Nat} {oi : Oper} {v : Value} {L : Array Bool -> Act -> Prop} (hi : ops[i]? = some oi) (hsel : ∀ (j : Nat) (o : Oper) cs b, ops[j]? = some o -> o.op ≠ .select cs b)
 (hs : Region.sinkB md ops n = true) (hc : Region.chainB md ops n = true) (hn : n < ops.size) (hin : i < n)
 (hdone : ∀ listed a, L listed a -> ∀ j ∈ Region.ready md ops listed, n <= j) :
 ∀ (f : Nat) (listed : Array Bool) (a : Act), HeadInv md ops n listed ->
   (∀ j oj, ops[j]? = some oj -> j ≠ i -> listed.getD j true = false -> (∀ e ∈ oj.after, Region.binds md e = true -> e.on ≠ i) -> oi.apart ops oj = true) ->
   i ∈ Region.ready md ops listed -> YieldsIn P ops C oi v a ->
   wpAnyLQ P md ops C n L f (listed.setIfInBounds i true) (a.put oi.dst v) -> wpAnyLQ P md ops C n L (f + 1) listed a := by
 intro f
 induction f with
 | zero =>
   intro listed a inv _ hr hy H
   have hun := (mem_ready.1 hr).1
   refine ⟨fun h => (by rw [h] at hr; cases hr), fun j hj => ?_⟩
   have hjn : j < n := by
    rcases Nat.lt_or_ge j n with h | h
    · exact h
    · exact absurd hj (tail_waits hs hc hn inv _ i rfl hin hun j h)
   refine ⟨hjn, ?_⟩
   by_cases hji : j = i
   · subst hji; exact hy.qOp hi H
   · have := hdone _ _ H j (ready_mono hj hji)
     omega
 | succ f ih =>
   intro listed a inv hfree hr hy H
   have hun := (mem_ready.1 hr).1
   refine ⟨fun h => (by rw [h] at hr; cases hr), fun j hj => ?_⟩
   have hjn : j < n := by
    rcases Nat.lt_or_ge j n with h | h
    · exact h
    · exact absurd hj (tail_waits hs hc hn inv _ i rfl hin hun j h)
   refine ⟨hjn, ?_⟩
   by_cases hji : j = i
   · subst hji; exact hy.qOp hi H
   · have h1 := (H.2 j (ready_mono hj hji)).2
     obtain ⟨hjun, oj, hoj, hall⟩ := mem_ready.1 hj
     have hnot : ∀ e ∈ oj.after, Region.binds md e = true -> e.on ≠ i := fun e he hb heq => by
      have h1 := hall e he hb
      rw [heq, getD_both hun] at h1
      cases h1
     have h2 := qOp_put hoj (hfree j oj hoj hji hjun hnot) (fun cs b => hsel i oi cs b hi) (fun cs b => hsel j oj cs b hoj) hy h1
     have hfree' : ∀ k ok, ops[k]? = some ok -> k ≠ i -> (listed.setIfInBounds j true).getD k true = false ->
      (∀ e ∈ ok.after, Region.binds md e = true -> e.on ≠ i) -> oi.apart ops ok = true := fun k ok hk hki hun hno => by
      refine hfree k ok hk hki ?_ hno
      by_cases hjk : j = k
      · subst hjk; exact hjun
      · rw [getD_set_ne true hjk] at hun; exact hun
     refine qOp_mono (fun a' h3 => ih (listed.setIfInBounds j true) a' (inv.set hj hjn) hfree' (ready_mono hr (Ne.symm hji)) h3.1 ?_) h2
     rw [Array.setIfInBounds_comm _ _ hji]
     exact h3.2
theorem wpAnyLQ_lex {n g : Nat} {Lq : Act -> Prop} (hsel : Region.noSelect ops = true) (hs : Region.sinkB md ops n = true) (hc : Region.chainB md ops n = true) (hn : n < ops.size) :
 ∀ (l : List Oper) (k : Nat) (listed : Array Bool) (a : Act), (∀ j, j < l.length -> l[j]? = ops[k + j]?) -> k + l.length = n -> HeadInv md ops n listed ->
 Region.lexHead md ops g l.length k listed = true -> wpQuiet P ops C Lq l a ->
 wpAnyLQ P md ops C n (fun listed' a' => Region.seqB md ops g n listed' = true /\ Lq a') l.length listed a
 | [], k, listed, a, _, hk, _, hB, h => by
   have : k = n := by simpa using hk
   subst this
   exact ⟨by simpa [Region.lexHead] using hB, h⟩
 | o :: l, k, listed, a, hl, hk, inv, hB, h => by
   have h0 : ops[k]? = some o := by simpa using (hl 0 (by simp)).symm
   simp only [List.length_cons, Region.lexHead, Bool.and_eq_true] at hB
   obtain ⟨⟨hr, hf⟩, hB'⟩ := hB
   have hkn : k < n := by simp only [List.length_cons] at hk; omega
   have hr' : k ∈ Region.ready md ops listed := by simpa using hr
   have hst : qOp P ops C k (wpQuiet P ops C Lq l) a := by unfold qOp; simp only [h0]; exact h
   obtain ⟨v, hy, hK⟩ := yieldsIn_of_qOp h0 hst
   exact wpAnyLQ_first h0 (Region.noSelect_spec hsel) hs hc hn hkn (fun listed' a' hL => seqB_ready hL.1) l.length listed a inv (Region.free_spec h0 hf) hr' hy
    (wpAnyLQ_lex hsel hs hc hn l (k + 1) _ _ (fun j hj => by have := hl (j + 1) (by simp; omega); simpa [Nat.add_assoc, Nat.add_comm 1 j] using this) (by simp only [List.length_cons] at hk; omega) (inv.set hr' hkn) hB' hK)
theorem wp_region_quiet_tail (C : World -> Prop) {id : Nat} {Q : Exit -> Act -> World -> Prop} {a : Act} {w : World} {l : List Oper} (n : Nat) (hm : P.follows .mixedOrders = true) (hB : Region.lexTailB .any l.toArray n = true)
 (hC : C { w with drawn := w.drawn + 1 })
 (h : wpQuiet P l.toArray C (fun a' => ∀ w', C w' -> wpList P l.toArray Q (l.drop n) a' w') (l.take n) a) : (Code.region id l.toArray true).wp P Q a w := by
 simp only [Region.lexTailB, Bool.and_eq_true, decide_eq_true_eq] at hB
 obtain ⟨⟨⟨⟨hsel, hn⟩, hs⟩, hc⟩, hlex⟩ := hB
 have hn' : n < l.length := by simpa using hn
 have htl : (l.take n).length = n := by simp; omega
 have hdl : (l.drop n).length = l.toArray.size - n := by simp
 have inv0 : HeadInv .any l.toArray n (Array.replicate l.toArray.size false) :=
  ⟨by simp, fun j oj _ hl => (by rw [getD_replicate_false] at hl; cases hl), fun t _ ht => getD_in (by simpa using ht) (getD_replicate_false _ _)⟩
 have H := wpAnyLQ_lex (md := .any) (C := C) (g := l.toArray.size - n) hsel hs hc hn (l.take n) 0 _ a (fun j hj => by
  have hj' : j < n := by rw [htl] at hj; exact hj
  simp [hj']) (by simpa using htl) inv0 (by rw [htl]; exact hlex) h
 refine wp_region_any hm ?_
 have := wpAny_of_headQ (Q' := Q) (g := l.toArray.size - n) (fun listed a' w' hw' hL => by
  have := wpAny_of_seq (md := .any) (Q' := Q) (l.drop n) n listed a' w' (fun j => by simp [List.getElem?_drop]) (by rw [hdl]; exact hL.1) (hL.2 w' hw')
  rwa [hdl] at this) _ _ _ _ hC H
 rw [htl, show n + (l.toArray.size - n) = l.toArray.size by omega] at this
 exact this
end
open Go.RowKit
def Ext (w w' : World) : Prop := Below w.heap.size w w'
theorem Ext.refl (w : World) : Ext w w := Below.refl _ _
theorem Ext.trans {a b c : World} (h : Ext a b) (k : Ext b c) : Ext a c := Below.trans h (Below.mono k h.size)
theorem Ext.alloc (w : World) (o : Obj) : Ext w (w.alloc o) := (Below.refl _ w).alloc (Nat.le_refl _) o
theorem Ext.drew (w : World) : Ext w w.drew := (Below.refl _ w).drew
theorem Ext.le {w w' : World} (h : Ext w w') : w.heap.size <= w'.heap.size := Below.size h
theorem Ext.cell {w w' : World} (h : Ext w w') {b o : Nat} (hb : b < w.heap.size) : w'.cell? ⟨b, o, none⟩ = w.cell? ⟨b, o, none⟩ := Below.cell h (p := ⟨b, o, none⟩) hb
theorem Ext.frozen {w w' : World} (h : Ext w w') {b o : Nat} (hb : b < w.heap.size) : w'.frozen? ⟨b, o, none⟩ = w.frozen? ⟨b, o, none⟩ := Below.frozen h (p := ⟨b, o, none⟩) hb
theorem Ext.setCell {w w' : World} (h : Ext w w') {b o : Nat} (hb : w.heap.size <= b) (v : Value) : Ext w (w'.setCell ⟨b, o, none⟩ v) := Below.setCell h (p := ⟨b, o, none⟩) hb v
theorem Ext.toAlloc {w w' : World} (h : Ext w w') (o : Obj) : Ext w (w'.alloc o) := h.trans (Ext.alloc _ _)
theorem World.cell_at {w : World} {c : Array Value} {t : TypeId} {n i : Nat} (hn : n = w.heap.size) : (w.alloc (.cells c t)).cell? ⟨n, i, none⟩ = c[i]? := by subst hn; simp
structure Row (w : World) (a : Option Addr) (cs : List Value) : Prop where
 at_ : cs ≠ [] -> ∃ b off, a = some ⟨b, off, none⟩ /\ b < w.heap.size /\ ∀ k, k < cs.length -> w.cell? ⟨b, off + k, none⟩ = cs[k]?
theorem Row.ext {w w' : World} {a : Option Addr} {cs : List Value} (h : Row w a cs) (hx : Ext w w') : Row w' a cs :=
 ⟨fun hne => let ⟨b, off, e, hb, hc⟩ := h.at_ hne; ⟨b, off, e, Nat.lt_of_lt_of_le hb hx.le, fun k hk => (hx.cell hb).trans (hc k hk)⟩⟩
theorem Row.nil (w : World) (a : Option Addr) : Row w a [] := ⟨fun h => absurd rfl h⟩
def intV (z : Int) : Value := .int .i64 z
def RowI (w : World) (a : Option Addr) (zs : List Int) : Prop := Row w a (zs.map intV)
theorem RowI.ext {w w' : World} {a : Option Addr} {zs : List Int} (h : RowI w a zs) (hx : Ext w w') : RowI w' a zs := Row.ext h hx
theorem RowI.get {w : World} {a : Option Addr} {zs : List Int} (h : RowI w a zs) {k : Nat} (hk : k < zs.length) :
 ∃ b off, a = some ⟨b, off, none⟩ /\ b < w.heap.size /\ ∀ k, (hk : k < zs.length) -> w.cell? ⟨b, off + k, none⟩ = some (.int .i64 zs[k]) := by
 obtain ⟨b, off, e, hb, hc⟩ := h.at_ (by intro e; rw [List.map_eq_nil_iff] at e; rw [e] at hk; cases hk)
 exact ⟨b, off, e, hb, fun k hk => by rw [hc k (by simpa using hk)]; simp [hk, intV]⟩
def RowS {α : Type} (enc : α -> List Value) (w : World) (a : Option Addr) (l : List α) : Prop := Row w a (l.flatMap enc)
theorem flatMap_getElem? {α β : Type} {enc : α -> List β} {s : Nat} (hs : ∀ x, (enc x).length = s) : ∀ (l : List α) (i j : Nat) (hi : i < l.length), j < s -> (l.flatMap enc)[i * s + j]? = (enc l[i])[j]?
 | x :: l, 0, j, _, hj => by simp [List.flatMap_cons, List.getElem?_append, hs, hj]
 | x :: l, i + 1, j, hi, hj => by
   have := flatMap_getElem? hs l i j (by simpa using hi) hj
   rw [List.flatMap_cons, List.getElem?_append_right (by rw [hs, Nat.add_mul]; omega), hs, show (i + 1) * s + j - s = i * s + j by rw [Nat.add_mul]; omega, this]
   simp
theorem flatMap_length {α β : Type} {enc : α -> List β} {s : Nat} (hs : ∀ x, (enc x).length = s) (l : List α) : (l.flatMap enc).length = l.length * s := by
 induction l with
 | nil => simp
 | cons x l ih => simp [List.flatMap_cons, hs, ih, Nat.add_mul]; omega
theorem RowS.ext {α : Type} {enc : α -> List Value} {w w' : World} {a : Option Addr} {l : List α} (h : RowS enc w a l) (hx : Ext w w') : RowS enc w' a l := Row.ext h hx
theorem RowS.get {α : Type} {enc : α -> List Value} {s : Nat} (hs : ∀ x, (enc x).length = s) (h0 : 0 < s) {w : World} {a : Option Addr} {l : List α} (h : RowS enc w a l) {k : Nat} (hk : k < l.length) :
 ∃ b off, a = some ⟨b, off, none⟩ /\ b < w.heap.size /\ ∀ i j, (hi : i < l.length) -> j < s -> w.cell? ⟨b, off + (i * s + j), none⟩ = (enc l[i])[j]? := by
 have hlen := flatMap_length hs l
 have hp : 0 < l.length * s := Nat.mul_pos (by omega) h0
 obtain ⟨b, off, e, hb, hc⟩ := h.at_ (by intro e; rw [e] at hlen; simp at hlen; omega)
 refine ⟨b, off, e, hb, fun i j hi hj => ?_⟩
 rw [hc (i * s + j) (by rw [hlen]; calc i * s + j < i * s + s := by omega
  _ = (i + 1) * s := by rw [Nat.add_mul]; omega
  _ <= l.length * s := Nat.mul_le_mul_right _ hi)]
 exact flatMap_getElem? hs l i j hi hj
open Classical in
noncomputable def World.over (W x : World) : World := if Ext W x then x else W
theorem World.over_ext (W x : World) : Ext W (W.over x) := by
 unfold World.over
 split
 · assumption
 · exact Ext.refl _
theorem World.over_of {W x : World} (h : Ext W x) : x = W.over x := by
 unfold World.over
 rw [if_pos h]
@[go_sem] theorem World.cell?_over (W x : World) (b o : Nat) (hb : b < W.heap.size) : (W.over x).cell? ⟨b, o, none⟩ = W.cell? ⟨b, o, none⟩ := (W.over_ext x).cell hb
@[go_sem] theorem World.frozen?_over (W x : World) (b o : Nat) (hb : b < W.heap.size) : (W.over x).frozen? ⟨b, o, none⟩ = W.frozen? ⟨b, o, none⟩ := (W.over_ext x).frozen hb
theorem Calls.over_ext {P : Program} {f : FuncId} {args : Array Value} {W x : World} {v : Value}
 (h : Calls P f args (W.over x) fun e w' => e = .returned v /\ Ext (W.over x) w') : Calls P f args (W.over x) fun e w'' => e = .returned v /\ ∃ y, w'' = W.over y :=
 h.mono fun _ _ ⟨he, hm⟩ => ⟨he, _, World.over_of ((W.over_ext x).trans hm)⟩
theorem Ext.of_grown {w w' : World} (h : w.grownBy w' none) : Ext w w' := (Below.refl _ w).grown h (Nat.le_refl _) (fun _ e => by cases e)
theorem Ext.grown {w0 w w' : World} {row : Option Nat} (h : Ext w0 w) (hg : w.grownBy w' row) (hr : ∀ k, row = some k -> w0.heap.size <= k) : Ext w0 w' := Below.grown h hg h.le hr
theorem Ext.grownBy {w w' : World} (h : Ext w w') (row : Option Nat) : w.grownBy w' row := ⟨h.os, h.tape, h.output, h.size, fun k hk _ => h.block k hk⟩
theorem World.grownBy.row {w w' : World} {row : Option Nat} (hg : w.grownBy w' row) {a : Option Addr} {cs : List Value} (h : Row w a cs) (hne : ∀ x, a = some x -> some x.block ≠ row) : Row w' a cs :=
 ⟨fun hn => let ⟨b, off, e, hb, hc⟩ := h.at_ hn; ⟨b, off, e, Nat.lt_of_lt_of_le hb hg.size, fun k hk => (World.cell?_of_block (w := w) (w' := w') (a := ⟨b, off + k, none⟩) (hg.block b hb (hne _ e))).trans (hc k hk)⟩⟩
theorem World.ownsRow.isSlice {w : World} {base : Nat} {e : TypeId} {size : Nat} {v : Value} {n : Nat} {xs : List Value} (h : w.ownsRow base e size v n xs) : ∃ a c, v = .slice a n c := by
 rcases h.2 with ⟨rfl, rfl⟩ | ⟨g, cap, cur, rfl, _⟩
 · exact ⟨none, 0, rfl⟩
 · exact ⟨_, _, rfl⟩
theorem World.ownsRow.ext {w w' : World} {base : Nat} {e : TypeId} {size : Nat} {v : Value} {n : Nat} {xs : List Value} (h : w.ownsRow base e size v n xs) (hx : Ext w w') : w'.ownsRow base e size v n xs := by
 refine h.kept (hx.grownBy none) ?_
 rcases h.2 with ⟨rfl, _⟩ | ⟨g, cap, cur, rfl, _⟩
 · exact .inl rfl
 · exact .inr (by simp [Value.ownBlock])
theorem World.ownsRow.below {w : World} {base base' : Nat} {e : TypeId} {size : Nat} {v : Value} {n : Nat} {xs : List Value} (h : w.ownsRow base e size v n xs) (hb : base' <= base) : w.ownsRow base' e size v n xs := by
 refine ⟨h.1, ?_⟩
 rcases h.2 with h2 | ⟨g, cap, cur, e1, h3, h4⟩
 · exact .inl h2
 · exact .inr ⟨g, cap, cur, e1, Nat.le_trans hb h3, h4⟩
theorem World.ownsRow.ge {w : World} {base : Nat} {e : TypeId} {size : Nat} {v : Value} {n : Nat} {xs : List Value} (h : w.ownsRow base e size v n xs) : ∀ k, v.ownBlock = some k -> base <= k := fun k hk => (h.lt k hk).1
theorem run_append_none (P : Program) (w : World) (base : Nat) (t ty e : TypeId) (i : TypeInfo) (size c : Nat) (ht : P.underlying t = some (.slice e)) (hi : P.info? e = some i)
 (v : Value) (n : Nat) (xs : List Value) (hown : w.ownsRow base e size v n xs) :
 (Builtin.append_ #[t, t] ty #[v, .slice none 0 c]).run P w = .ok v w := by
 rcases hown.2 with ⟨rfl, rfl⟩ | ⟨g, cap, cur, rfl, _, _, hnc, _⟩
 · simp [Builtin.append_, run_underlying ht, sizeOf, typeInfo, hi, Builtin.lenOf, Builtin.firstCells]
 · simp [Builtin.append_, run_underlying ht, sizeOf, typeInfo, hi, Builtin.lenOf, Builtin.firstCells, hnc, storeCells]
theorem wpList_append_row {P : Program} {w : World} {ops : Array Oper} {rest : List Oper} {o : Oper} {a : Act} {Q : Exit -> Act -> World -> Prop} (hgd : o.guard = none) (s x : Operand) (t : TypeId)
 (ho : o.op = .call { callee := .builtin .append, args := #[s, x], argTypes := #[t, t] })
 (base : Nat) (e : TypeId) (i : TypeInfo) (z : Value) (size bytes : Nat) (ht : P.underlying t = some (.slice e)) (hi : P.info? e = some i) (hz : i.zero = some z)
 (hsize : i.size = size) (hby : i.bytes = bytes) (hzs : z.cells.size = size) (hsz : 0 < size)
 (v : Value) (n : Nat) (xs : List Value) (hs : a.eval s = v) (hown : w.ownsRow base e size v n xs)
 (ad : Option Addr) (m c : Nat) (news : List Value) (hx : a.eval x = .slice ad m c) (hl : news.length = m * size) (hnews : Row w ad news) (h1 : ∀ u ∈ news, u.oneCell' = true)
 (h63 : n + m <= maxLen) (hbytes : (n + m) * bytes <= 140737488355328) (hbase : base <= w.heap.size)
 (h : ∀ v' w', w'.ownsRow base e size v' (n + m) (xs ++ news) -> w.grownBy w' v.ownBlock -> wpList P ops Q rest (a.put o.dst v') w') : wpList P ops Q (o :: rest) a w := by
 cases ad with
 | some ad =>
   obtain ⟨b, off, sp⟩ := ad
   by_cases hn : news = []
   · exact wpList_append_own w hgd s x t ho base e i z size bytes ht hi hz hsize hby hzs hsz v n xs hs hown _ m c news hx hl (fun j u hj => by rw [hn] at hj; simp at hj) h1 h63 hbytes hbase (fun v' w' a b _ => h v' w' a b)
   obtain ⟨b', off', e1, hb, hc⟩ := hnews.at_ hn
   cases e1
   refine wpList_append_own w hgd s x t ho base e i z size bytes ht hi hz hsize hby hzs hsz v n xs hs hown _ m c news hx hl (fun j u hj => ?_) h1 h63 hbytes hbase (fun v' w' a b _ => h v' w' a b)
   have hj' : j < news.length := (List.getElem?_eq_some_iff.1 hj).1
   have := hc j hj'
   rw [hj] at this
   unfold Addr.add
   split
   · subst j; simpa using this
   · exact this
 | none =>
   have hn : news = [] := Classical.byContradiction fun hne => by obtain ⟨_, _, e1, _⟩ := hnews.at_ hne; cases e1
   subst hn
   have hm : m = 0 := by
    rcases Nat.mul_eq_zero.1 (hl.symm.trans (by rfl)) with h | h
    · exact h
    · omega
   subst hm
   refine wpList_plain hgd fun K hK => ?_
   have hrun := run_append_none P w base t o.type e i size c ht hi v n xs hown
   unfold Oper.wp
   simp [execOp, ho, resolve, invoke, builtin, hs, hx, hrun, Result.andThen]
   exact hK _ _ (h v w (by simpa using hown) (World.grownBy.refl _ _))
theorem flat_len (s : List Int) : (s.flatMap (fun z => [Value.int .i64 z])).length = s.length := by
 rw [flatMap_length (s := 1) (fun _ => rfl), Nat.mul_one]
def Obj.stays : Obj -> Bool
 | .loop .. => false
 | .deferred .. => false
 | _ => true
structure KeepsP (s : Obj -> Bool) (B : Nat) (A A' : World) : Prop where
 os : A'.os = A.os
 tape : A'.tape = A.tape
 output : A'.output = A.output
 size : A.heap.size <= A'.heap.size
 same : ∀ (j : Nat) (o : Obj), A.heap[j]? = some o -> (j < B \/ s o = true) -> A'.heap[j]? = some o
abbrev Keeps := KeepsP Obj.isCells
theorem Ext.heap {A A' : World} (h : Ext A A') {j : Nat} {o : Obj} (hj : A.heap[j]? = some o) : A'.heap[j]? = some o :=
 (h.block j (Array.getElem?_eq_some_iff.1 hj).1).trans hj
theorem Ext.keepsP {s : Obj -> Bool} {A A' : World} (h : Ext A A') (B : Nat) : KeepsP s B A A' := ⟨h.os, h.tape, h.output, h.size, fun _ _ hj _ => h.heap hj⟩
theorem Ext.keeps {A A' : World} (h : Ext A A') (B : Nat) : Keeps B A A' := h.keepsP B
theorem KeepsP.putObj {s : Obj -> Bool} {B : Nat} (W : World) {l : Nat} {o : Obj} (o' : Obj) (hB : B <= l) (hl : W.heap[l]? = some o) (ho : s o = false) : KeepsP s B W (W.putObj l o') :=
 ⟨rfl, rfl, rfl, by simp, fun j o2 hj hc => by
   by_cases e : j = l
   · subst e
     rw [hl] at hj; cases hj
     rcases hc with hc | hc
     · omega
     · rw [ho] at hc; cases hc
   · exact (World.putObj_heap_other e).trans hj⟩
theorem Keeps.putObj {B : Nat} (W : World) {l : Nat} {o : Obj} (o' : Obj) (hB : B <= l) (hl : W.heap[l]? = some o) (ho : o.isCells = false) : Keeps B W (W.putObj l o') := KeepsP.putObj W o' hB hl ho
theorem KeepsP.trans {s : Obj -> Bool} {B : Nat} {a b c : World} (h : KeepsP s B a b) (k : KeepsP s B b c) : KeepsP s B a c :=
 ⟨k.os.trans h.os, k.tape.trans h.tape, k.output.trans h.output, Nat.le_trans h.size k.size, fun j o hj hc => k.same j o (h.same j o hj hc) hc⟩
theorem KeepsP.cell {s : Obj -> Bool} (hs : ∀ c t f, s (.cells c t f) = true) {B : Nat} {A A' : World} (h : KeepsP s B A A') {b o : Nat} {v : Value} (hc : A.cell? ⟨b, o, none⟩ = some v) : A'.cell? ⟨b, o, none⟩ = some v := by
 unfold World.cell? at hc ⊢
 cases ho : A.heap[b]? with
 | none => simp [ho] at hc
 | some x =>
   cases x with
   | cells c t f =>
     rw [h.same b _ ho (.inr (hs _ _ _))]
     simp only [ho] at hc
     exact hc
   | _ => simp [ho] at hc
theorem Keeps.trans {B : Nat} {a b c : World} (h : Keeps B a b) (k : Keeps B b c) : Keeps B a c :=
 ⟨k.os.trans h.os, k.tape.trans h.tape, k.output.trans h.output, Nat.le_trans h.size k.size, fun j o hj hc => k.same j o (h.same j o hj hc) hc⟩
theorem Keeps.cell {B : Nat} {A A' : World} (h : Keeps B A A') {b o : Nat} {v : Value} (hc : A.cell? ⟨b, o, none⟩ = some v) : A'.cell? ⟨b, o, none⟩ = some v := by
 unfold World.cell? at hc ⊢
 cases ho : A.heap[b]? with
 | none => simp [ho] at hc
 | some x =>
   cases x with
   | cells c t f =>
     rw [h.same b _ ho (.inr rfl)]
     simp only [ho] at hc
     exact hc
   | _ => simp [ho] at hc
theorem Keeps.frozen {B : Nat} {A A' : World} (h : Keeps B A A') {b o : Nat} {v : Value} (hc : A.cell? ⟨b, o, none⟩ = some v) (hf : A.frozen? ⟨b, o, none⟩ = false) : A'.frozen? ⟨b, o, none⟩ = false := by
 unfold World.cell? at hc
 unfold World.frozen? at hf ⊢
 cases ho : A.heap[b]? with
 | none => simp [ho] at hc
 | some x =>
   cases x with
   | cells c t f =>
     rw [h.same b _ ho (.inr rfl)]
     simp only [ho] at hf
     exact hf
   | _ => simp [ho] at hc
theorem Keeps.ext {B : Nat} {w A A' : World} (h : Keeps B A A') (he : Ext w A) (hB : w.heap.size <= B) : Ext w A' :=
 ⟨h.os.trans he.os, h.tape.trans he.tape, h.output.trans he.output, Nat.le_trans he.size h.size, fun j hj => by
   have h1 := he.block j hj
   cases ho : w.heap[j]? with
   | none => have := Array.getElem?_eq_none_iff.1 ho; omega
   | some o =>
     rw [ho] at h1
     exact h.same j o h1 (.inl (by omega))⟩
theorem Keeps.below {B n : Nat} {A A' : World} (h : Keeps B A A') (hB : n <= B) (hn : n <= A.heap.size) : Below n A A' :=
 ⟨h.os, h.tape, h.output, h.size, fun j hj => by
   cases ho : A.heap[j]? with
   | none => have := Array.getElem?_eq_none_iff.1 ho; omega
   | some o => exact h.same j o ho (.inl (by omega))⟩
theorem Keeps.heap {B : Nat} {A A' : World} (h : Keeps B A A') {j : Nat} {o : Obj} (hj : j < B) (ho : A.heap[j]? = some o) : A'.heap[j]? = some o := h.same j o ho (.inl hj)
theorem Keeps.row {B : Nat} {A A' : World} (h : Keeps B A A') {a : Option Addr} {cs : List Value} (hr : Row A a cs) : Row A' a cs :=
 ⟨fun hn => let ⟨b, off, e, hb, hc⟩ := hr.at_ hn; ⟨b, off, e, Nat.lt_of_lt_of_le hb h.size, fun k hk => by
  have := hc k hk
  rw [List.getElem?_eq_getElem hk] at this ⊢
  exact h.cell this⟩⟩
theorem Keeps.ownsRow {B : Nat} {A A' : World} (h : Keeps B A A') {base : Nat} {e : TypeId} {size : Nat} {v : Value} {n : Nat} {xs : List Value} (hr : A.ownsRow base e size v n xs) : A'.ownsRow base e size v n xs := by
 refine ⟨hr.1, ?_⟩
 rcases hr.2 with h2 | ⟨g, cap, cur, e1, h3, h4, h5⟩
 · exact .inl h2
 · exact .inr ⟨g, cap, cur, e1, h3, h.same g _ h4 (.inr rfl), h5⟩
def SeqL {α : Type} (P : Program) (g : Nat) (lb : Array Value) (encs : α -> Array Value) (L : List α) (Rd : World -> Prop) : Prop :=
 ∀ (l : Nat) (J Jx : Nat -> World -> Prop) (W : World), (∀ k A A', Ext A A' -> J k A -> J k A') -> (∀ k A A', Ext A A' -> Jx k A -> Jx k A') -> (∀ k A, J k A -> Rd A) ->
   (∀ (k : Nat) (hk : k < L.length) (W1 : World), J k W1 -> YieldAt Fence.wide 7 P l (encs L[k]) W1 fun e W' =>
     (e = .returned (.bool true) /\ J (k + 1) W') \/ (e = .returned (.bool false) /\ Jx (k + 1) W')) ->
   J 0 W ->
   CallsIn Fence.wide 8 P g (#[.func (.yield l) #[] #[]] ++ lb) W fun e W' => (∃ v, e = .returned v) /\ (J L.length W' \/ ∃ k, k <= L.length /\ Jx k W')
def rangeRound (B : Nat) (I : Nat -> World -> Prop) (Ix : Code -> Nat -> World -> Prop) (k : Nat) (W : World) : Exit -> Act -> World -> Prop
 | .normal, _, W' => KeepsFrom B W W' /\ I (k + 1) W'
 | .ret, _, W' => KeepsFrom B W W' /\ Ix .ret (k + 1) W'
 | .exit id, _, W' => KeepsFrom B W W' /\ Ix (.exit id) (k + 1) W'
 | .goto t, _, W' => KeepsFrom B W W' /\ Ix (.goto t) (k + 1) W'
 | .panic _, _, _ => False
 | .outgrown, _, _ => False
def markOf (D : Nat) : Deferred := { target := .collected D, args := #[] }
theorem wp_rangeP {s : Obj -> Bool} (sl : ∀ r, s (.loop r) = false) {P : Program} {α : Type} {g : Operand} {ps : Array Tmp} {assign body : Code} {Q : Exit -> Act -> World -> Prop} {a : Act} {w : World}
 {gf : Nat} {lb : Array Value} (hg : a.eval g = .func (.func gf) #[] lb) (eg : ∀ args w, (callFunc gf args).run P w = .ok (.enter gf args) w)
 {encs : α -> Array Value} {L : List α} {Rd : World -> Prop} (hseq : SeqL P gf lb encs L Rd) (hps : ∀ x, (encs x).size = ps.size)
 (I : Nat -> World -> Prop) (Ix : Code -> Nat -> World -> Prop) (hI : ∀ k A A', KeepsP s w.heap.size A A' -> I k A -> I k A') (hIx : ∀ c k A A', KeepsP s w.heap.size A A' -> Ix c k A -> Ix c k A') (hRd : ∀ k A, I k A -> Rd A) (h0 : I 0 w)
 (Ax : Act -> Nat -> Act -> World -> Prop) (hAx : ∀ k a' A A', KeepsP s w.heap.size A A' -> Ax a k a' A -> Ax a k a' A')
 (hassign : ∀ (l k : Nat) (hk : k < L.length) (W : World) (K : Act -> World -> Prop), I k W -> (∀ a' W', KeepsFrom w.heap.size W W' -> I k W' -> Ax a k a' W' -> K a' W') ->
   assign.wpIn (Fence.wide.inRound l) 7 P (Exit.then K (fun _ _ _ => False)) { tmps := (ps.zip (encs L[k])).foldl (fun t (p, v) => t.setIfInBounds p v) a.tmps, defers := [] } W)
 (hbody : ∀ (l k : Nat) (_ : k < L.length) (a' : Act) (W : World), w.heap.size <= l -> I k W -> Ax a k a' W -> body.wpIn (Fence.wide.inRound l) 7 P (rangeRound w.heap.size I Ix k W) a' W)
 (hdone : ∀ (D : Nat) (W : World), w.heap.size <= D -> I L.length W -> W.heap[D]? = some (.deferred (some [])) -> Q .normal { a with defers := markOf D :: a.defers } W)
 (hstop : ∀ (D : Nat) (c : Code) (k : Nat) (W : World), w.heap.size <= D -> k <= L.length -> Ix c k W -> W.heap[D]? = some (.deferred (some [])) -> c.wp P Q { a with defers := markOf D :: a.defers } W) :
 (Code.rangeFunc g ps assign body).wp P Q a w := by
 refine (wpIn_wide (n := 9)).1 ?_
 refine wpIn_rangeFunc ?_
 intro fn hfn
 obtain ⟨rec, hrec⟩ : ∃ rec : LoopState -> Option Code -> Loop, rec = fun st pe => { state := st, pending := pe, fn, tmps := a.tmps, params := ps, assign, body, defers := w.heap.size } := ⟨_, rfl⟩
 obtain ⟨W1, hW1⟩ : ∃ W1, (w.alloc (.deferred (some []))).alloc (.loop (rec .ready none)) = W1 := ⟨_, rfl⟩
 have hL1 : W1.heap[w.heap.size + 1]? = some (.loop (rec .ready none)) := by
  rw [<- hW1]; have := World.alloc_heap_new (w.alloc (.deferred (some []))) (.loop (rec .ready none)); rwa [World.size_alloc] at this
 have hK1 : W1.heap[w.heap.size]? = some (.deferred (some [])) := by
  rw [<- hW1]; exact (Below.heap_alloc _ _ _ (by simp)).trans (World.alloc_heap_new w _)
 have hx1 : Ext w W1 := by rw [<- hW1]; exact (Ext.alloc _ _).toAlloc _
 have hI1 : I 0 W1 := hI 0 w W1 (hx1.keepsP _) h0
 refine ⟨w.heap.size + 1, [{ target := .collected w.heap.size, args := #[] }], W1, { target := .fn (.func gf) lb, args := #[.func (.yield (w.heap.size + 1)) #[] #[]] }, W1, gf,
  #[.func (.yield (w.heap.size + 1)) #[] #[]] ++ lb, W1, ?_, ?_, ?_, ?_, (fun h => by simp [Fence.wide] at h), ?_⟩
 · rw [<- hW1, hrec]; exact run_enterLoop_outer _ _ _ _ _
 · simp only [resolve, hg]
   simp [go_sem]
 · intro f' hf'; trivial
 · simp [invoke, go_sem, eg]
 · refine (hseq (w.heap.size + 1)
  (fun k W => I k W /\ W.heap[w.heap.size + 1]? = some (.loop (rec .ready none)) /\ W.heap[w.heap.size]? = some (.deferred (some [])))
  (fun k W => ∃ c, Ix c k W /\ W.heap[w.heap.size + 1]? = some (.loop (rec .done (some c))) /\ W.heap[w.heap.size]? = some (.deferred (some [])))
  W1
  (fun k A A' hx hs => ⟨hI k A A' (hx.keepsP _) hs.1, hx.heap hs.2.1, hx.heap hs.2.2⟩)
  (fun k A A' hx hs => by
    obtain ⟨c, hc, hl, hk⟩ := hs
    exact ⟨c, hIx c k A A' (hx.keepsP _) hc, hx.heap hl, hx.heap hk⟩)
  (fun k A hs => hRd k A hs.1) ?_ ⟨hI1, hL1, hK1⟩).mono ?_
   · rintro k hk W ⟨hi, hl, hkk⟩
     have hlt : w.heap.size + 1 < W.heap.size := (Array.getElem?_eq_some_iff.1 hl).1
     have hy := run_yield (P := P) (args := encs L[k]) hl (by rw [hrec]; exact hps _)
     rw [hrec] at hy
     refine ⟨fn, _, assign, body, hy, roundIn_of_wpIn hfn (hassign _ k hk W _ hi ?_)⟩
     clear hy
     intro a' Wa hkfa hia hax
     replace hl := hkfa.same _ _ (by omega) hl rfl
     replace hkk := hkfa.same _ _ (Nat.le_refl _) hkk rfl
     replace hlt : w.heap.size + 1 < Wa.heap.size := (Array.getElem?_eq_some_iff.1 hl).1
     refine ⟨_, run_beginRound hl (by rw [hrec]), ?_⟩
     have hl2 : (Wa.putObj (w.heap.size + 1) (.loop { rec .ready none with state := .busy })).heap[w.heap.size + 1]? = some (.loop { rec .ready none with state := .busy }) := World.putObj_heap_same hlt
     have hk2 : (Wa.putObj (w.heap.size + 1) (.loop { rec .ready none with state := .busy })).heap[w.heap.size]? = some (.deferred (some [])) := (World.putObj_heap_other (by omega)).trans hkk
     have kp2 : KeepsP s w.heap.size Wa (Wa.putObj (w.heap.size + 1) (.loop { rec .ready none with state := .busy })) := KeepsP.putObj _ _ (by omega) hl (sl _)
     refine wpIn_mono (hbody _ k hk a' _ (by omega) (hI k _ _ kp2 hia) (hAx k a' _ _ kp2 hax)) ?_
     have fin : ∀ (jump : Option Code) (W3 : World), KeepsFrom w.heap.size (Wa.putObj (w.heap.size + 1) (.loop { rec .ready none with state := .busy })) W3 ->
      (Instr.endRound (w.heap.size + 1) jump).run P W3 = .ok (.bool jump.isNone) (W3.putObj (w.heap.size + 1) (.loop (rec (if jump.isNone then .ready else .done) jump))) /\
      KeepsP s w.heap.size W3 (W3.putObj (w.heap.size + 1) (.loop (rec (if jump.isNone then .ready else .done) jump))) /\ w.heap.size <= W3.heap.size /\
      (W3.putObj (w.heap.size + 1) (.loop (rec (if jump.isNone then .ready else .done) jump))).heap[w.heap.size + 1]? = some (.loop (rec (if jump.isNone then .ready else .done) jump)) /\
      (W3.putObj (w.heap.size + 1) (.loop (rec (if jump.isNone then .ready else .done) jump))).heap[w.heap.size]? = some (.deferred (some [])) := fun jump W3 hk3 => by
      have hl3 := hk3.same _ _ (by omega) hl2 rfl
      have := run_endRound (P := P) jump hl3
      have hsz := (Array.getElem?_eq_some_iff.1 hl3).1
      have kp3 := KeepsP.putObj (B := w.heap.size) W3 (.loop (rec (if jump.isNone then .ready else .done) jump)) (by omega) hl3 (sl _)
      refine ⟨?_, kp3, by omega, World.putObj_heap_same hsz, (World.putObj_heap_other (by omega)).trans (hk3.same _ _ (Nat.le_refl _) hk2 rfl)⟩
      rw [hrec] at this ⊢
      exact this
     rintro e a3 W3 hp
     cases e with
     | normal =>
       obtain ⟨hk3, hi3⟩ := hp
       obtain ⟨hr, kp3, hs3, hl4, hk4⟩ := fin none W3 hk3
       exact ⟨_, _, hr, .inl ⟨rfl, hI _ _ _ kp3 hi3, hl4, hk4⟩⟩
     | ret =>
       obtain ⟨hk3, hi3⟩ := hp
       obtain ⟨hr, kp3, hs3, hl4, hk4⟩ := fin (some .ret) W3 hk3
       exact ⟨_, _, hr, .inr ⟨rfl, .ret, hIx _ _ _ _ kp3 hi3, hl4, hk4⟩⟩
     | exit id =>
       obtain ⟨hk3, hi3⟩ := hp
       obtain ⟨hr, kp3, hs3, hl4, hk4⟩ := fin (some (.exit id)) W3 hk3
       exact ⟨_, _, hr, .inr ⟨rfl, .exit id, hIx _ _ _ _ kp3 hi3, hl4, hk4⟩⟩
     | goto t =>
       obtain ⟨hk3, hi3⟩ := hp
       obtain ⟨hr, kp3, hs3, hl4, hk4⟩ := fin (some (.goto t)) W3 hk3
       exact ⟨_, _, hr, .inr ⟨rfl, .goto t, hIx _ _ _ _ kp3 hi3, hl4, hk4⟩⟩
     | panic ch => exact hp.elim
     | outgrown => exact hp.elim
   · rintro e W2 ⟨⟨v, rfl⟩, (⟨hi, hl, hk⟩ | ⟨k, hkl, c, hi, hl, hk⟩)⟩
     · have kp := KeepsP.putObj (B := w.heap.size) W2 (.loop { rec .ready none with state := .exhausted }) (by omega) hl (sl _)
       exact ⟨none, _, by have := run_endLoop (P := P) hl (by rw [hrec]; simp); rw [hrec] at this; exact this, hdone _ _ (Nat.le_refl _) (hI _ _ _ (by rw [hrec] at kp; exact kp) hi) ((World.putObj_heap_other (by omega)).trans hk)⟩
     · have kp := KeepsP.putObj (B := w.heap.size) W2 (.loop { rec .done (some c) with state := .exhausted }) (by omega) hl (sl _)
       exact ⟨some c, _, by have := run_endLoop (P := P) hl (by rw [hrec]; simp); rw [hrec] at this; exact this, wpIn_wide.2 (hstop _ c k _ (Nat.le_refl _) hkl (hIx _ _ _ _ (by rw [hrec] at kp; exact kp) hi) ((World.putObj_heap_other (by omega)).trans hk))⟩
def Marks (B : Nat) (W : World) : List Deferred -> Prop
 | [] => True
 | d :: ds => (∃ D, d = markOf D /\ B <= D /\ W.heap[D]? = some (.deferred (some [])) /\ markOf D ∉ ds) /\ Marks B W ds
theorem Marks.keeps {B : Nat} {W W' : World} : ∀ {ds : List Deferred}, Marks B W ds -> (∀ D, markOf D ∈ ds -> W.heap[D]? = some (.deferred (some [])) -> W'.heap[D]? = some (.deferred (some []))) -> Marks B W' ds
 | [], _, _ => trivial
 | _ :: _, ⟨⟨D, e, hB, hD, hn⟩, hs⟩, h => ⟨⟨D, e, hB, h D (by subst e; simp) hD, hn⟩, hs.keeps fun D' hm => h D' (by simp [hm])⟩
theorem leaves_marksP {s : Obj -> Bool} (sd : ∀ r, s (.deferred r) = false) {P : Program} {fn : Func} {tmps : Array Value} {R : Ending -> World -> Prop} (B : Nat) : ∀ (ds : List Deferred) (W : World), Marks B W ds ->
 (∀ W', KeepsP s B W W' -> ∃ v, (results fn tmps).run P W' = .ok v W' /\ R (.returned v) W') -> LeavesInM Fence.wide 9 P fn tmps R ds .returning W
 | [], W, _, h => by
   obtain ⟨v, h1, h2⟩ := h W ((Ext.refl W).keepsP _)
   exact ⟨v, h1, h2⟩
 | _ :: ds, W, ⟨⟨D, rfl, hB, hD, hn⟩, hs⟩, h => by
   refine ⟨by simp, .inl ⟨D, _, rfl, run_takeDeferred hD, ?_⟩⟩
   have kp := KeepsP.putObj (B := B) W (.deferred none) hB hD (sd _)
   refine leaves_marksP sd B ds _ (hs.keeps fun D' hm hD' => ?_) (fun W' hk => h W' (kp.trans hk))
   rw [World.putObj_heap_other (by rintro rfl; exact hn hm)]
   exact hD'
theorem bodyPostM_marksP {s : Obj -> Bool} (sd : ∀ r, s (.deferred r) = false) {P : Program} {fn : Func} {R : Ending -> World -> Prop} {a : Act} {W : World} (B : Nat) (hm : Marks B W a.defers)
 (h : ∀ W', KeepsP s B W W' -> ∃ v, (results fn a.tmps).run P W' = .ok v W' /\ R (.returned v) W') : bodyPostM Fence.wide 9 P fn R .ret a W := leaves_marksP sd B _ _ hm h
theorem calls_of_wp_marks {P : Program} {f : FuncId} {fn : Func} {c : Code} {args : Array Value} {w : World} {R : Ending -> World -> Prop}
 (hf : P.funcs[f]? = some fn) (hb : fn.body = some c)
 (h : c.wp P (bodyPostM Fence.wide 9 P fn R) { tmps := args ++ Array.replicate (fn.ntmps - args.size) undef, defers := [] } w) : Calls P f args w R :=
 (callsIn_wide (n := 9)).1 (callsIn_of_wp_marks hf hb trivial (wpIn_wide.2 h) rfl)
def Fence.wr (ro : Option Nat) : Fence := { Fence.wide with round := ro }
theorem callsIn_wr {ro : Option Nat} {n : Nat} {P : Program} {f : FuncId} {args : Array Value} {w : World} {R : Ending -> World -> Prop} (h : Calls P f args w R) : CallsIn (Fence.wr ro) n P f args w R :=
 show CallsIn Fence.wide n P f args w R from callsIn_wide.2 h
theorem CallsIn.round {l : Nat} {n : Nat} {P : Program} {f : FuncId} {args : Array Value} {w : World} {R : Ending -> World -> Prop} (h : Calls P f args w R) : CallsIn (Fence.wide.inRound l) n P f args w R :=
 show CallsIn Fence.wide n P f args w R from callsIn_wide.2 h
section
variable {P : Program} {ops : Array Oper} {md : Region.Mode} {C : World -> Prop} {ro : Option Nat} {n : Nat}
end
def Region.upB (ops : Array Oper) : Bool := (List.range ops.size).all fun i => match ops[i]? with
 | some o => o.after.all fun e => !Region.binds .any e || decide (e.on < i)
 | none => true
theorem Region.upB_spec {ops : Array Oper} (h : Region.upB ops = true) {i : Nat} {o : Oper} (ho : ops[i]? = some o) : ∀ e ∈ o.after, Region.binds .any e = true -> e.on < i := by
 intro e he hb
 have hi : i < ops.size := (Array.getElem?_eq_some_iff.1 ho).1
 have h1 := List.all_eq_true.1 h i (List.mem_range.2 hi)
 rw [ho] at h1
 have h2 := Array.all_eq_true'.1 h1 e he
 simpa [hb] using h2
def lst (listed : Array Bool) (i : Nat) : Bool := listed.getD i false
theorem lst_set {listed : Array Bool} {i j : Nat} (hi : i < listed.size) : lst (listed.setIfInBounds i true) j = (decide (j = i) || lst listed j) := by
 unfold lst
 by_cases e : j = i
 · subst e; simp [hi]
 · rw [getD_set_ne false (by omega)]; simp [e]
theorem ready_all {ops : Array Oper} (hup : Region.upB ops = true) {listed : Array Bool} (hs : listed.size = ops.size) (h : Region.ready .any ops listed = []) : ∀ i, i < ops.size -> lst listed i = true := by
 intro i
 induction i using Nat.strongRecOn with
 | _ i ih =>
   intro hi
   refine Classical.byContradiction fun hn => ?_
   have hin : i ∈ Region.ready .any ops listed := mem_ready.2 ⟨by unfold lst at hn; exact getD_in (by omega) (by simpa using hn), ops[i], by simp [hi], fun e he hb => by
    have := Region.upB_spec hup (i := i) (o := ops[i]) (by simp [hi]) e he hb
    exact ih e.on this (by omega)⟩
   rw [h] at hin
   cases hin
theorem wpAnyIn_inv {F : Fence} {n : Nat} {P : Program} {ops : Array Oper} {Q : Exit -> Act -> World -> Prop} (hup : Region.upB ops = true) (Inv : (Nat -> Bool) -> Act -> World -> Prop)
 (hstep : ∀ (s : Nat -> Bool) (a : Act) (w : World) (i : Nat) (o : Oper), ops[i]? = some o -> s i = false -> (∀ e ∈ o.after, Region.binds .any e = true -> s e.on = true) -> Inv s a w ->
   wpOpIn F n P ops Q i (fun a' w' => Inv (fun j => decide (j = i) || s j) a' w') a w)
 (hend : ∀ (s : Nat -> Bool) (a : Act) (w : World), (∀ i, i < ops.size -> s i = true) -> Inv s a w -> Q .normal a w) :
 ∀ (f : Nat) (listed : Array Bool) (a : Act) (w : World), listed.size = ops.size -> ((List.range ops.size).filter fun i => !lst listed i).length <= f -> Inv (lst listed) a w -> wpAnyIn F n P .any ops Q f listed a w
 | 0, listed, a, w, hs, hf, h => by
   have hall : ∀ i, i < ops.size -> lst listed i = true := fun i hi => by
    have h0 := List.eq_nil_of_length_eq_zero (Nat.le_zero.1 hf)
    have := (List.filter_eq_nil_iff.1 h0) i (List.mem_range.2 hi)
    simpa using this
   refine ⟨?_, hend _ a w hall h⟩
   cases hr : Region.ready .any ops listed with
   | nil => rfl
   | cons i r =>
     have hi : i ∈ Region.ready .any ops listed := by rw [hr]; simp
     obtain ⟨h1, o, ho, _⟩ := mem_ready.1 hi
     have := hall i (Array.getElem?_eq_some_iff.1 ho).1
     unfold lst at this
     rw [getD_both h1] at this
     cases this
 | f + 1, listed, a, w, hs, hf, h => by
   refine ⟨fun h0 => hend _ a w (ready_all hup hs h0) h, fun i hi => ?_⟩
   obtain ⟨h1, o, ho, hall⟩ := mem_ready.1 hi
   have hlt : i < ops.size := (Array.getElem?_eq_some_iff.1 ho).1
   have hli : lst listed i = false := getD_both h1
   refine wpOpIn_mono (fun a' w' h' => ?_) (hstep (lst listed) a w i o ho hli hall h)
   refine wpAnyIn_inv hup Inv hstep hend f _ a' w' (by simpa using hs) ?_ ?_
   · have e : ((List.range ops.size).filter fun j => !lst (listed.setIfInBounds i true) j) = ((List.range ops.size).filter fun j => !lst listed j).filter (fun j => decide (j ≠ i)) := by
      rw [List.filter_filter]
      apply List.filter_congr
      intro j _
      rw [lst_set (by omega)]
      by_cases ej : j = i <;> simp [ej]
     rw [e]
     have hm : i ∈ (List.range ops.size).filter fun j => !lst listed j := List.mem_filter.2 ⟨List.mem_range.2 hlt, by simp [hli]⟩
     have := List.length_filter_lt_length_iff_exists (p := fun j => decide (j ≠ i)) |>.2 ⟨i, hm, by simp⟩
     omega
   · have : lst (listed.setIfInBounds i true) = fun j => decide (j = i) || lst listed j := funext fun j => lst_set (by omega)
     rw [this]
     exact h'
theorem wpIn_region_inv {F : Fence} {n : Nat} {P : Program} {id : Nat} {Q : Exit -> Act -> World -> Prop} {a : Act} {w : World} {l : List Oper} (hm : P.follows .mixedOrders = true) (hup : Region.upB l.toArray = true) (Inv : (Nat -> Bool) -> Act -> World -> Prop)
 (h0 : Inv (fun _ => false) a w.drew)
 (hstep : ∀ (s : Nat -> Bool) (a : Act) (w : World) (i : Nat) (o : Oper), l.toArray[i]? = some o -> s i = false -> (∀ e ∈ o.after, Region.binds .any e = true -> s e.on = true) -> Inv s a w ->
   wpOpIn F n P l.toArray Q i (fun a' w' => Inv (fun j => decide (j = i) || s j) a' w') a w)
 (hend : ∀ (s : Nat -> Bool) (a : Act) (w : World), (∀ i, i < l.length -> s i = true) -> Inv s a w -> Q .normal a w) : (Code.region id l.toArray true).wpIn F n P Q a w := by
 refine wpIn_region_any hm (wpAnyIn_inv hup Inv hstep (by simpa using hend) _ _ _ _ (by simp) ?_ ?_)
 · refine Nat.le_trans (List.length_filter_le _ _) (by simp)
 · have : lst (Array.replicate l.toArray.size false) = fun _ => false := funext fun j => getD_replicate_false _ _
   rw [this]
   exact h0
end Go
namespace Go.Ab
open Go Go.RowKit
inductive FV where
 | v (x : Value)
 | sl (n : Nat) (cells : List FV)
 | agg (cells : List FV)
 | tup (l : List FV)
 | pt (cells : List FV) (off : Nat)
 | fn (f : Nat) (caps : List FV)
 | slc (n : Nat) (cells : List FV)
 | mp (G : Obj -> Prop)
 | any (G : Value -> Prop)
 | tab (l : List Value)
instance : Inhabited FV := ⟨.v undef⟩
theorem addr_add (b o j : Nat) : (⟨b, o, none⟩ : Addr).add j = ⟨b, o + j, none⟩ := by unfold Addr.add; split <;> simp_all
structure Lies (w : World) (M : Nat -> Prop) (b off : Nat) (us : List Value) : Prop where
 lt : b < w.heap.size
 free : ¬ M b
 at_ : ∀ k, k < us.length -> w.cell? ⟨b, off + k, none⟩ = us[k]?
theorem Lies.mono {w w' : World} {M M' : Nat -> Prop} {b off : Nat} {us : List Value} (h : Lies w M b off us) (hk : ∀ b, b < w.heap.size -> ¬ M b -> w'.heap[b]? = w.heap[b]?) (hs : w.heap.size <= w'.heap.size) (hM : ∀ b, b < w.heap.size -> M' b -> M b) : Lies w' M' b off us :=
 ⟨Nat.lt_of_lt_of_le h.lt hs, fun hm => h.free (hM b h.lt hm), fun k hlt => (World.cell?_of_block (w := w) (w' := w') (a := ⟨b, off + k, none⟩) (hk b h.lt h.free)).trans (h.at_ k hlt)⟩
def _root_.Go.Obj.isMap : Obj -> Bool
 | .map .. => true
 | _ => false
structure LiesO (w : World) (M : Nat -> Prop) (r : Nat) (G : Obj -> Prop) : Prop where
 lt : r < w.heap.size
 free : ¬ M r
 at_ : ∃ o, w.heap[r]? = some o /\ G o /\ o.isMap = true
theorem LiesO.mono {w w' : World} {M M' : Nat -> Prop} {r : Nat} {G : Obj -> Prop} (h : LiesO w M r G) (hk : ∀ b, b < w.heap.size -> ¬ M b -> w'.heap[b]? = w.heap[b]?) (hs : w.heap.size <= w'.heap.size) (hM : ∀ b, b < w.heap.size -> M' b -> M b) : LiesO w' M' r G :=
 ⟨Nat.lt_of_lt_of_le h.lt hs, fun hm => h.free (hM r h.lt hm), let ⟨o, h1, h2⟩ := h.at_; ⟨o, (hk r h.lt h.free).trans h1, h2⟩⟩
inductive RepF (w : World) (M : Nat -> Prop) : Value -> FV -> Prop
 | v (x : Value) : RepF w M x (.v x)
 | sl (a : Option Addr) (n c : Nat) (cs : List FV) (us : List Value) : n <= c -> us.length = cs.length -> (∀ u ∈ us, u.oneCell' = true) -> (us ≠ [] -> ∃ b off, a = some ⟨b, off, none⟩ /\ Lies w M b off us) ->
    (∀ (k : Nat) (u : Value) (x : FV), us[k]? = some u -> cs[k]? = some x -> RepF w M u x) -> RepF w M (.slice a n c) (.sl n cs)
 | agg (cs : List FV) (us : List Value) : us.length = cs.length -> (∀ u ∈ us, u.oneCell' = true) -> (∀ (k : Nat) (u : Value) (x : FV), us[k]? = some u -> cs[k]? = some x -> RepF w M u x) -> RepF w M (.agg us.toArray) (.agg cs)
 | tup (cs : List FV) (us : List Value) : us.length = cs.length -> (∀ (k : Nat) (u : Value) (x : FV), us[k]? = some u -> cs[k]? = some x -> RepF w M u x) -> RepF w M (.tuple us.toArray) (.tup cs)
 | pt (b off o : Nat) (cs : List FV) (us : List Value) : us.length = cs.length -> (∀ u ∈ us, u.oneCell' = true) -> Lies w M b off us -> (∀ (k : Nat) (u : Value) (x : FV), us[k]? = some u -> cs[k]? = some x -> RepF w M u x) -> RepF w M (.pointer (some ⟨b, off + o, none⟩)) (.pt cs o)
 | fn (f : Nat) (cs : List FV) (us : List Value) : us.length = cs.length -> (∀ (k : Nat) (u : Value) (x : FV), us[k]? = some u -> cs[k]? = some x -> RepF w M u x) -> RepF w M (.func (.func f) #[] us.toArray) (.fn f cs)
 | slc (a : Option Addr) (n : Nat) (cs : List FV) (us : List Value) : us.length = cs.length -> (a = none -> n = 0) -> (∀ u ∈ us, u.oneCell' = true) -> (us ≠ [] -> ∃ b off, a = some ⟨b, off, none⟩ /\ Lies w M b off us) ->
    (∀ (k : Nat) (u : Value) (x : FV), us[k]? = some u -> cs[k]? = some x -> RepF w M u x) -> RepF w M (.slice a n n) (.slc n cs)
 | mp (r : Nat) (G : Obj -> Prop) : LiesO w M r G -> RepF w M (.map (some r)) (.mp G)
 | any (u : Value) (G : Value -> Prop) : G u -> u.oneCell' = true -> RepF w M u (.any G)
 | tab (b : Nat) (l : List Value) : ¬ M b -> (∃ T fr, w.heap[b]? = some (.cells l.toArray T fr)) -> RepF w M (.pointer (some ⟨b, 0, none⟩)) (.tab l)
theorem RepF.mono {w w' : World} {M M' : Nat -> Prop} {u : Value} {x : FV} (h : RepF w M u x) (hk : ∀ b, b < w.heap.size -> ¬ M b -> w'.heap[b]? = w.heap[b]?) (hs : w.heap.size <= w'.heap.size) (hM : ∀ b, b < w.heap.size -> M' b -> M b) : RepF w' M' u x := by
 induction h with
 | v x => exact .v x
 | sl a n c cs us h1 h2 h3 h4 h5 ih => exact .sl a n c cs us h1 h2 h3 (fun hn => let ⟨b, off, e, l⟩ := h4 hn; ⟨b, off, e, l.mono hk hs hM⟩) ih
 | agg cs us h1 h2 h3 ih => exact .agg cs us h1 h2 ih
 | tup cs us h1 h2 ih => exact .tup cs us h1 ih
 | pt b off o cs us h1 h2 h3 h4 ih => exact .pt b off o cs us h1 h2 (h3.mono hk hs hM) ih
 | fn f cs us h1 h2 ih => exact .fn f cs us h1 ih
 | slc a n cs us h1 h1' h2 h3 h4 ih => exact .slc a n cs us h1 h1' h2 (fun hn => let ⟨b, off, e, l⟩ := h3 hn; ⟨b, off, e, l.mono hk hs hM⟩) ih
 | mp r G h => exact .mp r G (h.mono hk hs hM)
 | any u G h1 h2 => exact .any u G h1 h2
 | tab b l h1 h2 => exact .tab b l (fun hm => h1 (hM b (Array.getElem?_eq_some_iff.1 h2.choose_spec.choose_spec).1 hm)) (let ⟨T, fr, e⟩ := h2; ⟨T, fr, (hk b (Array.getElem?_eq_some_iff.1 h2.choose_spec.choose_spec).1 h1).trans e⟩)
theorem RepF.ext {w w' : World} {M M' : Nat -> Prop} {u : Value} {x : FV} (h : RepF w M u x) (e : Ext w w') (hM : ∀ b, b < w.heap.size -> M' b -> M b) : RepF w' M' u x :=
 h.mono (fun b hb _ => e.block b hb) e.le hM
theorem Lies.keeps {B : Nat} {w w' : World} {M M' : Nat -> Prop} {b off : Nat} {us : List Value} (h : Lies w M b off us) (k : KeepsP Obj.stays B w w') (hM : ∀ b, b < w.heap.size -> M' b -> M b) : Lies w' M' b off us :=
 ⟨Nat.lt_of_lt_of_le h.lt k.size, fun hm => h.free (hM b h.lt hm), fun j hj => by
   have := h.at_ j hj
   rw [List.getElem?_eq_getElem hj] at this ⊢
   exact k.cell (fun _ _ _ => rfl) this⟩
theorem LiesO.keeps {B : Nat} {w w' : World} {M M' : Nat -> Prop} {r : Nat} {G : Obj -> Prop} (h : LiesO w M r G) (k : KeepsP Obj.stays B w w') (hM : ∀ b, b < w.heap.size -> M' b -> M b) : LiesO w' M' r G :=
 ⟨Nat.lt_of_lt_of_le h.lt k.size, fun hm => h.free (hM r h.lt hm), let ⟨o, h1, h2, h3⟩ := h.at_; ⟨o, k.same r o h1 (.inr (by cases o <;> simp [Obj.isMap] at h3; rfl)), h2, h3⟩⟩
theorem RepF.keeps {B : Nat} {w w' : World} {M M' : Nat -> Prop} {u : Value} {x : FV} (h : RepF w M u x) (k : KeepsP Obj.stays B w w') (hM : ∀ b, b < w.heap.size -> M' b -> M b) : RepF w' M' u x := by
 induction h with
 | v x => exact .v x
 | sl a n c cs us h1 h2 h3 h4 h5 ih => exact .sl a n c cs us h1 h2 h3 (fun hn => let ⟨b, off, e, l⟩ := h4 hn; ⟨b, off, e, l.keeps k hM⟩) ih
 | agg cs us h1 h2 h3 ih => exact .agg cs us h1 h2 ih
 | tup cs us h1 h2 ih => exact .tup cs us h1 ih
 | pt b off o cs us h1 h2 h3 h4 ih => exact .pt b off o cs us h1 h2 (h3.keeps k hM) ih
 | fn f cs us h1 h2 ih => exact .fn f cs us h1 ih
 | slc a n cs us h1 h1' h2 h3 h4 ih => exact .slc a n cs us h1 h1' h2 (fun hn => let ⟨b, off, e, l⟩ := h3 hn; ⟨b, off, e, l.keeps k hM⟩) ih
 | mp r G h => exact .mp r G (h.keeps k hM)
 | any u G h1 h2 => exact .any u G h1 h2
 | tab b l h1 h2 => exact .tab b l (fun hm => h1 (hM b (Array.getElem?_eq_some_iff.1 h2.choose_spec.choose_spec).1 hm)) (let ⟨T, fr, e⟩ := h2; ⟨T, fr, k.same b _ e (.inr rfl)⟩)
def RepL (w : World) (M : Nat -> Prop) (us : List Value) (xs : List FV) : Prop := us.length = xs.length /\ ∀ (k : Nat) (u : Value) (x : FV), us[k]? = some u -> xs[k]? = some x -> RepF w M u x
theorem RepL.nil (w : World) (M : Nat -> Prop) : RepL w M [] [] := ⟨rfl, fun k u x h => by simp at h⟩
theorem RepL.cons {w : World} {M : Nat -> Prop} {u : Value} {x : FV} {us : List Value} {xs : List FV} (h : RepF w M u x) (hs : RepL w M us xs) : RepL w M (u :: us) (x :: xs) :=
 ⟨by simp [hs.1], fun k u' x' h1 h2 => by
   cases k with
   | zero => simp at h1 h2; subst h1; subst h2; exact h
   | succ k => exact hs.2 k u' x' (by simpa using h1) (by simpa using h2)⟩
theorem RepL.head {w : World} {M : Nat -> Prop} {us : List Value} {x : FV} {xs : List FV} (h : RepL w M us (x :: xs)) : ∃ u us', us = u :: us' /\ RepF w M u x /\ RepL w M us' xs := by
 obtain ⟨hl, hr⟩ := h
 cases us with
 | nil => simp at hl
 | cons u us => exact ⟨u, us, rfl, hr 0 u x rfl rfl, by simpa using hl, fun k u' x' h1 h2 => hr (k + 1) u' x' (by simpa using h1) (by simpa using h2)⟩
theorem RepL.end {w : World} {M : Nat -> Prop} {us : List Value} (h : RepL w M us []) : us = [] := List.eq_nil_of_length_eq_zero h.1
theorem RepL.append {w : World} {M : Nat -> Prop} {us vs : List Value} {xs ys : List FV} (h : RepL w M us xs) (k : RepL w M vs ys) : RepL w M (us ++ vs) (xs ++ ys) := by
 refine ⟨by simp [h.1, k.1], fun j u x h1 h2 => ?_⟩
 by_cases hj : j < us.length
 · rw [List.getElem?_append_left hj] at h1
   rw [List.getElem?_append_left (by rw [<- h.1]; exact hj)] at h2
   exact h.2 j u x h1 h2
 · rw [List.getElem?_append_right (by omega)] at h1
   rw [List.getElem?_append_right (by rw [<- h.1]; omega), <- h.1] at h2
   exact k.2 _ u x h1 h2
theorem RepL.ext {w w' : World} {M M' : Nat -> Prop} {us : List Value} {xs : List FV} (h : RepL w M us xs) (e : Ext w w') (hM : ∀ b, b < w.heap.size -> M' b -> M b) : RepL w' M' us xs :=
 ⟨h.1, fun k u x h1 h2 => (h.2 k u x h1 h2).ext e hM⟩
theorem RepL.mono {w w' : World} {M M' : Nat -> Prop} {us : List Value} {xs : List FV} (h : RepL w M us xs) (hk : ∀ b, b < w.heap.size -> ¬ M b -> w'.heap[b]? = w.heap[b]?) (hs : w.heap.size <= w'.heap.size) (hM : ∀ b, b < w.heap.size -> M' b -> M b) : RepL w' M' us xs :=
 ⟨h.1, fun k u x h1 h2 => (h.2 k u x h1 h2).mono hk hs hM⟩
theorem RepL.conv {w w' : World} {M M' : Nat -> Prop} {us : List Value} {xs : List FV} (R : RepL w M us xs) (f : ∀ u x, RepF w M u x -> RepF w' M' u x) : RepL w' M' us xs := ⟨R.1, fun k u x a b => f u x (R.2 k u x a b)⟩
theorem RepL.drop {w : World} {M : Nat -> Prop} {us : List Value} {xs : List FV} (h : RepL w M us xs) (n : Nat) : RepL w M (us.drop n) (xs.drop n) :=
 ⟨by simp [h.1], fun k u x h1 h2 => h.2 (n + k) u x (by rwa [List.getElem?_drop] at h1) (by rwa [List.getElem?_drop] at h2)⟩
theorem RepL.take {w : World} {M : Nat -> Prop} {us : List Value} {xs : List FV} (h : RepL w M us xs) (n : Nat) : RepL w M (us.take n) (xs.take n) :=
 ⟨by simp [h.1], fun k u x h1 h2 => by
   rw [List.getElem?_take] at h1 h2
   split at h1
   · rename_i hk; rw [if_pos hk] at h2; exact h.2 k u x h1 h2
   · cases h1⟩
theorem RepL.get {w : World} {M : Nat -> Prop} {us : List Value} {xs : List FV} (h : RepL w M us xs) {k : Nat} {x : FV} (hx : xs[k]? = some x) : ∃ u, us[k]? = some u /\ RepF w M u x := by
 have hk : k < us.length := by rw [h.1]; exact (List.getElem?_eq_some_iff.1 hx).1
 exact ⟨us[k], List.getElem?_eq_getElem hk, h.2 k _ x (List.getElem?_eq_getElem hk) hx⟩
inductive Cap where
 | f (x : FV)
 | bx (i off : Nat)
 | ow (i : Nat)
 | sv (i off n : Nat)
inductive AV where
 | f (x : FV)
 | bx (i off : Nat)
 | ow (i : Nat)
 | bot
 | sv (i off n : Nat)
 | ag (l : List Cap)
 | tp (l : List Cap)
 | fb (f : Nat) (l : List Cap)
def Cap.toA : Cap -> AV
 | .f x => .f x
 | .bx i off => .bx i off
 | .ow i => .ow i
 | .sv i off n => .sv i off n
inductive Blk where
 | box (cells : List AV)
 | row (e sz n : Nat) (cells : List FV)
 | rowA (e sz n : Nat) (cells : List AV)
 | arr (e sz n : Nat) (cells : List AV)
 | map (G : Obj -> Prop)
structure St where
 s : Nat -> AV
 h : Nat -> Option Blk
 nx : Nat
structure Ctx where
 P : Program
 G : Nat -> Option FV
 M0 : Nat -> Prop
 X : Nat -> Prop
 ro : Option Nat
 J0 : Nat -> Option Value
structure Grew (X : Nat -> Prop) (w0 w : World) : Prop where
 os : w.os = w0.os
 tape : w.tape = w0.tape
 output : w.output = w0.output
 le : w0.heap.size <= w.heap.size
 block : ∀ k, k < w0.heap.size -> ¬ X k -> w.heap[k]? = w0.heap[k]?
theorem Grew.refl (X : Nat -> Prop) (w : World) : Grew X w w := ⟨rfl, rfl, rfl, Nat.le_refl _, fun _ _ _ => rfl⟩
theorem Grew.trans {X : Nat -> Prop} {a b c : World} (h : Grew X a b) (k : Ext b c) : Grew X a c :=
 ⟨k.os.trans h.os, k.tape.trans h.tape, k.output.trans h.output, Nat.le_trans h.le k.le, fun i hi hx => (k.block i (Nat.lt_of_lt_of_le hi h.le)).trans (h.block i hi hx)⟩
theorem Grew.grown {X : Nat -> Prop} {a b c : World} {row : Option Nat} (h : Grew X a b) (g : b.grownBy c row) (hr : ∀ k, row = some k -> a.heap.size <= k \/ X k) : Grew X a c :=
 ⟨g.os.trans h.os, g.tape.trans h.tape, g.output.trans h.output, Nat.le_trans h.le g.size, fun i hi hx => (g.block i (Nat.lt_of_lt_of_le hi h.le) (fun e => by
  rcases hr i e.symm with h1 | h1
  · omega
  · exact hx h1)).trans (h.block i hi hx)⟩
theorem Grew.toExt {a b : World} (h : Grew (fun _ => False) a b) : Ext a b := ⟨h.os, h.tape, h.output, h.le, fun k hk => h.block k hk id⟩
def upd {α : Type} (s : Nat -> α) (k : Nat) (a : α) : Nat -> α := fun t => bif Nat.beq t k then a else s t
theorem upd_same {α : Type} (s : Nat -> α) (k : Nat) (a : α) : upd s k a k = a := by simp [upd]
theorem upd_other {α : Type} (s : Nat -> α) {k t : Nat} (a : α) (h : t ≠ k) : upd s k a t = s t := by
 have : Nat.beq t k = false := by cases e : Nat.beq t k; rfl; exact absurd (Nat.eq_of_beq_eq_true e) h
 simp [upd, this]
def St.put (st : St) (d : Option Tmp) (a : AV) : St := match d with | some d => { st with s := upd st.s d a } | none => st
def St.al (st : St) (B : Blk) : St := { st with h := upd st.h st.nx (some B), nx := st.nx + 1 }
def St.ev (C : Ctx) (st : St) : Operand -> AV
 | .tmp t => st.s t
 | .const v => .f (.v v)
 | .global g => match C.G g with | some cs => .f cs | none => .bot
 | .func f => .f (.fn f [])
def bk : Value -> Option Nat
 | .pointer (some a) => some a.block
 | .slice (some a) _ _ => some a.block
 | .map (some r) => some r
 | _ => none
def Mb (C : Ctx) (h : Nat -> Option Blk) (J : Nat -> Value) (b : Nat) : Prop := C.M0 b \/ ∃ i, (h i).isSome = true /\ bk (J i) = some b
def RepC (C : Ctx) (w : World) (h : Nat -> Option Blk) (J : Nat -> Value) (v : Value) : Cap -> Prop
 | .f x => RepF w (Mb C h J) v x
 | .bx i off => (h i).isSome = true /\ ∃ b, bk (J i) = some b /\ v = .pointer (some ⟨b, off, none⟩)
 | .ow i => (h i).isSome = true /\ v = J i
 | .sv i off n => (h i).isSome = true /\ ∃ a c, v = .slice a n c /\ n <= c /\ (n ≠ 0 -> ∃ b, bk (J i) = some b /\ a = some ⟨b, off, none⟩)
def RepCs (C : Ctx) (w : World) (h : Nat -> Option Blk) (J : Nat -> Value) (us : List Value) (l : List Cap) : Prop := us.length = l.length /\ ∀ (k : Nat) (u : Value) (c : Cap), us[k]? = some u -> l[k]? = some c -> RepC C w h J u c
def RepA (C : Ctx) (w : World) (h : Nat -> Option Blk) (J : Nat -> Value) (v : Value) : AV -> Prop
 | .f x => RepC C w h J v (.f x)
 | .bx i off => RepC C w h J v (.bx i off)
 | .ow i => RepC C w h J v (.ow i)
 | .bot => True
 | .sv i off n => RepC C w h J v (.sv i off n)
 | .ag l => ∃ us : List Value, v = .agg us.toArray /\ (∀ u ∈ us, u.oneCell' = true) /\ RepCs C w h J us l
 | .tp l => ∃ us : List Value, v = .tuple us.toArray /\ RepCs C w h J us l
 | .fb f l => ∃ us : List Value, v = .func (.func f) #[] us.toArray /\ RepCs C w h J us l
theorem repA_toA {C : Ctx} {w : World} {h : Nat -> Option Blk} {J : Nat -> Value} {v : Value} (c : Cap) : RepA C w h J v c.toA = RepC C w h J v c := by cases c <;> rfl
def Cap.trL (φ : Cap -> Option Cap) : List Cap -> Option (List Cap)
 | [] => some []
 | c :: l => match φ c, Cap.trL φ l with | some c', some l' => some (c' :: l') | _, _ => none
def AV.ofC : Option Cap -> AV
 | some c => c.toA
 | none => .bot
def Cap.allF : List Cap -> Option (List FV)
 | [] => some []
 | .f x :: l => match Cap.allF l with | some xs => some (x :: xs) | none => none
 | _ :: _ => none
theorem Cap.allF_eq : ∀ {l : List Cap} {xs : List FV}, Cap.allF l = some xs -> l = xs.map Cap.f
 | [], xs, h => by simp only [Cap.allF, Option.some.injEq] at h; subst h; rfl
 | .f x :: l, xs, h => by
   unfold Cap.allF at h
   cases e : Cap.allF l with
   | none => rw [e] at h; cases h
   | some ys => rw [e] at h; cases h; rw [Cap.allF_eq e]; rfl
 | .bx _ _ :: _, _, h => by simp [Cap.allF] at h
 | .ow _ :: _, _, h => by simp [Cap.allF] at h
 | .sv _ _ _ :: _, _, h => by simp [Cap.allF] at h
theorem RepCs.toL {C : Ctx} {w : World} {h : Nat -> Option Blk} {J : Nat -> Value} {us : List Value} {xs : List FV} (r : RepCs C w h J us (xs.map Cap.f)) : RepL w (Mb C h J) us xs :=
 ⟨by simpa using r.1, fun k u x h1 h2 => r.2 k u (.f x) h1 (by simp [h2])⟩
def AV.agN (l : List Cap) : AV := match Cap.allF l with | some xs => .f (.agg xs) | none => .ag l
def AV.tpN (l : List Cap) : AV := match Cap.allF l with | some xs => .f (.tup xs) | none => .tp l
def AV.fbN (g : Nat) (l : List Cap) : AV := match Cap.allF l with | some xs => .f (.fn g xs) | none => .fb g l
theorem RepA.agN {C : Ctx} {w : World} {h : Nat -> Option Blk} {J : Nat -> Value} {v : Value} {l : List Cap} (r : RepA C w h J v (.ag l)) : RepA C w h J v (AV.agN l) := by
 unfold AV.agN
 split
 · rename_i xs e
   have := Cap.allF_eq e; subst this
   obtain ⟨us, rfl, ho, q⟩ := r
   exact RepF.agg _ _ q.toL.1 ho q.toL.2
 · exact r
theorem RepA.tpN {C : Ctx} {w : World} {h : Nat -> Option Blk} {J : Nat -> Value} {v : Value} {l : List Cap} (r : RepA C w h J v (.tp l)) : RepA C w h J v (AV.tpN l) := by
 unfold AV.tpN
 split
 · rename_i xs e
   have := Cap.allF_eq e; subst this
   obtain ⟨us, rfl, q⟩ := r
   exact RepF.tup _ _ q.toL.1 q.toL.2
 · exact r
theorem RepA.fbN {C : Ctx} {w : World} {h : Nat -> Option Blk} {J : Nat -> Value} {v : Value} {f : Nat} {l : List Cap} (r : RepA C w h J v (.fb f l)) : RepA C w h J v (AV.fbN f l) := by
 unfold AV.fbN
 split
 · rename_i xs e
   have := Cap.allF_eq e; subst this
   obtain ⟨us, rfl, q⟩ := r
   exact RepF.fn _ _ _ q.toL.1 q.toL.2
 · exact r
def AV.tr (φ : Cap -> Option Cap) : AV -> AV
 | .f x => AV.ofC (φ (.f x))
 | .bx i off => AV.ofC (φ (.bx i off))
 | .ow i => AV.ofC (φ (.ow i))
 | .bot => .bot
 | .sv i off n => AV.ofC (φ (.sv i off n))
 | .ag l => (match Cap.trL φ l with | some l' => AV.agN l' | none => .bot)
 | .tp l => (match Cap.trL φ l with | some l' => AV.tpN l' | none => .bot)
 | .fb g l => (match Cap.trL φ l with | some l' => AV.fbN g l' | none => .bot)
theorem RepCs.tr {C C' : Ctx} {w w' : World} {h h' : Nat -> Option Blk} {J J' : Nat -> Value} {φ : Cap -> Option Cap} (hφ : ∀ v c c', φ c = some c' -> RepC C w h J v c -> RepC C' w' h' J' v c') : ∀ {l l' : List Cap} {us : List Value}, Cap.trL φ l = some l' -> RepCs C w h J us l -> RepCs C' w' h' J' us l'
 | [], l', us, e, r => by
   simp only [Cap.trL, Option.some.injEq] at e; subst e
   exact ⟨r.1, fun k u c h1 h2 => by simp at h2⟩
 | c :: l, l', us, e, r => by
   unfold Cap.trL at e
   cases h1 : φ c with
   | none => rw [h1] at e; cases e
   | some c' =>
     cases h2 : Cap.trL φ l with
     | none => rw [h1, h2] at e; cases e
     | some l2 =>
       rw [h1, h2] at e; cases e
       cases us with
       | nil => have := r.1; simp at this
       | cons u us =>
         have ih := RepCs.tr hφ (us := us) h2 ⟨by simpa using r.1, fun k u' c2 q1 q2 => r.2 (k + 1) u' c2 (by simpa using q1) (by simpa using q2)⟩
         refine ⟨by simp [ih.1], fun k u' c2 q1 q2 => ?_⟩
         cases k with
         | zero => simp at q1 q2; subst q1; subst q2; exact hφ _ _ _ h1 (r.2 0 u c rfl rfl)
         | succ k => exact ih.2 k u' c2 (by simpa using q1) (by simpa using q2)
theorem RepA.tr {C C' : Ctx} {w w' : World} {h h' : Nat -> Option Blk} {J J' : Nat -> Value} {φ : Cap -> Option Cap} (hφ : ∀ v c c', φ c = some c' -> RepC C w h J v c -> RepC C' w' h' J' v c') {v : Value} {x : AV} (r : RepA C w h J v x) : RepA C' w' h' J' v (x.tr φ) := by
 have one : ∀ c : Cap, RepC C w h J v c -> RepA C' w' h' J' v (AV.ofC (φ c)) := fun c q => by
  cases e : φ c with
  | none => trivial
  | some c' => show RepA C' w' h' J' v c'.toA; rw [repA_toA]; exact hφ _ _ _ e q
 cases x with
 | f x => exact one (.f x) r
 | bx i off => exact one (.bx i off) r
 | ow i => exact one (.ow i) r
 | bot => trivial
 | sv i off n => exact one (.sv i off n) r
 | ag l =>
   obtain ⟨us, e, ho, q⟩ := r
   show RepA _ _ _ _ _ (match Cap.trL φ l with | some l' => AV.agN l' | none => .bot)
   cases h1 : Cap.trL φ l with
   | none => trivial
   | some l' => exact RepA.agN ⟨us, e, ho, q.tr hφ h1⟩
 | tp l =>
   obtain ⟨us, e, q⟩ := r
   show RepA _ _ _ _ _ (match Cap.trL φ l with | some l' => AV.tpN l' | none => .bot)
   cases h1 : Cap.trL φ l with
   | none => trivial
   | some l' => exact RepA.tpN ⟨us, e, q.tr hφ h1⟩
 | fb f l =>
   obtain ⟨us, e, q⟩ := r
   show RepA _ _ _ _ _ (match Cap.trL φ l with | some l' => AV.fbN f l' | none => .bot)
   cases h1 : Cap.trL φ l with
   | none => trivial
   | some l' => exact RepA.fbN ⟨us, e, q.tr hφ h1⟩
theorem RepCs.same {C C' : Ctx} {w w' : World} {h h' : Nat -> Option Blk} {J J' : Nat -> Value} {us : List Value} {l : List Cap} (r : RepCs C w h J us l) (hφ : ∀ v c, c ∈ l -> RepC C w h J v c -> RepC C' w' h' J' v c) : RepCs C' w' h' J' us l :=
 ⟨r.1, fun k u c h1 h2 => hφ u c (List.mem_of_getElem? h2) (r.2 k u c h1 h2)⟩
def AV.parts : AV -> List Cap
 | .f x => [.f x]
 | .bx i off => [.bx i off]
 | .ow i => [.ow i]
 | .bot => []
 | .sv i off n => [.sv i off n]
 | .ag l => l
 | .tp l => l
 | .fb _ l => l
theorem RepA.sameP {C C' : Ctx} {w w' : World} {h h' : Nat -> Option Blk} {J J' : Nat -> Value} {v : Value} {x : AV} (r : RepA C w h J v x) (hφ : ∀ v c, c ∈ x.parts -> RepC C w h J v c -> RepC C' w' h' J' v c) : RepA C' w' h' J' v x := by
 cases x with
 | f x => exact hφ _ (.f x) (by simp [AV.parts]) r
 | bx i off => exact hφ _ (.bx i off) (by simp [AV.parts]) r
 | ow i => exact hφ _ (.ow i) (by simp [AV.parts]) r
 | bot => trivial
 | sv i off n => exact hφ _ (.sv i off n) (by simp [AV.parts]) r
 | ag l => obtain ⟨us, e, ho, q⟩ := r; exact ⟨us, e, ho, q.same hφ⟩
 | tp l => obtain ⟨us, e, q⟩ := r; exact ⟨us, e, q.same hφ⟩
 | fb f l => obtain ⟨us, e, q⟩ := r; exact ⟨us, e, q.same hφ⟩
theorem RepA.same {C C' : Ctx} {w w' : World} {h h' : Nat -> Option Blk} {J J' : Nat -> Value} {v : Value} {x : AV} (r : RepA C w h J v x) (hφ : ∀ v c, RepC C w h J v c -> RepC C' w' h' J' v c) : RepA C' w' h' J' v x := r.sameP fun v c _ => hφ v c
theorem RepC.conv {C C' : Ctx} {w w' : World} {h h' : Nat -> Option Blk} {J J' : Nat -> Value} {v : Value} {c : Cap} (r : RepC C w h J v c) (hl : ∀ i, (h i).isSome = true -> (h' i).isSome = true /\ J' i = J i) (hF : ∀ u x, RepF w (Mb C h J) u x -> RepF w' (Mb C' h' J') u x) : RepC C' w' h' J' v c := by
 cases c with
 | f x => exact hF _ _ r
 | bx i off => exact ⟨(hl i r.1).1, by rw [(hl i r.1).2]; exact r.2⟩
 | ow i => exact ⟨(hl i r.1).1, by rw [(hl i r.1).2]; exact r.2⟩
 | sv i off n => exact ⟨(hl i r.1).1, by rw [(hl i r.1).2]; exact r.2⟩
def RepB (C : Ctx) (w : World) (base : Nat) (h : Nat -> Option Blk) (J : Nat -> Value) (v : Value) : Blk -> Prop
 | .box cells => ∃ b T us, v = .pointer (some ⟨b, 0, none⟩) /\ (base <= b \/ C.X b) /\ w.heap[b]? = some (.cells us T (0, 0)) /\ us.size = cells.length /\ (∀ u ∈ us.toList, u.oneCell' = true) /\ ∀ (k : Nat) (u : Value) (x : AV), us[k]? = some u -> cells[k]? = some x -> RepA C w h J u x
 | .row e sz n cells => ∃ xs, w.ownsRow 0 e sz v n xs /\ (∀ b, bk v = some b -> base <= b \/ C.X b) /\ (∀ u ∈ xs, u.oneCell' = true) /\ RepL w (Mb C h J) xs cells
 | .rowA e sz n cells => ∃ xs, w.ownsRow 0 e sz v n xs /\ (∀ b, bk v = some b -> base <= b \/ C.X b) /\ (∀ u ∈ xs, u.oneCell' = true) /\ xs.length = cells.length /\ ∀ (k : Nat) (u : Value) (x : AV), xs[k]? = some u -> cells[k]? = some x -> RepA C w h J u x
 | .arr e sz n cells => ∃ xs, w.ownsRow 0 e sz v n xs /\ (∀ b, bk v = some b -> base <= b \/ C.X b) /\ (∀ u ∈ xs, u.oneCell' = true) /\ xs.length = cells.length /\ ∀ (k : Nat) (u : Value) (x : AV), xs[k]? = some u -> cells[k]? = some x -> RepA C w h J u x
 | .map G => ∃ b o, v = .map (some b) /\ (base <= b \/ C.X b) /\ w.heap[b]? = some o /\ G o /\ o.isMap = true
def Blk.mapA (f : AV -> AV) : Blk -> Blk
 | .box cs => .box (cs.map f)
 | .row e sz n cs => .row e sz n cs
 | .rowA e sz n cs => .rowA e sz n (cs.map f)
 | .arr e sz n cs => .arr e sz n (cs.map f)
 | .map G => .map G
def Blk.stays : Blk -> Bool
 | .box _ => true
 | .arr .. => true
 | .map _ => true
 | _ => false
structure Sim (C : Ctx) (w0 : World) (N : Nat) (st : St) (a : Act) (w : World) (J : Nat -> Value) : Prop where
 ext : Grew C.X w0 w
 size : a.tmps.size = N
 defs : Marks w0.heap.size w a.defers /\ (C.ro.isSome = true -> a.defers = [])
 slot : ∀ t, RepA C w st.h J (a.tmps.getD t undef) (st.s t)
 blk : ∀ i B, st.h i = some B -> RepB C w w0.heap.size st.h J (J i) B
 apart : ∀ i j b, (st.h i).isSome = true -> (st.h j).isSome = true -> bk (J i) = some b -> bk (J j) = some b -> i = j
 old : ∀ b, C.M0 b -> b < w0.heap.size /\ ¬ C.X b
 glob : ∀ g cs, C.G g = some cs -> RepF w (Mb C st.h J) (.pointer (some ⟨g, 0, none⟩)) cs
 fix : ∀ i p B, C.J0 i = some p -> st.h i = some B -> B.stays = true -> J i = p
theorem row_bk {w : World} {base e sz n : Nat} {v : Value} {xs : List Value} (h : w.ownsRow base e sz v n xs) : bk v = v.ownBlock := by
 obtain ⟨a, c, rfl⟩ := h.isSlice
 cases a <;> rfl
theorem row_cells {w : World} {base e sz n : Nat} {v : Value} {xs : List Value} (h : w.ownsRow base e sz v n xs) {b : Nat} (hb : bk v = some b) : ∃ us T, w.heap[b]? = some (.cells us T (0, 0)) := by
 rcases h.2 with ⟨e1, _⟩ | ⟨g, cap, cur, e1, _, h2, _⟩
 · rw [e1] at hb; cases hb
 · rw [e1] at hb; simp [bk] at hb; subst hb; exact ⟨cur, _, h2⟩
theorem row_same {w w' : World} {base e sz n : Nat} {v : Value} {xs : List Value} (h : w.ownsRow base e sz v n xs) (hh : ∀ b, bk v = some b -> w'.heap[b]? = w.heap[b]?) : w'.ownsRow base e sz v n xs :=
 ⟨h.1, h.2.imp id fun ⟨g, cap, cur, e1, h1, h2, h3⟩ => ⟨g, cap, cur, e1, h1, (hh g (by rw [e1]; rfl)).trans h2, h3⟩⟩
theorem RepB.obj {C : Ctx} {w : World} {base : Nat} {h : Nat -> Option Blk} {J : Nat -> Value} {v : Value} {B : Blk} (r : RepB C w base h J v B) {b : Nat} (hb : bk v = some b) : ∃ o, w.heap[b]? = some o /\ o.stays = true := by
 cases B with
 | box cells =>
   obtain ⟨b', T, us, rfl, h1, h2, _⟩ := r
   simp [bk] at hb; subst hb
   exact ⟨_, h2, rfl⟩
 | row e sz n cells => obtain ⟨xs, h1, _⟩ := r; obtain ⟨us, T, h2⟩ := row_cells h1 hb; exact ⟨_, h2, rfl⟩
 | rowA e sz n cells => obtain ⟨xs, h1, _⟩ := r; obtain ⟨us, T, h2⟩ := row_cells h1 hb; exact ⟨_, h2, rfl⟩
 | arr e sz n cells => obtain ⟨xs, h1, _⟩ := r; obtain ⟨us, T, h2⟩ := row_cells h1 hb; exact ⟨_, h2, rfl⟩
 | map G =>
   obtain ⟨b', o, rfl, h1, h2, h3, h4⟩ := r
   simp [bk] at hb; subst hb
   exact ⟨o, h2, by cases o <;> simp [Obj.isMap] at h4; rfl⟩
theorem RepB.conv {C C' : Ctx} {w w' : World} {base base' : Nat} {h h' : Nat -> Option Blk} {J J' : Nat -> Value} {v : Value} {B : Blk} (r : RepB C w base h J v B) (f : AV -> AV) (hh : ∀ b, bk v = some b -> w'.heap[b]? = w.heap[b]?)
 (hb : ∀ b, bk v = some b -> (base <= b \/ C.X b) -> (base' <= b \/ C'.X b)) (hA : ∀ v x, RepA C w h J v x -> RepA C' w' h' J' v (f x)) (hF : ∀ v x, RepF w (Mb C h J) v x -> RepF w' (Mb C' h' J') v x) : RepB C' w' base' h' J' v (B.mapA f) := by
 have cs : ∀ {xs : List Value} {cells : List AV}, (∀ (k : Nat) (u : Value) (x : AV), xs[k]? = some u -> cells[k]? = some x -> RepA C w h J u x) -> ∀ (k : Nat) (u : Value) (x : AV), xs[k]? = some u -> (cells.map f)[k]? = some x -> RepA C' w' h' J' u x := by
  intro xs cells hc k u x h1 h2
  rw [List.getElem?_map] at h2
  cases hk : cells[k]? with
  | none => simp [hk] at h2
  | some y => simp [hk] at h2; subst h2; exact hA _ _ (hc k u y h1 hk)
 cases B with
 | box cells =>
   obtain ⟨b, T, us, q1, q2, q3, q4, q5, q6⟩ := r
   have hv : bk v = some b := by rw [q1]; rfl
   refine ⟨b, T, us, q1, hb b hv q2, (hh b hv).trans q3, by simpa using q4, q5, fun k u x h1 h2 => cs (xs := us.toList) (fun k u x a c => q6 k u x (by simpa using a) c) k u x (by simpa using h1) h2⟩
 | row e sz n cells =>
   obtain ⟨xs, q1, q0, q2, q3⟩ := r
   exact ⟨xs, row_same q1 hh, fun b hv => hb b hv (q0 b hv), q2, q3.1, fun k u x h1 h2 => hF _ _ (q3.2 k u x h1 h2)⟩
 | rowA e sz n cells =>
   obtain ⟨xs, q1, q0, q2, q3, q4⟩ := r
   exact ⟨xs, row_same q1 hh, fun b hv => hb b hv (q0 b hv), q2, by simpa using q3, cs q4⟩
 | arr e sz n cells =>
   obtain ⟨xs, q1, q0, q2, q3, q4⟩ := r
   exact ⟨xs, row_same q1 hh, fun b hv => hb b hv (q0 b hv), q2, by simpa using q3, cs q4⟩
 | map G =>
   obtain ⟨b, o, q1, q2, q3, q4⟩ := r
   have hv : bk v = some b := by rw [q1]; rfl
   exact ⟨b, o, q1, hb b hv q2, (hh b hv).trans q3, q4⟩
theorem Blk.map_id (B : Blk) : B.mapA (fun x => x) = B := by cases B <;> simp [Blk.mapA]
theorem RepB.conv0 {C C' : Ctx} {w w' : World} {base base' : Nat} {h h' : Nat -> Option Blk} {J J' : Nat -> Value} {v : Value} {B : Blk} (r : RepB C w base h J v B) (hh : ∀ b, bk v = some b -> w'.heap[b]? = w.heap[b]?)
 (hb : ∀ b, bk v = some b -> (base <= b \/ C.X b) -> (base' <= b \/ C'.X b)) (hA : ∀ v x, RepA C w h J v x -> RepA C' w' h' J' v x) (hF : ∀ v x, RepF w (Mb C h J) v x -> RepF w' (Mb C' h' J') v x) : RepB C' w' base' h' J' v B := by
 have := r.conv (fun x => x) hh hb hA hF
 rwa [Blk.map_id] at this
theorem RepB.ge {C : Ctx} {w : World} {base : Nat} {h : Nat -> Option Blk} {J : Nat -> Value} {v : Value} {B : Blk} (r : RepB C w base h J v B) {b : Nat} (hb : bk v = some b) : (base <= b \/ C.X b) /\ b < w.heap.size := by
 cases B with
 | box cells =>
   obtain ⟨b', T, us, rfl, h1, h2, _⟩ := r
   simp [bk] at hb; subst hb
   exact ⟨h1, (Array.getElem?_eq_some_iff.1 h2).1⟩
 | row e sz n cells =>
   obtain ⟨xs, h1, h0, _⟩ := r
   exact ⟨h0 b hb, (h1.lt b (by rw [<- row_bk h1]; exact hb)).2⟩
 | rowA e sz n cells =>
   obtain ⟨xs, h1, h0, _⟩ := r
   exact ⟨h0 b hb, (h1.lt b (by rw [<- row_bk h1]; exact hb)).2⟩
 | arr e sz n cells =>
   obtain ⟨xs, h1, h0, _⟩ := r
   exact ⟨h0 b hb, (h1.lt b (by rw [<- row_bk h1]; exact hb)).2⟩
 | map G =>
   obtain ⟨b', o, rfl, h1, h2, _⟩ := r
   simp [bk] at hb; subst hb
   exact ⟨h1, (Array.getElem?_eq_some_iff.1 h2).1⟩
theorem Sim.own_at {C : Ctx} {w0 : World} {N : Nat} {st : St} {a : Act} {w : World} {J : Nat -> Value} (S : Sim C w0 N st a w J) {b i : Nat} (hi : (st.h i).isSome = true) (hb : bk (J i) = some b) : (w0.heap.size <= b \/ C.X b) /\ b < w.heap.size := by
 obtain ⟨B, hB⟩ := Option.isSome_iff_exists.1 hi
 exact (S.blk i B hB).ge hb
theorem Sim.mb {C : Ctx} {w0 : World} {N : Nat} {st : St} {a : Act} {w : World} {J : Nat -> Value} (S : Sim C w0 N st a w J) {b : Nat} (h : Mb C st.h J b) : b < w.heap.size := by
 rcases h with h | ⟨i, hi, hb⟩
 · exact Nat.lt_of_lt_of_le (S.old b h).1 S.ext.le
 · exact (S.own_at hi hb).2
theorem RepA.ext {C : Ctx} {w w' : World} {h : Nat -> Option Blk} {J : Nat -> Value} {v : Value} {x : AV} (r : RepA C w h J v x) (e : Ext w w') : RepA C w' h J v x :=
 r.same fun _ _ q => q.conv (fun _ hi => ⟨hi, rfl⟩) fun _ _ h => RepF.ext h e (fun _ _ h => h)
theorem RepB.ext {C : Ctx} {w w' : World} {base : Nat} {h : Nat -> Option Blk} {J : Nat -> Value} {v : Value} {B : Blk} (r : RepB C w base h J v B) (e : Ext w w') : RepB C w' base h J v B :=
 r.conv0 (fun b hb => e.block b (r.ge hb).2) (fun _ _ h => h) (fun _ _ h => h.ext e) (fun _ _ h => h.ext e (fun _ _ h => h))
theorem Sim.toExt {C : Ctx} {w0 : World} {N : Nat} {st : St} {a : Act} {w w' : World} {J : Nat -> Value} (S : Sim C w0 N st a w J) (e : Ext w w') : Sim C w0 N st a w' J :=
 ⟨S.ext.trans e, S.size, ⟨S.defs.1.keeps fun _ _ h => e.heap h, S.defs.2⟩, fun t => (S.slot t).ext e, fun i B h => (S.blk i B h).ext e, S.apart, S.old, fun g cs h => (S.glob g cs h).ext e (fun _ _ h => h), S.fix⟩
theorem Sim.keeps0 {C : Ctx} {w0 : World} {N B : Nat} {st : St} {a : Act} {w w' : World} {J : Nat -> Value} (S : Sim C w0 N st a w J) (k : KeepsP Obj.stays B w w') (hB : w0.heap.size <= B) {ds : List Deferred} (hd : Marks w0.heap.size w' ds /\ (C.ro.isSome = true -> ds = [])) : Sim C w0 N st { a with defers := ds } w' J := by
 have conv : ∀ (v : Value) (x : AV), RepA C w st.h J v x -> RepA C w' st.h J v x := fun v x h => h.same fun _ _ q => q.conv (fun _ hi => ⟨hi, rfl⟩) fun _ _ h => RepF.keeps h k (fun _ _ h => h)
 refine ⟨⟨k.os.trans S.ext.os, k.tape.trans S.ext.tape, k.output.trans S.ext.output, Nat.le_trans S.ext.le k.size, fun j hj hx => ?_⟩, S.size, hd, fun t => conv _ _ (S.slot t), fun i B' hB' => ?_, S.apart, S.old, fun g cs hg => (S.glob g cs hg).keeps k (fun _ _ h => h), S.fix⟩
 · have h1 := S.ext.block j hj hx
   rw [<- h1]
   cases ho : w.heap[j]? with
   | none =>
     have h2 := Array.getElem?_eq_none_iff.1 ho
     have := S.ext.le; omega
   | some o => exact k.same j o ho (.inl (by omega))
 · have hb0 := S.blk i B' hB'
   exact hb0.conv0 (fun b hb => let ⟨o, h, hs⟩ := hb0.obj hb; (k.same _ _ h (.inr hs)).trans h.symm) (fun _ _ h => h) conv (fun _ _ h => RepF.keeps h k (fun _ _ h => h))
theorem Sim.marks {C : Ctx} {w0 : World} {N : Nat} {st : St} {a : Act} {w w' : World} {J : Nat -> Value} (S : Sim C w0 N st a w J) {i : Nat} (hi : (st.h i).isSome = true) (g : w.grownBy w' (bk (J i))) : Marks w0.heap.size w' a.defers /\ (C.ro.isSome = true -> a.defers = []) :=
 ⟨S.defs.1.keeps fun D _ h => (g.block D (Array.getElem?_eq_some_iff.1 h).1 (fun e => by
  obtain ⟨B, hB⟩ := Option.isSome_iff_exists.1 hi
  obtain ⟨o, h2, h3⟩ := (S.blk i B hB).obj e.symm
  rw [h] at h2; cases h2; cases h3)).trans h, S.defs.2⟩
def dstB (N : Nat) : Option Tmp -> Bool
 | some d => Nat.blt d N
 | none => true
theorem getD_put {a : Act} {N d : Nat} (hs : a.tmps.size = N) (hd : d < N) (v : Value) (t : Nat) : (a.put (some d) v).tmps.getD t undef = if t = d then v else a.tmps.getD t undef := by
 simp only [Act.put, Array.getD_eq_getD_getElem?]
 by_cases e : t = d
 · subst e; simp [hs, hd]
 · rw [if_neg e, Array.getElem?_setIfInBounds_ne (by omega)]
theorem Sim.put {C : Ctx} {w0 : World} {N : Nat} {st : St} {a : Act} {w : World} {J : Nat -> Value} (S : Sim C w0 N st a w J) {d : Option Tmp} (hd : dstB N d = true) {v : Value} {r : AV} (hr : RepA C w st.h J v r) : Sim C w0 N (st.put d r) (a.put d v) w J := by
 cases d with
 | none => exact S
 | some d =>
   have hd' : d < N := Nat.lt_of_lt_of_le (Nat.le_of_ble_eq_true hd) (Nat.le_refl _)
   refine ⟨S.ext, by simpa [Act.put] using S.size, S.defs, fun t => ?_, S.blk, S.apart, S.old, S.glob, S.fix⟩
   rw [getD_put S.size hd']
   by_cases e : t = d
   · subst e; simp only [St.put, upd_same, if_true]; exact hr
   · simp only [St.put, upd_other _ _ e, if_neg e]; exact S.slot t
theorem Sim.eval {C : Ctx} {w0 : World} {N : Nat} {st : St} {a : Act} {w : World} {J : Nat -> Value} (S : Sim C w0 N st a w J) (x : Operand) : RepA C w st.h J (a.eval x) (st.ev C x) := by
 cases x with
 | tmp t => exact S.slot t
 | const v => exact RepF.v v
 | global g =>
   show RepA C w st.h J (.pointer (some ⟨g, 0, none⟩)) (match C.G g with | some cs => .f cs | none => .bot)
   cases hg : C.G g with
   | none => trivial
   | some cs => exact S.glob g cs hg
 | func f => exact RepF.fn f [] [] rfl (fun k u x h => by simp at h)
structure TyD where
 scal : Bool := false
 agg : Option Nat := none
 fld : List Nat := []
 sl : Option (Nat × Nat × Nat) := none
 zero : Option (List Value) := none
 pl : Option (List (Nat × Nat)) := none
 str : Bool := false
def strB (P : Program) (T : TypeId) : Bool := match P.underlying T with | some .string => true | _ => false
def plC (P : Program) (T : TypeId) : Option (List (Nat × Nat)) := match P.underlying T with
 | some (.struct fields) => fields.toList.mapM (fun f => (P.info? f.type).map fun i => (f.offset, i.size))
 | _ => none
def scalB (P : Program) (T : TypeId) : Bool := match P.underlying T, P.info? T with
 | some (.struct _), _ => false
 | some (.array _ _), _ => false
 | some _, some i => Nat.beq i.size 1
 | _, _ => false
def aggN (P : Program) (T : TypeId) : Option Nat := match P.underlying T, P.info? T with
 | some (.struct _), some i => some i.size
 | some (.array _ _), some i => some i.size
 | _, _ => none
def fldO (P : Program) (T f : Nat) : Option Nat := match P.underlying T with
 | some (.struct fs) => match fs[f]? with
   | some fd => match P.info? fd.type with
     | some i => bif Nat.beq i.size 0 then none else some fd.offset
     | none => none
   | none => none
 | _ => none
def slE (P : Program) (T : TypeId) : Option (Nat × Nat × Nat) := match P.underlying T with
 | some (.slice E) => match P.info? E with
   | some i => some (E, i.size, i.bytes)
   | none => none
 | _ => none
def zeroC (P : Program) (T : TypeId) : Option (List Value) := match P.info? T with
 | some i => i.zero.map fun z => z.cells.toList
 | none => none
structure TyOk (P : Program) (T : TypeId) (d : TyD) : Prop where
 scal : d.scal = true -> scalB P T = true
 agg : ∀ n, d.agg = some n -> aggN P T = some n
 fld : ∀ f o, d.fld[f]? = some o -> fldO P T f = some o
 sl : ∀ x, d.sl = some x -> slE P T = some x
 zero : ∀ z, d.zero = some z -> zeroC P T = some z
 one : ∀ z, d.zero = some z -> ∀ u ∈ z, u.oneCell' = true
 pl : ∀ x, d.pl = some x -> plC P T = some x
 str : d.str = true -> strB P T = true
structure Ty (P : Program) where
 ty : Nat -> TyD
 ok : ∀ T, TyOk P T (ty T)
theorem slE_spec {P : Program} {T E s b : Nat} (h : slE P T = some (E, s, b)) : P.underlying T = some (.slice E) /\ ∃ i, P.info? E = some i /\ i.size = s /\ i.bytes = b := by
 unfold slE at h
 split at h
 · split at h
   · rename_i hi
     simp only [Option.some.injEq, Prod.mk.injEq] at h
     obtain ⟨rfl, rfl, rfl⟩ := h
     exact ⟨‹_›, _, hi, rfl, rfl⟩
   · cases h
 · cases h
theorem run_load_scal {P : Program} {T b off : Nat} {v : Value} {w : World} (hT : scalB P T = true) (hc : w.cell? ⟨b, off, none⟩ = some v) : (Instr.loadAt T (.pointer (some ⟨b, off, none⟩))).run P w = .ok v w := by
 unfold scalB at hT
 cases hu : P.underlying T with
 | none => simp [hu] at hT
 | some d =>
   have hagg : (isAgg T).run P w = .ok false w := by
    unfold isAgg
    rw [Sem.run_bind, run_underlying hu w]
    cases d <;> simp_all
   simp [Instr.loadAt, Instr.sureAddr, loadVar, hagg, hc]
theorem run_load_agg {P : Program} {T b off n : Nat} {w : World} (hT : aggN P T = some n) (us : List Value) (hl : us.length = n) (hc : ∀ k, k < us.length -> w.cell? ⟨b, off + k, none⟩ = us[k]?) : (Instr.loadAt T (.pointer (some ⟨b, off, none⟩))).run P w = .ok (.agg us.toArray) w := by
 unfold aggN at hT
 have hload := run_loadCells_list (P := P) w ⟨b, off, none⟩ us (fun j v hj => by
  rw [addr_add, hc j (List.getElem?_eq_some_iff.1 hj).1]; exact hj)
 cases hu : P.underlying T with
 | none => simp [hu] at hT
 | some d =>
   cases hi : P.info? T with
   | none => cases d <;> simp [hu, hi] at hT
   | some i =>
     have hs : i.size = us.length := by rw [hl]; cases d <;> simp_all
     have hagg : (isAgg T).run P w = .ok true w := by
      unfold isAgg
      rw [Sem.run_bind, run_underlying hu w]
      cases d <;> simp_all
     simp [Instr.loadAt, Instr.sureAddr, loadVar, hagg, sizeOf, typeInfo, hi, hs, hload]
theorem run_field {P : Program} {T f o b off : Nat} {w : World} (hT : fldO P T f = some o) : (Instr.fieldAt T (.pointer (some ⟨b, off, none⟩)) f).run P w = .ok (.pointer (some ⟨b, off + o, none⟩)) w := by
 unfold fldO at hT
 split at hT
 · rename_i fs hu
   split at hT
   · rename_i fd hf
     split at hT
     · rename_i i hi
       cases hz : Nat.beq i.size 0 with
       | true => simp [hz] at hT
       | false =>
         have hz' : ¬ i.size = 0 := fun e => by rw [e] at hz; cases hz
         simp [hz] at hT
         subst hT
         simp [Instr.fieldAt, run_underlying hu, hf, Instr.sureAddr, fieldPlace, sizeOf, typeInfo, hi, hz', addr_add]
     · cases hT
   · cases hT
 · cases hT
theorem run_idx {P : Program} {T E s bs b off n c : Nat} {k : IntKind} {z : Int} {w : World} (hT : slE P T = some (E, s, bs)) (h0 : 0 <= z) (hn : z < n) :
 (Instr.indexAt T (.slice (some ⟨b, off, none⟩) n c) (.int k z)).run P w = .ok (.pointer (some ⟨b, off + z.toNat * s, none⟩)) w := by
 obtain ⟨hu, i, hi, rfl, _⟩ := slE_spec hT
 simp [Instr.indexAt, asIntOf, run_underlying hu, h0, hn, sizeOf, typeInfo, hi, addr_add]
section
variable {C : Ctx} {N : Nat}
def More (B B' : Blk) : Prop := B' = B \/ ∃ cs cs', B = .box cs /\ B' = .box cs' /\ cs'.length = cs.length /\ ∀ (k : Nat) (x : AV), cs[k]? = some x -> x = .bot \/ cs'[k]? = some x
theorem More.rep {w : World} {base : Nat} {h : Nat -> Option Blk} {J : Nat -> Value} {v : Value} {B B' : Blk} (m : More B B') (r : RepB C w base h J v B') : RepB C w base h J v B := by
 rcases m with rfl | ⟨cs, cs', rfl, rfl, e, m⟩
 · exact r
 · obtain ⟨b, T, us, q1, q2, q3, q4, q5, q6⟩ := r
   refine ⟨b, T, us, q1, q2, q3, q4.trans e, q5, fun k u x h1 h2 => ?_⟩
   rcases m k x h2 with rfl | h3
   · trivial
   · exact q6 k u x h1 h3
structure Agree (C : Ctx) (o : Oper) (st st' : St) : Prop where
 ev : ∀ x ∈ o.op.operands.toList, st'.ev C x = st.ev C x
 hp : ∀ i B, st.h i = some B -> st'.h i = none \/ ∃ B', st'.h i = some B' /\ More B B'
def SimE (C : Ctx) (w0 : World) (N : Nat) (st : St) (a : Act) (w : World) : Prop := ∃ J, Sim C w0 N st a w J
def ValOp (C : Ctx) (N : Nat) (o : Oper) (st : St) (r : AV) : Prop :=
 ∀ w0 a w st', Agree C o st st' -> SimE C w0 N st' a w -> ∀ K Q, (∀ v w', SimE C w0 N (st'.put o.dst r) (a.put o.dst v) w' -> K (a.put o.dst v) w') -> o.wpIn (Fence.wr C.ro) 7 C.P a w K Q
def AllOp (C : Ctx) (N : Nat) (o : Oper) (st : St) (r : AV) (B : Blk) : Prop :=
 ∀ w0 a w st', Agree C o st st' -> st'.h st.nx = none -> SimE C w0 N st' a w -> ∀ K Q,
   (∀ v w', SimE C w0 N { s := (st'.put o.dst r).s, h := upd st'.h st.nx (some B), nx := st'.nx } (a.put o.dst v) w' -> K (a.put o.dst v) w') -> o.wpIn (Fence.wr C.ro) 7 C.P a w K Q
def EffOp (C : Ctx) (N : Nat) (o : Oper) (st st1 : St) : Prop :=
 ∀ w0 a w, SimE C w0 N st a w -> ∀ K Q, (∀ v w', SimE C w0 N st1 (a.put o.dst v) w' -> K (a.put o.dst v) w') -> o.wpIn (Fence.wr C.ro) 7 C.P a w K Q
theorem not_defer {P : Program} {a : Act} {o : Oper} {w w' : World} {x : Next} (h : (execOp a.eval o).run P w = .ok x w') (hx : ∀ d, x ≠ .defer d) : ∀ c, o.op ≠ .defer c := by
 intro c hc
 unfold execOp at h
 rw [hc] at h
 simp only [Sem.run_bind] at h
 cases hr : (resolve a.eval c o.type).run P w with
 | ok d w' => simp [hr, Result.andThen, Sem.run_pure] at h; exact hx _ h.1.symm
 | halt x w' => simp [hr, Result.andThen] at h
theorem op_value {P : Program} {ro : Option Nat} {n : Nat} {a : Act} {o : Oper} {w w' : World} {v : Value} {K : Act -> World -> Prop} {Q : Exit -> Act -> World -> Prop} (hr : (execOp a.eval o).run P w = .ok (.value v) w') (h : K (a.put o.dst v) w') : o.wpIn (Fence.wr ro) n P a w K Q := by
 refine ⟨fun _ _ => trivial, ?_⟩
 rw [Oper.semAt_eq _ _ _ (not_defer hr (fun _ e => by cases e)), hr]
 exact h
theorem op_skip {P : Program} {ro : Option Nat} {n : Nat} {a : Act} {o : Oper} {w w' : World} {K : Act -> World -> Prop} {Q : Exit -> Act -> World -> Prop} (hr : (execOp a.eval o).run P w = .ok .skip w') (h : K (a.put o.dst undef) w') : o.wpIn (Fence.wr ro) n P a w K Q := by
 refine ⟨fun _ _ => trivial, ?_⟩
 rw [Oper.semAt_eq _ _ _ (not_defer hr (fun _ e => by cases e)), hr]
 exact h
theorem op_enter {P : Program} {ro : Option Nat} {n f : Nat} {args : Array Value} {a : Act} {o : Oper} {w w' : World} {K : Act -> World -> Prop} {Q : Exit -> Act -> World -> Prop} (hr : (execOp a.eval o).run P w = .ok (.enter f args) w') (h : Calls P f args w' fun
 | .returned v, w'' => K (a.put o.dst v) w''
 | .panicked chain, w'' => Q (.panic chain) a w''
 | .outgrown, _ => LetsOut Q) : o.wpIn (Fence.wr ro) n P a w K Q := by
 refine ⟨fun _ _ => trivial, ?_⟩
 rw [Oper.semAt_eq _ _ _ (not_defer hr (fun _ e => by cases e)), hr]
 exact ⟨fun hd => by simp [Fence.wr, Fence.wide] at hd, callsIn_wr h⟩
theorem valop_run {o : Oper} {st : St} {r : AV} (hd : dstB N o.dst = true)
 (h : ∀ w0 a w J st', Agree C o st st' -> Sim C w0 N st' a w J -> ∃ v w', (execOp a.eval o).run C.P w = .ok (.value v) w' /\ Ext w w' /\ RepA C w' st'.h J v r) : ValOp C N o st r := by
 intro w0 a w st' hA ⟨J, S⟩ K Q hK
 obtain ⟨v, w', hr, he, hv⟩ := h w0 a w J st' hA S
 exact op_value hr (hK v w' ⟨J, (S.toExt he).put hd hv⟩)
theorem effop_run {o : Oper} {st st1 : St}
 (h : ∀ w0 a w J, Sim C w0 N st a w J -> ∃ x v w', (execOp a.eval o).run C.P w = .ok x w' /\ (x = .value v \/ (x = .skip /\ v = undef)) /\ SimE C w0 N st1 (a.put o.dst v) w') : EffOp C N o st st1 := by
 intro w0 a w ⟨J, S⟩ K Q hK
 obtain ⟨x, v, w', hr, hx, hS⟩ := h w0 a w J S
 rcases hx with rfl | ⟨rfl, rfl⟩
 · exact op_value hr (hK v w' hS)
 · exact op_skip hr (hK _ w' hS)
theorem v_move {o : Oper} {st : St} {x : Operand} (ho : o.op = .move x) (hd : dstB N o.dst = true) : ValOp C N o st (st.ev C x) :=
 valop_run hd fun w0 a w J st' hA S => ⟨a.eval x, w, by simp [execOp, ho], Ext.refl _, by rw [<- hA.ev x (by simp [ho, Op.operands])]; exact S.eval x⟩
theorem v_assign {o : Oper} {st : St} {x : Operand} (ho : o.op = .assign x) (hd : dstB N o.dst = true) : ValOp C N o st (st.ev C x) :=
 valop_run hd fun w0 a w J st' hA S => ⟨a.eval x, w, by simp [execOp, ho], Ext.refl _, by rw [<- hA.ev x (by simp [ho, Op.operands])]; exact S.eval x⟩
theorem evF {w0 : World} {a : Act} {w : World} {J : Nat -> Value} {st' : St} (S : Sim C w0 N st' a w J) {x : Operand} {y : FV} (h : st'.ev C x = .f y) : RepF w (Mb C st'.h J) (a.eval x) y := by
 have := S.eval x; rw [h] at this; exact this
theorem repV {w : World} {M : Nat -> Prop} {u v : Value} (h : RepF w M u (.v v)) : u = v := by cases h; rfl
theorem evV {w0 : World} {a : Act} {w : World} {J : Nat -> Value} {st' : St} (S : Sim C w0 N st' a w J) {x : Operand} {v : Value} (h : st'.ev C x = .f (.v v)) : a.eval x = v := repV (evF S h)
theorem v_pick {o : Oper} {st : St} {c x y : Operand} {t : Bool} (ho : o.op = .pick c x y) (hd : dstB N o.dst = true) (hc : st.ev C c = .f (.v (.bool t))) : ValOp C N o st (bif t then st.ev C x else st.ev C y) :=
 valop_run hd fun w0 a w J st' hA S => by
  have e1 := evV S ((hA.ev c (by simp [ho, Op.operands])).trans hc)
  have e2 := hA.ev x (by simp [ho, Op.operands])
  have e3 := hA.ev y (by simp [ho, Op.operands])
  refine ⟨if t then a.eval x else a.eval y, w, by simp [execOp, ho, e1, asBool], Ext.refl _, ?_⟩
  cases t
  · simp only [cond_false]; rw [<- e3]; exact S.eval y
  · simp only [cond_true]; rw [<- e2]; exact S.eval x
theorem v_bin {o : Oper} {st : St} {op : BinOp} {T T' : TypeId} {x y : Operand} {vx vy v : Value} (ho : o.op = .binOp op T x y T') (hd : dstB N o.dst = true) (hx : st.ev C x = .f (.v vx)) (hy : st.ev C y = .f (.v vy))
 (hrun : ∀ w, (do eqGuard op T x y vx vy; binOp op T vx vy : Sem Value).run C.P w = .ok v w) : ValOp C N o st (.f (.v v)) :=
 valop_run hd fun w0 a w J st' hA S => by
  have e1 := evV S ((hA.ev x (by simp [ho, Op.operands])).trans hx)
  have e2 := evV S ((hA.ev y (by simp [ho, Op.operands])).trans hy)
  have := hrun w
  refine ⟨v, w, ?_, Ext.refl _, RepF.v v⟩
  simp only [execOp, ho, e1, e2, Sem.run_bind] at this ⊢
  rw [this]
  rfl
theorem v_un {o : Oper} {st : St} {op : UnOp} {T : TypeId} {x : Operand} {vx v : Value} (ho : o.op = .unOp op T x) (hd : dstB N o.dst = true) (hx : st.ev C x = .f (.v vx))
 (hrun : ∀ w, (Op.unary op vx).run C.P w = .ok v w) : ValOp C N o st (.f (.v v)) :=
 valop_run hd fun w0 a w J st' hA S => by
  have e1 := evV S ((hA.ev x (by simp [ho, Op.operands])).trans hx)
  refine ⟨v, w, ?_, Ext.refl _, RepF.v v⟩
  simp [execOp, ho, e1, hrun w]
theorem v_extract {o : Oper} {st : St} {x : Operand} {i : Nat} {l : List FV} {y : FV} (ho : o.op = .extract x i) (hd : dstB N o.dst = true) (hx : st.ev C x = .f (.tup l)) (hi : l[i]? = some y) : ValOp C N o st (.f y) :=
 valop_run hd fun w0 a w J st' hA S => by
  have e1 := evF S ((hA.ev x (by simp [ho, Op.operands])).trans hx)
  generalize hv : a.eval x = v at e1
  cases e1 with
  | tup _ us h1 h2 =>
    obtain ⟨u, hu, hru⟩ := RepL.get ⟨h1, h2⟩ hi
    exact ⟨u, w, by simp [execOp, ho, hv, Instr.extract, hu], Ext.refl _, hru⟩
theorem v_load_pt {o : Oper} {st : St} {T : TypeId} {x : Operand} {cs : List FV} {off : Nat} {c : FV} (ty : Ty C.P) (ho : o.op = .load T x) (hd : dstB N o.dst = true) (hT : (ty.ty T).scal = true) (hx : st.ev C x = .f (.pt cs off)) (hc : cs[off]? = some c) : ValOp C N o st (.f c) :=
 valop_run hd fun w0 a w J st' hA S => by
  have e1 := evF S ((hA.ev x (by simp [ho, Op.operands])).trans hx)
  generalize hv : a.eval x = v at e1
  cases e1 with
  | pt b of _ _ us h1 h2 h3 h4 =>
    obtain ⟨u, hu, hru⟩ := RepL.get ⟨h1, h4⟩ hc
    have := h3.at_ off (List.getElem?_eq_some_iff.1 hu).1
    rw [hu] at this
    exact ⟨u, w, by simp [execOp, ho, hv, run_load_scal ((ty.ok T).scal hT) this], Ext.refl _, hru⟩
theorem v_load_pts {o : Oper} {st : St} {T : TypeId} {x : Operand} {cs sub : List FV} {off n : Nat} (ty : Ty C.P) (ho : o.op = .load T x) (hd : dstB N o.dst = true) (hT : (ty.ty T).agg = some n) (hx : st.ev C x = .f (.pt cs off)) (hc : (cs.drop off).take n = sub) (hl : sub.length = n) : ValOp C N o st (.f (.agg sub)) :=
 valop_run hd fun w0 a w J st' hA S => by
  have e1 := evF S ((hA.ev x (by simp [ho, Op.operands])).trans hx)
  generalize hv : a.eval x = v at e1
  cases e1 with
  | pt b of _ _ us h1 h2 h3 h4 =>
    have R := (RepL.drop (n := off) ⟨h1, h4⟩).take n
    rw [hc] at R
    have hlen : ((us.drop off).take n).length = n := R.1.trans hl
    refine ⟨.agg ((us.drop off).take n).toArray, w, ?_, Ext.refl _, RepF.agg _ _ R.1 (fun u hu => h2 u (List.mem_of_mem_drop (List.mem_of_mem_take hu))) R.2⟩
    simp only [execOp, ho, hv, Sem.run_bind]
    rw [run_load_agg ((ty.ok T).agg n hT) ((us.drop off).take n) hlen (fun k hk => ?_)]
    · rfl
    · rw [hlen] at hk
      have hl2 : off + k < us.length := by simp [List.length_take, List.length_drop] at hlen; omega
      rw [Nat.add_assoc, h3.at_ (off + k) hl2, List.getElem?_take, if_pos hk, List.getElem?_drop]
theorem blkOf {w0 : World} {a : Act} {w : World} {J : Nat -> Value} {st st' : St} {o : Oper} (hA : Agree C o st st') (S : Sim C w0 N st' a w J) {i : Nat} {B : Blk} (h : st.h i = some B) (hl : (st'.h i).isSome = true) : RepB C w w0.heap.size st'.h J (J i) B := by
 rcases hA.hp i B h with e | ⟨B', e, m⟩
 · rw [e] at hl; cases hl
 · exact m.rep (S.blk i B' e)
theorem v_load_bx {o : Oper} {st : St} {T : TypeId} {x : Operand} {cs : List AV} {i off : Nat} {c : AV} (ty : Ty C.P) (ho : o.op = .load T x) (hd : dstB N o.dst = true) (hT : (ty.ty T).scal = true) (hx : st.ev C x = .bx i off) (hi : st.h i = some (.box cs)) (hc : cs[off]? = some c) : ValOp C N o st c :=
 valop_run hd fun w0 a w J st' hA S => by
  have e1 := S.eval x
  rw [hA.ev x (by simp [ho, Op.operands]), hx] at e1
  obtain ⟨hl, b, hb, hv⟩ := e1
  obtain ⟨b', T', us, q1, q2, q3, q4, q5, q6⟩ := blkOf hA S hi hl
  rw [q1] at hb; simp [bk] at hb; subst hb
  have hlt : off < us.size := by rw [q4]; exact (List.getElem?_eq_some_iff.1 hc).1
  have hcell : w.cell? ⟨b', off, none⟩ = some us[off] := by simp [World.cell?, q3, hlt]
  exact ⟨us[off], w, by simp [execOp, ho, hv, run_load_scal ((ty.ok T).scal hT) hcell], Ext.refl _, q6 off _ _ (by simp [hlt]) hc⟩
theorem repA_f {w : World} {h : Nat -> Option Blk} {J : Nat -> Value} {us : List Value} {xs : List FV} (hr : ∀ (k : Nat) (u : Value) (x : AV), us[k]? = some u -> (xs.map AV.f)[k]? = some x -> RepA C w h J u x) (hl : us.length = xs.length) : RepL w (Mb C h J) us xs :=
 ⟨hl, fun k u x h1 h2 => hr k u (.f x) h1 (by simp [h2])⟩
theorem v_load_bxs {o : Oper} {st : St} {T : TypeId} {x : Operand} {cs : List AV} {i off n : Nat} {sub : List FV} (ty : Ty C.P) (ho : o.op = .load T x) (hd : dstB N o.dst = true) (hT : (ty.ty T).agg = some n) (hx : st.ev C x = .bx i off) (hi : st.h i = some (.box cs)) (hc : (cs.drop off).take n = sub.map AV.f) (hn : sub.length = n) : ValOp C N o st (.f (.agg sub)) :=
 valop_run hd fun w0 a w J st' hA S => by
  have e1 := S.eval x
  rw [hA.ev x (by simp [ho, Op.operands]), hx] at e1
  obtain ⟨hl, b, hb, hv⟩ := e1
  obtain ⟨b', T', us, q1, q2, q3, q4, q5, q6⟩ := blkOf hA S hi hl
  rw [q1] at hb; simp [bk] at hb; subst hb
  have hlen : ((us.toList.drop off).take n).length = n := by
   have := congrArg List.length hc
   simp [List.length_take, List.length_drop] at this ⊢
   omega
  have R : RepL w (Mb C st'.h J) ((us.toList.drop off).take n) sub := repA_f (fun k u x h1 h2 => by
   rw [<- hc, List.getElem?_take] at h2
   rw [List.getElem?_take] at h1
   split at h1
   · rename_i hk
     rw [if_pos hk, List.getElem?_drop] at h2
     rw [List.getElem?_drop] at h1
     exact q6 _ u x (by simpa using h1) h2
   · cases h1) (hlen.trans hn.symm)
  refine ⟨.agg ((us.toList.drop off).take n).toArray, w, ?_, Ext.refl _, RepF.agg _ _ R.1 (fun u hu => q5 u (List.mem_of_mem_drop (List.mem_of_mem_take hu))) R.2⟩
  simp only [execOp, ho, hv, Sem.run_bind]
  rw [run_load_agg ((ty.ok T).agg n hT) ((us.toList.drop off).take n) hlen (fun k hk => ?_)]
  · rfl
  · rw [hlen] at hk
    rw [List.getElem?_take, if_pos hk, List.getElem?_drop]
    simp [World.cell?, q3]
theorem v_load_row {o : Oper} {st : St} {T : TypeId} {x : Operand} {cs : List FV} {e sz m i off : Nat} {c : FV} (ty : Ty C.P) (ho : o.op = .load T x) (hd : dstB N o.dst = true) (hT : (ty.ty T).scal = true) (hx : st.ev C x = .bx i off) (hi : st.h i = some (.row e sz m cs)) (hc : cs[off]? = some c) : ValOp C N o st (.f c) :=
 valop_run hd fun w0 a w J st' hA S => by
  have e1 := S.eval x
  rw [hA.ev x (by simp [ho, Op.operands]), hx] at e1
  obtain ⟨hl, b, hb, hv⟩ := e1
  obtain ⟨xs, q1, q0, q2, q3⟩ := blkOf hA S hi hl
  obtain ⟨u, hu, hru⟩ := q3.get hc
  have hlt := (List.getElem?_eq_some_iff.1 hu).1
  have hown : (J i).ownBlock = some b := by
   obtain ⟨a1, c1, e2⟩ := q1.isSlice
   rw [e2] at hb ⊢
   cases a1 <;> simp [bk, Value.ownBlock] at hb ⊢; exact hb
  have hcell := q1.cells hown off u hu
  rw [addr_add, Nat.zero_add] at hcell
  exact ⟨u, w, by simp [execOp, ho, hv, run_load_scal ((ty.ok T).scal hT) hcell], Ext.refl _, hru⟩
theorem v_fld_pt {o : Oper} {st : St} {T f : Nat} {x : Operand} {cs : List FV} {off fo : Nat} (ty : Ty C.P) (ho : o.op = .fieldAddr T x f) (hd : dstB N o.dst = true) (hT : (ty.ty T).fld[f]? = some fo) (hx : st.ev C x = .f (.pt cs off)) : ValOp C N o st (.f (.pt cs (off + fo))) :=
 valop_run hd fun w0 a w J st' hA S => by
  have e1 := evF S ((hA.ev x (by simp [ho, Op.operands])).trans hx)
  generalize hv : a.eval x = v at e1
  cases e1 with
  | pt b of _ _ us h1 h2 h3 h4 =>
    refine ⟨_, w, by simp [execOp, ho, hv, run_field ((ty.ok T).fld f fo hT)]; rfl, Ext.refl _, ?_⟩
    rw [Nat.add_assoc]
    exact RepF.pt b of _ _ us h1 h2 h3 h4
theorem v_fld_bx {o : Oper} {st : St} {T f : Nat} {x : Operand} {i off fo : Nat} (ty : Ty C.P) (ho : o.op = .fieldAddr T x f) (hd : dstB N o.dst = true) (hT : (ty.ty T).fld[f]? = some fo) (hx : st.ev C x = .bx i off) : ValOp C N o st (.bx i (off + fo)) :=
 valop_run hd fun w0 a w J st' hA S => by
  have e1 := S.eval x
  rw [hA.ev x (by simp [ho, Op.operands]), hx] at e1
  obtain ⟨hl, b, hb, hv⟩ := e1
  exact ⟨_, w, by simp [execOp, ho, hv, run_field ((ty.ok T).fld f fo hT)], Ext.refl _, hl, b, hb, rfl⟩
theorem v_idx {o : Oper} {st : St} {T : TypeId} {x y : Operand} {cs : List FV} {n E s bs : Nat} {k : IntKind} {z : Int} (ty : Ty C.P) (ho : o.op = .indexAddr T x y) (hd : dstB N o.dst = true) (hT : (ty.ty T).sl = some (E, s, bs)) (hx : st.ev C x = .f (.sl n cs)) (hy : st.ev C y = .f (.v (.int k z)))
 (h0 : 0 <= z) (hn : z < n) (hc : cs ≠ []) : ValOp C N o st (.f (.pt cs (z.toNat * s))) :=
 valop_run hd fun w0 a w J st' hA S => by
  have e1 := evF S ((hA.ev x (by simp [ho, Op.operands])).trans hx)
  have e2 := evV S ((hA.ev y (by simp [ho, Op.operands])).trans hy)
  generalize hv : a.eval x = v at e1
  cases e1 with
  | sl ad _ c _ us h0' h1 h2 h3 h4 =>
    obtain ⟨b, off, rfl, hl⟩ := h3 (fun e => by rw [e] at h1; exact hc (List.eq_nil_of_length_eq_zero h1.symm))
    exact ⟨_, w, by simp [execOp, ho, hv, e2, run_idx ((ty.ok T).sl _ hT) h0 hn], Ext.refl _, RepF.pt b off _ _ us h1 h2 hl h4⟩
theorem v_idx_ow {o : Oper} {st : St} {T : TypeId} {x y : Operand} {cs : List FV} {i n e sz E s bs : Nat} {k : IntKind} {z : Int} (ty : Ty C.P) (ho : o.op = .indexAddr T x y) (hd : dstB N o.dst = true) (hT : (ty.ty T).sl = some (E, s, bs)) (hx : st.ev C x = .ow i) (hi : st.h i = some (.row e sz n cs)) (hy : st.ev C y = .f (.v (.int k z)))
 (h0 : 0 <= z) (hn : z < n) : ValOp C N o st (.bx i (z.toNat * s)) :=
 valop_run hd fun w0 a w J st' hA S => by
  have e1 := S.eval x
  rw [hA.ev x (by simp [ho, Op.operands]), hx] at e1
  have e2 := evV S ((hA.ev y (by simp [ho, Op.operands])).trans hy)
  obtain ⟨hl, hv⟩ := e1
  obtain ⟨xs, q1, q0, q2, q3⟩ := blkOf hA S hi hl
  rcases q1.2 with ⟨_, h⟩ | ⟨g, cap, cur, hj, _⟩
  · omega
  · refine ⟨_, w, by simp [execOp, ho, hv, e2, hj, run_idx ((ty.ok T).sl _ hT) h0 hn]; rfl, Ext.refl _, hl, g, by rw [hj]; rfl, by simp⟩
theorem v_len {o : Oper} {st : St} {T : TypeId} {x : Operand} {cs : List FV} {n E s bs : Nat} (ty : Ty C.P) (ho : o.op = .call { callee := .builtin .len, args := #[x], argTypes := #[T] }) (hd : dstB N o.dst = true) (hT : (ty.ty T).sl = some (E, s, bs)) (hx : st.ev C x = .f (.sl n cs)) : ValOp C N o st (.f (.v (.int .i64 n))) :=
 valop_run hd fun w0 a w J st' hA S => by
  have e1 := evF S ((hA.ev x (by simp [ho, Op.operands, Call.operands])).trans hx)
  have hu := (slE_spec ((ty.ok T).sl _ hT)).1
  generalize hv : a.eval x = v at e1
  cases e1 with
  | sl ad _ c _ us h0 h1 h2 h3 h4 =>
    exact ⟨_, w, by simp [execOp, ho, resolve, invoke, builtin, Builtin.len_, hv, run_underlying hu, goInt], Ext.refl _, RepF.v _⟩
theorem v_len_nil {o : Oper} {st : St} {T : TypeId} {x : Operand} {ad : Option Addr} {n c E s bs : Nat} (ty : Ty C.P) (ho : o.op = .call { callee := .builtin .len, args := #[x], argTypes := #[T] }) (hd : dstB N o.dst = true) (hT : (ty.ty T).sl = some (E, s, bs)) (hx : st.ev C x = .f (.v (.slice ad n c))) : ValOp C N o st (.f (.v (.int .i64 n))) :=
 valop_run hd fun w0 a w J st' hA S => by
  have e1 := evV S ((hA.ev x (by simp [ho, Op.operands, Call.operands])).trans hx)
  have hu := (slE_spec ((ty.ok T).sl _ hT)).1
  exact ⟨_, w, by simp [execOp, ho, resolve, invoke, builtin, Builtin.len_, e1, run_underlying hu, goInt], Ext.refl _, RepF.v _⟩
theorem v_len_ow {o : Oper} {st : St} {T : TypeId} {x : Operand} {cs : List FV} {i n e sz E s bs : Nat} (ty : Ty C.P) (ho : o.op = .call { callee := .builtin .len, args := #[x], argTypes := #[T] }) (hd : dstB N o.dst = true) (hT : (ty.ty T).sl = some (E, s, bs)) (hx : st.ev C x = .ow i) (hi : st.h i = some (.row e sz n cs)) : ValOp C N o st (.f (.v (.int .i64 n))) :=
 valop_run hd fun w0 a w J st' hA S => by
  have e1 := S.eval x
  rw [hA.ev x (by simp [ho, Op.operands, Call.operands]), hx] at e1
  obtain ⟨hl, hv⟩ := e1
  have hu := (slE_spec ((ty.ok T).sl _ hT)).1
  obtain ⟨xs, q1, q0, q2, q3⟩ := blkOf hA S hi hl
  rcases q1.2 with ⟨e2, rfl⟩ | ⟨g, cap, cur, e2, _⟩
  · exact ⟨_, w, by simp [execOp, ho, resolve, invoke, builtin, Builtin.len_, hv, e2, run_underlying hu, goInt], Ext.refl _, RepF.v _⟩
  · exact ⟨_, w, by simp [execOp, ho, resolve, invoke, builtin, Builtin.len_, hv, e2, run_underlying hu, goInt], Ext.refl _, RepF.v _⟩
end
def cellsF : FV -> Option (List FV)
 | .agg cs => some cs
 | .tup _ => none
 | .v x => bif x.oneCell' then some [.v x] else none
 | x => some [x]
theorem repCells {w : World} {M : Nat -> Prop} {u : Value} {x : FV} {xs : List FV} (h : RepF w M u x) (hc : cellsF x = some xs) : RepL w M u.cells.toList xs /\ ∀ y ∈ u.cells.toList, y.oneCell' = true := by
 cases h with
 | v _ =>
   simp only [cellsF] at hc
   cases ho : u.oneCell' with
   | false => simp [ho] at hc
   | true =>
     simp [ho] at hc; subst hc
     have e : u.cells = #[u] := by cases u <;> simp_all [Value.oneCell', Value.cells]
     rw [e]
     exact ⟨RepL.cons (RepF.v u) (RepL.nil _ _), by simpa using ho⟩
 | sl a n c cs us h1 h2 h3 h4 h5 =>
   simp only [cellsF, Option.some.injEq] at hc; subst hc
   exact ⟨RepL.cons (RepF.sl a n c cs us h1 h2 h3 h4 h5) (RepL.nil _ _), by simp [Value.cells, Value.oneCell']⟩
 | agg cs us h1 h2 h3 =>
   simp only [cellsF, Option.some.injEq] at hc; subst hc
   exact ⟨⟨by simpa [Value.cells] using h1, fun k u x a b => h3 k u x (by simpa [Value.cells] using a) b⟩, by simpa [Value.cells] using h2⟩
 | tup cs us h1 h2 => simp [cellsF] at hc
 | pt b off o cs us h1 h2 h3 h4 =>
   simp only [cellsF, Option.some.injEq] at hc; subst hc
   exact ⟨RepL.cons (RepF.pt b off o cs us h1 h2 h3 h4) (RepL.nil _ _), by simp [Value.cells, Value.oneCell']⟩
 | fn f cs us h1 h2 =>
   simp only [cellsF, Option.some.injEq] at hc; subst hc
   exact ⟨RepL.cons (RepF.fn f cs us h1 h2) (RepL.nil _ _), by simp [Value.cells, Value.oneCell']⟩
 | slc a n cs us h1 h1' h2 h3 h4 =>
   simp only [cellsF, Option.some.injEq] at hc; subst hc
   exact ⟨RepL.cons (RepF.slc a n cs us h1 h1' h2 h3 h4) (RepL.nil _ _), by simp [Value.cells, Value.oneCell']⟩
 | mp r G h =>
   simp only [cellsF, Option.some.injEq] at hc; subst hc
   exact ⟨RepL.cons (RepF.mp r G h) (RepL.nil _ _), by simp [Value.cells, Value.oneCell']⟩
 | any u G h1 h2 =>
   simp only [cellsF, Option.some.injEq] at hc; subst hc
   have e : u.cells = #[u] := by cases u <;> simp_all [Value.oneCell', Value.cells]
   rw [e]
   exact ⟨RepL.cons (RepF.any u G h1 h2) (RepL.nil _ _), by simpa using h2⟩
 | tab b l h1 h2 =>
   simp only [cellsF, Option.some.injEq] at hc; subst hc
   exact ⟨RepL.cons (RepF.tab b l h1 h2) (RepL.nil _ _), by simp [Value.cells, Value.oneCell']⟩
def setAt {α : Type} : List α -> Nat -> List α -> List α
 | cs, _, [] => cs
 | cs, o, x :: r => setAt (cs.set o x) (o + 1) r
theorem setAt_length {α : Type} : ∀ (r cs : List α) (o : Nat), (setAt cs o r).length = cs.length
 | [], _, _ => rfl
 | _ :: r, cs, o => by rw [setAt, setAt_length r]; simp
theorem RepL.set {w : World} {M : Nat -> Prop} {us : List Value} {xs : List FV} (h : RepL w M us xs) {u : Value} {x : FV} (hu : RepF w M u x) (k : Nat) : RepL w M (us.set k u) (xs.set k x) :=
 ⟨by simp [h.1], fun j u' x' h1 h2 => by
   rw [List.getElem?_set] at h1 h2
   by_cases e : k = j
   · subst e
     by_cases hk : k < us.length
     · simp only [if_true, hk] at h1; simp only [if_true, <- h.1, hk] at h2; cases h1; cases h2; exact hu
     · simp only [if_true, hk, if_false] at h1; cases h1
   · rw [if_neg e] at h1 h2; exact h.2 j u' x' h1 h2⟩
theorem RepL.setAt {w : World} {M : Nat -> Prop} : ∀ {us' : List Value} {xs' : List FV} {us : List Value} {xs : List FV} (o : Nat), RepL w M us xs -> RepL w M us' xs' -> RepL w M (Ab.setAt us o us') (Ab.setAt xs o xs')
 | [], [], _, _, _, h, _ => h
 | [], _ :: _, _, _, _, _, h => by have := h.1; simp at this
 | u :: us', [], _, _, _, _, h => by have := h.1; simp at this
 | u :: us', x :: xs', us, xs, o, h, h' => by
   obtain ⟨u0, us0, e, h1, h2⟩ := h'.head
   cases e
   exact RepL.setAt (o + 1) (h.set h1 o) h2
theorem setAt_mem {α : Type} {p : α -> Prop} : ∀ {r cs : List α} {o : Nat}, (∀ u ∈ cs, p u) -> (∀ u ∈ r, p u) -> ∀ u ∈ setAt cs o r, p u
 | [], _, _, h, _ => h
 | x :: r, cs, o, h, h' => setAt_mem (r := r) (fun u hu => by
  rcases List.mem_or_eq_of_mem_set hu with h1 | h1
  · exact h u h1
  · subst h1; exact h' u (by simp)) (fun u hu => h' u (by simp [hu]))
def fillF (place : Nat -> Option (Nat × Nat)) : List FV -> List (Nat × FV) -> Option (List FV)
 | cs, [] => some cs
 | cs, (i, x) :: r => match place i, cellsF x with
   | some (off, size), some xs => bif Nat.beq xs.length size && Nat.ble (off + xs.length) cs.length then fillF place (setAt cs off xs) r else none
   | _, _ => none
theorem fold_setAt (o : Nat) : ∀ (vs : List Value) (k : Nat) (cs : Array Value), ((vs.zipIdx k).foldl (fun cs (c, j) => cs.setIfInBounds (o + j) c) cs).toList = setAt cs.toList (o + k) vs
 | [], _, _ => rfl
 | v :: vs, k, cs => by
   rw [List.zipIdx_cons, List.foldl_cons, fold_setAt o vs (k + 1)]
   simp [setAt, Nat.add_assoc]
theorem fill_of {w : World} {M : Nat -> Prop} (place : Nat -> Option (Nat × Nat)) : ∀ (parts : List (Nat × Value)) (xs : List (Nat × FV)) (us : Array Value) (cs cs' : List FV), RepL w M us.toList cs -> (∀ u ∈ us.toList, u.oneCell' = true) ->
 parts.length = xs.length -> (∀ (k : Nat) (p : Nat × Value) (x : Nat × FV), parts[k]? = some p -> xs[k]? = some x -> p.1 = x.1 /\ RepF w M p.2 x.2) -> fillF place cs xs = some cs' ->
 ∃ us', Instr.fill place us parts = some us' /\ RepL w M us'.toList cs' /\ ∀ u ∈ us'.toList, u.oneCell' = true
 | [], [], us, cs, cs', h, h1, _, _, hf => by simp [fillF] at hf; subst hf; exact ⟨us, rfl, h, h1⟩
 | [], _ :: _, _, _, _, _, _, hl, _, _ => by simp at hl
 | _ :: _, [], _, _, _, _, _, hl, _, _ => by simp at hl
 | (i, v) :: parts, (j, x) :: xs, us, cs, cs', h, h1, hl, hr, hf => by
   obtain ⟨e, hv⟩ := hr 0 (i, v) (j, x) rfl rfl
   simp only at e hv; subst e
   unfold fillF at hf
   split at hf
   · rename_i off size ys hp hc
     obtain ⟨R, o1⟩ := repCells hv hc
     cases hb : Nat.beq ys.length size && Nat.ble (off + ys.length) cs.length with
     | false => simp [hb] at hf
     | true =>
       simp only [hb, cond_true] at hf
       simp only [Bool.and_eq_true] at hb
       have e1 := Nat.eq_of_beq_eq_true hb.1
       have e2 := Nat.le_of_ble_eq_true hb.2
       have s1 : v.cells.size = ys.length := by have := R.1; simpa using this
       have s2 : us.size = cs.length := by have := h.1; simpa using this
       have efold : ((v.cells.zipIdx.foldl (fun cs (c, j) => cs.setIfInBounds (off + j) c) us)).toList = setAt us.toList off v.cells.toList := by
        have := fold_setAt off v.cells.toList 0 us
        rw [Nat.add_zero] at this
        rw [<- this]
        congr 1
        rw [<- Array.foldl_toList, Array.toList_zipIdx]
       obtain ⟨us', q1, q2, q3⟩ := fill_of place parts xs (v.cells.zipIdx.foldl (fun cs (c, j) => cs.setIfInBounds (off + j) c) us) (setAt cs off ys) cs'
        (by rw [efold]; exact RepL.setAt off h R) (by rw [efold]; exact setAt_mem h1 o1) (by simpa using hl) (fun k p x a b => hr (k + 1) p x (by simpa using a) (by simpa using b)) hf
       refine ⟨us', ?_, q2, q3⟩
       unfold Instr.fill
       simp only [hp]
       rw [if_neg (by simp; omega)]
       exact q1
   · cases hf
section
variable {C : Ctx} {N : Nat}
def St.evP (C : Ctx) (st : St) : List (Nat × Operand) -> Option (List (Nat × FV))
 | [] => some []
 | (i, x) :: r => match st.ev C x, St.evP C st r with
   | .f y, some l => some ((i, y) :: l)
   | _, _ => none
def St.evL (C : Ctx) (st : St) : List Operand -> Option (List FV)
 | [] => some []
 | x :: r => match st.ev C x, St.evL C st r with
   | .f y, some l => some (y :: l)
   | _, _ => none
theorem evL_rep {w0 : World} {a : Act} {w : World} {J : Nat -> Value} {st st' : St} (S : Sim C w0 N st' a w J) : ∀ {l : List Operand} {xs : List FV}, (∀ x ∈ l, st'.ev C x = st.ev C x) -> st.evL C l = some xs -> RepL w (Mb C st'.h J) (l.map a.eval) xs
 | [], xs, _, h => by simp [St.evL] at h; subst h; exact RepL.nil _ _
 | x :: r, xs, hA, h => by
   unfold St.evL at h
   split at h
   · rename_i y l e1 e2
     simp at h; subst h
     exact RepL.cons (evF S ((hA x (by simp)).trans e1)) (evL_rep S (fun y hy => hA y (by simp [hy])) e2)
   · cases h
theorem evP_rep {w0 : World} {a : Act} {w : World} {J : Nat -> Value} {st st' : St} (S : Sim C w0 N st' a w J) : ∀ {l : List (Nat × Operand)} {xs : List (Nat × FV)}, (∀ x ∈ l, st'.ev C x.2 = st.ev C x.2) -> st.evP C l = some xs ->
 (l.map fun p => (p.1, a.eval p.2)).length = xs.length /\ ∀ (k : Nat) (p : Nat × Value) (x : Nat × FV), (l.map fun p => (p.1, a.eval p.2))[k]? = some p -> xs[k]? = some x -> p.1 = x.1 /\ RepF w (Mb C st'.h J) p.2 x.2
 | [], xs, _, h => by simp [St.evP] at h; subst h; exact ⟨rfl, fun k p x h => by simp at h⟩
 | (i, x) :: r, xs, hA, h => by
   unfold St.evP at h
   split at h
   · rename_i y l e1 e2
     simp at h; subst h
     obtain ⟨q1, q2⟩ := evP_rep S (fun y hy => hA y (by simp [hy])) e2
     refine ⟨by simpa using q1, fun k p z h1 h2 => ?_⟩
     cases k with
     | zero => simp at h1 h2; subst h1; subst h2; exact ⟨rfl, evF S ((hA (i, x) (by simp)).trans e1)⟩
     | succ k => exact q2 k p z (by simpa using h1) (by simpa using h2)
   · cases h
theorem repV_list {w : World} {M : Nat -> Prop} (zs : List Value) : RepL w M zs (zs.map .v) :=
 ⟨by simp, fun k u x h1 h2 => by
   rw [List.getElem?_map, h1] at h2; simp at h2; subst h2; exact RepF.v u⟩
theorem v_build {o : Oper} {st : St} {T : TypeId} {parts : Array (Nat × Operand)} {pl : List (Nat × Nat)} {zs : List Value} {xs : List (Nat × FV)} {cs : List FV} (ty : Ty C.P) (ho : o.op = .build T parts) (hd : dstB N o.dst = true)
 (hpl : (ty.ty T).pl = some pl) (hz : (ty.ty T).zero = some zs) (hp : st.evP C parts.toList = some xs) (hf : fillF (fun i => pl[i]?) (zs.map .v) xs = some cs) : ValOp C N o st (.f (.agg cs)) :=
 valop_run hd fun w0 a w J st' hA S => by
  obtain ⟨q1, q2⟩ := evP_rep (st := st) S (fun x hx => hA.ev x.2 (by simp only [ho, Op.operands]; simp; exact ⟨x.1, by simpa using hx⟩)) hp
  have hz' := (ty.ok T).zero zs hz
  have h1 := (ty.ok T).one zs hz
  replace hpl := (ty.ok T).pl pl hpl
  obtain ⟨it, hi⟩ : ∃ it, C.P.info? T = some it := by unfold zeroC at hz'; cases h : C.P.info? T with | none => simp [h] at hz' | some it => exact ⟨it, rfl⟩
  obtain ⟨z, hzz, hzl⟩ : ∃ z, it.zero = some z /\ z.cells.toList = zs := by unfold zeroC at hz'; simp [hi] at hz'; exact hz'
  obtain ⟨us, r1, r2, r3⟩ := fill_of (M := Mb C st'.h J) (w := w) (fun i => pl[i]?) (parts.toList.map fun p => (p.1, a.eval p.2)) xs z.cells (zs.map .v) cs (by rw [hzl]; exact repV_list zs) (by rw [hzl]; exact h1) q1 q2 hf
  refine ⟨.agg us, w, ?_, Ext.refl _, ?_⟩
  · simp only [execOp, ho, Sem.run_bind]
    rw [run_build w T _ us ?_]
    · rfl
    · unfold plC at hpl
      unfold Program.built
      cases hu : C.P.underlying T with
      | none => simp [hu] at hpl
      | some d => cases d <;> simp [hu] at hpl; simpa [hi, hzz, hpl] using r1
  · have := RepF.agg (w := w) (M := Mb C st'.h J) cs us.toList r2.1 r3 r2.2
    show RepF _ _ _ _
    simpa using this
theorem lies_new {w : World} {M : Nat -> Prop} (hM : ∀ b, M b -> b < w.heap.size) (us : List Value) (T : TypeId) : Lies (w.alloc (.cells us.toArray T)) M w.heap.size 0 us :=
 ⟨by simp, fun h => by have := hM _ h; omega, fun k hk => by rw [Nat.zero_add, World.cell_at rfl]; simp⟩
theorem mb_lt {w0 : World} {a : Act} {w : World} {J : Nat -> Value} {st : St} (S : Sim C w0 N st a w J) : ∀ b, Mb C st.h J b -> b < w.heap.size := fun _ h => S.mb h
theorem run_newVar {P : Program} {w : World} {T : TypeId} {v : Value} : (newVar T v).run P w = .ok ⟨w.heap.size, 0, none⟩ (w.alloc (.cells v.cells T)) := by
 rfl
theorem v_box {o : Oper} {st : St} {T : TypeId} {x : Operand} {y : FV} {cs : List FV} (ho : o.op = .box T x) (hd : dstB N o.dst = true) (hx : st.ev C x = .f y) (hc : cellsF y = some cs) : ValOp C N o st (.f (.pt cs 0)) :=
 valop_run hd fun w0 a w J st' hA S => by
  have e1 := evF S ((hA.ev x (by simp [ho, Op.operands])).trans hx)
  obtain ⟨R, o1⟩ := repCells e1 hc
  have R' := R.ext (Ext.alloc w (.cells (a.eval x).cells T)) (fun _ _ h => h)
  refine ⟨.pointer (some ⟨w.heap.size, 0, none⟩), _, by simp [execOp, ho, Instr.box, run_newVar]; rfl, Ext.alloc _ _, ?_⟩
  have L := lies_new (w := w) (mb_lt S) (a.eval x).cells.toList T
  simp only [Array.toArray_toList] at L
  have := RepF.pt w.heap.size 0 0 cs _ R'.1 o1 L R'.2
  show RepF _ _ _ _
  simpa using this
theorem Sim.al {w0 : World} {a : Act} {w : World} {J : Nat -> Value} {st : St} (S : Sim C w0 N st a w J) {n : Nat} (hn : st.h n = none) {d : Option Tmp} (hd : dstB N d = true) {w' : World} (e : Ext w w') {v u : Value} {B : Blk} {r : AV}
 (hu : ∀ c, bk u = some c -> w.heap.size <= c)
 (hB : RepB C w' w0.heap.size (upd st.h n (some B)) (upd J n u) u B) (hr : RepA C w' (upd st.h n (some B)) (upd J n u) v r) (hJ : B.stays = true -> C.J0 n = none) : Sim C w0 N { s := (st.put d r).s, h := upd st.h n (some B), nx := st.nx } (a.put d v) w' (upd J n u) := by
 have S' := S.toExt e
 have hlive : ∀ i, (st.h i).isSome = true -> i ≠ n := fun i hi e => by subst e; rw [hn] at hi; cases hi
 have hM : ∀ b, b < w.heap.size -> Mb C (upd st.h n (some B)) (upd J n u) b -> Mb C st.h J b := by
  rintro b hb (h0 | ⟨i, hi, hbi⟩)
  · exact .inl h0
  by_cases e : i = n
  · subst e; rw [upd_same] at hbi; have := hu _ hbi; omega
  · rw [upd_other _ _ e] at hi hbi; exact .inr ⟨i, hi, hbi⟩
 have conv : ∀ {v : Value} {x : AV}, RepA C w st.h J v x -> RepA C w' (upd st.h n (some B)) (upd J n u) v x := by
  intro v x h
  exact h.same fun _ _ q => q.conv (fun i hi => ⟨by rw [upd_other _ _ (hlive i hi)]; exact hi, by rw [upd_other _ _ (hlive i hi)]⟩) fun _ _ h => RepF.ext h e hM
 have S2 : Sim C w0 N { s := st.s, h := upd st.h n (some B), nx := st.nx } a w' (upd J n u) := by
  refine ⟨S'.ext, S.size, S'.defs, fun t => conv (S.slot t), fun i B' hB' => ?_, fun i j b hi hj hbi hbj => ?_, S.old, fun g cs hg => RepF.ext (S.glob g cs hg) e hM, fun i p cells hp hc hs => ?_⟩
  · by_cases ei : i = n
    · subst ei
      simp only [upd_same, Option.some.injEq] at hB' ⊢
      subst hB'; exact hB
    · simp only [upd_other _ _ ei] at hB' ⊢
      have hb0 := S.blk i B' hB'
      exact hb0.conv0 (fun b hb => e.block b (hb0.ge hb).2) (fun _ _ h => h) (fun _ _ => conv) (fun _ _ h => RepF.ext h e hM)
  · by_cases ei : i = n <;> by_cases ej : j = n
    · omega
    · subst ei
      simp only [upd_same, upd_other _ _ ej] at hi hj hbi hbj
      have := hu _ hbi
      have := (S.own_at hj hbj).2; omega
    · subst ej
      simp only [upd_same, upd_other _ _ ei] at hi hj hbi hbj
      have := hu _ hbj
      have := (S.own_at hi hbi).2; omega
    · simp only [upd_other _ _ ei, upd_other _ _ ej] at hi hj hbi hbj
      exact S.apart i j b hi hj hbi hbj
  · by_cases ei : i = n
    · subst ei
      simp only [upd_same, Option.some.injEq] at hc
      subst hc
      rw [hJ hs] at hp; cases hp
    · simp only [upd_other _ _ ei] at hc ⊢
      exact S.fix i p cells hp hc hs
 have := S2.put hd hr
 cases d <;> exact this
theorem a_box {o : Oper} {st : St} {T : TypeId} {x : Operand} {y : FV} {cs : List FV} (ho : o.op = .box T x) (hd : dstB N o.dst = true) (hx : st.ev C x = .f y) (hc : cellsF y = some cs) (hJ : C.J0 st.nx = none) : AllOp C N o st (.bx st.nx 0) (.box (cs.map .f)) := by
 intro w0 a w st' hA hn ⟨J, S⟩ K Q hK
 have e1 := evF S ((hA.ev x (by simp [ho, Op.operands])).trans hx)
 obtain ⟨R, o1⟩ := repCells e1 hc
 refine op_value (show (execOp a.eval o).run C.P w = .ok (.value (.pointer (some ⟨w.heap.size, 0, none⟩))) (w.alloc (.cells (a.eval x).cells T)) by simp [execOp, ho, Instr.box, run_newVar]) ?_
 refine hK _ _ ⟨upd J st.nx (.pointer (some ⟨w.heap.size, 0, none⟩)), S.al hn hd (Ext.alloc _ _) (fun c hc => by simp [bk] at hc; omega) ?_ ?_ (fun _ => hJ)⟩
 · refine ⟨w.heap.size, T, (a.eval x).cells, rfl, .inl S.ext.le, World.alloc_heap_new _ _, by have := R.1; simpa using this, o1, fun k u x h1 h2 => ?_⟩
   rw [List.getElem?_map] at h2
   cases hk : cs[k]? with
   | none => simp [hk] at h2
   | some y =>
     simp [hk] at h2; subst h2
     have h1' : (a.eval ‹_›).cells.toList[k]? = some u := by simpa using h1
     exact RepF.ext (R.2 k u y h1' hk) (Ext.alloc _ _) (fun b hb => by
      rintro (h0 | ⟨i, hi, hbi⟩)
      · exact .inl h0
      by_cases e : i = st.nx
      · subst e; rw [upd_same] at hbi; simp [bk] at hbi; omega
      · rw [upd_other _ _ e] at hi hbi; exact .inr ⟨i, hi, hbi⟩)
 · exact ⟨by rw [upd_same]; rfl, w.heap.size, by rw [upd_same]; rfl, rfl⟩
theorem a_alloc {o : Oper} {st : St} {T : TypeId} {zs : List Value} (ty : Ty C.P) (ho : o.op = .alloc T) (hd : dstB N o.dst = true) (hz : (ty.ty T).zero = some zs) (hJ : C.J0 st.nx = none) : AllOp C N o st (.bx st.nx 0) (.box (zs.map fun z => .f (.v z))) := by
 intro w0 a w st' hA hn ⟨J, S⟩ K Q hK
 have hz' := (ty.ok T).zero zs hz
 have h1 := (ty.ok T).one zs hz
 obtain ⟨it, hi⟩ : ∃ it, C.P.info? T = some it := by unfold zeroC at hz'; cases h : C.P.info? T with | none => simp [h] at hz' | some it => exact ⟨it, rfl⟩
 obtain ⟨z, hzz, hzl⟩ : ∃ z, it.zero = some z /\ z.cells.toList = zs := by unfold zeroC at hz'; simp [hi] at hz'; exact hz'
 refine op_value (show (execOp a.eval o).run C.P w = .ok (.value (.pointer (some ⟨w.heap.size, 0, none⟩))) (w.alloc (.cells z.cells T)) by simp [execOp, ho, Instr.alloc, run_newVar, zeroValue, typeInfo, hi, hzz]) ?_
 refine hK _ _ ⟨upd J st.nx (.pointer (some ⟨w.heap.size, 0, none⟩)), S.al hn hd (Ext.alloc _ _) (fun c hc => by simp [bk] at hc; omega) ?_ ?_ (fun _ => hJ)⟩
 · refine ⟨w.heap.size, T, z.cells, rfl, .inl S.ext.le, World.alloc_heap_new _ _, by rw [<- hzl]; simp, by rw [hzl]; exact h1, fun k u x h1 h2 => ?_⟩
   rw [<- hzl, List.getElem?_map] at h2
   have h1' : z.cells.toList[k]? = some u := by simpa using h1
   rw [h1'] at h2; simp at h2; subst h2
   exact RepF.v u
 · exact ⟨by rw [upd_same]; rfl, w.heap.size, by rw [upd_same]; rfl, rfl⟩
end
def initF (zs : List Value) (n : Nat) : List FV := (List.range n).map fun k => .v (zs.getD (k % zs.length) default)
theorem madeCells_list (z : Array Value) (n : Nat) : (madeCells z n).toList = (List.range n).map fun k => z.toList.getD (k % z.size) default := by
 unfold madeCells
 rw [Array.toList_map, Array.toList_range]
 congr 1
 funext k
 rw [Array.getElem!_eq_getD, Array.getD_eq_getD_getElem?]
 simp [List.getD]
theorem made_rep {w : World} {M : Nat -> Prop} (z : Array Value) (n : Nat) : RepL w M (madeCells z n).toList (initF z.toList n) := by
 rw [madeCells_list]
 refine ⟨by simp [initF], fun k u x h1 h2 => ?_⟩
 unfold initF at h2
 rw [List.getElem?_map] at h1 h2
 cases hk : (List.range n)[k]? with
 | none => simp [hk] at h1
 | some j => simp [hk] at h1 h2; subst h1; subst h2; exact RepF.v _
theorem made_one (z : Array Value) (n : Nat) (h : ∀ u ∈ z.toList, u.oneCell' = true) : ∀ u ∈ (madeCells z n).toList, u.oneCell' = true := by
 rw [madeCells_list]
 intro u hu
 obtain ⟨k, _, rfl⟩ := List.mem_map.1 hu
 rw [List.getD_eq_getElem?_getD]
 cases hk : z.toList[k % z.size]? with
 | none => rfl
 | some y => exact h y (List.mem_of_getElem? hk)
theorem zero_spec {P : Program} {T : TypeId} {zs : List Value} (h : zeroC P T = some zs) : ∃ it z, P.info? T = some it /\ it.zero = some z /\ z.cells.toList = zs := by
 unfold zeroC at h
 cases hi : P.info? T with
 | none => simp [hi] at h
 | some it => simp [hi] at h; obtain ⟨z, h1, h2⟩ := h; exact ⟨it, z, rfl, h1, h2⟩
theorem run_buildSlice {P : Program} {w : World} {T E s bs len : Nat} {zs : List Value} {parts : Array (Nat × Value)} {us : Array Value} (hT : slE P T = some (E, s, bs)) (hz : zeroC P E = some zs) (hs : len * s <= 16777216)
 (hf : ∀ z : Value, z.cells.toList = zs -> Instr.fill (fun i => some (i * s, s)) (madeCells z.cells (len * s)) parts.toList = some us) :
 (Instr.buildSlice T len parts).run P w = .ok (.slice (some ⟨w.heap.size, 0, none⟩) len len) (w.alloc (.cells us E)) := by
 obtain ⟨hu, i, hi, rfl, _⟩ := slE_spec hT
 obtain ⟨it, z, hi', hz', hl⟩ := zero_spec hz
 rw [hi] at hi'; cases hi'
 have h := hf z hl
 have hs' : ¬ len * i.size > 2 ^ 24 := by omega
 by_cases h0 : len * i.size = 0
 · rw [h0] at h
   have e : madeCells z.cells 0 = #[] := by simp [madeCells, Array.range_zero']
   rw [e] at h
   have e2 : ∀ (f : Nat -> Value), (Array.range 0).map f = #[] := fun f => by simp [Array.range_zero']
   simp [Instr.buildSlice, run_underlying hu, sizeOf, typeInfo, hi, h0, newRow, e2, h]
 · have e : (Array.range (len * i.size)).map (z.cells[· % z.cells.size]!) = madeCells z.cells (len * i.size) := rfl
   simp [Instr.buildSlice, run_underlying hu, sizeOf, typeInfo, hi, hs', h0, zeroValue, hz', e, h, newRow]
section
variable {C : Ctx} {N : Nat}
theorem v_bslice {o : Oper} {st : St} {T len E s bs : Nat} {parts : Array (Nat × Operand)} {zs : List Value} {xs : List (Nat × FV)} {cs : List FV} (ty : Ty C.P) (ho : o.op = .buildSlice T len parts) (hd : dstB N o.dst = true)
 (hT : (ty.ty T).sl = some (E, s, bs)) (hz : (ty.ty E).zero = some zs) (hs : len * s <= 16777216) (hp : st.evP C parts.toList = some xs) (hf : fillF (fun i => some (i * s, s)) (initF zs (len * s)) xs = some cs) : ValOp C N o st (.f (.sl len cs)) :=
 valop_run hd fun w0 a w J st' hA S => by
  obtain ⟨q1, q2⟩ := evP_rep (st := st) S (fun x hx => hA.ev x.2 (by simp only [ho, Op.operands]; simp; exact ⟨x.1, by simpa using hx⟩)) hp
  have h1 := (ty.ok E).one zs hz
  obtain ⟨it, z, hi, hzz, hzl⟩ := zero_spec ((ty.ok E).zero zs hz)
  obtain ⟨us, r1, r2, r3⟩ := fill_of (M := Mb C st'.h J) (w := w) (fun i => some (i * s, s)) (parts.toList.map fun p => (p.1, a.eval p.2)) xs (madeCells z.cells (len * s)) (initF zs (len * s)) cs (by rw [<- hzl]; exact made_rep _ _) (made_one _ _ (by rw [hzl]; exact h1)) q1 q2 hf
  have hrun := run_buildSlice (w := w) (len := len) (parts := parts.map fun (i, x) => (i, a.eval x)) (us := us) ((ty.ok T).sl _ hT) ((ty.ok E).zero zs hz) hs (fun z' hz' => by
   have e : z'.cells = z.cells := Array.ext' (by rw [hz', hzl])
   rw [e, Array.toList_map]; exact r1)
  refine ⟨_, _, by simp only [execOp, ho, Sem.run_bind]; rw [hrun]; rfl, Ext.alloc _ _, ?_⟩
  have R := r2.ext (Ext.alloc w (.cells us E)) (M' := Mb C st'.h J) (fun _ _ h => h)
  have L := lies_new (w := w) (mb_lt S) us.toList E
  simp only [Array.toArray_toList] at L
  exact RepF.sl _ len len cs us.toList (Nat.le_refl _) R.1 r3 (fun _ => ⟨_, _, rfl, L⟩) R.2
theorem hM_new {st : St} {J : Nat -> Value} {w : World} {n : Nat} {B : Blk} {u : Value} (hu : ∀ c, bk u = some c -> w.heap.size <= c) : ∀ b, b < w.heap.size -> Mb C (upd st.h n (some B)) (upd J n u) b -> Mb C st.h J b := by
 rintro b hb (h0 | ⟨i, hi, hbi⟩)
 · exact .inl h0
 by_cases e : i = n
 · subst e; rw [upd_same] at hbi; have := hu _ hbi; omega
 · rw [upd_other _ _ e] at hi hbi; exact .inr ⟨i, hi, hbi⟩
theorem a_bslice {o : Oper} {st : St} {T len E s bs : Nat} {parts : Array (Nat × Operand)} {zs : List Value} {xs : List (Nat × FV)} {cs : List FV} (ty : Ty C.P) (ho : o.op = .buildSlice T len parts) (hd : dstB N o.dst = true)
 (hT : (ty.ty T).sl = some (E, s, bs)) (hz : (ty.ty E).zero = some zs) (hs : len * s <= 16777216) (hs0 : 0 < s) (hp : st.evP C parts.toList = some xs) (hf : fillF (fun i => some (i * s, s)) (initF zs (len * s)) xs = some cs) (hl : cs.length = len * s) : AllOp C N o st (.ow st.nx) (.row E s len cs) := by
 intro w0 a w st' hA hn ⟨J, S⟩ K Q hK
 obtain ⟨q1, q2⟩ := evP_rep (st := st) S (fun x hx => hA.ev x.2 (by simp only [ho, Op.operands]; simp; exact ⟨x.1, by simpa using hx⟩)) hp
 have h1 := (ty.ok E).one zs hz
 obtain ⟨it, z, hi, hzz, hzl⟩ := zero_spec ((ty.ok E).zero zs hz)
 obtain ⟨us, r1, r2, r3⟩ := fill_of (M := Mb C st'.h J) (w := w) (fun i => some (i * s, s)) (parts.toList.map fun p => (p.1, a.eval p.2)) xs (madeCells z.cells (len * s)) (initF zs (len * s)) cs (by rw [<- hzl]; exact made_rep _ _) (made_one _ _ (by rw [hzl]; exact h1)) q1 q2 hf
 have hrun := run_buildSlice (w := w) (len := len) (parts := parts.map fun (i, x) => (i, a.eval x)) (us := us) ((ty.ok T).sl _ hT) ((ty.ok E).zero zs hz) hs (fun z' hz' => by
  have e : z'.cells = z.cells := Array.ext' (by rw [hz', hzl])
  rw [e, Array.toList_map]; exact r1)
 refine op_value (show (execOp a.eval o).run C.P w = .ok (.value (.slice (some ⟨w.heap.size, 0, none⟩) len len)) (w.alloc (.cells us E)) by simp only [execOp, ho, Sem.run_bind]; rw [hrun]; rfl) ?_
 have hlen : us.size = len * s := by have := r2.1; rw [hl] at this; simpa using this
 have hle : len <= maxLen := by
  have : len * 1 <= len * s := Nat.mul_le_mul_left _ hs0
  unfold maxLen; omega
 refine hK _ _ ⟨upd J st.nx (.slice (some ⟨w.heap.size, 0, none⟩) len len), S.al hn hd (Ext.alloc _ _) (fun c hc => by simp [bk] at hc; omega) ?_ ?_ (fun e => by cases e)⟩
 · refine ⟨us.toList, ⟨by simpa using hlen, .inr ⟨w.heap.size, len, us, rfl, Nat.zero_le _, World.alloc_heap_new _ _, Nat.le_refl _, hle, hlen, ?_⟩⟩, fun b hb => .inl (by simp [bk] at hb; rw [<- hb]; exact S.ext.le), r3, r2.ext (Ext.alloc _ _) (hM_new (fun c hc => by simp [bk] at hc; omega))⟩
   rw [<- hlen, <- Array.length_toList, List.take_length]
 · exact ⟨by rw [upd_same]; rfl, by rw [upd_same]⟩
def closedC (h : Nat -> Option Blk) : Cap -> Bool
 | .f _ => true
 | .bx i _ => (h i).isSome
 | .ow i => (h i).isSome
 | .sv i _ _ => (h i).isSome
def closedA (h : Nat -> Option Blk) : AV -> Prop
 | .f _ => True
 | .bot => True
 | .bx i _ => (h i).isSome = true
 | .ow i => (h i).isSome = true
 | .sv i _ _ => (h i).isSome = true
 | .ag l => l.all (closedC h) = true
 | .tp l => l.all (closedC h) = true
 | .fb _ l => l.all (closedC h) = true
theorem closed_parts {h : Nat -> Option Blk} {x : AV} (hc : closedA h x) : ∀ c ∈ x.parts, closedC h c = true := fun c hm => by
 cases x with
 | f x => simp only [AV.parts, List.mem_singleton] at hm; subst hm; rfl
 | bot => simp [AV.parts] at hm
 | bx i off => simp only [AV.parts, List.mem_singleton] at hm; subst hm; exact hc
 | ow i => simp only [AV.parts, List.mem_singleton] at hm; subst hm; exact hc
 | sv i off n => simp only [AV.parts, List.mem_singleton] at hm; subst hm; exact hc
 | ag l => exact List.all_eq_true.1 hc c hm
 | tp l => exact List.all_eq_true.1 hc c hm
 | fb f l => exact List.all_eq_true.1 hc c hm
def closedB (h : Nat -> Option Blk) : Blk -> Prop
 | .box cs => ∀ x ∈ cs, closedA h x
 | .row .. => True
 | .rowA _ _ _ cs => ∀ x ∈ cs, closedA h x
 | .arr _ _ _ cs => ∀ x ∈ cs, closedA h x
 | .map _ => True
structure Le (st st' : St) : Prop where
 s : ∀ t, st'.s t = .bot \/ (st'.s t = st.s t /\ closedA st'.h (st'.s t))
 h : ∀ i, st'.h i = none \/ (∃ B, st'.h i = some B /\ st.h i = some B /\ closedB st'.h B)
theorem Sim.weaken {w0 : World} {a : Act} {w : World} {J : Nat -> Value} {st st' : St} (S : Sim C w0 N st a w J) (L : Le st st') : Sim C w0 N st' a w J := by
 have live : ∀ i, (st'.h i).isSome = true -> (st.h i).isSome = true := fun i hi => by
  rcases L.h i with e | ⟨B, e1, e2, _⟩
  · rw [e] at hi; cases hi
  · rw [e2]; rfl
 have hM : ∀ b, b < w.heap.size -> Mb C st'.h J b -> Mb C st.h J b := fun b _ h => h.imp id fun ⟨i, hi, hb⟩ => ⟨i, live i hi, hb⟩
 have conv : ∀ {v : Value} {x : AV}, RepA C w st.h J v x -> closedA st'.h x -> RepA C w st'.h J v x := by
  intro v x h hc
  refine h.sameP fun u c hm q => ?_
  have hcc := closed_parts hc c hm
  cases c with
  | f x => exact RepF.ext q (Ext.refl _) hM
  | bx i off => exact ⟨hcc, q.2⟩
  | ow i => exact ⟨hcc, q.2⟩
  | sv i off n => exact ⟨hcc, q.2⟩
 refine ⟨S.ext, S.size, S.defs, fun t => ?_, fun i B hB => ?_, fun i j b hi hj => S.apart i j b (live i hi) (live j hj), S.old, fun g cs hg => RepF.ext (S.glob g cs hg) (Ext.refl _) hM, fun i p cells hp hc hs => ?_⟩
 · rcases L.s t with e | ⟨e, hc⟩
   · rw [e]; trivial
   · have := S.slot t
     rw [e] at hc ⊢
     exact conv this hc
 · rcases L.h i with e | ⟨B', e1, e2, hc⟩
   · rw [e] at hB; cases hB
   · rw [e1] at hB; cases hB
     have hb0 := S.blk i B e2
     cases B with
     | box cells =>
       obtain ⟨b, T, us, q1, q2, q3, q4, q5, q6⟩ := hb0
       exact ⟨b, T, us, q1, q2, q3, q4, q5, fun k u x h1 h2 => conv (q6 k u x h1 h2) (hc x (List.mem_of_getElem? h2))⟩
     | row E sz m cells =>
       obtain ⟨xs, q1, q0, q2, q3⟩ := hb0
       exact ⟨xs, q1, q0, q2, q3.ext (Ext.refl _) hM⟩
     | rowA E sz m cells =>
       obtain ⟨xs, q1, q0, q2, q3, q4⟩ := hb0
       exact ⟨xs, q1, q0, q2, q3, fun k u x h1 h2 => conv (q4 k u x h1 h2) (hc x (List.mem_of_getElem? h2))⟩
     | arr E sz m cells =>
       obtain ⟨xs, q1, q0, q2, q3, q4⟩ := hb0
       exact ⟨xs, q1, q0, q2, q3, fun k u x h1 h2 => conv (q4 k u x h1 h2) (hc x (List.mem_of_getElem? h2))⟩
     | map G => exact hb0
 · rcases L.h i with e | ⟨B', e1, e2, _⟩
   · rw [e] at hc; cases hc
   · rw [e1] at hc; cases hc
     exact S.fix i p cells hp e2 hs
theorem Sim.write {w0 : World} {a : Act} {w w' : World} {J : Nat -> Value} {st : St} (S : Sim C w0 N st a w J) {i b : Nat} (hi : (st.h i).isSome = true) (hb : bk (J i) = some b) (g : w.grownBy w' (some b)) {B : Blk} (hB : RepB C w' w0.heap.size (upd st.h i (some B)) J (J i) B) (hk : B.stays = true -> ∃ B', st.h i = some B' /\ B'.stays = true) :
 Sim C w0 N { st with h := upd st.h i (some B) } a w' J := by
 have hMb : ∀ c, Mb C (upd st.h i (some B)) J c ↔ Mb C st.h J c := fun c => by
  constructor
  · rintro (h0 | ⟨j, hj, h⟩)
    · exact .inl h0
    by_cases e : j = i
    · subst e; exact .inr ⟨j, hi, h⟩
    · rw [upd_other _ _ e] at hj; exact .inr ⟨j, hj, h⟩
  · rintro (h0 | ⟨j, hj, h⟩)
    · exact .inl h0
    refine .inr ⟨j, ?_, h⟩
    by_cases e : j = i
    · subst e; rw [upd_same]; rfl
    · rw [upd_other _ _ e]; exact hj
 have mono : ∀ {u : Value} {x : FV}, RepF w (Mb C st.h J) u x -> RepF w' (Mb C (upd st.h i (some B)) J) u x := fun h =>
  h.mono (fun c hc hm => g.block c hc (fun e => by cases e; exact hm (.inr ⟨i, hi, hb⟩))) g.size (fun c _ h => (hMb c).1 h)
 have live : ∀ j, (upd st.h i (some B) j).isSome = (st.h j).isSome := fun j => by
  by_cases e : j = i
  · subst e; rw [upd_same, hi]; rfl
  · rw [upd_other _ _ e]
 have conv : ∀ {v : Value} {x : AV}, RepA C w st.h J v x -> RepA C w' (upd st.h i (some B)) J v x := by
  intro v x h
  exact h.same fun _ _ q => q.conv (fun i hi => ⟨by rw [live]; exact hi, rfl⟩) fun _ _ => mono
 refine ⟨S.ext.grown g (fun k hk => by cases hk; exact (S.own_at hi hb).1), S.size, S.marks hi (by rw [hb]; exact g), fun t => conv (S.slot t), fun j B' hB' => ?_, fun j k c hj hk => S.apart j k c (by rw [<- live]; exact hj) (by rw [<- live]; exact hk), S.old, fun gl cs hg => mono (S.glob gl cs hg), fun j p cells hp hc hs => ?_⟩
 · by_cases e : j = i
   · subst e; simp only [upd_same, Option.some.injEq] at hB'; subst hB'; exact hB
   · simp only [upd_other _ _ e] at hB'
     have hb0 := S.blk j B' hB'
     exact hb0.conv0 (fun c hc => g.block c (hb0.ge hc).2 (fun ec => e (S.apart j i b (by rw [hB']; rfl) hi (by cases ec; exact hc) hb))) (fun _ _ h => h) (fun _ _ => conv) (fun _ _ => mono)
 · by_cases e : j = i
   · subst e
     simp only [upd_same, Option.some.injEq] at hc
     subst hc
     obtain ⟨B', h', h2⟩ := hk hs
     exact S.fix j p B' hp h' h2
   · simp only [upd_other _ _ e] at hc
     exact S.fix j p cells hp hc hs
def cellsA : AV -> Option (List AV)
 | .f x => (cellsF x).map (List.map .f)
 | .bx i o => some [.bx i o]
 | .ow i => some [.ow i]
 | .bot => none
 | .sv i off n => some [.sv i off n]
 | .ag l => some (l.map Cap.toA)
 | .tp _ => none
 | .fb f l => some [.fb f l]
theorem repCellsA {w : World} {h : Nat -> Option Blk} {J : Nat -> Value} {base : Nat} (hJ : ∀ i B, h i = some B -> RepB C w base h J (J i) B) {u : Value} {x : AV} {xs : List AV} (hr : RepA C w h J u x) (hc : cellsA x = some xs) :
 u.cells.size = xs.length /\ (∀ y ∈ u.cells.toList, y.oneCell' = true) /\ ∀ (k : Nat) (v : Value) (y : AV), u.cells.toList[k]? = some v -> xs[k]? = some y -> RepA C w h J v y := by
 cases x with
 | f x =>
   simp only [cellsA, Option.map_eq_some_iff] at hc
   obtain ⟨ys, h1, rfl⟩ := hc
   obtain ⟨R, o1⟩ := repCells hr h1
   refine ⟨by have := R.1; simpa using this, o1, fun k v y a b => ?_⟩
   rw [List.getElem?_map] at b
   cases hk : ys[k]? with
   | none => simp [hk] at b
   | some z => simp [hk] at b; subst b; exact R.2 k v z a hk
 | bx i off =>
   simp [cellsA] at hc; subst hc
   obtain ⟨hl, b, hb, rfl⟩ := hr
   refine ⟨rfl, by simp [Value.cells, Value.oneCell'], fun k v y a c => ?_⟩
   cases k with
   | zero => simp [Value.cells] at a c; subst a; subst c; exact ⟨hl, b, hb, rfl⟩
   | succ k => simp at c
 | ow i =>
   simp [cellsA] at hc; subst hc
   obtain ⟨hl, rfl⟩ := hr
   obtain ⟨B, hB⟩ := Option.isSome_iff_exists.1 hl
   have h2 : (J i).cells = #[J i] /\ (J i).oneCell' = true := by
    have := hJ i B hB
    cases B with
    | box cells => obtain ⟨b, T, us, q1, _⟩ := this; rw [q1]; exact ⟨rfl, rfl⟩
    | row E sz n cells => obtain ⟨xs, q1, _⟩ := this; obtain ⟨a, c, e⟩ := q1.isSlice; rw [e]; exact ⟨rfl, rfl⟩
    | rowA E sz n cells => obtain ⟨xs, q1, _⟩ := this; obtain ⟨a, c, e⟩ := q1.isSlice; rw [e]; exact ⟨rfl, rfl⟩
    | arr E sz n cells => obtain ⟨xs, q1, _⟩ := this; obtain ⟨a, c, e⟩ := q1.isSlice; rw [e]; exact ⟨rfl, rfl⟩
    | map G => obtain ⟨b, o, q1, _⟩ := this; rw [q1]; exact ⟨rfl, rfl⟩
   rw [h2.1]
   refine ⟨rfl, by simpa using h2.2, fun k v y a c => ?_⟩
   cases k with
   | zero => simp at a c; subst a; subst c; exact ⟨hl, rfl⟩
   | succ k => simp at c
 | bot => simp [cellsA] at hc
 | tp l => simp [cellsA] at hc
 | sv i off n =>
   simp [cellsA] at hc; subst hc
   obtain ⟨hl, ad, c, rfl, h1, h2⟩ := hr
   refine ⟨rfl, by simp [Value.cells, Value.oneCell'], fun k v y a' c' => ?_⟩
   cases k with
   | zero => simp [Value.cells] at a' c'; subst a'; subst c'; exact ⟨hl, ad, c, rfl, h1, h2⟩
   | succ k => simp at c'
 | fb f l =>
   simp [cellsA] at hc; subst hc
   obtain ⟨us, rfl, R⟩ := hr
   refine ⟨rfl, by simp [Value.cells, Value.oneCell'], fun k v y a' c' => ?_⟩
   cases k with
   | zero => simp [Value.cells] at a' c'; subst a'; subst c'; exact ⟨us, rfl, R⟩
   | succ k => simp at c'
 | ag l =>
   simp only [cellsA, Option.some.injEq] at hc; subst hc
   obtain ⟨us, rfl, ho, R⟩ := hr
   refine ⟨by simp [Value.cells, R.1], fun y hy => ho y (by simpa [Value.cells] using hy), fun k v y a c => ?_⟩
   rw [List.getElem?_map] at c
   cases hk : l[k]? with
   | none => simp [hk] at c
   | some z =>
     simp [hk] at c; subst c
     rw [repA_toA]
     exact R.2 k v z (by simpa [Value.cells] using a) hk
theorem setCell_heap {w : World} {b o : Nat} {v : Value} {us : Array Value} {T : TypeId} {fz : Nat × Nat} (h : w.heap[b]? = some (.cells us T fz)) : (w.setCell ⟨b, o, none⟩ v).heap[b]? = some (.cells (us.setIfInBounds o v) T fz) := by
 simp [World.setCell, Array.getElem?_modify, h]
theorem setCells_heap {b : Nat} {T : TypeId} {fz : Nat × Nat} : ∀ {vs : List Value} {o : Nat} {w : World} {us : Array Value}, w.heap[b]? = some (.cells us T fz) -> ∃ us', (w.setCells b o vs).heap[b]? = some (.cells us' T fz) /\ us'.toList = setAt us.toList o vs
 | [], _, _, us, h => ⟨us, h, rfl⟩
 | v :: r, o, w, us, h => by
   obtain ⟨us', h1, h2⟩ := setCells_heap (vs := r) (o := o + 1) (setCell_heap (o := o) (v := v) h)
   exact ⟨us', h1, by rw [h2]; simp [setAt]⟩
theorem setCells_grown {b : Nat} : ∀ (vs : List Value) (o : Nat) (w : World), w.grownBy (w.setCells b o vs) (some b)
 | [], _, w => World.grownBy.refl _ _
 | v :: r, o, w => by
   have h1 := setCells_grown (b := b) r (o + 1) (w.setCell ⟨b, o, none⟩ v)
   have h0 : w.grownBy (w.setCell ⟨b, o, none⟩ v) (some b) := ⟨rfl, rfl, rfl, by simp [World.setCell], fun k hk hne => Below.heap_setCell _ _ _ _ (by intro e; exact hne (congrArg some e))⟩
   exact ⟨h1.os.trans h0.os, h1.tape.trans h0.tape, h1.output.trans h0.output, Nat.le_trans h0.size h1.size, fun k hk hne => (h1.block k (Nat.lt_of_lt_of_le hk h0.size) hne).trans (h0.block k hk hne)⟩
def sizeB (d : TyD) (n : Nat) : Bool := match d.agg with
 | some m => Nat.beq m n
 | none => d.scal && Nat.beq n 1
theorem sizeB_spec {P : Program} {T n : Nat} {d : TyD} (ok : TyOk P T d) (h : sizeB d n = true) : ∃ i, P.info? T = some i /\ i.size = n := by
 unfold sizeB at h
 split at h
 · rename_i m hm
   have := ok.agg m hm
   have e := Nat.eq_of_beq_eq_true h
   unfold aggN at this
   split at this
   · simp at this; exact ⟨_, ‹_›, this.trans e⟩
   · simp at this; exact ⟨_, ‹_›, this.trans e⟩
   · cases this
 · simp only [Bool.and_eq_true] at h
   have e := Nat.eq_of_beq_eq_true h.2
   have := ok.scal h.1
   unfold scalB at this
   split at this
   · cases this
   · cases this
   · exact ⟨_, ‹_›, (Nat.eq_of_beq_eq_true this).trans e.symm⟩
   · cases this
theorem setAt_get {α : Type} : ∀ (r cs : List α) (o k : Nat), (setAt cs o r)[k]? = if o <= k /\ k < o + r.length /\ k < cs.length then r[k - o]? else cs[k]?
 | [], cs, o, k => by simp [setAt]; intro h1 h2; omega
 | x :: r, cs, o, k => by
   rw [setAt, setAt_get r, List.getElem?_set]
   simp only [List.length_set, List.length_cons]
   by_cases h1 : o + 1 <= k /\ k < o + 1 + r.length /\ k < cs.length
   · rw [if_pos h1, if_pos (by omega)]
     rw [show k - o = (k - (o + 1)) + 1 by omega, List.getElem?_cons_succ]
   · rw [if_neg h1]
     by_cases h2 : o = k
     · subst h2
       by_cases h3 : o < cs.length
       · rw [if_pos rfl, if_pos h3, if_pos (by omega)]; simp
       · rw [if_pos rfl, if_neg h3, if_neg (by omega), List.getElem?_eq_none (by omega)]
     · rw [if_neg h2, if_neg (by omega)]
theorem e_store {o : Oper} {st : St} {T i off : Nat} {x y : Operand} {cs ys : List AV} {av : AV} (ty : Ty C.P) (ho : o.op = .store T x y) (hd : o.dst = none) (hx : st.ev C x = .bx i off) (hi : st.h i = some (.box cs)) (hy : st.ev C y = av) (hc : cellsA av = some ys) (hT : sizeB (ty.ty T) ys.length = true) (hl : off + ys.length <= cs.length) :
 EffOp C N o st { st with h := upd st.h i (some (.box (setAt cs off ys))) } :=
 effop_run fun w0 a w J S => by
  have e1 := S.eval x
  rw [hx] at e1
  obtain ⟨hlv, b, hb, hv⟩ := e1
  have e2 := S.eval y
  rw [hy] at e2
  obtain ⟨r1, r2, r3⟩ := repCellsA S.blk e2 hc
  obtain ⟨b', T', us, q1, q2, q3, q4, q5, q6⟩ := S.blk i _ hi
  have hbb : b = b' := by rw [q1] at hb; simpa [bk] using hb.symm
  subst hbb
  obtain ⟨it, hi1, hi2⟩ := sizeB_spec (ty.ok T) hT
  have hst := run_storeCells_cells (P := C.P) b off (a.eval y).cells.toList 0 w (fun j hj => by
   have : off + 0 + j < us.size := by rw [q4]; simp at hj; omega
   simp [World.cell?, q3]; omega) (fun j hj => by simp [World.frozen?, q3]) r2
  have hrun : (execOp a.eval o).run C.P w = .ok .skip (w.setCells b off (a.eval y).cells.toList) := by
   simp only [execOp, ho, Sem.run_bind, hv, Instr.storeAt, Instr.sureAddr, Sem.run_pure, Result.andThen_ok, storeVar, sizeOf, typeInfo, run_program, hi1, hi2, r1]
   simp only [Nat.add_zero] at hst
   simp [hst]
  refine ⟨.skip, undef, _, hrun, .inr ⟨rfl, rfl⟩, J, ?_⟩
  rw [hd]
  obtain ⟨us', h1, h2⟩ := setCells_heap (vs := (a.eval y).cells.toList) (o := off) q3
  refine S.write hlv hb (setCells_grown _ _ _) ⟨b, T', us', q1, q2, h1, ?_, by rw [h2]; exact setAt_mem q5 r2, fun k u z hk hz => ?_⟩ (fun _ => ⟨_, hi, rfl⟩)
  · have := congrArg List.length h2
    rw [setAt_length] at this
    rw [setAt_length, <- q4]; simpa using this
  · have hk' : us'.toList[k]? = some u := by simpa using hk
    rw [h2, setAt_get] at hk'
    rw [setAt_get] at hz
    have hsz : us.toList.length = cs.length := by simpa using q4
    have hconv : ∀ {v : Value} {y : AV}, RepA C w st.h J v y -> RepA C (w.setCells b off (a.eval ‹_›).cells.toList) (upd st.h i (some (.box (setAt cs off ys)))) J v y := by
     intro v y h
     have live : ∀ j, (upd st.h i (some (.box (setAt cs off ys))) j).isSome = (st.h j).isSome := fun j => by
      by_cases e : j = i
      · subst e; rw [upd_same, hlv]; rfl
      · rw [upd_other _ _ e]
     exact h.same fun _ _ q => q.conv (fun j hj => ⟨by rw [live]; exact hj, rfl⟩) fun _ _ h => RepF.mono h (fun c hcl hm => (setCells_grown _ _ _).block c hcl (fun e => by cases e; exact hm (.inr ⟨i, hlv, hb⟩))) (setCells_grown (b := b) _ _ _).size (fun c _ h => h.imp id fun ⟨j, hj, hjb⟩ => ⟨j, by rw [<- live]; exact hj, hjb⟩)
    have r1' : (a.eval y).cells.toList.length = ys.length := by simpa using r1
    rw [r1', hsz] at hk'
    split at hk'
    · rename_i hin
      rw [if_pos hin] at hz
      exact hconv (r3 _ u z hk' hz)
    · rename_i hin
      rw [if_neg hin] at hz
      exact hconv (q6 k u z (by simpa using hk') hz)
end
section
variable {C : Ctx} {N : Nat}
def killC (i : Nat) : Cap -> Option Cap
 | .f x => some (.f x)
 | .bx j off => bif Nat.beq j i then none else some (.bx j off)
 | .ow j => bif Nat.beq j i then none else some (.ow j)
 | .sv j off n => bif Nat.beq j i then none else some (.sv j off n)
def killA (i : Nat) : AV -> AV := AV.tr (killC i)
def killB (i : Nat) (B : Blk) : Blk := B.mapA (killA i)
theorem killA_ne {i j : Nat} (h : j ≠ i) : Nat.beq j i = false := by
 cases e : Nat.beq j i; rfl; exact absurd (Nat.eq_of_beq_eq_true e) h
theorem killC_some {i : Nat} {c c' : Cap} (h : killC i c = some c') : c' = c /\ ((∃ x, c = .f x) \/ (∃ j off, c = .bx j off /\ j ≠ i) \/ (∃ j, c = .ow j /\ j ≠ i) \/ (∃ j off n, c = .sv j off n /\ j ≠ i)) := by
 cases c with
 | f x => simp only [killC, Option.some.injEq] at h; exact ⟨h.symm, .inl ⟨x, rfl⟩⟩
 | bx j off =>
   by_cases e : j = i
   · subst e; simp [killC] at h
   · simp [killC, killA_ne e] at h; exact ⟨h.symm, .inr (.inl ⟨j, off, rfl, e⟩)⟩
 | ow j =>
   by_cases e : j = i
   · subst e; simp [killC] at h
   · simp [killC, killA_ne e] at h; exact ⟨h.symm, .inr (.inr (.inl ⟨j, rfl, e⟩))⟩
 | sv j off n =>
   by_cases e : j = i
   · subst e; simp [killC] at h
   · simp [killC, killA_ne e] at h; exact ⟨h.symm, .inr (.inr (.inr ⟨j, off, n, rfl, e⟩))⟩
theorem RepA.kill {C' : Ctx} {w w' : World} {h h' : Nat -> Option Blk} {J J' : Nat -> Value} {i : Nat} (hl : ∀ j, j ≠ i -> (h j).isSome = true -> (h' j).isSome = true /\ J' j = J j) (hF : ∀ u x, RepF w (Mb C h J) u x -> RepF w' (Mb C' h' J') u x) {v : Value} {x : AV} (r : RepA C w h J v x) : RepA C' w' h' J' v (killA i x) :=
 r.tr fun v c c' e q => by
  obtain ⟨rfl, hc⟩ := killC_some e
  rcases hc with ⟨x, rfl⟩ | ⟨j, off, rfl, hj⟩ | ⟨j, rfl, hj⟩ | ⟨j, off, n, rfl, hj⟩
  · exact hF _ _ q
  · exact ⟨(hl j hj q.1).1, by rw [(hl j hj q.1).2]; exact q.2⟩
  · exact ⟨(hl j hj q.1).1, by rw [(hl j hj q.1).2]; exact q.2⟩
  · exact ⟨(hl j hj q.1).1, by rw [(hl j hj q.1).2]; exact q.2⟩
def St.grow (st : St) (i : Nat) (B : Blk) : St := { s := fun t => killA i (st.s t), h := fun j => bif Nat.beq j i then some B else (st.h j).map (killB i), nx := st.nx }
theorem Sim.regrow {w0 : World} {a : Act} {w w' : World} {J : Nat -> Value} {st : St} (S : Sim C w0 N st a w J) {i : Nat} (hi : (st.h i).isSome = true) {v' : Value} (g : w.grownBy w' (bk (J i))) (hv : ∀ c, bk v' = some c -> bk (J i) = some c \/ w.heap.size <= c) {B : Blk}
 (hB : RepB C w' w0.heap.size (st.grow i B).h (upd J i v') v' B) (hk : B.stays = false) : Sim C w0 N (st.grow i B) a w' (upd J i v') := by
 have hM : ∀ b, b < w.heap.size -> Mb C (st.grow i B).h (upd J i v') b -> Mb C st.h J b := by
  rintro b hb (h0 | ⟨j, hj, hjb⟩)
  · exact .inl h0
  by_cases e : j = i
  · subst e
    rw [upd_same] at hjb
    rcases hv b hjb with h | h
    · exact .inr ⟨j, hi, h⟩
    · omega
  · rw [upd_other _ _ e] at hjb
    refine .inr ⟨j, ?_, hjb⟩
    simpa [St.grow, killA_ne e] using hj
 have mono : ∀ {u : Value} {x : FV}, RepF w (Mb C st.h J) u x -> RepF w' (Mb C (st.grow i B).h (upd J i v')) u x := fun h =>
  h.mono (fun c hc hm => g.block c hc (fun e => hm (.inr ⟨i, hi, e.symm⟩))) g.size hM
 have live : ∀ j, j ≠ i -> ((st.grow i B).h j).isSome = (st.h j).isSome := fun j e => by simp [St.grow, killA_ne e]
 have conv : ∀ {v : Value} {x : AV}, RepA C w st.h J v x -> RepA C w' (st.grow i B).h (upd J i v') v (killA i x) := by
  intro v x h
  exact h.kill (fun j hj hs => ⟨by rw [live j hj]; exact hs, by rw [upd_other _ _ hj]⟩) fun _ _ => mono
 have hge : ∀ k, bk (J i) = some k -> w0.heap.size <= k \/ C.X k := fun k hk => (S.own_at hi hk).1
 refine ⟨S.ext.grown g hge, S.size, S.marks hi g, fun t => conv (S.slot t), fun j B' hB' => ?_, fun j k c hj hk hjc hkc => ?_, S.old, fun gl cs hg => mono (S.glob gl cs hg), fun j p cells hp hc hs => ?_⟩
 · by_cases e : j = i
   · subst e; simp [St.grow] at hB'; subst hB'; rw [upd_same]; exact hB
   · simp only [St.grow, killA_ne e, cond_false, Option.map_eq_some_iff] at hB'
     obtain ⟨B0, hB0, rfl⟩ := hB'
     rw [upd_other _ _ e]
     have hb0 := S.blk j B0 hB0
     exact hb0.conv (killA i) (fun c hc => g.block c (hb0.ge hc).2 (fun ec => e (S.apart j i c (by rw [hB0]; rfl) hi hc ec.symm))) (fun _ _ h => h) (fun _ _ => conv) (fun _ _ => mono)
 · have lv : ∀ j, j ≠ i -> ((st.grow i B).h j).isSome = true -> (st.h j).isSome = true := fun j e h => by rw [<- live j e]; exact h
   by_cases ej : j = i <;> by_cases ek : k = i
   · omega
   · subst ej
     rw [upd_same] at hjc; rw [upd_other _ _ ek] at hkc
     rcases hv c hjc with h | h
     · exact (S.apart j k c hi (lv k ek hk) h hkc)
     · have := (S.own_at (lv k ek hk) hkc).2; omega
   · subst ek
     rw [upd_same] at hkc; rw [upd_other _ _ ej] at hjc
     rcases hv c hkc with h | h
     · exact (S.apart j k c (lv j ej hj) hi hjc h)
     · have := (S.own_at (lv j ej hj) hjc).2; omega
   · rw [upd_other _ _ ej] at hjc; rw [upd_other _ _ ek] at hkc
     exact S.apart j k c (lv j ej hj) (lv k ek hk) hjc hkc
 · by_cases e : j = i
   · subst e; simp [St.grow] at hc; subst hc; rw [hk] at hs; cases hs
   · simp only [St.grow, killA_ne e, cond_false, Option.map_eq_some_iff] at hc
     obtain ⟨B0, hB0, e2⟩ := hc
     rw [upd_other _ _ e]
     subst e2
     exact S.fix j p B0 hp hB0 (by cases B0 <;> exact hs)
theorem own_bk {w : World} {base e sz n : Nat} {v : Value} {xs : List Value} (h : w.ownsRow base e sz v n xs) : bk v = v.ownBlock := by
 obtain ⟨a, c, rfl⟩ := h.isSlice
 cases a <;> rfl
theorem e_append {o : Oper} {st : St} {T i n m e sz bs d : Nat} {x y : Operand} {cs ys : List FV} {zs : List Value} (ty : Ty C.P) (ho : o.op = .call { callee := .builtin .append, args := #[x, y], argTypes := #[T, T] }) (hd : o.dst = some d) (hdN : dstB N o.dst = true)
 (hT : (ty.ty T).sl = some (e, sz, bs)) (hz : (ty.ty e).zero = some zs) (hzl : zs.length = sz) (hsz : 0 < sz) (hx : st.ev C x = .ow i) (hi : st.h i = some (.row e sz n cs)) (hy : st.ev C y = .f (.sl m ys)) (hl : ys.length = m * sz)
 (h63 : n + m <= maxLen) (hbs : (n + m) * bs <= 140737488355328) : EffOp C N o st ((st.grow i (.row e sz (n + m) (cs ++ ys))).put (some d) (.ow i)) :=
 effop_run fun w0 a w J S => by
  have e1 := S.eval x
  rw [hx] at e1
  obtain ⟨hlv, hv⟩ := e1
  have e2 := evF S hy
  obtain ⟨xs, q1, q0, q2, q3⟩ := S.blk i _ hi
  obtain ⟨hu, it, hi1, hi2, hi3⟩ := slE_spec ((ty.ok T).sl _ hT)
  obtain ⟨it', z, hi4, hzz, hzl'⟩ := zero_spec ((ty.ok e).zero zs hz)
  rw [hi1] at hi4; cases hi4
  have hzs : z.cells.size = sz := by rw [<- hzl, <- hzl']; simp
  generalize hyv : a.eval y = yv at e2
  cases e2 with
  | sl ad _ c _ us p0 p1 p2 p3 p4 =>
    have hul : us.length = m * sz := p1.trans hl
    obtain ⟨v', w', hrun, r1, r2, r3⟩ : ∃ v' w', (Builtin.append_ #[T, T] o.type #[J i, .slice ad m c]).run C.P w = .ok v' w' /\ w'.ownsRow 0 e sz v' (n + m) (xs ++ us) /\ w.grownBy w' (J i).ownBlock /\ (v'.ownBlock = (J i).ownBlock \/ v'.ownBlock = some w.heap.size) := by
     by_cases hus : us = []
     · subst hus
       have hm : m = 0 := by
        rcases Nat.mul_eq_zero.1 (hul.symm.trans rfl) with h | h
        · exact h
        · omega
       subst hm
       cases ad with
       | none => exact ⟨J i, w, run_append_none C.P w _ T o.type e it sz c hu hi1 (J i) n xs q1, by simpa using q1, World.grownBy.refl _ _, .inl rfl⟩
       | some ad =>
         obtain ⟨v', w', h1, h2, h3, _, h5⟩ := run_append_own_at (P := C.P) w 0 T o.type e it z sz bs hu hi1 hzz hi2 hi3 hzs hsz (J i) n xs q1 ad 0 c [] (by simp) (fun j u hj => by simp at hj) (by simp) h63 hbs (Nat.zero_le _)
         exact ⟨v', w', h1, h2, h3, h5⟩
     · obtain ⟨b, off, rfl, hlies⟩ := p3 hus
       obtain ⟨v', w', h1, h2, h3, _, h5⟩ := run_append_own_at (P := C.P) w 0 T o.type e it z sz bs hu hi1 hzz hi2 hi3 hzs hsz (J i) n xs q1 ⟨b, off, none⟩ m c us hul (fun j u hj => by
        rw [addr_add, hlies.at_ j (List.getElem?_eq_some_iff.1 hj).1]; exact hj) p2 h63 hbs (Nat.zero_le _)
       exact ⟨v', w', h1, h2, h3, h5⟩
    refine ⟨.value v', v', w', ?_, .inl rfl, upd J i v', ?_⟩
    · simp only [execOp, ho, resolve, invoke, builtin, Sem.run_bind, Sem.run_pure, Result.andThen_ok, List.map_toArray, List.map_cons, List.map_nil, hv, hyv, hrun]
    · rw [<- own_bk q1] at r2 r3
      rw [<- own_bk r1] at r3
      have G : Sim C w0 N (st.grow i (.row e sz (n + m) (cs ++ ys))) a w' (upd J i v') := S.regrow hlv r2 (fun c hc => by
       rcases r3 with h | h
       · left; rw [<- h]; exact hc
       · right; rw [h] at hc; cases hc; exact Nat.le_refl _) ⟨xs ++ us, r1, fun b hb => by
        rcases r3 with h | h
        · exact q0 b (by rw [<- h]; exact hb)
        · rw [h] at hb; cases hb; exact .inl S.ext.le, fun u hu => by
        rcases List.mem_append.1 hu with h | h
        · exact q2 u h
        · exact p2 u h, by
        have hM : ∀ b, b < w.heap.size -> Mb C (st.grow i (.row e sz (n + m) (cs ++ ys))).h (upd J i v') b -> Mb C st.h J b := by
         rintro b hb (h0 | ⟨j, hj, hjb⟩)
         · exact .inl h0
         by_cases ej : j = i
         · subst ej
           rw [upd_same] at hjb
           rcases r3 with h | h
           · exact .inr ⟨j, hlv, by rw [<- h]; exact hjb⟩
           · rw [h] at hjb; cases hjb; omega
         · rw [upd_other _ _ ej] at hjb
           exact .inr ⟨j, by simpa [St.grow, killA_ne ej] using hj, hjb⟩
        have R : RepL w (Mb C st.h J) (xs ++ us) (cs ++ ys) := RepL.append q3 ⟨p1, p4⟩
        exact R.mono (fun c hc hm => r2.block c hc (fun ee => hm (.inr ⟨i, hlv, ee.symm⟩))) r2.size hM⟩ rfl
      rw [hd] at hdN ⊢
      refine G.put hdN ?_
      refine ⟨?_, ?_⟩
      · show ((st.grow i _).h i).isSome = true
        simp [St.grow]
      · rw [upd_same]
def frzC (i : Nat) (r : Option FV) (cs : List FV) : Cap -> Option Cap
 | .f x => some (.f x)
 | .bx j off => bif Nat.beq j i then some (.f (.pt cs off)) else some (.bx j off)
 | .ow j => bif Nat.beq j i then (match r with | some y => some (.f y) | none => none) else some (.ow j)
 | .sv j off n => bif Nat.beq j i then none else some (.sv j off n)
def frzA (i : Nat) (r : Option FV) (cs : List FV) : AV -> AV := AV.tr (frzC i r cs)
def frzB (i : Nat) (r : Option FV) (cs : List FV) (B : Blk) : Blk := B.mapA (frzA i r cs)
def St.frz (st : St) (i : Nat) (r : Option FV) (cs : List FV) : St := { s := fun t => frzA i r cs (st.s t), h := fun j => bif Nat.beq j i then none else (st.h j).map (frzB i r cs), nx := st.nx }
theorem Sim.frz_gen {w0 : World} {a : Act} {w : World} {J : Nat -> Value} {st : St} (S : Sim C w0 N st a w J) {i : Nat} {r : Option FV} {cs : List FV} (hi : (st.h i).isSome = true)
 (hsl : ∀ M : Nat -> Prop, (∀ b, b < w.heap.size -> M b -> Mb C st.h J b) -> (∀ b, bk (J i) = some b -> ¬ M b) -> ∀ (v : Value) (y : FV), r = some y -> RepA C w st.h J v (.ow i) -> RepF w M v y)
 (hpt : ∀ M : Nat -> Prop, (∀ b, b < w.heap.size -> M b -> Mb C st.h J b) -> (∀ b, bk (J i) = some b -> ¬ M b) -> ∀ (v : Value) (off : Nat), RepA C w st.h J v (.bx i off) -> RepF w M v (.pt cs off)) : Sim C w0 N (st.frz i r cs) a w J := by
 have hn : ∀ j, ((st.frz i r cs).h j).isSome = true -> (st.h j).isSome = true /\ j ≠ i := fun j h => by
  by_cases e : j = i
  · subst e; simp [St.frz] at h
  · simp [St.frz, killA_ne e] at h; exact ⟨h, e⟩
 have hM : ∀ b, b < w.heap.size -> Mb C (st.frz i r cs).h J b -> Mb C st.h J b := fun b _ h => h.imp id fun ⟨j, hj, hb⟩ => ⟨j, (hn j hj).1, hb⟩
 have hMi : ∀ b, bk (J i) = some b -> ¬ Mb C (st.frz i r cs).h J b := fun b hb h => h.elim (fun h0 => by
  have h1 := S.old b h0
  rcases (S.own_at hi hb).1 with h2 | h2
  · omega
  · exact h1.2 h2) fun ⟨j, hj, hjb⟩ => (hn j hj).2 (S.apart j i b (hn j hj).1 hi hjb hb)
 have live : ∀ j, j ≠ i -> ((st.frz i r cs).h j).isSome = (st.h j).isSome := fun j e => by simp [St.frz, killA_ne e]
 have conv : ∀ {v : Value} {x : AV}, RepA C w st.h J v x -> RepA C w (st.frz i r cs).h J v (frzA i r cs x) := by
  intro v x h
  refine h.tr fun v c c' e q => ?_
  cases c with
  | f x => simp only [frzC, Option.some.injEq] at e; subst e; exact RepF.ext q (Ext.refl _) hM
  | bx j off =>
    by_cases ej : j = i
    · subst ej; simp only [frzC, Nat.beq_refl, cond_true, Option.some.injEq] at e; subst e; exact hpt _ hM hMi v off q
    · simp only [frzC, killA_ne ej, cond_false, Option.some.injEq] at e; subst e; exact ⟨by rw [live j ej]; exact q.1, q.2⟩
  | ow j =>
    by_cases ej : j = i
    · subst ej; simp only [frzC, Nat.beq_refl, cond_true] at e
      cases r with
      | none => cases e
      | some y => cases e; exact hsl _ hM hMi v y rfl q
    · simp only [frzC, killA_ne ej, cond_false, Option.some.injEq] at e; subst e; exact ⟨by rw [live j ej]; exact q.1, q.2⟩
  | sv j off n =>
    by_cases ej : j = i
    · subst ej; simp [frzC] at e
    · simp only [frzC, killA_ne ej, cond_false, Option.some.injEq] at e; subst e; exact ⟨by rw [live j ej]; exact q.1, q.2⟩
 refine ⟨S.ext, S.size, S.defs, fun t => conv (S.slot t), fun j B hB => ?_, fun j k b hj hk => S.apart j k b (hn j hj).1 (hn k hk).1, S.old, fun g cs hg => RepF.ext (S.glob g cs hg) (Ext.refl _) hM, fun j p cells hp hc hs => ?_⟩
 · by_cases e : j = i
   · subst e; simp [St.frz] at hB
   · simp only [St.frz, killA_ne e, cond_false, Option.map_eq_some_iff] at hB
     obtain ⟨B0, hB0, rfl⟩ := hB
     exact (S.blk j B0 hB0).conv (frzA i r cs) (fun _ _ => rfl) (fun _ _ h => h) (fun _ _ => conv) (fun _ _ h => RepF.ext h (Ext.refl _) hM)
 · by_cases e : j = i
   · subst e; simp [St.frz] at hc
   · simp only [St.frz, killA_ne e, cond_false, Option.map_eq_some_iff] at hc
     obtain ⟨B0, hB0, e2⟩ := hc
     subst e2
     exact S.fix j p B0 hp hB0 (by cases B0 <;> exact hs)
theorem Sim.frz_row {w0 : World} {a : Act} {w : World} {J : Nat -> Value} {st : St} (S : Sim C w0 N st a w J) {i e sz n : Nat} {cs : List FV} (hi : st.h i = some (.row e sz n cs)) : Sim C w0 N (st.frz i (some (.sl n cs)) cs) a w J := by
 have hl : (st.h i).isSome = true := by rw [hi]; rfl
 obtain ⟨xs, q1, _, q2, q3⟩ := S.blk i _ hi
 have lies : ∀ M : Nat -> Prop, (∀ b, bk (J i) = some b -> ¬ M b) -> ∀ b, bk (J i) = some b -> Lies w M b 0 xs := fun M hMi b hb =>
  ⟨(S.own_at hl hb).2, hMi b hb, fun k hk => by
    rw [Nat.zero_add]
    rw [own_bk q1] at hb
    obtain ⟨ad, c, e1⟩ := q1.isSlice
    have := q1.cells hb k xs[k] (List.getElem?_eq_getElem hk)
    rw [addr_add, Nat.zero_add] at this
    rw [this, List.getElem?_eq_getElem hk]⟩
 refine S.frz_gen hl (fun M hM hMi v y hy hv => ?_) (fun M hM hMi v off hv => ?_)
 · cases hy
   obtain ⟨_, rfl⟩ := hv
   rcases q1.2 with ⟨e1, e2⟩ | ⟨g, cap, cur, e1, h1, h2, h3, h4, h5, h6⟩
   · rw [e1]
     have hx : xs = [] := List.eq_nil_of_length_eq_zero (by rw [q1.1, e2]; simp)
     subst hx
     subst e2
     exact RepF.sl none 0 0 cs [] (Nat.le_refl _) q3.1 q2 (fun h => absurd rfl h) (fun k u x h => by simp at h)
   · have hL := lies M hMi g (by rw [e1]; rfl)
     rw [e1]
     exact RepF.sl _ n cap cs xs h3 q3.1 q2 (fun _ => ⟨g, 0, rfl, hL⟩) (fun k u x a b => (q3.2 k u x a b).ext (Ext.refl _) hM)
 · obtain ⟨_, b, hb, rfl⟩ := hv
   have := RepF.pt b 0 off cs xs q3.1 q2 (lies M hMi b hb) (fun k u x a b => (q3.2 k u x a b).ext (Ext.refl _) hM)
   simpa using this
theorem Sim.frz_box {w0 : World} {a : Act} {w : World} {J : Nat -> Value} {st : St} (S : Sim C w0 N st a w J) {i : Nat} {l : List AV} {cs : List FV} (hi : st.h i = some (.box l)) (hc : l = cs.map AV.f) : Sim C w0 N (st.frz i none cs) a w J := by
 have hl : (st.h i).isSome = true := by rw [hi]; rfl
 subst hc
 obtain ⟨b', T', us, q1, q2, q3, q4, q5, q6⟩ := S.blk i _ hi
 have R : RepL w (Mb C st.h J) us.toList cs := repA_f (fun k u x h1 h2 => q6 k u x (by simpa using h1) h2) (by simpa using q4)
 refine S.frz_gen hl (fun M hM hMi v y hy hv => ?_) (fun M hM hMi v off hv => ?_)
 · cases hy
 · obtain ⟨_, b, hb, rfl⟩ := hv
   rw [q1] at hb; simp [bk] at hb; subst hb
   have L : Lies w M b' 0 us.toList := ⟨(Array.getElem?_eq_some_iff.1 q3).1, hMi b' (by rw [q1]; rfl), fun k hk => by rw [Nat.zero_add]; simp [World.cell?, q3]⟩
   have := RepF.pt b' 0 off cs us.toList R.1 q5 L (fun k u x a b => (R.2 k u x a b).ext (Ext.refl _) hM)
   simpa using this
end
open Go Go.RowKit Go.Shelf Go.Proofs
section
variable {C : Ctx} {N : Nat}
theorem Sim.own {w0 : World} {a : Act} {w : World} {J : Nat -> Value} {st : St} (S : Sim C w0 N st a w J) (t e sz : Nat) (ht : st.s t = .f (.v (.slice none 0 0))) (hn : st.h st.nx = none) :
 Sim C w0 N { s := upd st.s t (.ow st.nx), h := upd st.h st.nx (some (.row e sz 0 [])), nx := st.nx + 1 } a w (upd J st.nx (.slice none 0 0)) := by
 have hne : ∀ j, (st.h j).isSome = true -> j ≠ st.nx := fun j h e => by subst e; rw [hn] at h; cases h
 have hM : ∀ b, b < w.heap.size -> Mb C (upd st.h st.nx (some (.row e sz 0 []))) (upd J st.nx (.slice none 0 0)) b -> Mb C st.h J b := by
  rintro b _ (h0 | ⟨j, hj, hb⟩)
  · exact .inl h0
  by_cases ej : j = st.nx
  · subst ej; rw [upd_same] at hb; simp [bk] at hb
  · rw [upd_other _ _ ej] at hj hb; exact .inr ⟨j, hj, hb⟩
 have conv : ∀ {v : Value} {x : AV}, RepA C w st.h J v x -> RepA C w (upd st.h st.nx (some (.row e sz 0 []))) (upd J st.nx (.slice none 0 0)) v x := by
  intro v x h
  exact h.same fun _ _ q => q.conv (fun j hj => ⟨by rw [upd_other _ _ (hne j hj)]; exact hj, by rw [upd_other _ _ (hne j hj)]⟩) fun _ _ h => RepF.ext h (Ext.refl _) hM
 refine ⟨S.ext, S.size, S.defs, fun u => ?_, fun j B hB => ?_, fun j k b hj hk hjb hkb => ?_, S.old, fun g cs hg => RepF.ext (S.glob g cs hg) (Ext.refl _) hM, fun j p cells hp hc hs => ?_⟩
 · by_cases eu : u = t
   · subst eu
     have := S.slot u
     rw [ht] at this
     simp only [upd_same]
     exact ⟨by rw [upd_same]; rfl, by rw [upd_same]; exact repV this⟩
   · simp only [upd_other _ _ eu]; exact conv (S.slot u)
 · by_cases ej : j = st.nx
   · subst ej
     simp only [upd_same, Option.some.injEq] at hB ⊢
     subst hB
     exact ⟨[], World.ownsRow_nil _ _ _ _, fun b hb => by simp [bk] at hb, by simp, RepL.nil _ _⟩
   · simp only [upd_other _ _ ej] at hB ⊢
     exact (S.blk j B hB).conv0 (fun _ _ => rfl) (fun _ _ h => h) (fun _ _ => conv) (fun _ _ h => RepF.ext h (Ext.refl _) hM)
 · have nn : ∀ j, bk (upd J st.nx (.slice none 0 0) j) = some b -> j ≠ st.nx := fun j h e => by subst e; rw [upd_same] at h; simp [bk] at h
   have h1 := nn j hjb
   have h2 := nn k hkb
   simp only [upd_other _ _ h1] at hj hjb
   simp only [upd_other _ _ h2] at hk hkb
   exact S.apart j k b hj hk hjb hkb
 · by_cases ej : j = st.nx
   · subst ej; simp only [upd_same, Option.some.injEq] at hc; subst hc; cases hs
   · simp only [upd_other _ _ ej] at hc ⊢
     exact S.fix j p cells hp hc hs
theorem v_makefn {o : Oper} {st : St} {g : Nat} {caps : Array Operand} {xs : List FV} (ho : o.op = .makeFunc (.func g) #[] caps) (hd : dstB N o.dst = true) (hp : st.evL C caps.toList = some xs) : ValOp C N o st (.f (.fn g xs)) :=
 valop_run hd fun w0 a w J st' hA S => by
  have R := evL_rep (st := st) S (fun x hx => hA.ev x (by simpa [ho, Op.operands] using hx)) hp
  have e2 : caps.map a.eval = (caps.toList.map a.eval).toArray := by apply Array.ext'; simp
  exact ⟨.func (.func g) #[] (caps.toList.map a.eval).toArray, w, by simp [execOp, ho, Instr.makeFunc, <- e2], Ext.refl _, RepF.fn (w := w) (M := Mb C st'.h J) g xs _ R.1 R.2⟩
theorem strB_spec {P : Program} {T : TypeId} (h : strB P T = true) : P.underlying T = some .string := by
 unfold strB at h
 split at h
 · assumption
 · cases h
theorem v_len_str {o : Oper} {st : St} {T : TypeId} {x : Operand} {s : ByteArray} (ty : Ty C.P) (hT : (ty.ty T).str = true) (ho : o.op = .call { callee := .builtin .len, args := #[x], argTypes := #[T] }) (hd : dstB N o.dst = true) (hx : st.ev C x = .f (.v (.string s))) : ValOp C N o st (.f (.v (.int .i64 s.size))) :=
 valop_run hd fun w0 a w J st' hA S => by
  have e1 := evV S ((hA.ev x (by simp [ho, Op.operands, Call.operands])).trans hx)
  exact ⟨_, w, by simp [execOp, ho, resolve, invoke, builtin, Builtin.len_, e1, run_underlying (strB_spec ((ty.ok T).str hT)), goInt], Ext.refl _, RepF.v _⟩
theorem v_min2 {o : Oper} {st : St} {T T' : TypeId} {x y : Operand} {p q : Int} {k k' : IntKind} (ho : o.op = .call { callee := .builtin .min, args := #[x, y], argTypes := #[T, T'] }) (hd : dstB N o.dst = true) (hx : st.ev C x = .f (.v (.int k p))) (hy : st.ev C y = .f (.v (.int k' q))) : ValOp C N o st (.f (.v (.int k (min p q)))) :=
 valop_run hd fun w0 a w J st' hA S => by
  have e1 := evV S ((hA.ev x (by simp [ho, Op.operands, Call.operands])).trans hx)
  have e2 := evV S ((hA.ev y (by simp [ho, Op.operands, Call.operands])).trans hy)
  refine ⟨.int k (if q < p then q else p), w, by simp [execOp, ho, resolve, invoke, builtin, Builtin.min_, Builtin.min2, e1, e2], Ext.refl _, ?_⟩
  rw [show min p q = if q < p then q else p by omega]; exact RepF.v _
theorem v_max2 {o : Oper} {st : St} {T T' : TypeId} {x y : Operand} {p q : Int} {k k' : IntKind} (ho : o.op = .call { callee := .builtin .max, args := #[x, y], argTypes := #[T, T'] }) (hd : dstB N o.dst = true) (hx : st.ev C x = .f (.v (.int k p))) (hy : st.ev C y = .f (.v (.int k' q))) : ValOp C N o st (.f (.v (.int k (max p q)))) :=
 valop_run hd fun w0 a w J st' hA S => by
  have e1 := evV S ((hA.ev x (by simp [ho, Op.operands, Call.operands])).trans hx)
  have e2 := evV S ((hA.ev y (by simp [ho, Op.operands, Call.operands])).trans hy)
  refine ⟨.int k (if q > p then q else p), w, by simp [execOp, ho, resolve, invoke, builtin, Builtin.max_, Builtin.max2, e1, e2], Ext.refl _, ?_⟩
  rw [show max p q = if q > p then q else p by omega]; exact RepF.v _
def bnd (C : Ctx) (st : St) (x : Option Operand) (d z : Int) : Prop := match x with
 | none => z = d
 | some x => ∃ k, st.ev C x = .f (.v (.int k z))
theorem v_slice {o : Oper} {st : St} {T E s bs : Nat} {x : Operand} {lo hi : Option Operand} {cs : List FV} {n : Nat} {l h : Int} (ty : Ty C.P) (ho : o.op = .slice T x lo hi none) (hd : dstB N o.dst = true) (hT : (ty.ty T).sl = some (E, s, bs)) (hx : st.ev C x = .f (.sl n cs))
 (hlo : bnd C st lo 0 l) (hhi : bnd C st hi n h) (h0 : 0 <= l) (hlh : l <= h) (hhn : h <= n) : ValOp C N o st (.f (.sl (h.toNat - l.toNat) ((cs.drop (l.toNat * s)).take ((h.toNat - l.toNat) * s)))) :=
 valop_run hd fun w0 a w J st' hA S => by
  have e1 := evF S ((hA.ev x (by simp [ho, Op.operands])).trans hx)
  obtain ⟨hu, it, hi1, rfl, _⟩ := slE_spec ((ty.ok T).sl _ hT)
  have hlo' : (lo = none /\ l = 0) \/ ∃ y k, lo = some y /\ a.eval y = .int k l := by
   cases lo with
   | none => exact .inl ⟨rfl, hlo⟩
   | some y => obtain ⟨k, hk⟩ := hlo; exact .inr ⟨y, k, rfl, evV S ((hA.ev y (by simp [ho, Op.operands])).trans hk)⟩
  have hhi' : (hi = none /\ h = n) \/ ∃ y k, hi = some y /\ a.eval y = .int k h := by
   cases hi with
   | none => exact .inl ⟨rfl, hhi⟩
   | some y => obtain ⟨k, hk⟩ := hhi; exact .inr ⟨y, k, rfl, evV S ((hA.ev y (by simp [ho, Op.operands])).trans hk)⟩
  generalize hv : a.eval x = v at e1
  cases e1 with
  | sl ad _ c _ us p0 p1 p2 p3 p4 =>
    have hhc : h <= (c : Int) := by omega
    have hh0 : 0 <= h := by omega
    have R := (RepL.drop (n := l.toNat * it.size) ⟨p1, p4⟩).take ((h.toNat - l.toNat) * it.size)
    refine ⟨.slice (if c = l.toNat then ad else ad.map (·.add (l.toNat * it.size))) (h.toNat - l.toNat) (c - l.toNat), w, ?_, Ext.refl _, ?_⟩
    · rcases hlo' with ⟨rfl, rfl⟩ | ⟨y, k, rfl, hy⟩ <;> rcases hhi' with ⟨rfl, rfl⟩ | ⟨y', k', rfl, hy'⟩
      · simp [execOp, ho, hv, Instr.sliceAt, Instr.slice, run_underlying hu, Instr.sliceBounds, sizeOf, typeInfo, hi1]
      · simp [execOp, ho, hv, hy', Instr.sliceAt, Instr.slice, run_underlying hu, Instr.sliceBounds, Instr.sliceBound, asIntOf, sizeOf, typeInfo, hi1, hh0, hhc]
      · simp [execOp, ho, hv, hy, Instr.sliceAt, Instr.slice, run_underlying hu, Instr.sliceBounds, Instr.sliceBound, asIntOf, sizeOf, typeInfo, hi1, h0, hlh]
      · have hlh' : l <= (h.toNat : Int) := by omega
        simp [execOp, ho, hv, hy, hy', Instr.sliceAt, Instr.slice, run_underlying hu, Instr.sliceBounds, Instr.sliceBound, asIntOf, sizeOf, typeInfo, hi1, hh0, hhc, h0]
        intro hlt; exact absurd hlt (by omega)
    · refine RepF.sl _ _ _ _ _ (by omega) R.1 (fun u hu => p2 u (List.mem_of_mem_drop (List.mem_of_mem_take hu))) (fun hne => ?_) R.2
      have hus : us ≠ [] := fun e => hne (by rw [e]; simp)
      obtain ⟨b, off, rfl, L⟩ := p3 hus
      have hcl : ¬ c = l.toNat := fun e => hne (by rw [show h.toNat - l.toNat = 0 by omega]; simp)
      refine ⟨b, off + l.toNat * it.size, by rw [if_neg hcl]; simp [addr_add], L.lt, L.free, fun k hk => ?_⟩
      rw [List.length_take, List.length_drop] at hk
      rw [List.getElem?_take, if_pos (by omega), List.getElem?_drop, Nat.add_assoc, L.at_ _ (by omega)]
structure Summ (P : Program) (G : Nat -> Option FV) (g : Nat) (args : List FV) (r : FV) : Prop where
 enters : Enters P g
 call : ∀ (w : World) (M : Nat -> Prop) (us : List Value), (∀ b, M b -> b < w.heap.size) -> (∀ g cs, G g = some cs -> RepF w M (.pointer (some ⟨g, 0, none⟩)) cs) -> RepL w M us args ->
  Calls P g us.toArray w fun e w' => ∃ v, e = .returned v /\ RepF w' M v r /\ Ext w w'
theorem v_call {o : Oper} {st : St} {f : Operand} {args : Array Operand} {ts : Array TypeId} {g : Nat} {caps xs ys : List FV} {r : FV} (K : Summ C.P C.G g ys r) (ho : o.op = .call { callee := .value f, args := args, argTypes := ts }) (hd : dstB N o.dst = true) (hf : st.ev C f = .f (.fn g caps)) (hxs : st.evL C args.toList = some xs) (hys : xs ++ caps = ys) : ValOp C N o st (.f r) := by
 intro w0 a w st' hA ⟨J, S⟩ K1 Q hK
 have e1 := evF S ((hA.ev f (by simp [ho, Op.operands, Call.operands])).trans hf)
 have R := evL_rep (st := st) S (fun x hx => hA.ev x (by simp [ho, Op.operands, Call.operands]; exact .inr (by simpa using hx))) hxs
 generalize hv : a.eval f = v at e1
 cases e1 with
 | fn _ _ us h1 h2 =>
   subst hys
   have RR := RepL.append R ⟨h1, h2⟩
   have hrun : (execOp a.eval o).run C.P w = .ok (.enter g (args.toList.map a.eval ++ us).toArray) w := by
    have e2 : (args.map a.eval ++ us.toArray) = (args.toList.map a.eval ++ us).toArray := by
     apply Array.ext'; simp
    simp only [execOp, ho, resolve, hv, Deferred.ofValue, Sem.run_bind, Sem.run_pure, Result.andThen_ok, invoke]
    rw [show (#[] : Array Value) ++ args.map a.eval = args.map a.eval by simp, e2]
    exact K.enters _ _
   refine op_enter hrun ?_
   refine Calls.mono (K.call w (Mb C st'.h J) _ (mb_lt S) S.glob RR) ?_
   rintro e w' ⟨v', rfl, hr, he⟩
   exact hK v' w' ⟨J, (S.toExt he).put hd hr⟩
end
section
variable {C : Ctx} {N : Nat}
def yl (st : St) (ops : Array Oper) (j : Nat) : Option Bool := match ops[j]? with
 | some o => match o.dst with
   | some d => match st.s d with
     | .f (.v (.bool b)) => some b
     | _ => none
   | none => none
 | none => none
def yu (st : St) (ops : Array Oper) (j : Nat) : Bool := match ops[j]? with
 | some o => match o.dst with
   | some d => match st.s d with
     | .f (.v (.tuple _)) => true
     | _ => false
   | none => false
 | none => false
def wantB (st : St) (ops : Array Oper) (o : Oper) : Option Bool := match o.guard with
 | none => some true
 | some (j, want) => match yl st ops j with
   | some b => some (b == want)
   | none => bif yu st ops j then some false else none
theorem want_sim {w0 : World} {a : Act} {w : World} {st : St} {ops : Array Oper} {o : Oper} {b : Bool} (S : SimE C w0 N st a w) (h : wantB st ops o = some b) : Region.wanted o (yielded ops a.tmps) = b := by
 obtain ⟨J, S⟩ := S
 unfold wantB at h
 unfold Region.wanted
 cases hg : o.guard with
 | none => simp [hg] at h; subst h; rfl
 | some p =>
   obtain ⟨j, want⟩ := p
   simp only [hg] at h ⊢
   cases hy : yl st ops j with
   | none =>
     simp only [hy] at h
     cases hu : yu st ops j with
     | false => rw [hu] at h; cases h
     | true =>
       rw [hu] at h
       have hb : b = false := (Option.some.inj h).symm
       subst hb
       unfold yu at hu
       cases hj : ops[j]? with
       | none => simp [hj] at hu
       | some oj =>
         simp only [hj] at hu
         cases hdj : oj.dst with
         | none => simp [hdj] at hu
         | some d =>
           simp only [hdj] at hu
           have hs := S.slot d
           split at hu
           · rename_i b2 hb2
             rw [hb2] at hs
             have hr := repV hs
             have e : yielded ops a.tmps j = none := by
              simp only [Array.getD_eq_getD_getElem?] at hr
              cases ht : a.tmps[d]? with
              | none => simp [yielded, hj, hdj, ht]
              | some y =>
                rw [ht] at hr
                have hy2 : y = .tuple b2 := by simpa using hr
                simp [yielded, hj, hdj, ht, hy2]
             rw [e]; rfl
           · cases hu
   | some b' =>
     simp [hy] at h
     unfold yl at hy
     cases hj : ops[j]? with
     | none => simp [hj] at hy
     | some oj =>
       simp only [hj] at hy
       cases hdj : oj.dst with
       | none => simp [hdj] at hy
       | some d =>
         simp only [hdj] at hy
         have hs := S.slot d
         split at hy
         · rename_i b2 hb2
           rw [hb2] at hs
           have := repV hs
           have e : yielded ops a.tmps j = some b' := by
            simp at hy; subst hy
            simp only [Array.getD_eq_getD_getElem?] at this
            have hlt : a.tmps[d]? = some (Value.bool b2) := by
             cases ht : a.tmps[d]? with
             | none => rw [ht] at this; simp [undef] at this
             | some y => rw [ht] at this; simpa using this
            simp [yielded, hj, hdj, hlt]
           rw [e]
           subst h
           cases b' <;> cases want <;> rfl
         · cases hy
def light (o : Oper) : Bool := match o.op with
 | .load .. => true
 | .binOp .. => true
 | .store .. => true
 | .move .. => true
 | .assign .. => true
 | .indexAddr .. => true
 | .fieldAddr .. => true
 | .field .. => true
 | .extract .. => true
 | .pick .. => true
 | .call c => match c.callee with
   | .builtin .len => true
   | .builtin .min => true
   | .builtin .max => true
   | _ => false
 | .unOp .. => true
 | _ => false
def madeB (ops : Array Oper) (o : Oper) : Bool := (List.range ops.size).all fun j => match ops[j]? with
 | some oj => light oj || o.after.toList.any fun e => Region.binds .any e && Nat.beq e.on j
 | none => true
def saidB : Blk -> Bool
 | .box cs => cs.all fun x => match x with
   | .bot => false
   | _ => true
 | _ => true
def StayOp (C : Ctx) (N : Nat) (o : Oper) (st : St) (k : Nat) (B : Blk) : Prop := o.dst = none /\
 ∀ w0 a w st', Agree C o st st' -> st'.h k = some B -> SimE C w0 N st' a w -> ∀ K Q, (∀ v w', SimE C w0 N st' (a.put o.dst v) w' -> K (a.put o.dst v) w') -> o.wpIn (Fence.wr C.ro) 7 C.P a w K Q
inductive One (C : Ctx) (N : Nat) (ops : Array Oper) (pr : Bool) (o : Oper) (st : St) : St -> Prop
 | val (r : AV) : wantB st ops o = some true -> ValOp C N o st r -> One C N ops pr o st (st.put o.dst r)
 | all (r : AV) (B : Blk) : wantB st ops o = some true -> light o = false -> AllOp C N o st r B -> st.h st.nx = none -> One C N ops pr o st { s := (st.put o.dst r).s, h := upd st.h st.nx (some B), nx := st.nx + 1 }
 | skip : wantB st ops o = some false -> dstB N o.dst = true -> One C N ops pr o st (st.put o.dst (.f (.v undef)))
 | stay (k : Nat) (B : Blk) : wantB st ops o = some true -> StayOp C N o st k B -> st.h k = some B -> madeB ops o = true /\ saidB B = true -> One C N ops pr o st st
 | eff (st1 : St) : pr = false -> wantB st ops o = some true -> EffOp C N o st st1 -> One C N ops pr o st st1
def Run (C : Ctx) (N : Nat) (ops : Array Oper) (pr : Bool) (Q : St -> Prop) : List Oper -> St -> Prop
 | [], st => Q st
 | o :: rest, st => ∃ st', One C N ops pr o st st' /\ Run C N ops pr Q rest st'
theorem agree_refl (o : Oper) (st : St) : Agree C o st st := ⟨fun _ _ => rfl, fun _ B h => .inr ⟨B, h, .inl rfl⟩⟩
theorem SimE.nx {w0 : World} {a : Act} {w : World} {s : Nat -> AV} {h : Nat -> Option Blk} {n m : Nat} (S : SimE C w0 N ⟨s, h, n⟩ a w) : SimE C w0 N ⟨s, h, m⟩ a w := by
 obtain ⟨J, S⟩ := S
 exact ⟨J, S.ext, S.size, S.defs, S.slot, S.blk, S.apart, S.old, S.glob, S.fix⟩
theorem SimE.cast {w0 : World} {a : Act} {w : World} {st st' : St} (S : SimE C w0 N st a w) (hs : ∀ t, st'.s t = st.s t) (hh : ∀ k, st'.h k = st.h k) : SimE C w0 N st' a w := by
 have e1 : st'.s = st.s := funext hs
 have e2 : st'.h = st.h := funext hh
 obtain ⟨s, h, n⟩ := st
 obtain ⟨s', h', n'⟩ := st'
 simp only at e1 e2
 subst e1; subst e2
 exact S.nx
theorem put_undef {w0 : World} {a : Act} {w : World} {st : St} (S : SimE C w0 N st a w) {d : Option Tmp} (hd : dstB N d = true) : SimE C w0 N (st.put d (.f (.v undef))) (a.put d undef) w := by
 obtain ⟨J, S⟩ := S
 exact ⟨J, S.put hd (RepF.v undef)⟩
theorem One.wp {ops : Array Oper} {pr : Bool} {o : Oper} {st st' : St} (h : One C N ops pr o st st') {w0 : World} {a : Act} {w : World} (S : SimE C w0 N st a w) {K : Act -> World -> Prop} {Q : Exit -> Act -> World -> Prop} (hK : ∀ a' w', SimE C w0 N st' a' w' -> K a' w') :
 if Region.wanted o (yielded ops a.tmps) then o.wpIn (Fence.wr C.ro) 7 C.P a w K Q else K (a.put o.dst undef) w := by
 cases h with
 | val r hw hv => rw [want_sim S hw, if_pos rfl]; exact hv w0 a w st (agree_refl o st) S K Q (fun v w' h => hK _ _ h)
 | all r B hw _ hv hn => rw [want_sim S hw, if_pos rfl]; exact hv w0 a w st (agree_refl o st) hn S K Q (fun v w' h => hK _ _ h.nx)
 | skip hw hd => rw [want_sim S hw]; simp only [Bool.false_eq_true, if_false]; exact hK _ _ (put_undef S hd)
 | stay k B hw hv hk _ => rw [want_sim S hw, if_pos rfl]; exact hv.2 w0 a w st (agree_refl o st) hk S K Q (fun v w' h => hK _ _ h)
 | eff st1 _ hw hv => rw [want_sim S hw, if_pos rfl]; exact hv w0 a w S K Q (fun v w' h => hK _ _ h)
theorem both_in {p : Prop} [Decidable p] {X Y Z : Prop} (hz : Z) (h : if p then X else Y) : if p then X else Z /\ Y := by
 split
 · rename_i hp; rwa [if_pos hp] at h
 · rename_i hp; rw [if_neg hp] at h; exact ⟨hz, h⟩
theorem Run.wpList {ops : Array Oper} {pr : Bool} {Q : St -> Prop} {w0 : World} {Qc : Exit -> Act -> World -> Prop} : ∀ {l : List Oper} {st : St} {a : Act} {w : World}, Run C N ops pr Q l st -> SimE C w0 N st a w ->
 (∀ st' a' w', Q st' -> SimE C w0 N st' a' w' -> Qc .normal a' w') -> Go.wpListIn (Fence.wr C.ro) 7 C.P ops Qc l a w
 | [], st, a, w, h, S, hq => hq st a w h S
 | _o :: _rest, _st, _a, _w, ⟨_st', h1, h2⟩, S, hq => wpListIn_step fun _K hK => both_in (fun _ _ => trivial) (h1.wp S (fun a' w' S' => hK a' w' (Run.wpList h2 S' hq)))
theorem Run.states {ops : Array Oper} {pr : Bool} {Q : St -> Prop} : ∀ {l : List Oper} {st : St}, Run C N ops pr Q l st -> ∃ sts : Nat -> St, sts 0 = st /\ (∀ i o, l[i]? = some o -> One C N ops pr o (sts i) (sts (i + 1))) /\ Q (sts l.length)
 | [], st, h => ⟨fun _ => st, rfl, fun i o h => by simp at h, h⟩
 | o :: rest, st, ⟨st', h1, h2⟩ => by
   obtain ⟨sts, e0, h3, h4⟩ := Run.states h2
   refine ⟨fun i => match i with | 0 => st | i + 1 => sts i, rfl, fun i o' hi => ?_, h4⟩
   cases i with
   | zero => simp at hi; subst hi; rw [<- e0] at h1; exact h1
   | succ i => exact h3 i o' (by simpa using hi)
def bitsB (l : List Oper) (bf : Nat -> Nat) : Bool := (List.range l.length).all fun j => match l[j]? with
 | some o => (List.range j).all fun i => !(bf j).testBit i || o.after.toList.any fun e => Region.binds .any e && (Nat.beq e.on i || (Nat.blt i e.on && (bf e.on).testBit i))
 | none => true
def apartB (l : List Oper) (bf : Nat -> Nat) (n0 : Nat) : Bool := (List.range n0).all fun j => (List.range j).all fun i => (bf j).testBit i || match l[i]?, l[j]? with
 | some oi, some oj => oi.apart l.toArray oj
 | _, _ => true
def tailB (l : List Oper) (bf : Nat -> Nat) (n0 : Nat) : Bool := (List.range l.length).all fun j => Nat.blt j n0 || (List.range j).all fun i => (bf j).testBit i
def bitsOf (l : List Oper) : Nat -> Nat := fun j => (Region.before l.toArray).getD j 0
def okReg (l : List Oper) (n0 : Nat) : Bool := Region.upB l.toArray && bitsB l (bitsOf l) && apartB l (bitsOf l) n0 && tailB l (bitsOf l) n0 && Nat.ble n0 l.length
theorem bits_done {l : List Oper} {bf : Nat -> Nat} (hb : bitsB l bf = true) (hup : Region.upB l.toArray = true) {s : Nat -> Bool} (hdc : ∀ i o, l[i]? = some o -> s i = true -> ∀ e ∈ o.after, Region.binds .any e = true -> s e.on = true) :
 ∀ (j : Nat) (o : Oper), l[j]? = some o -> (∀ e ∈ o.after, Region.binds .any e = true -> s e.on = true) -> ∀ i, i < j -> (bf j).testBit i = true -> s i = true := by
 intro j
 induction j using Nat.strongRecOn with
 | _ j ih =>
   intro o ho hall i hij hbit
   have hj : j < l.length := (List.getElem?_eq_some_iff.1 ho).1
   have h1 := List.all_eq_true.1 hb j (List.mem_range.2 hj)
   rw [ho] at h1
   have h2 := List.all_eq_true.1 h1 i (List.mem_range.2 hij)
   rw [hbit] at h2
   simp only [Bool.not_true, Bool.false_or, List.any_eq_true, Bool.and_eq_true, Bool.or_eq_true] at h2
   obtain ⟨e, he, hbe, h3⟩ := h2
   have he' : e ∈ o.after := by simpa using he
   have hs := hall e he' hbe
   have hlt := Region.upB_spec hup (i := j) (o := o) (by simpa using ho) e he' hbe
   rcases h3 with h3 | h3
   · rw [<- Nat.eq_of_beq_eq_true h3]; exact hs
   · have hel : e.on < l.length := by omega
     exact ih e.on hlt l[e.on] (List.getElem?_eq_getElem hel) (hdc e.on l[e.on] (List.getElem?_eq_getElem hel) hs) i (Nat.le_of_ble_eq_true h3.1) h3.2
def slotS (l : List Oper) (sts : Nat -> St) (s : Nat -> Bool) : Nat -> Nat -> AV
 | 0, t => (sts 0).s t
 | m + 1, t => if s m = true /\ (l[m]?).bind (·.dst) = some t then (sts (m + 1)).s t else slotS l sts s m t
def heapS (sts : Nat -> St) (s : Nat -> Bool) : Nat -> Nat -> Option Blk
 | 0, k => (sts 0).h k
 | m + 1, k => if s m = true /\ (sts m).nx < (sts (m + 1)).nx /\ k = (sts m).nx then (sts (m + 1)).h k else heapS sts s m k
theorem One.slot {ops : Array Oper} {o : Oper} {st st' : St} (h : One C N ops true o st st') : (∀ t, o.dst ≠ some t -> st'.s t = st.s t) /\ ((st'.nx = st.nx /\ st'.h = st.h) \/ (st'.nx = st.nx + 1 /\ st.h st.nx = none /\ ∃ B, st'.h = upd st.h st.nx (some B))) := by
 have hp : ∀ (r : AV) (t : Nat), o.dst ≠ some t -> (st.put o.dst r).s t = st.s t := fun r t ht => by
  cases hd : o.dst with
  | none => rfl
  | some d => simp only [St.put]; rw [upd_other]; intro e; subst e; exact ht hd
 have hh : ∀ r : AV, (st.put o.dst r).h = st.h /\ (st.put o.dst r).nx = st.nx := fun r => by cases o.dst <;> exact ⟨rfl, rfl⟩
 cases h with
 | val r _ _ => exact ⟨hp r, .inl ⟨(hh r).2, (hh r).1⟩⟩
 | all r B _ _ _ hn => exact ⟨hp r, .inr ⟨rfl, hn, B, rfl⟩⟩
 | skip _ _ => exact ⟨hp _, .inl ⟨(hh _).2, (hh _).1⟩⟩
 | stay _ _ _ _ _ _ => exact ⟨fun _ _ => rfl, .inl ⟨rfl, rfl⟩⟩
 | eff _ h0 => cases h0
theorem One.heavy {ops : Array Oper} {o : Oper} {st st' : St} (h : One C N ops true o st st') (hx : st.nx < st'.nx) : light o = false := by
 have hh : ∀ r : AV, (st.put o.dst r).nx = st.nx := fun r => by cases o.dst <;> rfl
 cases h with
 | val r _ _ => rw [hh r] at hx; omega
 | all r B _ hl _ _ => exact hl
 | skip _ _ => rw [hh] at hx; omega
 | stay _ _ _ _ _ _ => omega
 | eff _ h0 => cases h0
def Stp (C : Ctx) (N : Nat) (ops : Array Oper) (o : Oper) (st st' : St) : Prop := One C N ops true o st st' \/ st' = st
theorem Stp.slot {ops : Array Oper} {o : Oper} {st st' : St} (h : Stp C N ops o st st') : (∀ t, o.dst ≠ some t -> st'.s t = st.s t) /\ ((st'.nx = st.nx /\ st'.h = st.h) \/ (st'.nx = st.nx + 1 /\ st.h st.nx = none /\ ∃ B, st'.h = upd st.h st.nx (some B))) := by
 rcases h with h | rfl
 · exact h.slot
 · exact ⟨fun _ _ => rfl, .inl ⟨rfl, rfl⟩⟩
theorem Stp.heavy {ops : Array Oper} {o : Oper} {st st' : St} (h : Stp C N ops o st st') (hx : st.nx < st'.nx) : light o = false := by
 rcases h with h | rfl
 · exact h.heavy hx
 · omega
structure Chain (C : Ctx) (N : Nat) (l : List Oper) (n0 : Nat) (sts : Nat -> St) : Prop where
 pre : ∀ i o, i < n0 -> l[i]? = some o -> Stp C N l.toArray o (sts i) (sts (i + 1))
 le : n0 <= l.length
variable {l : List Oper} {n0 : Nat} {sts : Nat -> St}
theorem Chain.one (h : Chain C N l n0 sts) {i : Nat} (hi : i < n0) : ∃ o, l[i]? = some o /\ Stp C N l.toArray o (sts i) (sts (i + 1)) := by
 have hl : i < l.length := Nat.lt_of_lt_of_le hi h.le
 exact ⟨l[i], List.getElem?_eq_getElem hl, h.pre i _ hi (List.getElem?_eq_getElem hl)⟩
theorem Chain.nx_mono (h : Chain C N l n0 sts) {i : Nat} : ∀ {j : Nat}, i <= j -> j <= n0 -> (sts i).nx <= (sts j).nx := by
 intro j hij
 induction hij with
 | refl => intro _; exact Nat.le_refl _
 | @step m _ ih =>
   intro hj
   obtain ⟨o, _, h1⟩ := h.one (i := m) hj
   have := ih (by omega)
   show (sts i).nx <= (sts (m + 1)).nx
   rcases h1.slot.2 with h2 | h2 <;> omega
theorem Chain.h_mono (h : Chain C N l n0 sts) {i : Nat} {k : Nat} {B : Blk} (hB : (sts i).h k = some B) : ∀ {j : Nat}, i <= j -> j <= n0 -> (sts j).h k = some B := by
 intro j hij
 induction hij with
 | refl => intro _; exact hB
 | step _ ih =>
   intro hj
   obtain ⟨o, _, h1⟩ := h.one (i := _) hj
   have h0 := ih (by omega)
   rcases h1.slot.2 with ⟨_, e⟩ | ⟨_, hn, B', e⟩
   · rw [e]; exact h0
   · rw [e, upd_other]
     · exact h0
     · intro ek; subst ek; rw [hn] at h0; cases h0
theorem Chain.slot_eq (h : Chain C N l n0 sts) {s : Nat -> Bool} {t : Nat} {i : Nat} (hpre : ∀ m, m < i -> (l[m]?).bind (·.dst) = some t -> s m = true) : ∀ m, m <= i -> m <= n0 -> slotS l sts s m t = (sts m).s t
 | 0, _, _ => rfl
 | m + 1, hm, hn => by
   obtain ⟨o, ho, h1⟩ := h.one (i := m) hn
   unfold slotS
   split
   · rfl
   · rename_i hc
     rw [Chain.slot_eq h hpre m (by omega) (by omega)]
     refine (h1.slot.1 t (fun e => hc ⟨hpre m (by omega) (by rw [ho]; exact e), by rw [ho]; exact e⟩)).symm
theorem slot_more {s : Nat -> Bool} {t i n : Nat} (hno : ∀ m, i <= m -> m < n -> s m = true -> (l[m]?).bind (·.dst) ≠ some t) (hin : i <= n) : slotS l sts s n t = slotS l sts s i t := by
 induction n with
 | zero => rw [show i = 0 by omega]
 | succ m ih =>
   by_cases e : i = m + 1
   · rw [e]
   rw [show slotS l sts s (m + 1) t = if s m = true /\ (l[m]?).bind (·.dst) = some t then (sts (m + 1)).s t else slotS l sts s m t from rfl, if_neg (fun hc => hno m (by omega) (by omega) hc.1 hc.2)]
   exact ih (fun k h1 h2 => hno k h1 (by omega)) (by omega)
theorem slot_congr {s s' : Nat -> Bool} {t : Nat} : ∀ m, (∀ k, k < m -> (l[k]?).bind (·.dst) = some t -> s k = s' k) -> slotS l sts s m t = slotS l sts s' m t
 | 0, _ => rfl
 | m + 1, h => by
   unfold slotS
   rw [slot_congr m (fun k hk => h k (by omega))]
   by_cases e : (l[m]?).bind (·.dst) = some t
   · rw [h m (by omega) e]
   · rw [if_neg (fun hc => e hc.2), if_neg (fun hc => e hc.2)]
theorem heap_congr {s s' : Nat -> Bool} {k : Nat} : ∀ m, (∀ j, j < m -> (sts j).nx < (sts (j + 1)).nx -> k = (sts j).nx -> s j = s' j) -> heapS sts s m k = heapS sts s' m k
 | 0, _ => rfl
 | m + 1, h => by
   unfold heapS
   rw [heap_congr m (fun j hj => h j (by omega))]
   by_cases e : (sts m).nx < (sts (m + 1)).nx /\ k = (sts m).nx
   · rw [h m (by omega) e.1 e.2]
   · rw [if_neg (fun hc => e hc.2), if_neg (fun hc => e hc.2)]
theorem Chain.heap_agree (h : Chain C N l n0 sts) {s : Nat -> Bool} {i k : Nat} (hi : i < n0) (hs : s i = false) (hk : ((sts i).h k).isSome = true) : ∀ m, m <= n0 -> heapS sts s m k = (sts i).h k \/ heapS sts s m k = none
 | 0, _ => by
   cases h0 : (sts 0).h k with
   | none => exact .inr h0
   | some B => exact .inl (by unfold heapS; rw [h0, h.h_mono h0 (Nat.zero_le i) (by omega)])
 | m + 1, hm => by
   unfold heapS
   split
   · rename_i hc
     obtain ⟨hsm, hlt, rfl⟩ := hc
     obtain ⟨o, _, h1⟩ := h.one (i := m) hm
     rcases h1.slot.2 with ⟨e, _⟩ | ⟨_, hn, B, e⟩
     · omega
     · by_cases hmi : m < i
       · left
         have hB : (sts (m + 1)).h (sts m).nx = some B := by rw [e, upd_same]
         rw [hB, h.h_mono hB hmi (by omega)]
       · exfalso
         have hmi' : i <= m := by omega
         obtain ⟨B', hB'⟩ := Option.isSome_iff_exists.1 hk
         have := h.h_mono hB' hmi' (by omega)
         rw [hn] at this; cases this
   · exact Chain.heap_agree h hi hs hk m (by omega)
theorem Chain.heap_free (h : Chain C N l n0 sts) {s : Nat -> Bool} {i : Nat} (hi : i < n0) (hs : s i = false) (hnew : (sts i).nx < (sts (i + 1)).nx) (hn : (sts i).h (sts i).nx = none) : ∀ m, m <= n0 -> heapS sts s m (sts i).nx = none
 | 0, _ => by
   cases h0 : (sts 0).h (sts i).nx with
   | none => exact h0
   | some B => have := h.h_mono h0 (Nat.zero_le i) (by omega); rw [hn] at this; cases this
 | m + 1, hm => by
   unfold heapS
   rw [if_neg]
   · exact Chain.heap_free h hi hs hnew hn m (by omega)
   · rintro ⟨hsm, hlt, e⟩
     by_cases h1 : m < i
     · have := h.nx_mono (i := m + 1) (j := i) h1 (by omega); omega
     · by_cases h2 : m = i
       · subst h2; rw [hs] at hsm; cases hsm
       · have := h.nx_mono (i := i + 1) (j := m) (by omega) (by omega); omega
theorem Chain.heap_at (h : Chain C N l n0 sts) {s : Nat -> Bool} {i : Nat} (_hi : i < n0) (hs : s i = true) (hnew : (sts i).nx < (sts (i + 1)).nx) : ∀ m, i < m -> m <= n0 -> heapS sts s m (sts i).nx = (sts (i + 1)).h (sts i).nx := by
 intro m hm
 induction hm with
 | refl =>
   intro _
   show heapS sts s (i + 1) _ = _
   unfold heapS; rw [if_pos ⟨hs, hnew, rfl⟩]
 | step hm ih =>
   intro hn
   rename_i m
   show heapS sts s (m + 1) _ = _
   unfold heapS
   rw [if_neg]
   · exact ih (by omega)
   · rintro ⟨_, hlt, e⟩
     have := h.nx_mono (i := i + 1) (j := m) hm (by omega); omega
theorem Chain.heap_full (h : Chain C N l n0 sts) {s : Nat -> Bool} {k : Nat} (hall : ∀ i, i < n0 -> s i = true) : ∀ m, m <= n0 -> heapS sts s m k = (sts m).h k
 | 0, _ => rfl
 | m + 1, hm => by
   obtain ⟨o, _, h1⟩ := h.one (i := m) hm
   unfold heapS
   split
   · rfl
   · rename_i hc
     rw [Chain.heap_full h hall m (by omega)]
     rcases h1.slot.2 with ⟨_, e⟩ | ⟨hx, hn, B, e⟩
     · rw [e]
     · rw [e, upd_other]; intro ek; exact hc ⟨hall m hm, by omega, ek⟩
theorem Chain.heap_here (h : Chain C N l n0 sts) {s : Nat -> Bool} {k : Nat} : ∀ m, m <= n0 -> (∀ j, j < m -> (sts j).nx < (sts (j + 1)).nx -> s j = true) -> heapS sts s m k = (sts m).h k
 | 0, _, _ => rfl
 | m + 1, hm, ha => by
   obtain ⟨o, _, h1⟩ := h.one (i := m) hm
   unfold heapS
   split
   · rfl
   · rename_i hc
     rw [Chain.heap_here h m (by omega) (fun j hj => ha j (by omega))]
     rcases h1.slot.2 with ⟨_, e⟩ | ⟨hx, hn, B, e⟩
     · rw [e]
     · rw [e, upd_other]; intro ek; exact hc ⟨ha m (by omega) (by omega), by omega, ek⟩
theorem Chain.made (h : Chain C N l n0 sts) {s : Nat -> Bool} {o : Oper} (hm : madeB l.toArray o = true) (hedge : ∀ e ∈ o.after, Region.binds .any e = true -> s e.on = true) {j : Nat} (hj : j < n0) (hx : (sts j).nx < (sts (j + 1)).nx) : s j = true := by
 obtain ⟨oj, hoj, h1⟩ := h.one (i := j) hj
 have hl := h1.heavy hx
 have h2 := List.all_eq_true.1 hm j (List.mem_range.2 (by simpa using (List.getElem?_eq_some_iff.1 hoj).1))
 have e : l.toArray[j]? = some oj := by simpa using hoj
 rw [e] at h2
 simp only [hl, Bool.false_or, List.any_eq_true, Bool.and_eq_true] at h2
 obtain ⟨e, he, hb, hq⟩ := h2
 rw [<- Nat.eq_of_beq_eq_true hq]
 exact hedge e (by simpa using he) hb
def ovr (ov h : Nat -> Option Blk) (k : Nat) : Option Blk := match ov k with
 | some B => some B
 | none => h k
theorem ovr_none {ov h : Nat -> Option Blk} {k : Nat} (e : ov k = none) : ovr ov h k = h k := by unfold ovr; rw [e]
theorem ovr_some {ov h : Nat -> Option Blk} {k : Nat} {B : Blk} (e : ov k = some B) : ovr ov h k = some B := by unfold ovr; rw [e]
theorem Chain.read (h : Chain C N l n0 sts) {bf : Nat -> Nat} (hb : bitsB l bf = true) (hup : Region.upB l.toArray = true) {nA : Nat} (hA : n0 <= nA) (hap : apartB l bf nA = true) {s : Nat -> Bool}
 (hdc : ∀ i o, l[i]? = some o -> s i = true -> ∀ e ∈ o.after, Region.binds .any e = true -> s e.on = true) {i : Nat} {o : Oper} (hi : i < n0) (ho : l[i]? = some o) (hs : s i = false)
 (hedge : ∀ e ∈ o.after, Region.binds .any e = true -> s e.on = true) : (∀ m om, m < n0 -> l[m]? = some om -> i < m -> o.apart l.toArray om = false -> s m = false) /\ ∀ t, t ∈ o.looksAt l.toArray -> slotS l sts s n0 t = (sts i).s t := by
 have conf : ∀ m om, m < n0 -> l[m]? = some om -> m < i -> om.apart l.toArray o = false -> s m = true := fun m om hm hom hmi hc => by
  have h1 := List.all_eq_true.1 hap i (List.mem_range.2 (Nat.lt_of_lt_of_le hi hA))
  have h2 := List.all_eq_true.1 h1 m (List.mem_range.2 hmi)
  rw [hom, ho] at h2
  simp only [hc, Bool.or_false] at h2
  exact bits_done hb hup hdc i o ho hedge m hmi h2
 have conf2 : ∀ m om, m < n0 -> l[m]? = some om -> i < m -> o.apart l.toArray om = false -> s m = false := fun m om hm hom hmi hc => by
  cases hsm : s m with
  | false => rfl
  | true =>
    have h1 := List.all_eq_true.1 hap m (List.mem_range.2 (Nat.lt_of_lt_of_le hm hA))
    have h2 := List.all_eq_true.1 h1 i (List.mem_range.2 hmi)
    rw [hom, ho] at h2
    simp only [hc, Bool.or_false] at h2
    have := bits_done hb hup hdc m om hom (hdc m om hom hsm) i hmi h2
    rw [hs] at this; cases this
 refine ⟨conf2, fun t ht => ?_⟩
 have rd : slotS l sts s n0 t = (sts i).s t := by
  have e1 : slotS l sts s i t = (sts i).s t := h.slot_eq (i := i) (fun m hm hd => by
   have hml : m < l.length := Nat.lt_of_lt_of_le (Nat.lt_trans hm hi) h.le
   have hom := List.getElem?_eq_getElem hml
   rw [hom] at hd
   refine conf m _ (Nat.lt_trans hm hi) hom hm ?_
   cases hc : (l[m]).apart l.toArray o with
   | false => rfl
   | true => exact absurd ht ((Oper.apart_spec hc).1 t hd)) i (Nat.le_refl _) (Nat.le_of_lt hi)
  rw [<- e1]
  refine slot_more (fun m hm hmn hsm hd => ?_) (Nat.le_of_lt hi)
  by_cases hmi : m = i
  · subst hmi; rw [hs] at hsm; cases hsm
  · have hml : m < l.length := Nat.lt_of_lt_of_le hmn h.le
    have hom := List.getElem?_eq_getElem hml
    rw [hom] at hd
    have := conf2 m _ hmn hom (by omega) (by
     cases hc : o.apart l.toArray l[m] with
     | false => rfl
     | true => exact absurd ht ((Oper.apart_spec hc).2.2 t hd))
    rw [this] at hsm; cases hsm
 exact rd
theorem Chain.step (h : Chain C N l n0 sts) {bf : Nat -> Nat} (hb : bitsB l bf = true) (hup : Region.upB l.toArray = true) {nA : Nat} (hA : n0 <= nA) (hap : apartB l bf nA = true) {s : Nat -> Bool}
 {ov : Nat -> Option Blk} (hov : ∀ k B', ov k = some B' -> (∃ B0, (sts n0).h k = some B0 /\ saidB B0 = false /\ More B0 B') /\ ∀ j, j < n0 -> (sts j).nx < (sts (j + 1)).nx -> s j = true)
 (hdc : ∀ i o, l[i]? = some o -> s i = true -> ∀ e ∈ o.after, Region.binds .any e = true -> s e.on = true) {i : Nat} {o : Oper} (hi : i < n0) (ho : l[i]? = some o) (hs : s i = false)
 (hedge : ∀ e ∈ o.after, Region.binds .any e = true -> s e.on = true) {w0 : World} {a : Act} {w : World} (S : SimE C w0 N ⟨slotS l sts s n0, ovr ov (heapS sts s n0), 0⟩ a w) {K : Act -> World -> Prop} {Q : Exit -> Act -> World -> Prop} (h1 : One C N l.toArray true o (sts i) (sts (i + 1)))
 (hK : ∀ a' w', SimE C w0 N ⟨slotS l sts (fun j => decide (j = i) || s j) n0, ovr ov (heapS sts (fun j => decide (j = i) || s j) n0), 0⟩ a' w' -> K a' w') :
 if Region.wanted o (yielded l.toArray a.tmps) then o.wpIn (Fence.wr C.ro) 7 C.P a w K Q else K (a.put o.dst undef) w := by
 obtain ⟨conf2, read⟩ := h.read hb hup hA hap hdc hi ho hs hedge
 have others : ∀ t, o.dst ≠ some t -> slotS l sts (fun j => decide (j = i) || s j) n0 t = slotS l sts s n0 t := fun t ht => slot_congr n0 (fun k hk hd => by
  by_cases e : k = i
  · subst e; rw [ho] at hd; exact absurd hd ht
  · simp [e])
 have own : ∀ t, o.dst = some t -> slotS l sts (fun j => decide (j = i) || s j) n0 t = (sts (i + 1)).s t := fun t ht => by
  have e1 : slotS l sts (fun j => decide (j = i) || s j) (i + 1) t = (sts (i + 1)).s t := by
   rw [show slotS l sts (fun j => decide (j = i) || s j) (i + 1) t = if (decide (i = i) || s i) = true /\ (l[i]?).bind (·.dst) = some t then (sts (i + 1)).s t else slotS l sts (fun j => decide (j = i) || s j) i t from rfl]
   rw [if_pos ⟨by simp, by rw [ho]; exact ht⟩]
  rw [<- e1]
  refine slot_more (fun m hm hmn hsm hd => ?_) hi
  have hmi : ¬ m = i := by omega
  have hsm' : s m = true := by simpa [hmi] using hsm
  have hml : m < l.length := Nat.lt_of_lt_of_le hmn h.le
  have hom := List.getElem?_eq_getElem hml
  rw [hom] at hd
  have := conf2 m _ hmn hom (by omega) (by
   cases hc : o.apart l.toArray l[m] with
   | false => rfl
   | true => exact absurd hd ((Oper.apart_spec hc).2.1 t ht))
  rw [this] at hsm'; cases hsm'
 have oth : ∀ (r : AV), (sts (i + 1)).s = ((sts i).put o.dst r).s -> ∀ t, slotS l sts (fun j => decide (j = i) || s j) n0 t = ((St.mk (slotS l sts s n0) (ovr ov (heapS sts s n0)) 0).put o.dst r).s t := fun r hr t => by
  by_cases hd : o.dst = some t
  · rw [own t hd, hr, hd]; simp only [St.put, upd_same]
  · rw [others t hd]
    cases hdd : o.dst with
    | none => rfl
    | some d => simp only [St.put]; rw [upd_other]; intro e; subst e; exact hd hdd
 have wnt : ∀ b, wantB (sts i) l.toArray o = some b -> wantB ⟨slotS l sts s n0, ovr ov (heapS sts s n0), 0⟩ l.toArray o = some b := fun b hw => by
  unfold wantB at hw ⊢
  cases hg : o.guard with
  | none => simpa [hg] using hw
  | some p =>
    obtain ⟨j, want⟩ := p
    simp only [hg] at hw ⊢
    have e : yl ⟨slotS l sts s n0, ovr ov (heapS sts s n0), 0⟩ l.toArray j = yl (sts i) l.toArray j := by
     unfold yl
     cases hj : l.toArray[j]? with
     | none => rfl
     | some oj =>
       simp only
       cases hdj : oj.dst with
       | none => rfl
       | some d =>
         simp only
         rw [read d (by unfold Oper.looksAt; simp [hg, hj, hdj])]
    have e2 : yu ⟨slotS l sts s n0, ovr ov (heapS sts s n0), 0⟩ l.toArray j = yu (sts i) l.toArray j := by
     unfold yu
     cases hj : l.toArray[j]? with
     | none => rfl
     | some oj =>
       simp only
       cases hdj : oj.dst with
       | none => rfl
       | some d =>
         simp only
         rw [read d (by unfold Oper.looksAt; simp [hg, hj, hdj])]
    rw [e, e2]; exact hw
 have agr : Agree C o (sts i) ⟨slotS l sts s n0, ovr ov (heapS sts s n0), 0⟩ := ⟨fun x hx => by
  cases x with
  | tmp t => exact read t (by unfold Oper.looksAt; simp only [List.mem_append, List.mem_filterMap]; exact .inl ⟨.tmp t, hx, rfl⟩)
  | _ => rfl, fun k B hB => by
    cases ho : ov k with
    | some B' =>
      obtain ⟨⟨B0, q1, q2, q3⟩, _⟩ := hov k B' ho
      rw [h.h_mono hB (Nat.le_of_lt hi) (Nat.le_refl _)] at q1
      cases q1
      exact .inr ⟨B', ovr_some ho, q3⟩
    | none =>
      show ovr ov (heapS sts s n0) k = none \/ ∃ B', ovr ov (heapS sts s n0) k = some B' /\ More B B'
      rw [ovr_none ho]
      rcases h.heap_agree hi hs (by rw [hB]; rfl) n0 (Nat.le_refl _) with e | e
      · exact .inr ⟨B, e.trans hB, .inl rfl⟩
      · exact .inl e⟩
 have hsame : ∀ k, ((sts (i + 1)).nx = (sts i).nx) -> ovr ov (heapS sts (fun j => decide (j = i) || s j) n0) k = ovr ov (heapS sts s n0) k := fun k hx => by
  unfold ovr
  rw [heap_congr (s := fun j => decide (j = i) || s j) (s' := s) (k := k) n0 (fun j hj hlt hk => by
   by_cases e : j = i
   · subst e; omega
   · simp [e])]
 generalize hst : sts (i + 1) = st' at h1
 cases h1 with
 | val r hw hv =>
   rw [want_sim S (wnt _ hw), if_pos rfl]
   refine hv w0 a w _ agr S K Q (fun v w' h' => hK _ _ (h'.cast (oth r (by rw [hst])) (fun k => ?_)))
   exact (hsame k (by rw [hst]; cases o.dst <;> rfl)).trans (by cases o.dst <;> rfl)
 | skip hw hd =>
   rw [want_sim S (wnt _ hw)]
   simp only [Bool.false_eq_true, if_false]
   refine hK _ _ ((put_undef S hd).cast (oth (.f (.v undef)) (by rw [hst])) (fun k => ?_))
   exact (hsame k (by rw [hst]; cases o.dst <;> rfl)).trans (by cases o.dst <;> rfl)
 | stay k B hw hv hk hm =>
   rw [want_sim S (wnt _ hw), if_pos rfl]
   have hk2 := h.h_mono hk (Nat.le_of_lt hi) (Nat.le_refl _)
   have hh : ovr ov (heapS sts s n0) k = some B := by
    rw [ovr_none]
    · rw [h.heap_here n0 (Nat.le_refl _) (fun j hj hx => h.made hm.1 hedge hj hx)]
      exact hk2
    · cases ho : ov k with
      | none => rfl
      | some B' =>
        obtain ⟨⟨B0, q1, q2, q3⟩, _⟩ := hov k B' ho
        rw [hk2] at q1; cases q1
        rw [hm.2] at q2; cases q2
   exact hv.2 w0 a w _ agr hh S K Q (fun v w' h' => hK _ _ (h'.cast (fun t => others t (by rw [hv.1]; intro e; cases e)) (fun k => hsame k (by rw [hst]))))
 | all r B hw _ hv hn =>
   have hnew : (sts i).nx < (sts (i + 1)).nx := by rw [hst]; simp
   rw [want_sim S (wnt _ hw), if_pos rfl]
   have hno : ∀ k, ov k = none := fun k => by
    cases ho : ov k with
    | none => rfl
    | some B' => have := (hov k B' ho).2 i hi hnew; rw [hs] at this; cases this
   have hov2 : ∀ hh : Nat -> Option Blk, ovr ov hh = hh := fun hh => funext fun k => ovr_none (hno k)
   rw [hov2] at agr S
   simp only [hov2] at hK oth
   refine hv w0 a w _ agr (h.heap_free hi hs hnew hn n0 (Nat.le_refl _)) S K Q (fun v w' h' => hK _ _ (h'.cast (oth r (by rw [hst])) (fun k => ?_)))
   show heapS sts (fun j => decide (j = i) || s j) n0 k = upd (heapS sts s n0) (sts i).nx (some B) k
   by_cases ek : k = (sts i).nx
   · subst ek
     rw [upd_same, h.heap_at hi (s := fun j => decide (j = i) || s j) (by simp) hnew n0 hi (Nat.le_refl _), hst]
     exact upd_same _ _ _
   · rw [upd_other _ _ ek]
     refine heap_congr n0 (fun j hj hlt hk => ?_)
     by_cases e : j = i
     · subst e; exact absurd hk ek
     · simp [e]
 | eff _ h0 => cases h0
theorem draw_sound {id : Nat} {Q : St -> Prop} {st : St} {Qc : Exit -> Act -> World -> Prop} (hm : C.P.follows .mixedOrders = true) (hok : okReg l n0 = true) (hrun : Run C N l.toArray true (fun st' => Run C N l.toArray false Q (l.drop n0) st') (l.take n0) st)
 {w0 : World} {a : Act} {w : World} (S : SimE C w0 N st a w) (hq : ∀ st' a' w', Q st' -> SimE C w0 N st' a' w' -> Qc .normal a' w') : (Code.region id l.toArray true).wpIn (Fence.wr C.ro) 7 C.P Qc a w := by
 simp only [okReg, Bool.and_eq_true] at hok
 obtain ⟨⟨⟨⟨hup, hb⟩, hap⟩, htl⟩, hle⟩ := hok
 have hle' : n0 <= l.length := Nat.le_of_ble_eq_true hle
 obtain ⟨s1, e1, r1, q1⟩ := hrun.states
 obtain ⟨s2, e2, r2, q2⟩ := q1.states
 have htk : (l.take n0).length = n0 := by simp; omega
 rw [htk] at e2
 obtain ⟨sts, hsts⟩ : ∃ sts : Nat -> St, sts = fun i => if i <= n0 then s1 i else s2 (i - n0) := ⟨_, rfl⟩
 have a1 : ∀ i, i <= n0 -> sts i = s1 i := fun i hi => by rw [hsts]; simp [hi]
 have a2 : ∀ i, n0 <= i -> sts i = s2 (i - n0) := fun i hi => by
  by_cases e : i = n0
  · subst e; rw [a1 i (Nat.le_refl _), <- e2]; simp
  · rw [hsts]; simp [show ¬ i <= n0 by omega]
 have one : ∀ i o, i < n0 -> l[i]? = some o -> One C N l.toArray true o (sts i) (sts (i + 1)) := fun i o hi ho => by
  rw [a1 i (by omega), a1 (i + 1) hi]
  exact r1 i o (by rw [List.getElem?_take, if_pos hi]; exact ho)
 have ch : Chain C N l n0 sts := ⟨fun i o hi ho => .inl (one i o hi ho), hle'⟩
 have post : ∀ i o, n0 <= i -> l[i]? = some o -> One C N l.toArray false o (sts i) (sts (i + 1)) := fun i o hi ho => by
  rw [a2 i hi, a2 (i + 1) (by omega), show i + 1 - n0 = (i - n0) + 1 by omega]
  exact r2 (i - n0) o (by rw [List.getElem?_drop, show n0 + (i - n0) = i by omega]; exact ho)
 have hend : Q (sts l.length) := by
  rw [a2 _ hle']; simpa using q2
 have tail : ∀ {s : Nat -> Bool}, (∀ i o, l[i]? = some o -> s i = true -> ∀ e ∈ o.after, Region.binds .any e = true -> s e.on = true) -> ∀ (i : Nat) (o : Oper), n0 <= i -> l[i]? = some o -> (∀ e ∈ o.after, Region.binds .any e = true -> s e.on = true) -> ∀ j, j < i -> s j = true := fun hdc i o hi ho he j hj => by
  have h1 := List.all_eq_true.1 htl i (List.mem_range.2 (List.getElem?_eq_some_iff.1 ho).1)
  have : Nat.blt i n0 = false := by cases e : Nat.blt i n0; rfl; have := Nat.le_of_ble_eq_true e; omega
  rw [this, Bool.false_or] at h1
  exact bits_done hb hup hdc i o ho he j hj (List.all_eq_true.1 h1 j (List.mem_range.2 hj))
 refine wpIn_region_inv hm hup (fun s a w => (∀ i o, l[i]? = some o -> s i = true -> ∀ e ∈ o.after, Region.binds .any e = true -> s e.on = true) /\
  (((∀ i, n0 <= i -> s i = false) /\ SimE C w0 N ⟨slotS l sts s n0, heapS sts s n0, 0⟩ a w) \/ ∃ m, n0 <= m /\ (∀ i, i < l.length -> (s i = true ↔ i < m)) /\ m <= l.length /\ SimE C w0 N (sts m) a w)) ?_ ?_ ?_
 · refine ⟨fun i o _ h => (by cases h), .inl ⟨fun _ _ => rfl, ?_⟩⟩
   have S' : SimE C w0 N st a w.drew := let ⟨J, S⟩ := S; ⟨J, S.toExt (Ext.drew w)⟩
   rw [<- e1, <- a1 0 (Nat.zero_le _)] at S'
   refine S'.cast (fun t => ?_) (fun k => ?_)
   · exact slot_more (l := l) (i := 0) (fun m _ _ h => by cases h) (Nat.zero_le _)
   · have : ∀ m, heapS sts (fun _ => false) m k = (sts 0).h k := fun m => by
      induction m with
      | zero => rfl
      | succ m ih => unfold heapS; rw [if_neg (by simp)]; exact ih
     exact this n0
 · rintro s a w i o ho hs hedge ⟨hdc, hInv⟩
   have ho' : l[i]? = some o := by simpa using ho
   have hil : i < l.length := (List.getElem?_eq_some_iff.1 ho').1
   have hdc' : ∀ j oj, l[j]? = some oj -> (decide (j = i) || s j) = true -> ∀ e ∈ oj.after, Region.binds .any e = true -> (decide (e.on = i) || s e.on) = true := fun j oj hj hsj e he hbe => by
    by_cases ej : j = i
    · subst ej; rw [ho'] at hj; cases hj; rw [hedge e he hbe]; simp
    · rw [hdc j oj hj (by simpa [ej] using hsj) e he hbe]; simp
   unfold wpOpIn
   simp only [ho]
   have late : ∀ m, n0 <= m -> (∀ i, i < l.length -> (s i = true ↔ i < m)) -> m <= l.length -> SimE C w0 N (sts m) a w -> n0 <= i ->
    if Region.wanted o (yielded l.toArray a.tmps) then o.wpIn (Fence.wr C.ro) 7 C.P a w (fun a' w' => (∀ j oj, l[j]? = some oj -> (decide (j = i) || s j) = true -> ∀ e ∈ oj.after, Region.binds .any e = true -> (decide (e.on = i) || s e.on) = true) /\
     (((∀ j, n0 <= j -> (decide (j = i) || s j) = false) /\ SimE C w0 N ⟨slotS l sts (fun j => decide (j = i) || s j) n0, heapS sts (fun j => decide (j = i) || s j) n0, 0⟩ a' w') \/ ∃ m, n0 <= m /\ (∀ j, j < l.length -> ((decide (j = i) || s j) = true ↔ j < m)) /\ m <= l.length /\ SimE C w0 N (sts m) a' w')) Qc
    else (fun a' w' => (∀ j oj, l[j]? = some oj -> (decide (j = i) || s j) = true -> ∀ e ∈ oj.after, Region.binds .any e = true -> (decide (e.on = i) || s e.on) = true) /\
     (((∀ j, n0 <= j -> (decide (j = i) || s j) = false) /\ SimE C w0 N ⟨slotS l sts (fun j => decide (j = i) || s j) n0, heapS sts (fun j => decide (j = i) || s j) n0, 0⟩ a' w') \/ ∃ m, n0 <= m /\ (∀ j, j < l.length -> ((decide (j = i) || s j) = true ↔ j < m)) /\ m <= l.length /\ SimE C w0 N (sts m) a' w')) (a.put o.dst undef) w := by
    intro m hm hall hml S hin
    have him : i = m := by
     have h1 : ¬ i < m := fun h => by rw [(hall i hil).2 h] at hs; cases hs
     refine Classical.byContradiction fun hc => ?_
     have h2 := tail hdc i o hin ho' hedge m (by omega)
     have := (hall m (by omega)).1 h2
     omega
    subst him
    refine (post i o hin ho').wp S (fun a' w' S' => ⟨hdc', .inr ⟨i + 1, by omega, fun j hj => ?_, hil, S'⟩⟩)
    have := hall j hj
    by_cases ej : j = i
    · subst ej; simp
    · simp only [show decide (j = i) = false by simp [ej], Bool.false_or, this]; omega
   refine both_in (fun _ _ => trivial) ?_
   rcases hInv with ⟨hin, S⟩ | ⟨m, hm, hall, hml, S⟩
   · by_cases hi : i < n0
     · exact ch.step hb hup (Nat.le_refl _) hap (ov := fun _ => none) (fun _ _ h => by cases h) hdc hi ho' hs hedge S (one i o hi ho') (fun a' w' S' => ⟨hdc', .inl ⟨fun j hj => by rw [hin j hj]; simp; omega, S'⟩⟩)
     · have hall : ∀ j, j < n0 -> s j = true := fun j hj => tail hdc i o (by omega) ho' hedge j (by omega)
       refine late n0 (Nat.le_refl _) (fun j hj => ⟨fun h => ?_, fun h => hall j h⟩) hle' ?_ (by omega)
       · refine Classical.byContradiction fun hc => ?_
         rw [hin j (by omega)] at h; cases h
       · refine S.cast (fun t => ?_) (fun k => ?_)
         · exact (ch.slot_eq (i := n0) (fun m hm _ => hall m hm) n0 (Nat.le_refl _) (Nat.le_refl _)).symm
         · exact (ch.heap_full hall n0 (Nat.le_refl _)).symm
   · refine late m hm hall hml S ?_
     refine Classical.byContradiction fun hc => ?_
     rw [(hall i hil).2 (by omega)] at hs; cases hs
 · rintro s a w hall ⟨_, hInv⟩
   rcases hInv with ⟨hin, S⟩ | ⟨m, hm, hiff, hml, S⟩
   · have hn : n0 = l.length := by
      refine Classical.byContradiction fun hc => ?_
      have := hall n0 (by omega)
      rw [hin n0 (Nat.le_refl _)] at this; cases this
     refine hq (sts l.length) a w hend ?_
     rw [<- hn]
     refine S.cast (fun t => ?_) (fun k => ?_)
     · exact (ch.slot_eq (i := n0) (fun m hm _ => hall m (by omega)) n0 (Nat.le_refl _) (Nat.le_refl _)).symm
     · exact (ch.heap_full (fun i hi => hall i (by omega)) n0 (Nat.le_refl _)).symm
   · have hmm : m = l.length := by
      refine Classical.byContradiction fun hc => ?_
      have := (hiff m (by omega)).1 (hall m (by omega))
      omega
     exact hq _ a w (hmm ▸ hend) (hmm ▸ S)
def ove (n0 kk : Nat) (BB : Blk) (s : Nat -> Bool) (k : Nat) : Option Blk := if s n0 = true /\ k = kk then some BB else none
theorem ove_some {n0 kk k : Nat} {BB B : Blk} {s : Nat -> Bool} (h : ove n0 kk BB s k = some B) : s n0 = true /\ k = kk /\ B = BB := by
 unfold ove at h
 split at h
 · rename_i hc; cases h; exact ⟨hc.1, hc.2, rfl⟩
 · cases h
def StoOp (C : Ctx) (N : Nat) (o : Oper) (st : St) (k : Nat) (B : Blk) : Prop := o.dst = none /\ o.guard = none /\ (∃ B0, st.h k = some B0 /\ saidB B0 = false /\ More B0 B) /\
 ∀ w0 a w st', Agree C o st st' -> st'.h k = st.h k -> SimE C w0 N st' a w -> ∀ K Q, (∀ v w', SimE C w0 N { st' with h := upd st'.h k (some B) } (a.put o.dst v) w' -> K (a.put o.dst v) w') -> o.wpIn (Fence.wr C.ro) 7 C.P a w K Q
theorem draw_sound1 {id : Nat} {Q : St -> Prop} {st : St} {Qc : Exit -> Act -> World -> Prop} (hm : C.P.follows .mixedOrders = true) (hok : okReg l (n0 + 1) = true) {oo : Oper} (hoo : l[n0]? = some oo) (hmd : madeB l.toArray oo = true)
 (hrun : Run C N l.toArray true (fun st' => ∃ kk BB, StoOp C N oo st' kk BB /\ Run C N l.toArray false Q (l.drop (n0 + 1)) { st' with h := upd st'.h kk (some BB) }) (l.take n0) st)
 {w0 : World} {a : Act} {w : World} (S : SimE C w0 N st a w) (hq : ∀ st' a' w', Q st' -> SimE C w0 N st' a' w' -> Qc .normal a' w') : (Code.region id l.toArray true).wpIn (Fence.wr C.ro) 7 C.P Qc a w := by
 simp only [okReg, Bool.and_eq_true] at hok
 obtain ⟨⟨⟨⟨hup, hb⟩, hap⟩, htl⟩, hle⟩ := hok
 have hle' : n0 + 1 <= l.length := Nat.le_of_ble_eq_true hle
 obtain ⟨s1, e1, r1, q1⟩ := hrun.states
 have htk : (l.take n0).length = n0 := by simp; omega
 rw [htk] at q1
 obtain ⟨kk, BB, hsto, q1⟩ := q1
 obtain ⟨s2, e2, r2, q2⟩ := q1.states
 obtain ⟨sts, hsts⟩ : ∃ sts : Nat -> St, sts = fun i => if i <= n0 then s1 i else s2 (i - (n0 + 1)) := ⟨_, rfl⟩
 have a1 : ∀ i, i <= n0 -> sts i = s1 i := fun i hi => by rw [hsts]; simp [hi]
 have a2 : ∀ i, n0 + 1 <= i -> sts i = s2 (i - (n0 + 1)) := fun i hi => by rw [hsts]; simp [show ¬ i <= n0 by omega]
 rw [<- a1 n0 (Nat.le_refl _)] at hsto e2
 have a3 : sts (n0 + 1) = { sts n0 with h := upd (sts n0).h kk (some BB) } := by rw [a2 _ (Nat.le_refl _), Nat.sub_self, e2]
 have one : ∀ i o, i < n0 -> l[i]? = some o -> One C N l.toArray true o (sts i) (sts (i + 1)) := fun i o hi ho => by
  rw [a1 i (by omega), a1 (i + 1) hi]
  exact r1 i o (by rw [List.getElem?_take, if_pos hi]; exact ho)
 have ch : Chain C N l n0 sts := ⟨fun i o hi ho => .inl (one i o hi ho), by omega⟩
 have post : ∀ i o, n0 + 1 <= i -> l[i]? = some o -> One C N l.toArray false o (sts i) (sts (i + 1)) := fun i o hi ho => by
  rw [a2 i hi, a2 (i + 1) (by omega), show i + 1 - (n0 + 1) = (i - (n0 + 1)) + 1 by omega]
  exact r2 (i - (n0 + 1)) o (by rw [List.getElem?_drop, show n0 + 1 + (i - (n0 + 1)) = i by omega]; exact ho)
 have hend : Q (sts l.length) := by
  rw [a2 _ hle']; simpa using q2
 have tail : ∀ {s : Nat -> Bool}, (∀ i o, l[i]? = some o -> s i = true -> ∀ e ∈ o.after, Region.binds .any e = true -> s e.on = true) -> ∀ (i : Nat) (o : Oper), n0 + 1 <= i -> l[i]? = some o -> (∀ e ∈ o.after, Region.binds .any e = true -> s e.on = true) -> ∀ j, j < i -> s j = true := fun hdc i o hi ho he j hj => by
  have h1 := List.all_eq_true.1 htl i (List.mem_range.2 (List.getElem?_eq_some_iff.1 ho).1)
  have : Nat.blt i (n0 + 1) = false := by cases e : Nat.blt i (n0 + 1); rfl; have := Nat.le_of_ble_eq_true e; omega
  rw [this, Bool.false_or] at h1
  exact bits_done hb hup hdc i o ho he j hj (List.all_eq_true.1 h1 j (List.mem_range.2 hj))
 have full : ∀ {s : Nat -> Bool} {a : Act} {w : World}, (∀ j, j < n0 + 1 -> s j = true) -> SimE C w0 N ⟨slotS l sts s n0, ovr (ove n0 kk BB s) (heapS sts s n0), 0⟩ a w -> SimE C w0 N (sts (n0 + 1)) a w := fun {s} _ _ hall S => by
  rw [a3]
  refine S.cast (fun t => ?_) (fun k => ?_)
  · exact (ch.slot_eq (i := n0) (fun m hm _ => hall m (by omega)) n0 (Nat.le_refl _) (Nat.le_refl _)).symm
  · show upd (sts n0).h kk (some BB) k = ovr (ove n0 kk BB s) (heapS sts s n0) k
    by_cases ek : k = kk
    · subst ek; rw [upd_same]; exact (ovr_some (by unfold ove; simp [hall n0 (Nat.lt_succ_self _)])).symm
    · rw [upd_other _ _ ek, ovr_none (by unfold ove; simp [ek])]
      exact (ch.heap_full (fun i hi => hall i (by omega)) n0 (Nat.le_refl _)).symm
 refine wpIn_region_inv hm hup (fun s a w => (∀ i o, l[i]? = some o -> s i = true -> ∀ e ∈ o.after, Region.binds .any e = true -> s e.on = true) /\
  (((∀ i, n0 + 1 <= i -> s i = false) /\ SimE C w0 N ⟨slotS l sts s n0, ovr (ove n0 kk BB s) (heapS sts s n0), 0⟩ a w) \/ ∃ m, n0 + 1 <= m /\ (∀ i, i < l.length -> (s i = true ↔ i < m)) /\ m <= l.length /\ SimE C w0 N (sts m) a w)) ?_ ?_ ?_
 · refine ⟨fun i o _ h => (by cases h), .inl ⟨fun _ _ => rfl, ?_⟩⟩
   have S' : SimE C w0 N st a w.drew := let ⟨J, S⟩ := S; ⟨J, S.toExt (Ext.drew w)⟩
   rw [<- e1, <- a1 0 (Nat.zero_le _)] at S'
   refine S'.cast (fun t => ?_) (fun k => ?_)
   · exact slot_more (l := l) (i := 0) (fun m _ _ h => by cases h) (Nat.zero_le _)
   · show ovr (ove n0 kk BB (fun _ => false)) (heapS sts (fun _ => false) n0) k = (sts 0).h k
     rw [ovr_none (by unfold ove; simp)]
     have : ∀ m, heapS sts (fun _ => false) m k = (sts 0).h k := fun m => by
      induction m with
      | zero => rfl
      | succ m ih => unfold heapS; rw [if_neg (by simp)]; exact ih
     exact this n0
 · rintro s a w i o ho hs hedge ⟨hdc, hInv⟩
   have ho' : l[i]? = some o := by simpa using ho
   have hil : i < l.length := (List.getElem?_eq_some_iff.1 ho').1
   have hdc' : ∀ j oj, l[j]? = some oj -> (decide (j = i) || s j) = true -> ∀ e ∈ oj.after, Region.binds .any e = true -> (decide (e.on = i) || s e.on) = true := fun j oj hj hsj e he hbe => by
    by_cases ej : j = i
    · subst ej; rw [ho'] at hj; cases hj; rw [hedge e he hbe]; simp
    · rw [hdc j oj hj (by simpa [ej] using hsj) e he hbe]; simp
   unfold wpOpIn
   simp only [ho]
   have late : ∀ m, n0 + 1 <= m -> (∀ i, i < l.length -> (s i = true ↔ i < m)) -> m <= l.length -> SimE C w0 N (sts m) a w -> n0 + 1 <= i ->
    if Region.wanted o (yielded l.toArray a.tmps) then o.wpIn (Fence.wr C.ro) 7 C.P a w (fun a' w' => (∀ j oj, l[j]? = some oj -> (decide (j = i) || s j) = true -> ∀ e ∈ oj.after, Region.binds .any e = true -> (decide (e.on = i) || s e.on) = true) /\
     (((∀ j, n0 + 1 <= j -> (decide (j = i) || s j) = false) /\ SimE C w0 N ⟨slotS l sts (fun j => decide (j = i) || s j) n0, ovr (ove n0 kk BB (fun j => decide (j = i) || s j)) (heapS sts (fun j => decide (j = i) || s j) n0), 0⟩ a' w') \/ ∃ m, n0 + 1 <= m /\ (∀ j, j < l.length -> ((decide (j = i) || s j) = true ↔ j < m)) /\ m <= l.length /\ SimE C w0 N (sts m) a' w')) Qc
    else (fun a' w' => (∀ j oj, l[j]? = some oj -> (decide (j = i) || s j) = true -> ∀ e ∈ oj.after, Region.binds .any e = true -> (decide (e.on = i) || s e.on) = true) /\
     (((∀ j, n0 + 1 <= j -> (decide (j = i) || s j) = false) /\ SimE C w0 N ⟨slotS l sts (fun j => decide (j = i) || s j) n0, ovr (ove n0 kk BB (fun j => decide (j = i) || s j)) (heapS sts (fun j => decide (j = i) || s j) n0), 0⟩ a' w') \/ ∃ m, n0 + 1 <= m /\ (∀ j, j < l.length -> ((decide (j = i) || s j) = true ↔ j < m)) /\ m <= l.length /\ SimE C w0 N (sts m) a' w')) (a.put o.dst undef) w := by
    intro m hm hall hml S hin
    have him : i = m := by
     have h1 : ¬ i < m := fun h => by rw [(hall i hil).2 h] at hs; cases hs
     refine Classical.byContradiction fun hc => ?_
     have h2 := tail hdc i o hin ho' hedge m (by omega)
     have := (hall m (by omega)).1 h2
     omega
    subst him
    refine (post i o hin ho').wp S (fun a' w' S' => ⟨hdc', .inr ⟨i + 1, by omega, fun j hj => ?_, hil, S'⟩⟩)
    have := hall j hj
    by_cases ej : j = i
    · subst ej; simp
    · simp only [show decide (j = i) = false by simp [ej], Bool.false_or, this]; omega
   refine both_in (fun _ _ => trivial) ?_
   rcases hInv with ⟨hin, S⟩ | ⟨m, hm, hall, hml, S⟩
   · rcases Nat.lt_trichotomy i n0 with hi | hi | hi
     · have hov : ∀ k B', ove n0 kk BB s k = some B' -> (∃ B0, (sts n0).h k = some B0 /\ saidB B0 = false /\ More B0 B') /\ ∀ j, j < n0 -> (sts j).nx < (sts (j + 1)).nx -> s j = true := fun k B' hk => by
        obtain ⟨h1, rfl, rfl⟩ := ove_some hk
        exact ⟨hsto.2.2.1, fun j hj hx => ch.made hmd (hdc n0 oo hoo h1) hj hx⟩
       have e : ove n0 kk BB (fun j => decide (j = i) || s j) = ove n0 kk BB s := by
        funext k; unfold ove; simp [show ¬ n0 = i by omega]
       refine ch.step hb hup (Nat.le_succ _) hap hov hdc hi ho' hs hedge S (one i o hi ho') (fun a' w' S' => ⟨hdc', .inl ⟨fun j hj => by rw [hin j hj]; simp; omega, ?_⟩⟩)
       rw [e]; exact S'
     · have hi2 : n0 = i := hi.symm
       subst hi2
       rw [hoo] at ho'; cases ho'
       have hmade : ∀ j, j < n0 -> (sts j).nx < (sts (j + 1)).nx -> s j = true := fun j hj hx => ch.made hmd hedge hj hx
       have hnone : ∀ k, ove n0 kk BB s k = none := fun k => by unfold ove; simp [hs]
       have hheap : ∀ k, ovr (ove n0 kk BB s) (heapS sts s n0) k = (sts n0).h k := fun k => by
        rw [ovr_none (hnone k), ch.heap_here n0 (Nat.le_refl _) hmade]
       have agr : Agree C oo (sts n0) ⟨slotS l sts s n0, ovr (ove n0 kk BB s) (heapS sts s n0), 0⟩ := ⟨fun x hx => by
        cases x with
        | tmp t =>
          refine ch.slot_eq (i := n0) (fun m hm hd => ?_) n0 (Nat.le_refl _) (Nat.le_refl _)
          have hml : m < l.length := by omega
          have hom := List.getElem?_eq_getElem hml
          rw [hom] at hd
          have ht : t ∈ oo.looksAt l.toArray := by unfold Oper.looksAt; simp only [List.mem_append, List.mem_filterMap]; exact .inl ⟨.tmp t, hx, rfl⟩
          have h1 := List.all_eq_true.1 hap n0 (List.mem_range.2 (Nat.lt_succ_self _))
          have h2 := List.all_eq_true.1 h1 m (List.mem_range.2 hm)
          rw [hom, hoo] at h2
          cases hc : (l[m]).apart l.toArray oo with
          | true => exact absurd ht ((Oper.apart_spec hc).1 t hd)
          | false =>
            simp only [hc, Bool.or_false] at h2
            exact bits_done hb hup hdc n0 oo hoo hedge m hm h2
        | _ => rfl, fun k B hB => .inr ⟨B, (hheap k).trans hB, .inl rfl⟩⟩
       have hwt : wantB ⟨slotS l sts s n0, ovr (ove n0 kk BB s) (heapS sts s n0), 0⟩ l.toArray oo = some true := by unfold wantB; rw [hsto.2.1]
       rw [want_sim S hwt, if_pos rfl]
       refine hsto.2.2.2 w0 a w _ agr (hheap kk) S _ _ (fun v w' S' => ⟨hdc', .inl ⟨fun j hj => by rw [hin j hj]; simp; omega, S'.cast (fun t => ?_) (fun k => ?_)⟩⟩)
       · exact slot_congr n0 (fun k hk _ => by simp [show ¬ k = n0 by omega])
       · show ovr (ove n0 kk BB (fun j => decide (j = n0) || s j)) (heapS sts (fun j => decide (j = n0) || s j) n0) k = upd (ovr (ove n0 kk BB s) (heapS sts s n0)) kk (some BB) k
         by_cases ek : k = kk
         · subst ek; rw [upd_same]; exact ovr_some (by unfold ove; simp)
         · rw [upd_other _ _ ek, ovr_none (hnone k), ovr_none (by unfold ove; simp [ek])]
           exact heap_congr n0 (fun j hj _ _ => by simp [show ¬ j = n0 by omega])
     · have hall : ∀ j, j < n0 + 1 -> s j = true := fun j hj => tail hdc i o (by omega) ho' hedge j (by omega)
       refine late (n0 + 1) (Nat.le_refl _) (fun j hj => ⟨fun h => ?_, fun h => hall j h⟩) hle' (full hall S) (by omega)
       refine Classical.byContradiction fun hc => ?_
       rw [hin j (by omega)] at h; cases h
   · refine late m hm hall hml S ?_
     refine Classical.byContradiction fun hc => ?_
     rw [(hall i hil).2 (by omega)] at hs; cases hs
 · rintro s a w hall ⟨_, hInv⟩
   rcases hInv with ⟨hin, S⟩ | ⟨m, hm, hiff, hml, S⟩
   · have hn : n0 + 1 = l.length := by
      refine Classical.byContradiction fun hc => ?_
      have := hall (n0 + 1) (by omega)
      rw [hin (n0 + 1) (Nat.le_refl _)] at this; cases this
     refine hq (sts l.length) a w hend ?_
     rw [<- hn]
     exact full (fun j hj => hall j (by omega)) S
   · have hmm : m = l.length := by
      refine Classical.byContradiction fun hc => ?_
      have := (hiff m (by omega)).1 (hall m (by omega))
      omega
     exact hq _ a w (hmm ▸ hend) (hmm ▸ S)
end
section
variable {C : Ctx} {N : Nat}
def Gh (C : Ctx) (N : Nat) (st st' : St) : Prop := ∀ w0 a w, SimE C w0 N st a w -> SimE C w0 N st' a w
theorem gh_trans {a b c : St} (h : Gh C N a b) (k : Gh C N b c) : Gh C N a c := fun w0 x w S => k w0 x w (h w0 x w S)
theorem gh_le {st st' : St} (L : Le st st') : Gh C N st st' := fun _ _ _ ⟨J, S⟩ => ⟨J, S.weaken L⟩
theorem gh_own {st : St} (t e sz : Nat) (ht : st.s t = .f (.v (.slice none 0 0))) (hn : st.h st.nx = none) : Gh C N st { s := upd st.s t (.ow st.nx), h := upd st.h st.nx (some (.row e sz 0 [])), nx := st.nx + 1 } :=
 fun _ _ _ ⟨_, S⟩ => ⟨_, S.own t e sz ht hn⟩
theorem gh_row {st : St} (i : Nat) {e sz n : Nat} {cs : List FV} (hi : st.h i = some (.row e sz n cs)) : Gh C N st (st.frz i (some (.sl n cs)) cs) := fun _ _ _ ⟨J, S⟩ => ⟨J, S.frz_row hi⟩
theorem gh_box {st : St} (i : Nat) {l : List AV} {cs : List FV} (hi : st.h i = some (.box l)) (hc : l = cs.map AV.f) : Gh C N st (st.frz i none cs) := fun _ _ _ ⟨J, S⟩ => ⟨J, S.frz_box hi hc⟩
def cW (C : Ctx) (N : Nat) (c : Code) (Q : Exit -> St -> Prop) (st : St) : Prop :=
 ∀ w0 a w Qc, SimE C w0 N st a w -> (∀ e st' a' w', Q e st' -> SimE C w0 N st' a' w' -> Qc e a' w') -> c.wpIn (Fence.wr C.ro) 7 C.P Qc a w
def AThen (K : St -> Prop) (Q : Exit -> St -> Prop) : Exit -> St -> Prop
 | .normal, st => K st
 | e, st => Q e st
def ABlock (id : Nat) (Q : Exit -> St -> Prop) : Exit -> St -> Prop
 | .exit j, st => bif Nat.beq j id then Q .normal st else Q (.exit j) st
 | e, st => Q e st
variable {Q : Exit -> St -> Prop} {st : St}
theorem c_gh {c : Code} {st' : St} (g : Gh C N st st') (h : cW C N c Q st') : cW C N c Q st := fun w0 a w Qc S hq => h w0 a w Qc (g w0 a w S) hq
theorem c_mono {c : Code} {Q' : Exit -> St -> Prop} (h : cW C N c Q st) (k : ∀ e st', Q e st' -> Q' e st') : cW C N c Q' st := fun w0 a w Qc S hq => h w0 a w Qc S (fun e st' a' w' q => hq e st' a' w' (k e st' q))
theorem c_skip (h : Q .normal st) : cW C N .skip Q st := fun _ a w _ S hq => wpIn_skip (hq _ _ a w h S)
theorem c_exit {id : Nat} (h : Q (.exit id) st) : cW C N (.exit id) Q st := fun _ a w _ S hq => wpIn_exit (hq _ _ a w h S)
theorem c_ret (h : Q .ret st) : cW C N .ret Q st := fun _ a w _ S hq => wpIn_ret (hq _ _ a w h S)
theorem c_seq {x y : Code} (h : cW C N x (AThen (cW C N y Q) Q) st) : cW C N (.seq x y) Q st := fun w0 a w Qc S hq =>
 wpIn_seq (h w0 a w _ S (fun e st' a' w' q S' => by
  cases e with
  | normal => exact q w0 a' w' Qc S' hq
  | _ => exact hq _ _ _ _ q S'))
theorem c_cond {c : Operand} {x y : Code} {t : Bool} (hc : st.ev C c = .f (.v (.bool t))) (h1 : t = true -> cW C N x Q st) (h2 : t = false -> cW C N y Q st) : cW C N (.cond c x y) Q st := fun w0 a w Qc S hq => by
 have e : a.eval c = .bool t := let ⟨J, S'⟩ := S; evV S' hc
 refine wpIn_cond e ?_
 cases t with
 | true => exact h1 rfl w0 a w Qc S hq
 | false => exact h2 rfl w0 a w Qc S hq
theorem c_block {id : Nat} {c : Code} (h : cW C N c (ABlock id Q) st) : cW C N (.block id c) Q st := fun w0 a w Qc S hq =>
 wpIn_block (h w0 a w _ S (fun e st' a' w' q S' => by
  cases e with
  | exit j =>
    show if j = id then _ else _
    by_cases e : j = id
    · subst e
      rw [if_pos rfl]
      have : Q .normal st' := by simpa [ABlock] using q
      exact hq _ _ _ _ this S'
    · rw [if_neg e]
      have : Q (.exit j) st' := by simpa [ABlock, killA_ne e] using q
      exact hq _ _ _ _ this S'
  | _ => exact hq _ _ _ _ q S'))
theorem c_region {id : Nat} {l : List Oper} (h : Run C N l.toArray false (Q .normal) l st) : cW C N (.region id l.toArray false) Q st := fun _w0 _a _w _Qc S hq =>
 wpIn_region_lit (Run.wpList h S (fun _st' _a' _w' q S' => hq _ _ _ _ q S'))
theorem c_draw {id : Nat} {l : List Oper} (n0 : Nat) (hm : C.P.follows .mixedOrders = true) (hok : okReg l n0 = true) (h : Run C N l.toArray true (fun st' => Run C N l.toArray false (Q .normal) (l.drop n0) st') (l.take n0) st) : cW C N (.region id l.toArray true) Q st := fun _w0 _a _w _Qc S hq =>
 draw_sound hm hok h S (fun _st' _a' _w' q S' => hq _ _ _ _ q S')
theorem exists_least {p : Nat -> Prop} (h : ∃ n, p n) : ∃ n, p n /\ ∀ m, p m -> n <= m := by
 obtain ⟨n, hn⟩ := h
 induction n using Nat.strongRecOn with
 | _ n ih =>
   by_cases hm : ∃ m, m < n /\ p m
   · obtain ⟨m, h1, h2⟩ := hm; exact ih m h1 h2
   · exact ⟨n, hn, fun m hpm => Nat.le_of_not_lt fun h => hm ⟨m, h, hpm⟩⟩
open Classical in
noncomputable def least (p : Nat -> Prop) : Nat := if h : ∃ n, p n then (exists_least h).choose else 0
theorem least_spec {p : Nat -> Prop} (h : ∃ n, p n) : p (least p) /\ ∀ m, p m -> least p <= m := by
 unfold least
 rw [dif_pos h]
 exact (exists_least h).choose_spec
theorem c_loop {σ : Type} {c : Code} (F : σ -> St) (Pr : σ -> Prop) (μ : σ -> Nat) (s0 : σ) (h0 : Pr s0) (hg : Gh C N st (F s0))
 (hstep : ∀ s, Pr s -> cW C N c (AThen (fun st' => ∃ s', Pr s' /\ μ s' < μ s /\ Gh C N st' (F s')) Q) (F s)) : cW C N (.loop c) Q st := fun w0 a w Qc S hq => by
 refine wpIn_loop (fun a w => ∃ s, Pr s /\ SimE C w0 N (F s) a w) (fun a w => least fun n => ∃ s, Pr s /\ SimE C w0 N (F s) a w /\ μ s = n) ⟨s0, h0, hg w0 a w S⟩ ?_
 rintro a w ⟨s, hs, Ss⟩
 obtain ⟨⟨s1, h1, S1, e1⟩, hmin⟩ := least_spec (p := fun n => ∃ s, Pr s /\ SimE C w0 N (F s) a w /\ μ s = n) ⟨_, s, hs, Ss, rfl⟩
 refine hstep s1 h1 w0 a w _ S1 (fun e st' a' w' q S' => ?_)
 cases e with
 | normal =>
   obtain ⟨s2, h2, hlt, g⟩ := q
   have S2 := g w0 a' w' S'
   refine ⟨⟨s2, h2, S2⟩, ?_⟩
   have := (least_spec (p := fun n => ∃ s, Pr s /\ SimE C w0 N (F s) a' w' /\ μ s = n) ⟨_, s2, h2, S2, rfl⟩).2 _ ⟨s2, h2, S2, rfl⟩
   omega
 | _ => exact hq _ _ _ _ q S'
def rvS (tmps : Array Value) : ResultVar -> Sem Value
 | .tmp t => pure (tmps.getD t undef)
 | .cell a t => do loadVar t (<- asAddr (tmps.getD a undef))
def ResOk (C : Ctx) (N : Nat) (st : St) (rv : ResultVar) (x : FV) : Prop := ∀ w0 a w, SimE C w0 N st a w -> ∃ v, (rvS a.tmps rv).run C.P w = .ok v w /\ RepF w C.M0 v x
theorem toM0 {w : World} {st : St} {J : Nat -> Value} {v : Value} {x : FV} (h : RepF w (Mb C st.h J) v x) : RepF w C.M0 v x := h.ext (Ext.refl _) (fun _ _ h => .inl h)
theorem res_tmp {t : Nat} {x : FV} (h : st.s t = .f x) : ResOk C N st (.tmp t) x := fun w0 a w ⟨J, S⟩ => by
 have := S.slot t
 rw [h] at this
 exact ⟨_, rfl, toM0 this⟩
theorem cell_run {P : Program} {T b off : Nat} {w : World} {tmps : Array Value} {t : Nat} {v : Value} (hv : tmps.getD t undef = .pointer (some ⟨b, off, none⟩)) (h : (Instr.loadAt T (.pointer (some ⟨b, off, none⟩))).run P w = .ok v w) : (rvS tmps (.cell t T)).run P w = .ok v w := by
 simp only [Instr.loadAt, Instr.sureAddr, Sem.run_bind, Sem.run_pure, Result.andThen_ok] at h
 simp only [rvS, hv, asAddr, Sem.run_bind, Sem.run_pure, Result.andThen_ok, h]
theorem res_bxs {t T n i off : Nat} {cs : List AV} {sub : List FV} (ty : Ty C.P) (hT : (ty.ty T).agg = some n) (hx : st.s t = .bx i off) (hi : st.h i = some (.box cs)) (hc : (cs.drop off).take n = sub.map AV.f) (hn : sub.length = n) : ResOk C N st (.cell t T) (.agg sub) := fun w0 a w ⟨J, S⟩ => by
 have e1 := S.slot t
 rw [hx] at e1
 obtain ⟨hl, b, hb, hv⟩ := e1
 obtain ⟨b', T', us, q1, q2, q3, q4, q5, q6⟩ := S.blk i _ hi
 rw [q1] at hb; simp [bk] at hb; subst hb
 have hlen : ((us.toList.drop off).take n).length = n := by
  have := congrArg List.length hc
  simp [List.length_take, List.length_drop] at this ⊢
  omega
 have R : RepL w (Mb C st.h J) ((us.toList.drop off).take n) sub := repA_f (fun k u x h1 h2 => by
  rw [<- hc, List.getElem?_take] at h2
  rw [List.getElem?_take] at h1
  split at h1
  · rename_i hk
    rw [if_pos hk, List.getElem?_drop] at h2
    rw [List.getElem?_drop] at h1
    exact q6 _ u x (by simpa using h1) h2
  · cases h1) (hlen.trans hn.symm)
 refine ⟨.agg ((us.toList.drop off).take n).toArray, cell_run hv (run_load_agg ((ty.ok T).agg n hT) ((us.toList.drop off).take n) hlen (fun k hk => ?_)), toM0 (RepF.agg _ _ R.1 (fun u hu => q5 u (List.mem_of_mem_drop (List.mem_of_mem_take hu))) R.2)⟩
 rw [hlen] at hk
 rw [List.getElem?_take, if_pos hk, List.getElem?_drop]
 simp [World.cell?, q3]
theorem results_eq (fn : Func) (tmps : Array Value) : results fn tmps = (fn.results.mapM (rvS tmps) >>= fun vs => pure (if h : vs.size = 1 then vs[0] else .tuple vs)) := by
 unfold results
 congr
def RetOk (C : Ctx) (N : Nat) (fn : Func) (r : FV) (st : St) : Prop := ∀ w0 a w, SimE C w0 N st a w -> ∃ v, (results fn a.tmps).run C.P w = .ok v w /\ RepF w C.M0 v r
theorem ret1 {fn : Func} {r1 : ResultVar} {x : FV} (h : fn.results = #[r1]) (h1 : ResOk C N st r1 x) : RetOk C N fn x st := fun w0 a w S => by
 obtain ⟨v, q1, q2⟩ := h1 w0 a w S
 refine ⟨v, ?_, q2⟩
 rw [results_eq, h]; simp [q1]
theorem ret2 {fn : Func} {r1 r2 : ResultVar} {x y : FV} (h : fn.results = #[r1, r2]) (h1 : ResOk C N st r1 x) (h2 : ResOk C N st r2 y) : RetOk C N fn (.tup [x, y]) st := fun w0 a w S => by
 obtain ⟨v, q1, q2⟩ := h1 w0 a w S
 obtain ⟨u, p1, p2⟩ := h2 w0 a w S
 refine ⟨.tuple #[v, u], ?_, ?_⟩
 · rw [results_eq, h]; simp [q1, p1]
 · have R := RepL.cons q2 (RepL.cons p2 (RepL.nil _ _))
   exact RepF.tup _ _ R.1 R.2
theorem ret3 {fn : Func} {r1 r2 r3 : ResultVar} {x y z : FV} (h : fn.results = #[r1, r2, r3]) (h1 : ResOk C N st r1 x) (h2 : ResOk C N st r2 y) (h3 : ResOk C N st r3 z) : RetOk C N fn (.tup [x, y, z]) st := fun w0 a w S => by
 obtain ⟨v, q1, q2⟩ := h1 w0 a w S
 obtain ⟨u, p1, p2⟩ := h2 w0 a w S
 obtain ⟨t, o1, o2⟩ := h3 w0 a w S
 refine ⟨.tuple #[v, u, t], ?_, ?_⟩
 · rw [results_eq, h]; simp [q1, p1, o1]
 · have R := RepL.cons q2 (RepL.cons p2 (RepL.cons o2 (RepL.nil _ _)))
   exact RepF.tup _ _ R.1 R.2
def Leaves (C : Ctx) (N : Nat) (fn : Func) (r : FV) : Exit -> St -> Prop
 | .normal, st => RetOk C N fn r st
 | .ret, st => RetOk C N fn r st
 | _, _ => False
def st0 (args : List FV) : St := ⟨fun t => match args[t]? with | some x => .f x | none => .bot, fun _ => none, 0⟩
theorem summ_of {P : Program} {G : Nat -> Option FV} {f : Nat} {fn : Func} {c : Code} {args : List FV} {r : FV} (hf : P.funcs[f]? = some fn) (hb : fn.body = some c) (hname : (fn.name == "runtime.NumGoroutine") = false) (n : Nat) (hn : fn.ntmps = n) (hl : args.length <= n)
 (h : ∀ M0 : Nat -> Prop, cW ⟨P, G, M0, fun _ => False, none, fun _ => none⟩ n c (Leaves ⟨P, G, M0, fun _ => False, none, fun _ => none⟩ n fn r) (st0 args)) : Summ P G f args r := by
 refine ⟨enters_of hf hname hb, fun w M us hM hG R => ?_⟩
 refine calls_of_wp_marks hf hb (wpIn_wide.1 (h M w _ w _ ⟨fun _ => undef, Grew.refl _ _, ?_, ⟨trivial, fun _ => rfl⟩, fun t => ?_, fun i B hB => (by cases hB), fun i j b hi => (by cases hi), fun b hb => ⟨hM b hb, id⟩, fun g cs hg => (hG g cs hg).ext (Ext.refl _) (fun b _ (h : Mb ⟨P, G, M, fun _ => False, none, fun _ => none⟩ (fun _ => none) (fun _ => undef) b) => h.elim id (fun ⟨_, hi, _⟩ => by cases hi)), fun _ _ _ h => (by cases h)⟩ ?_))
 · have := R.1; simp [hn]; omega
 · have hMM : ∀ b, b < w.heap.size -> Mb ⟨P, G, M, fun _ => False, none, fun _ => none⟩ (fun _ => none) (fun _ => undef) b -> M b := fun b _ h => h.elim id (fun ⟨_, hi, _⟩ => by cases hi)
   show RepA _ w _ _ ((us.toArray ++ Array.replicate (fn.ntmps - us.toArray.size) undef).getD t undef) (match args[t]? with | some x => .f x | none => .bot)
   cases ha : args[t]? with
   | none => trivial
   | some x =>
     obtain ⟨u, hu, hr⟩ := R.get ha
     have hlt : t < us.length := (List.getElem?_eq_some_iff.1 hu).1
     have : (us.toArray ++ Array.replicate (fn.ntmps - us.toArray.size) undef).getD t undef = u := by
      rw [Array.getD_eq_getD_getElem?, Array.getElem?_append_left (by simpa using hlt)]
      simp [hu]
     rw [this]
     exact hr.ext (Ext.refl _) hMM
 · intro e st' a' w' q S'
   have fin : RetOk ⟨P, G, M, fun _ => False, none, fun _ => none⟩ n fn r st' -> ∀ W', KeepsP Obj.stays w.heap.size w' W' -> ∃ v, (results fn a'.tmps).run P W' = .ok v W' /\ ∃ v', Ending.returned v = .returned v' /\ RepF W' M v' r /\ Ext w W' := fun q W' hk => by
    obtain ⟨J, S2⟩ := S'
    have S3 := S2.keeps0 hk (Nat.le_refl _) (ds := []) ⟨trivial, fun _ => rfl⟩
    obtain ⟨v, h1, h2⟩ := q w { a' with defers := [] } W' ⟨J, S3⟩
    exact ⟨v, h1, v, rfl, h2, S3.ext.toExt⟩
   have hm : Marks w.heap.size w' a'.defers := let ⟨_, S2⟩ := S'; S2.defs.1
   cases e with
   | normal => exact bodyPostM_marksP (s := Obj.stays) (fun _ => rfl) _ hm (fin q)
   | ret => exact bodyPostM_marksP (s := Obj.stays) (fun _ => rfl) _ hm (fin q)
   | _ => exact q.elim
theorem r_val {ops : Array Oper} {pr : Bool} {K : St -> Prop} {o : Oper} {rest : List Oper} {r : AV} (hw : wantB st ops o = some true) (hv : ValOp C N o st r) (h : Run C N ops pr K rest (st.put o.dst r)) : Run C N ops pr K (o :: rest) st := ⟨_, .val r hw hv, h⟩
theorem r_all {ops : Array Oper} {pr : Bool} {K : St -> Prop} {o : Oper} {rest : List Oper} {r : AV} {B : Blk} (hw : wantB st ops o = some true) (hl : light o = false) (hn : st.h st.nx = none) (hv : AllOp C N o st r B) (h : Run C N ops pr K rest { s := (st.put o.dst r).s, h := upd st.h st.nx (some B), nx := st.nx + 1 }) : Run C N ops pr K (o :: rest) st := ⟨_, .all r B hw hl hv hn, h⟩
theorem r_eff {ops : Array Oper} {K : St -> Prop} {o : Oper} {rest : List Oper} {st1 : St} (hw : wantB st ops o = some true) (hv : EffOp C N o st st1) (h : Run C N ops false K rest st1) : Run C N ops false K (o :: rest) st := ⟨_, .eff st1 rfl hw hv, h⟩
theorem r_skip {ops : Array Oper} {pr : Bool} {K : St -> Prop} {o : Oper} {rest : List Oper} (hw : wantB st ops o = some false) (hd : dstB N o.dst = true) (h : Run C N ops pr K rest (st.put o.dst (.f (.v undef)))) : Run C N ops pr K (o :: rest) st := ⟨_, .skip hw hd, h⟩
theorem ab_hit {i : Nat} (h : Q .normal st) : ABlock i Q (.exit i) st := by simpa [ABlock] using h
theorem ab_miss {i j : Nat} (hn : Nat.beq j i = false) (h : Q (.exit j) st) : ABlock i Q (.exit j) st := by simpa [ABlock, hn] using h
theorem lv_ret {fn : Func} {r : FV} (h : RetOk C N fn r st) : Leaves C N fn r .ret st := h
theorem c_if {c : Operand} {x y : Code} {t : Bool} (hc : st.ev C c = .f (.v (.bool t))) (h : cW C N (bif t then x else y) Q st) : cW C N (.cond c x y) Q st :=
 c_cond hc (fun e => by subst e; exact h) (fun e => by subst e; exact h)
theorem b_add {P : Program} {T : TypeId} {x y : Operand} {a b : Int} (h : -9223372036854775808 <= a + b /\ a + b <= 9223372036854775807) (w : World) : (do eqGuard .add T x y (.int .i64 a) (.int .i64 b); binOp .add T (.int .i64 a) (.int .i64 b) : Sem Value).run P w = .ok (.int .i64 (a + b)) w := by
 simp [eqGuard, binOp, Op.intArith, IntWalk.i64_in _ h]
theorem b_sub {P : Program} {T : TypeId} {x y : Operand} {a b : Int} (h : -9223372036854775808 <= a - b /\ a - b <= 9223372036854775807) (w : World) : (do eqGuard .sub T x y (.int .i64 a) (.int .i64 b); binOp .sub T (.int .i64 a) (.int .i64 b) : Sem Value).run P w = .ok (.int .i64 (a - b)) w := by
 simp [eqGuard, binOp, Op.intArith, IntWalk.i64_in _ h]
theorem b_mul {P : Program} {T : TypeId} {x y : Operand} {a b : Int} (h : -9223372036854775808 <= a * b /\ a * b <= 9223372036854775807) (w : World) : (do eqGuard .mul T x y (.int .i64 a) (.int .i64 b); binOp .mul T (.int .i64 a) (.int .i64 b) : Sem Value).run P w = .ok (.int .i64 (a * b)) w := by
 simp [eqGuard, binOp, Op.intArith, IntWalk.i64_in _ h]
theorem b_quo {P : Program} {T : TypeId} {x y : Operand} {a b : Int} (h : 0 <= a /\ a <= 9223372036854775807 /\ 1 <= b) (w : World) : (do eqGuard .quo T x y (.int .i64 a) (.int .i64 b); binOp .quo T (.int .i64 a) (.int .i64 b) : Sem Value).run P w = .ok (.int .i64 (a / b)) w := by
 have hb : ¬ b = 0 := by omega
 simp [eqGuard, binOp, Op.intDiv, hb, IntWalk.i64_quo _ _ h]
theorem b_rem {P : Program} {T : TypeId} {x y : Operand} {a b : Int} (h : 0 <= a /\ 1 <= b) (w : World) : (do eqGuard .rem T x y (.int .i64 a) (.int .i64 b); binOp .rem T (.int .i64 a) (.int .i64 b) : Sem Value).run P w = .ok (.int .i64 (a % b)) w := by
 have hb : ¬ b = 0 := by omega
 simp [eqGuard, binOp, Op.intDiv, hb, IntWalk.rem_in _ _ h.1]
theorem b_lss {P : Program} {T : TypeId} {x y : Operand} {k : IntKind} {a b : Int} (w : World) : (do eqGuard .lss T x y (.int k a) (.int k b); binOp .lss T (.int k a) (.int k b) : Sem Value).run P w = .ok (.bool (decide (a < b))) w := by simp [eqGuard, binOp, Op.intCmp]
theorem b_leq {P : Program} {T : TypeId} {x y : Operand} {k : IntKind} {a b : Int} (w : World) : (do eqGuard .leq T x y (.int k a) (.int k b); binOp .leq T (.int k a) (.int k b) : Sem Value).run P w = .ok (.bool (decide (a <= b))) w := by simp [eqGuard, binOp, Op.intCmp]
theorem b_gtr {P : Program} {T : TypeId} {x y : Operand} {k : IntKind} {a b : Int} (w : World) : (do eqGuard .gtr T x y (.int k a) (.int k b); binOp .gtr T (.int k a) (.int k b) : Sem Value).run P w = .ok (.bool (decide (b < a))) w := by simp [eqGuard, binOp, Op.intCmp]
theorem b_geq {P : Program} {T : TypeId} {x y : Operand} {k : IntKind} {a b : Int} (w : World) : (do eqGuard .geq T x y (.int k a) (.int k b); binOp .geq T (.int k a) (.int k b) : Sem Value).run P w = .ok (.bool (decide (b <= a))) w := by simp [eqGuard, binOp, Op.intCmp]
theorem b_eql {P : Program} {T : TypeId} {x y : Operand} {k : IntKind} {a b : Int} (w : World) : (do eqGuard .eql T x y (.int k a) (.int k b); binOp .eql T (.int k a) (.int k b) : Sem Value).run P w = .ok (.bool (decide (a = b))) w := by
 simp [eqGuard, binOp, Op.intCmp]
 rfl
theorem b_neq {P : Program} {T : TypeId} {x y : Operand} {k : IntKind} {a b : Int} (w : World) : (do eqGuard .neq T x y (.int k a) (.int k b); binOp .neq T (.int k a) (.int k b) : Sem Value).run P w = .ok (.bool (!decide (a = b))) w := by
 simp [eqGuard, binOp, Op.intCmp]
 rfl
theorem u_not {P : Program} {b : Bool} (w : World) : (Op.unary .not (.bool b)).run P w = .ok (.bool (!b)) w := rfl
theorem u_neg {P : Program} {a : Int} (h : -9223372036854775807 <= a /\ a <= 9223372036854775807) (w : World) : (Op.unary .neg (.int .i64 a)).run P w = .ok (.int .i64 (-a)) w := by
 simp [Op.unary, Op.intArith, IntWalk.i64_in _ (show -9223372036854775808 <= -a /\ -a <= 9223372036854775807 by omega)]
theorem v_pickT {o : Oper} {c x y : Operand} {t : Bool} (ho : o.op = .pick c x y) (hd : dstB N o.dst = true) (hc : st.ev C c = .f (.v (.bool t))) (ht : t = true) : ValOp C N o st (st.ev C x) := by
 subst ht; exact v_pick ho hd hc
theorem v_pickF {o : Oper} {c x y : Operand} {t : Bool} (ho : o.op = .pick c x y) (hd : dstB N o.dst = true) (hc : st.ev C c = .f (.v (.bool t))) (ht : t = false) : ValOp C N o st (st.ev C y) := by
 subst ht; exact v_pick ho hd hc
theorem c_condT {c : Operand} {x y : Code} {t : Bool} (hc : st.ev C c = .f (.v (.bool t))) (ht : t = true) (h : cW C N x Q st) : cW C N (.cond c x y) Q st := by
 subst ht; exact c_if hc h
theorem c_condF {c : Operand} {x y : Code} {t : Bool} (hc : st.ev C c = .f (.v (.bool t))) (ht : t = false) (h : cW C N y Q st) : cW C N (.cond c x y) Q st := by
 subst ht; exact c_if hc h
end
structure R (C : Ctx) (N : Nat) (ops : Array Oper) (pr : Bool) (K : St -> Prop) (l : List Oper) (st : St) : Prop where
 out : Run C N ops pr K l st
structure W (C : Ctx) (N : Nat) (c : Code) (Q : Exit -> St -> Prop) (st : St) : Prop where
 out : cW C N c Q st
structure AT (K : St -> Prop) (Q : Exit -> St -> Prop) (e : Exit) (st : St) : Prop where
 out : AThen K Q e st
structure AB (id : Nat) (Q : Exit -> St -> Prop) (e : Exit) (st : St) : Prop where
 out : ABlock id Q e st
section
variable {C : Ctx} {N : Nat} {Q : Exit -> St -> Prop} {st : St} {ops : Array Oper} {pr : Bool} {K : St -> Prop} {rest : List Oper}
def unL : List AV -> Option (List FV)
 | [] => some []
 | .f x :: r => match unL r with
   | some l => some (x :: l)
   | none => none
 | _ :: _ => none
theorem unL_spec : ∀ {l : List AV} {m : List FV}, unL l = some m -> l = m.map AV.f
 | [], m, h => by simp [unL] at h; subst h; rfl
 | .f x :: r, m, h => by
   cases hr : unL r with
   | none => simp [unL, hr] at h
   | some l => simp [unL, hr] at h; subst h; rw [unL_spec hr]; rfl
 | .bx _ _ :: _, _, h => by simp [unL] at h
 | .ow _ :: _, _, h => by simp [unL] at h
 | .sv _ _ _ :: _, _, h => by simp [unL] at h
 | .ag _ :: _, _, h => by simp [unL] at h
 | .tp _ :: _, _, h => by simp [unL] at h
 | .fb _ _ :: _, _, h => by simp [unL] at h
 | .bot :: _, _, h => by simp [unL] at h
theorem R.run {l : List Oper} (h : Run C N ops pr K l st) : R C N ops pr K l st := ⟨h⟩
theorem Run.mono {K' : St -> Prop} (k : ∀ st, K st -> K' st) : ∀ {l : List Oper} {st : St}, Run C N ops pr K l st -> Run C N ops pr K' l st
 | [], st, h => k st h
 | _ :: _, _, ⟨st', h1, h2⟩ => ⟨st', h1, Run.mono k h2⟩
theorem cW.mono {c : Code} {Q' : Exit -> St -> Prop} (h : cW C N c Q st) (k : ∀ e st', Q e st' -> Q' e st') : cW C N c Q' st := c_mono h k
theorem w_seq {x y : Code} (h : W C N x (AT (W C N y Q) Q) st) : W C N (.seq x y) Q st := ⟨c_seq (h.out.mono fun e st' q => by cases e <;> first | exact q.out | exact W.out q.out)⟩
theorem w_region {id : Nat} {l : List Oper} (h : R C N l.toArray false (Q .normal) l st) : W C N (.region id l.toArray false) Q st := ⟨c_region h.out⟩
theorem w_draw {id : Nat} {l : List Oper} (n0 : Nat) (hm : C.P.follows .mixedOrders = true) (hok : okReg l n0 = true) (h : R C N l.toArray true (R C N l.toArray false (Q .normal) (l.drop n0)) (l.take n0) st) : W C N (.region id l.toArray true) Q st := ⟨c_draw n0 hm hok (Run.mono (fun _ h => h.out) h.out)⟩
theorem w_block {id : Nat} {c : Code} (h : W C N c (AB id Q) st) : W C N (.block id c) Q st := ⟨c_block (h.out.mono fun _ _ q => q.out)⟩
theorem w_exit {id : Nat} (h : Q (.exit id) st) : W C N (.exit id) Q st := ⟨c_exit h⟩
theorem w_ret (h : Q .ret st) : W C N .ret Q st := ⟨c_ret h⟩
theorem w_skip (h : Q .normal st) : W C N .skip Q st := ⟨c_skip h⟩
theorem w_condT {c : Operand} {x y : Code} {t : Bool} (hc : st.ev C c = .f (.v (.bool t))) (ht : t = true) (h : W C N x Q st) : W C N (.cond c x y) Q st := ⟨c_condT hc ht h.out⟩
theorem w_condF {c : Operand} {x y : Code} {t : Bool} (hc : st.ev C c = .f (.v (.bool t))) (ht : t = false) (h : W C N y Q st) : W C N (.cond c x y) Q st := ⟨c_condF hc ht h.out⟩
theorem w_gh {c : Code} {st' : St} (g : Gh C N st st') (h : W C N c Q st') : W C N c Q st := ⟨c_gh g h.out⟩
theorem w_loop {σ : Type} {c : Code} (F : σ -> St) (Pr : σ -> Prop) (μ : σ -> Nat) (s0 : σ) (h0 : Pr s0) (hg : Gh C N st (F s0))
 (hstep : ∀ s, Pr s -> W C N c (AT (fun st' => ∃ s', Pr s' /\ μ s' < μ s /\ Gh C N st' (F s')) Q) (F s)) : W C N (.loop c) Q st := ⟨c_loop F Pr μ s0 h0 hg (fun s h => (hstep s h).out.mono fun _ _ q => q.out)⟩
theorem summW {P : Program} {G : Nat -> Option FV} {f : Nat} {fn : Func} {c : Code} {args : List FV} {r : FV} (hf : P.funcs[f]? = some fn) (hb : fn.body = some c) (hname : (fn.name == "runtime.NumGoroutine") = false) (n : Nat) (hn : fn.ntmps = n) (hl : args.length <= n)
 (h : ∀ M0 : Nat -> Prop, W ⟨P, G, M0, fun _ => False, none, fun _ => none⟩ n c (Leaves ⟨P, G, M0, fun _ => False, none, fun _ => none⟩ n fn r) (st0 args)) : Summ P G f args r := summ_of hf hb hname n hn hl (fun M0 => (h M0).out)
theorem t_norm {K : St -> Prop} (h : K st) : AT K Q .normal st := ⟨h⟩
theorem t_exit {K : St -> Prop} {i : Nat} (h : Q (.exit i) st) : AT K Q (.exit i) st := ⟨h⟩
theorem t_ret {K : St -> Prop} (h : Q .ret st) : AT K Q .ret st := ⟨h⟩
theorem k_hit {i : Nat} (h : Q .normal st) : AB i Q (.exit i) st := ⟨ab_hit h⟩
theorem k_miss {i j : Nat} (hn : Nat.beq j i = false) (h : Q (.exit j) st) : AB i Q (.exit j) st := ⟨ab_miss hn h⟩
theorem k_norm {i : Nat} (h : Q .normal st) : AB i Q .normal st := ⟨h⟩
theorem k_ret {i : Nat} (h : Q .ret st) : AB i Q .ret st := ⟨h⟩
def St.frB (C : Ctx) (st : St) : Bool := match st.h st.nx with
 | none => match C.J0 st.nx with
   | none => true
   | some _ => false
 | some _ => false
theorem frB_spec (h : st.frB C = true) : st.h st.nx = none /\ C.J0 st.nx = none := by
 unfold St.frB at h
 split at h
 · rename_i h1
   split at h
   · rename_i h2; exact ⟨h1, h2⟩
   · cases h
 · cases h
theorem s_nil (h : K st) : R C N ops pr K [] st := ⟨h⟩
theorem s_leq {d : Option Tmp} {T0 : TypeId} {pos : String} {af : Array Edge} {T T' : TypeId} {x y : Operand} {k : IntKind} {p q : Int} (hd : dstB N d = true) (hx : st.ev C x = .f (.v (.int k p))) (hy' : st.ev C y = .f (.v (.int k q))) (h : R C N ops pr K rest (st.put d (.f (.v (.bool (decide (p <= q))))))) : R C N ops pr K (⟨d, .binOp .leq T x y T', T0, pos, af, none⟩ :: rest) st := ⟨r_val rfl (v_bin rfl hd hx hy' b_leq) h.out⟩
theorem s_makefn {d : Option Tmp} {T0 : TypeId} {pos : String} {af : Array Edge} {gf : Nat} {caps : Array Operand} {xs : List FV} (hd : dstB N d = true) (hp : st.evL C caps.toList = some xs) (h : R C N ops pr K rest (st.put d (.f (.fn gf xs)))) : R C N ops pr K (⟨d, .makeFunc (.func gf) #[] caps, T0, pos, af, none⟩ :: rest) st := ⟨r_val rfl (v_makefn rfl hd hp) h.out⟩
theorem s_slice (ty : Ty C.P) {d : Option Tmp} {T0 : TypeId} {pos : String} {af : Array Edge} {T E s bs : Nat} {x : Operand} {lo hi : Option Operand} {cs : List FV} {n : Nat} {l h' : Int} (hd : dstB N d = true) (hT : (ty.ty T).sl = some (E, s, bs)) (hx : st.ev C x = .f (.sl n cs)) (hlo : bnd C st lo 0 l) (hhi : bnd C st hi n h') (h0 : 0 <= l) (hlh : l <= h') (hhn : h' <= n) (h : R C N ops pr K rest (st.put d (.f (.sl (h'.toNat - l.toNat) ((cs.drop (l.toNat * s)).take ((h'.toNat - l.toNat) * s)))))) : R C N ops pr K (⟨d, .slice T x lo hi none, T0, pos, af, none⟩ :: rest) st := ⟨r_val rfl (v_slice ty rfl hd hT hx hlo hhi h0 hlh hhn) h.out⟩
theorem s_alloc (ty : Ty C.P) {d : Option Tmp} {T0 : TypeId} {pos : String} {af : Array Edge} {T : TypeId} {zs : List Value} (hd : dstB N d = true) (hn : st.frB C = true) (hz : (ty.ty T).zero = some zs) (h : R C N ops pr K rest ⟨(st.put d (.bx st.nx 0)).s, upd st.h st.nx (some (.box (zs.map fun z => .f (.v z)))), st.nx + 1⟩) : R C N ops pr K (⟨d, .alloc T, T0, pos, af, none⟩ :: rest) st := ⟨r_all rfl rfl (frB_spec hn).1 (a_alloc ty rfl hd hz (frB_spec hn).2) h.out⟩
theorem s_boxw {d : Option Tmp} {T0 : TypeId} {pos : String} {af : Array Edge} {T : TypeId} {x : Operand} {y : FV} {cs : List FV} (hd : dstB N d = true) (hn : st.frB C = true) (hx : st.ev C x = .f y) (hc : cellsF y = some cs) (h : R C N ops pr K rest ⟨(st.put d (.bx st.nx 0)).s, upd st.h st.nx (some (.box (cs.map .f))), st.nx + 1⟩) : R C N ops pr K (⟨d, .box T x, T0, pos, af, none⟩ :: rest) st := ⟨r_all rfl rfl (frB_spec hn).1 (a_box rfl hd hx hc (frB_spec hn).2) h.out⟩
theorem s_bslicew (ty : Ty C.P) {d : Option Tmp} {T0 : TypeId} {pos : String} {af : Array Edge} {T len E s bs : Nat} {parts : Array (Nat × Operand)} {zs : List Value} {xs : List (Nat × FV)} {cs : List FV} (hd : dstB N d = true) (hn : st.h st.nx = none) (hT : (ty.ty T).sl = some (E, s, bs)) (hz : (ty.ty E).zero = some zs) (hs : Nat.ble (len * s) 16777216 = true) (hs0 : Nat.blt 0 s = true) (hp : st.evP C parts.toList = some xs) (hf : fillF (fun i => some (i * s, s)) (initF zs (len * s)) xs = some cs) (hl : cs.length = len * s) (h : R C N ops pr K rest ⟨(st.put d (.ow st.nx)).s, upd st.h st.nx (some (.row E s len cs)), st.nx + 1⟩) : R C N ops pr K (⟨d, .buildSlice T len parts, T0, pos, af, none⟩ :: rest) st := ⟨r_all rfl rfl hn (a_bslice ty rfl hd hT hz (Nat.le_of_ble_eq_true hs) (Nat.le_of_ble_eq_true hs0) hp hf hl) h.out⟩
theorem s_store (ty : Ty C.P) {T0 : TypeId} {pos : String} {af : Array Edge} {T i off : Nat} {x y : Operand} {cs ys : List AV} {av : AV} (hx : st.ev C x = .bx i off) (hi : st.h i = some (.box cs)) (hy : st.ev C y = av) (hc : cellsA av = some ys) (hT : sizeB (ty.ty T) ys.length = true) (hl : Nat.ble (off + ys.length) cs.length = true) (h : R C N ops false K rest { st with h := upd st.h i (some (.box (setAt cs off ys))) }) : R C N ops false K (⟨none, .store T x y, T0, pos, af, none⟩ :: rest) st := ⟨r_eff rfl (e_store ty rfl rfl hx hi hy hc hT (Nat.le_of_ble_eq_true hl)) h.out⟩
theorem s_append (ty : Ty C.P) {T0 : TypeId} {pos : String} {af : Array Edge} {T i n m e sz bs d : Nat} {x y : Operand} {cs ys : List FV} {zs : List Value} (hdN : dstB N (some d) = true) (hT : (ty.ty T).sl = some (e, sz, bs)) (hz : (ty.ty e).zero = some zs) (hzl : zs.length = sz) (hsz : Nat.blt 0 sz = true) (hx : st.ev C x = .ow i) (hi : st.h i = some (.row e sz n cs)) (hy : st.ev C y = .f (.sl m ys)) (hl : ys.length = m * sz) (h63 : n + m <= maxLen) (hbs : (n + m) * bs <= 140737488355328) (h : R C N ops false K rest ((st.grow i (.row e sz (n + m) (cs ++ ys))).put (some d) (.ow i))) : R C N ops false K (⟨some d, .call { callee := .builtin .append, args := #[x, y], argTypes := #[T, T] }, T0, pos, af, none⟩ :: rest) st := ⟨r_eff rfl (e_append ty rfl rfl hdN hT hz hzl (Nat.le_of_ble_eq_true hsz) hx hi hy hl h63 hbs) h.out⟩
end
end Go.Ab
