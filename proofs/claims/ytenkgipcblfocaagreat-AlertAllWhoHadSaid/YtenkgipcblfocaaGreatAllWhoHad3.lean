/- Laws on which the proofs of this seat stand. No condition. -/
import Derived.Test.YtenkgipcblfocaaGreatAllWhoHad2
import Derived.Shelf.SortG.Plain
import Derived.Shelf.SortG.SortNone
import Derived.Shelf.SlicesE.Delete
import Derived.Test.YtenkgipcblfocaaGreatProg
namespace Go.Ab
open Go Go.RowKit Go.Shelf Go.Proofs
def pin0 (J : Nat → Value) (i : Nat) : Option Value := bif Nat.beq i 0 then some (J 0) else none
def cxH (P : Program) (G : Nat → Option (List FV)) (M X : Nat → Prop) (J : Nat → Value) : Ctx := ⟨P, G, M, X, none, pin0 J⟩
theorem pin0_some {J : Nat → Value} {i : Nat} {p : Value} (e : pin0 J i = some p) : i = 0 ∧ p = J 0 := by
  unfold pin0 at e
  cases hi : Nat.beq i 0 with
  | false => rw [hi] at e; cases e
  | true => rw [hi] at e; cases e; exact ⟨Nat.eq_of_beq_eq_true hi, rfl⟩
structure SummH (P : Program) (G : Nat → Option (List FV)) (g : Nat) (h : Nat → Option Blk) (args : List AV) (ret : AV) (h' : Nat → Option Blk) : Prop where
  enters : Enters P g
  one : ∃ B B', h 0 = some B ∧ B.stays = true ∧ h' 0 = some B' ∧ B'.stays = true
  cl : ∀ i B, h i = some B → closedB h B
  call : ∀ (w : World) (M X : Nat → Prop) (us : List Value) (J : Nat → Value), (∀ b, X b ↔ ownM h J b) → (∀ b, M b → b < w.heap.size ∧ ¬ X b) → (∀ k, G k = none) →
    RepAs (cxH P G M X J) w h J us args → (∀ i B, h i = some B → RepB (cxH P G M X J) w w.heap.size h J (J i) B) → (∀ i j b, (h i).isSome = true → (h j).isSome = true → bk (J i) = some b → bk (J j) = some b → i = j) →
    Calls P g us.toArray w fun en w' => ∃ v J', en = .returned v ∧ RepA (cxH P G M X J) w' h' J' v ret ∧ (∀ i B, h' i = some B → RepB (cxH P G M X J) w' w.heap.size h' J' (J' i) B) ∧ (∀ i j b, (h' i).isSome = true → (h' j).isSome = true → bk (J' i) = some b → bk (J' j) = some b → i = j) ∧ Grew X w w' ∧ J' 0 = J 0
def RetH (C : Ctx) (N : Nat) (fn : Func) (ret : AV) (h' : Nat → Option Blk) (st : St) : Prop := ∃ s nx, Gh C N st ⟨s, h', nx⟩ ∧ ResG C N fn ret ⟨s, h', nx⟩
def LeavesH (C : Ctx) (N : Nat) (fn : Func) (ret : AV) (h' : Nat → Option Blk) : Exit → St → Prop
  | .normal, st => RetH C N fn ret h' st
  | .ret, st => RetH C N fn ret h' st
  | _, _ => False
def stH (h : Nat → Option Blk) (nx : Nat) (args : List AV) : St := ⟨fun t => match args[t]? with | some x => x | none => .bot, h, nx⟩
theorem summH_of {P : Program} {G : Nat → Option (List FV)} {f : Nat} {fn : Func} {c : Code} {h h' : Nat → Option Blk} {args : List AV} {ret : AV} (nx : Nat) (hf : P.funcs[f]? = some fn) (hb : fn.body = some c) (hname : (fn.name == "runtime.NumGoroutine") = false) (N : Nat) (hn : fn.ntmps = N) (hl : args.length ≤ N)
    (h1 : ∃ B B', h 0 = some B ∧ B.stays = true ∧ h' 0 = some B' ∧ B'.stays = true) (hcl : ∀ i B, h i = some B → closedB h B)
    (hw : ∀ (M X : Nat → Prop) (J : Nat → Value), W (cxH P G M X J) N c (LeavesH (cxH P G M X J) N fn ret h') (stH h nx args)) : SummH P G f h args ret h' := by
  refine ⟨enters_of hf hname hb, h1, hcl, fun w M X us J hX hM hG R hB hA => ?_⟩
  refine calls_of_wp_marks hf hb (wpIn_wide.1 ((hw M X J).out w _ w _ ⟨J, Grew.refl _ _, ?_, ⟨trivial, fun _ => rfl⟩, fun t => ?_, hB, hA, hM, fun g cs hg => (by have h0 : G g = none := hG g; have h1 : G g = some cs := hg; rw [h0] at h1; cases h1), fun i p B hp _ _ => (by obtain ⟨rfl, rfl⟩ := pin0_some hp; rfl)⟩ ?_))
  · have := R.1; simp [hn]; omega
  · show RepA _ w _ _ ((us.toArray ++ Array.replicate (fn.ntmps - us.toArray.size) undef).getD t undef) (match args[t]? with | some x => x | none => .bot)
    cases ha : args[t]? with
    | none => trivial
    | some x =>
      have ht : t < us.length := by rw [R.1]; exact (List.getElem?_eq_some_iff.1 ha).1
      have : (us.toArray ++ Array.replicate (fn.ntmps - us.toArray.size) undef).getD t undef = us[t] := by
        rw [Array.getD_eq_getD_getElem?, Array.getElem?_append_left (by simpa using ht)]
        simp [ht]
      rw [this]
      exact R.2 t _ x (List.getElem?_eq_getElem ht) ha
  · intro en st' a' w' q S'
    obtain ⟨B1, B1', -, -, hB1', hs1'⟩ := h1
    have fin : RetH (cxH P G M X J) N fn ret h' st' → ∀ W', KeepsP Obj.stays w.heap.size w' W' → ∃ v, (results fn a'.tmps).run P W' = .ok v W' ∧ ∃ v' J', Ending.returned v = .returned v' ∧ RepA (cxH P G M X J) W' h' J' v' ret ∧ (∀ i B, h' i = some B → RepB (cxH P G M X J) W' w.heap.size h' J' (J' i) B) ∧ (∀ i j b, (h' i).isSome = true → (h' j).isSome = true → bk (J' i) = some b → bk (J' j) = some b → i = j) ∧ Grew X w W' ∧ J' 0 = J 0 := fun ⟨s, nx, g, q⟩ W' hkp => by
      obtain ⟨J1, S1⟩ := S'
      have S2 := S1.keeps0 hkp (Nat.le_refl _) (ds := []) ⟨trivial, fun _ => rfl⟩
      obtain ⟨J2, S3⟩ := g w { a' with defers := [] } W' ⟨J1, S2⟩
      obtain ⟨v, h1, h2⟩ := q w { a' with defers := [] } W' J2 S3
      exact ⟨v, h1, v, J2, rfl, h2, S3.blk, S3.apart, S3.ext, S3.fix 0 (J 0) B1' rfl hB1' hs1'⟩
    have hm : Marks w.heap.size w' a'.defers := let ⟨_, S2⟩ := S'; S2.defs.1
    cases en with
    | normal => exact bodyPostM_marksP (s := Obj.stays) (fun _ => rfl) _ hm (fin q)
    | ret => exact bodyPostM_marksP (s := Obj.stays) (fun _ => rfl) _ hm (fin q)
    | _ => exact q.elim
def keepC (h : Nat → Option Blk) : Cap → Option Cap
  | .f x => some (.f x)
  | .bx i off => bif Nat.beq i 0 || (h i).isNone then some (.bx i off) else none
  | .ow i => bif Nat.beq i 0 || (h i).isNone then some (.ow i) else none
  | .sv i off n => bif Nat.beq i 0 || (h i).isNone then some (.sv i off n) else none
def keepA (h : Nat → Option Blk) : AV → AV := AV.tr (keepC h)
def joinH (h h' h0 : Nat → Option Blk) (i : Nat) : Option Blk := match h' i with
  | some B => some B
  | none => match h i with
    | some _ => none
    | none => (h0 i).map (Blk.mapA (keepA h))
theorem RepB.convC {C C' : Ctx} {w : World} {base base' : Nat} {h h' : Nat → Option Blk} {J : Nat → Value} {v : Value} {B : Blk} (r : RepB C w base h J v B) (hc : closedB h' B) (hb : ∀ b, bk v = some b → (base' ≤ b ∨ C'.X b)) (conv : ∀ v x, RepA C w h J v x → closedA h' x → RepA C' w h' J v x) (hF : ∀ v x, RepF w (Mb C h J) v x → RepF w (Mb C' h' J) v x) : RepB C' w base' h' J v B := by
  cases B with
  | box cells =>
    obtain ⟨b, T, us, q1, q2, q3, q4, q5, q6⟩ := r
    exact ⟨b, T, us, q1, hb b (by rw [q1]; rfl), q3, q4, q5, fun k u x h1 h2 => conv _ _ (q6 k u x h1 h2) (hc x (List.mem_of_getElem? h2))⟩
  | row E sz m cells =>
    obtain ⟨xs, q1, q0, q2, q3⟩ := r
    exact ⟨xs, q1, fun b h => hb b h, q2, q3.1, fun k u x h1 h2 => hF _ _ (q3.2 k u x h1 h2)⟩
  | rowA E sz m cells =>
    obtain ⟨xs, q1, q0, q2, q3, q4⟩ := r
    exact ⟨xs, q1, fun b h => hb b h, q2, q3, fun k u x h1 h2 => conv _ _ (q4 k u x h1 h2) (hc x (List.mem_of_getElem? h2))⟩
  | arr E sz m cells =>
    obtain ⟨xs, q1, q0, q2, q3, q4⟩ := r
    exact ⟨xs, q1, fun b h => hb b h, q2, q3, fun k u x h1 h2 => conv _ _ (q4 k u x h1 h2) (hc x (List.mem_of_getElem? h2))⟩
  | map G =>
    obtain ⟨b, o, e, q1, q2, q3, q4⟩ := r
    exact ⟨b, o, e, hb b (by rw [e]; rfl), q2, q3, q4⟩
def closedL (h : Nat → Option Blk) : List AV → Prop
  | [] => True
  | x :: l => closedA h x ∧ closedL h l
theorem closedL_mem {h : Nat → Option Blk} : ∀ {l : List AV}, closedL h l → ∀ x ∈ l, closedA h x
  | [], _, x, hx => by simp at hx
  | y :: l, hl, x, hx => by
    rcases List.mem_cons.1 hx with rfl | hx
    · exact hl.1
    · exact closedL_mem hl.2 x hx
section
variable {C : Ctx} {N : Nat} {st : St}
theorem e_callH {o : Oper} {f : Operand} {args : Array Operand} {ts : Array TypeId} {g : Nat} {h h' : Nat → Option Blk} {ags caps : List AV} {ret : AV} (Kh : SummH C.P C.G g h ags ret h') (hG : ∀ k, C.G k = none) (ho : o.op = .call { callee := .value f, args := args, argTypes := ts }) (hd : dstB N o.dst = true) (hf : fnCaps (st.ev C f) = some (g, caps))
    (has : args.toList.map (st.ev C) ++ caps = ags) (hac : closedL h ags) (hh : ∀ i B, h i = some B → st.h i = some B) (hnew : ∀ i, h i = none → (h' i).isSome = true → st.h i = none) (hp : ∀ i p, C.J0 i = some p → i = 0) : EffOp C N o st (St.put ⟨fun t => keepA h (st.s t), joinH h h' st.h, st.nx⟩ o.dst ret) := by
  intro w0 a w ⟨J, S⟩ K1 Q hK
  obtain ⟨us, hv, hcap⟩ := fnCaps_rep (S.eval f) hf
  have hrun := callEnter (w := w) Kh.enters ho hv
  refine op_enter hrun ?_
  have hargs := RepAs.append (evs_rep S args.toList) hcap
  rw [has] at hargs
  obtain ⟨B0, B0', h0, s0, h0', s0'⟩ := Kh.one
  have live : ∀ i, (h i).isSome = true → (st.h i).isSome = true := fun i hi => by
    obtain ⟨B, hB⟩ := Option.isSome_iff_exists.1 hi
    rw [hh i B hB]; rfl
  let M : Nat → Prop := fun b => C.M0 b ∨ ∃ i, h i = none ∧ (st.h i).isSome = true ∧ bk (J i) = some b
  let X : Nat → Prop := ownM h J
  have hM : ∀ b, M b → b < w.heap.size ∧ ¬ X b := fun b hb => by
    rcases hb with hb | ⟨i, h1, h2, h3⟩
    · exact ⟨Nat.lt_of_lt_of_le (S.old b hb).1 S.ext.le, fun ⟨i, hi, hbi⟩ => m0_not S (live i hi) hbi hb⟩
    · refine ⟨(S.own_at h2 h3).2, fun ⟨j, hj, hbj⟩ => ?_⟩
      have := S.apart i j b h2 (live j hj) h3 hbj
      subst this; rw [h1] at hj; cases hj
  have mb1 : ∀ b, Mb (cxH C.P C.G M X J) h J b ↔ Mb C st.h J b := fun b => by
    constructor
    · rintro ((h1 | ⟨i, _, h2, h3⟩) | ⟨i, h1, h2⟩)
      · exact .inl h1
      · exact .inr ⟨i, h2, h3⟩
      · exact .inr ⟨i, live i h1, h2⟩
    · rintro (h1 | ⟨i, h1, h2⟩)
      · exact .inl (.inl h1)
      · cases hi : h i with
        | none => exact .inl (.inr ⟨i, hi, h1, h2⟩)
        | some B => exact .inr ⟨i, by rw [hi]; rfl, h2⟩
  have inF : ∀ u x, RepF w (Mb C st.h J) u x → RepF w (Mb (cxH C.P C.G M X J) h J) u x := fun u x q => RepF.ext q (Ext.refl _) (fun b _ hb => (mb1 b).1 hb)
  have inA : ∀ u x, RepA C w st.h J u x → closedA h x → RepA (cxH C.P C.G M X J) w h J u x := fun u x q hc => by
    refine q.sameP fun u c hm q => ?_
    have hcc := closed_parts hc c hm
    cases c with
    | f x => exact inF _ _ q
    | bx i off => exact ⟨hcc, q.2⟩
    | ow i => exact ⟨hcc, q.2⟩
    | sv i off n => exact ⟨hcc, q.2⟩
  refine Calls.mono (Kh.call w M X _ J (fun b => Iff.rfl) hM hG ⟨hargs.1, fun k u x h1 h2 => inA _ _ (hargs.2 k u x h1 h2) (closedL_mem hac x (List.mem_of_getElem? h2))⟩ (fun i B hB => (S.blk i B (hh i B hB)).convC (Kh.cl i B hB) (fun b hb => .inr ⟨i, by rw [hB]; rfl, hb⟩) inA inF) (fun i j b hi hj => S.apart i j b (live i hi) (live j hj))) ?_
  rintro en w' ⟨v, J', rfl, hret, hblk, hap, hg, hpin⟩
  let J2 : Nat → Value := fun i => match h' i with | some _ => J' i | none => J i
  have J2l : ∀ i, (h' i).isSome = true → J2 i = J' i := fun i hi => by
    obtain ⟨B, hB⟩ := Option.isSome_iff_exists.1 hi
    show (match h' i with | some _ => J' i | none => J i) = _; rw [hB]
  have J2f : ∀ i, h' i = none → J2 i = J i := fun i hi => by
    show (match h' i with | some _ => J' i | none => J i) = _; rw [hi]
  have jl : ∀ i, (h' i).isSome = true → joinH h h' st.h i = h' i := fun i hi => by
    obtain ⟨B, hB⟩ := Option.isSome_iff_exists.1 hi
    unfold joinH; rw [hB]
  have jf : ∀ i, h' i = none → h i = none → joinH h h' st.h i = (st.h i).map (Blk.mapA (keepA h)) := fun i h1 h2 => by unfold joinH; rw [h1, h2]
  have jd : ∀ i, h' i = none → (h i).isSome = true → joinH h h' st.h i = none := fun i h1 h2 => by
    obtain ⟨B, hB⟩ := Option.isSome_iff_exists.1 h2
    unfold joinH; rw [h1, hB]
  have jcase : ∀ i, (joinH h h' st.h i).isSome = true → ((h' i).isSome = true ∧ J2 i = J' i) ∨ (h' i = none ∧ h i = none ∧ (st.h i).isSome = true ∧ J2 i = J i) := fun i hi => by
    cases h1 : h' i with
    | some B => exact .inl ⟨rfl, J2l i (by rw [h1]; rfl)⟩
    | none =>
      cases h2 : h i with
      | some B => rw [jd i h1 (by rw [h2]; rfl)] at hi; cases hi
      | none =>
        rw [jf i h1 h2] at hi
        exact .inr ⟨rfl, rfl, by simpa using hi, J2f i h1⟩
  have mb2 : ∀ b, Mb C (joinH h h' st.h) J2 b → Mb (cxH C.P C.G M X J) h' J' b := fun b hb => by
    rcases hb with hb | ⟨i, hi, hbi⟩
    · exact .inl (.inl hb)
    · rcases jcase i hi with ⟨h1, h2⟩ | ⟨h1, h2, h3, h4⟩
      · rw [h2] at hbi; exact .inr ⟨i, h1, hbi⟩
      · rw [h4] at hbi; exact .inl (.inr ⟨i, h2, h3, hbi⟩)
  have hx : ∀ b, w.heap.size ≤ b ∨ X b → w0.heap.size ≤ b ∨ C.X b := fun b hb => by
    rcases hb with hb | ⟨i, hi, hbi⟩
    · exact .inl (Nat.le_trans S.ext.le hb)
    · exact (S.own_at (live i hi) hbi).1
  have mb3 : ∀ b, b < w.heap.size → Mb C (joinH h h' st.h) J2 b → Mb C st.h J b := fun b hb hm => by
    rcases hm with h0 | ⟨i, hi, hbi⟩
    · exact .inl h0
    · rcases jcase i hi with ⟨h1, h2⟩ | ⟨h1, h2, h3, h4⟩
      · rw [h2] at hbi
        obtain ⟨B, hB⟩ := Option.isSome_iff_exists.1 h1
        rcases ((hblk i B hB).ge hbi).1 with h5 | h5
        · omega
        · obtain ⟨j, hj, hbj⟩ := h5
          exact .inr ⟨j, live j hj, hbj⟩
      · rw [h4] at hbi; exact .inr ⟨i, h3, hbi⟩
  have same : ∀ b, b < w.heap.size → ¬ X b → w'.heap[b]? = w.heap[b]? := fun b hb hm => hg.block b hb hm
  have outF : ∀ u x, RepF w (Mb C st.h J) u x → RepF w' (Mb C (joinH h h' st.h) J2) u x := fun u x q => RepF.mono q (fun b hb hm => same b hb fun ⟨i, hi, hbi⟩ => hm (.inr ⟨i, live i hi, hbi⟩)) hg.le mb3
  have J20 : J2 0 = J 0 := by rw [J2l 0 (by rw [h0']; rfl)]; exact hpin
  have at_ : ∀ i, (Nat.beq i 0 || (h i).isNone) = true → (st.h i).isSome = true → (joinH h h' st.h i).isSome = true ∧ J2 i = J i := fun i hk hl => by
    by_cases e : i = 0
    · subst e; exact ⟨by rw [jl 0 (by rw [h0']; rfl), h0']; rfl, J20⟩
    · have hb0 : Nat.beq i 0 = false := by cases hb : Nat.beq i 0; rfl; exact absurd (Nat.eq_of_beq_eq_true hb) e
      rw [hb0, Bool.false_or] at hk
      have hn : h i = none := by simpa using hk
      cases h1 : h' i with
      | some B => rw [hnew i hn (by rw [h1]; rfl)] at hl; cases hl
      | none => exact ⟨by rw [jf i h1 hn]; simpa using hl, J2f i h1⟩
  have conv : ∀ (u : Value) (x : AV), RepA C w st.h J u x → RepA C w' (joinH h h' st.h) J2 u (keepA h x) := fun u x q => by
    refine q.tr fun u c c' e q => ?_
    cases c with
    | f x => simp only [keepC, Option.some.injEq] at e; subst e; exact outF _ _ q
    | bx i off =>
      cases hi : (Nat.beq i 0 || (h i).isNone) with
      | false => simp only [keepC, hi, cond_false] at e; cases e
      | true =>
        simp only [keepC, hi, cond_true, Option.some.injEq] at e; subst e
        obtain ⟨h1, h2⟩ := at_ i hi q.1
        exact ⟨h1, by rw [h2]; exact q.2⟩
    | ow i =>
      cases hi : (Nat.beq i 0 || (h i).isNone) with
      | false => simp only [keepC, hi, cond_false] at e; cases e
      | true =>
        simp only [keepC, hi, cond_true, Option.some.injEq] at e; subst e
        obtain ⟨h1, h2⟩ := at_ i hi q.1
        exact ⟨h1, by rw [h2]; exact q.2⟩
    | sv i off n =>
      cases hi : (Nat.beq i 0 || (h i).isNone) with
      | false => simp only [keepC, hi, cond_false] at e; cases e
      | true =>
        simp only [keepC, hi, cond_true, Option.some.injEq] at e; subst e
        obtain ⟨h1, h2⟩ := at_ i hi q.1
        exact ⟨h1, by rw [h2]; exact q.2⟩
  have backF : ∀ u x, RepF w' (Mb (cxH C.P C.G M X J) h' J') u x → RepF w' (Mb C (joinH h h' st.h) J2) u x := fun u x q => RepF.ext q (Ext.refl _) (fun b _ hb => mb2 b hb)
  have backA : ∀ u x, RepA (cxH C.P C.G M X J) w' h' J' u x → RepA C w' (joinH h h' st.h) J2 u x := fun u x q => q.same fun _ _ q => q.conv (fun i hi => ⟨by rw [jl i hi]; exact hi, J2l i hi⟩) backF
  refine hK v w' ⟨J2, Sim.put (st := ⟨fun t => keepA h (st.s t), joinH h h' st.h, st.nx⟩) ⟨⟨hg.os.trans S.ext.os, hg.tape.trans S.ext.tape, hg.output.trans S.ext.output, Nat.le_trans S.ext.le hg.le, fun k hk hX => ?_⟩, S.size, ⟨?_, S.defs.2⟩, fun t => conv _ _ (S.slot t), fun i B hB => ?_, fun i j b hi hj hbi hbj => ?_, S.old, fun gl cs hgl => (by rw [hG gl] at hgl; cases hgl), fun i p B hpi hB hs => ?_⟩ hd (backA _ _ hret)⟩
  · refine (hg.block k (Nat.lt_of_lt_of_le hk S.ext.le) (fun ho => ?_)).trans (S.ext.block k hk hX)
    rcases hx k (.inr ho) with h1 | h1
    · omega
    · exact hX h1
  · exact S.defs.1.keeps fun D hm hD => (hg.block D (Marks.lt S.defs.1 D hm) (fun ⟨i, hi, hbi⟩ => by
      obtain ⟨o, h2, h3⟩ := S.ownCells ⟨i, live i hi, hbi⟩
      rw [hD] at h2; cases h2; cases h3)).trans hD
  · have hs : (joinH h h' st.h i).isSome = true := by rw [show joinH h h' st.h i = some B from hB]; rfl
    rcases jcase i hs with ⟨h1, h2⟩ | ⟨h1, h2, h3, h4⟩
    · have hB' : h' i = some B := by rw [← jl i h1]; exact hB
      rw [h2]
      exact (hblk i B hB').conv0 (fun _ _ => rfl) (fun b _ h => hx b h) backA backF
    · have hB' : (st.h i).map (Blk.mapA (keepA h)) = some B := by rw [← jf i h1 h2]; exact hB
      obtain ⟨B1, hB1, rfl⟩ := Option.map_eq_some_iff.1 hB'
      rw [h4]
      refine (S.blk i B1 hB1).conv (keepA h) (fun b hb => same b (S.own_at h3 hb).2 (fun ⟨j, hj, hbj⟩ => ?_)) (fun _ _ h => h) conv outF
      have := S.apart i j b h3 (live j hj) hb hbj
      subst this; rw [h2] at hj; cases hj
  · rcases jcase i hi with ⟨h1, h2⟩ | ⟨h1, h2, h3, h4⟩ <;> rcases jcase j hj with ⟨k1, k2⟩ | ⟨k1, k2, k3, k4⟩
    · rw [h2] at hbi; rw [k2] at hbj; exact hap i j b h1 k1 hbi hbj
    · rw [h2] at hbi; rw [k4] at hbj
      obtain ⟨B, hB⟩ := Option.isSome_iff_exists.1 h1
      rcases ((hblk i B hB).ge hbi).1 with h5 | ⟨l, hl, hbl⟩
      · have := (S.own_at k3 hbj).2; omega
      · have := S.apart l j b (live l hl) k3 hbl hbj
        subst this; rw [k2] at hl; cases hl
    · rw [h4] at hbi; rw [k2] at hbj
      obtain ⟨B, hB⟩ := Option.isSome_iff_exists.1 k1
      rcases ((hblk j B hB).ge hbj).1 with h5 | ⟨l, hl, hbl⟩
      · have := (S.own_at h3 hbi).2; omega
      · have := S.apart l i b (live l hl) h3 hbl hbi
        subst this; rw [h2] at hl; cases hl
    · rw [h4] at hbi; rw [k4] at hbj; exact S.apart i j b h3 k3 hbi hbj
  · have e0 := hp i p hpi
    subst e0
    rw [J20]
    exact S.fix 0 p B0 hpi (hh 0 B0 h0) s0
variable {ops : Array Oper} {K : St → Prop} {rest : List Oper} {d : Option Tmp} {T0 : TypeId} {pos : String} {af : Array Edge}
theorem s_callH {f : Operand} {args : Array Operand} {ts : Array TypeId} {g : Nat} {h h' : Nat → Option Blk} {ags caps : List AV} {ret : AV} (Kh : SummH C.P C.G g h ags ret h') (hG : ∀ k, C.G k = none) (hp : ∀ i p, C.J0 i = some p → i = 0) (hd : dstB N d = true) (hf : fnCaps (st.ev C f) = some (g, caps))
    (has : args.toList.map (st.ev C) ++ caps = ags) (hac : closedL h ags) (hh : ∀ i B, h i = some B → st.h i = some B) (hnew : ∀ i, h i = none → (h' i).isSome = true → st.h i = none) (k : R C N ops false K rest (St.put ⟨fun t => keepA h (st.s t), joinH h h' st.h, st.nx⟩ d ret)) : R C N ops false K (⟨d, .call { callee := .value f, args := args, argTypes := ts }, T0, pos, af, none⟩ :: rest) st :=
  ⟨r_eff rfl (e_callH Kh hG rfl hd hf has hac hh hnew hp) k.out⟩
theorem lvH_ret {fn : Func} {ret : AV} {h' : Nat → Option Blk} {s : Nat → AV} {nx : Nat} (g : Gh C N st ⟨s, h', nx⟩) (h : ResG C N fn ret ⟨s, h', nx⟩) : LeavesH C N fn ret h' .ret st := ⟨s, nx, g, h⟩
theorem gh_eq {s : Nat → AV} {h h' : Nat → Option Blk} {n : Nat} (e : h = h') : Gh C N ⟨s, h, n⟩ ⟨s, h', n⟩ := by subst e; exact gh_refl _
theorem sees_arr {i e sz n : Nat} {cells : List AV} {ys : List FV} (hi : st.h i = some (.arr e sz n cells)) (hc : SeesL C N st cells ys) : Sees C N st (.ow i) (.sl n ys) := fun st' H w0 a w J S v r => by
  obtain ⟨hl, rfl⟩ := r
  obtain ⟨xs, q1, _, q2, q3, q4⟩ := H.blk S hi hl
  exact sees_own S hl q1 q2 ⟨by rw [q3, hc.len], fun k u x h1 h2 => by
    have hk : k < cells.length := by rw [hc.len]; exact (List.getElem?_eq_some_iff.1 h2).1
    exact hc.at_ k _ x (List.getElem?_eq_getElem hk) h2 st' H w0 a w J S u (q4 k u _ h1 (List.getElem?_eq_getElem hk))⟩
theorem gh_mvU (i j : Nat) {B : Blk} (hij : i ≠ j) (hi : st.h i = some B) (hj : st.h j = none) (hJi : C.J0 i = none) (hJj : C.J0 j = none) : Gh C N st (st.mv i j B) := fun w0 a w ⟨J, S⟩ => by
  refine ⟨upd J j (J i), ?_⟩
  have hji : Nat.beq j i = false := killA_ne (Ne.symm hij)
  have hat : (st.mv i j B).h j = some (B.mapA (mvA i j)) := by simp [St.mv, hji]
  have hgone : (st.mv i j B).h i = none := by simp [St.mv]
  have hoth : ∀ k, k ≠ i → k ≠ j → (st.mv i j B).h k = (st.h k).map (Blk.mapA (mvA i j)) := fun k h1 h2 => by simp [St.mv, killA_ne h1, killA_ne h2]
  have nj : ∀ k, (st.h k).isSome = true → k ≠ j := fun k h e => by subst e; rw [hj] at h; cases h
  have back : ∀ k b, ((st.mv i j B).h k).isSome = true → bk (upd J j (J i) k) = some b → ∃ k', (st.h k').isSome = true ∧ bk (J k') = some b ∧ (k' = i ↔ k = j) ∧ (k' ≠ i → k' = k) := fun k b h1 h2 => by
    by_cases e : k = j
    · subst e; rw [upd_same] at h2; exact ⟨i, by rw [hi]; rfl, h2, by simp, fun h => absurd rfl h⟩
    · rw [upd_other _ _ e] at h2
      have e2 : k ≠ i := fun e2 => by subst e2; rw [hgone] at h1; cases h1
      rw [hoth k e2 e] at h1
      exact ⟨k, by simpa using h1, h2, by simp [e, e2], fun _ => rfl⟩
  have hM : ∀ b, b < w.heap.size → Mb C (st.mv i j B).h (upd J j (J i)) b → Mb C st.h J b := by
    rintro b _ (h0 | ⟨k, hk, hb⟩)
    · exact .inl h0
    · obtain ⟨k', h1, h2, _⟩ := back k b hk hb
      exact .inr ⟨k', h1, h2⟩
  have conv : ∀ (v : Value) (x : AV), RepA C w st.h J v x → RepA C w (st.mv i j B).h (upd J j (J i)) v (mvA i j x) := fun v x q => by
    refine q.tr fun v c c' e q => ?_
    have h1 : ∀ k, (st.h k).isSome = true → k ≠ i → ((st.mv i j B).h k).isSome = true ∧ upd J j (J i) k = J k := fun k hk e => ⟨by rw [hoth k e (nj k hk)]; simpa using hk, by rw [upd_other _ _ (nj k hk)]⟩
    have h2 : ((st.mv i j B).h j).isSome = true ∧ upd J j (J i) j = J i := ⟨by rw [hat]; rfl, by rw [upd_same]⟩
    cases c with
    | f x => simp only [mvC, Option.some.injEq] at e; subst e; exact RepF.ext q (Ext.refl _) hM
    | bx k off =>
      by_cases ek : k = i
      · subst ek; simp only [mvC, Nat.beq_refl, cond_true, Option.some.injEq] at e; subst e; exact ⟨h2.1, by rw [h2.2]; exact q.2⟩
      · simp only [mvC, killA_ne ek, cond_false, Option.some.injEq] at e; subst e; exact ⟨(h1 k q.1 ek).1, by rw [(h1 k q.1 ek).2]; exact q.2⟩
    | ow k =>
      by_cases ek : k = i
      · subst ek; simp only [mvC, Nat.beq_refl, cond_true, Option.some.injEq] at e; subst e; exact ⟨h2.1, by rw [h2.2]; exact q.2⟩
      · simp only [mvC, killA_ne ek, cond_false, Option.some.injEq] at e; subst e; exact ⟨(h1 k q.1 ek).1, by rw [(h1 k q.1 ek).2]; exact q.2⟩
    | sv k off n =>
      by_cases ek : k = i
      · subst ek; simp only [mvC, Nat.beq_refl, cond_true, Option.some.injEq] at e; subst e; exact ⟨h2.1, by rw [h2.2]; exact q.2⟩
      · simp only [mvC, killA_ne ek, cond_false, Option.some.injEq] at e; subst e; exact ⟨(h1 k q.1 ek).1, by rw [(h1 k q.1 ek).2]; exact q.2⟩
  have cB : ∀ {v : Value} {D : Blk}, RepB C w w0.heap.size st.h J v D → RepB C w w0.heap.size (st.mv i j B).h (upd J j (J i)) v (D.mapA (mvA i j)) := fun q => q.conv (mvA i j) (fun _ _ => rfl) (fun _ _ h => h) conv (fun _ _ q => RepF.ext q (Ext.refl _) hM)
  refine ⟨S.ext, S.size, S.defs, fun t => conv _ _ (S.slot t), fun k D hD => ?_, fun k l b hk hl hkb hlb => ?_, S.old, fun g cs hg => RepF.ext (S.glob g cs hg) (Ext.refl _) hM, fun k p cells hp hc hs => ?_⟩
  · by_cases e : k = j
    · subst e; rw [hat] at hD; cases hD; rw [upd_same]; exact cB (S.blk i B hi)
    · have e2 : k ≠ i := fun e2 => by subst e2; rw [hgone] at hD; cases hD
      rw [hoth k e2 e, Option.map_eq_some_iff] at hD
      obtain ⟨B0, hB0, rfl⟩ := hD
      rw [upd_other _ _ e]; exact cB (S.blk k B0 hB0)
  · obtain ⟨k', p1, p2, p3, p4⟩ := back k b hk hkb
    obtain ⟨l', r1, r2, r3, r4⟩ := back l b hl hlb
    have e := S.apart k' l' b p1 r1 p2 r2
    by_cases ek : k' = i
    · rw [p3.1 ek, r3.1 (e ▸ ek)]
    · rw [← p4 ek, ← r4 (e ▸ ek), e]
  · by_cases e : k = j
    · subst e; rw [hJj] at hp; cases hp
    · have e2 : k ≠ i := fun e2 => by subst e2; rw [hgone] at hc; cases hc
      rw [hoth k e2 e, Option.map_eq_some_iff] at hc
      obtain ⟨B0, hB0, rfl⟩ := hc
      rw [upd_other _ _ e]
      exact S.fix k p B0 hp hB0 (by cases B0 <;> exact hs)
theorem seesL_f (ys : List FV) : SeesL C N st (ys.map .f) ys := by
  induction ys with
  | nil => trivial
  | cons y ys ih => exact ⟨sees_f y, ih⟩
end
end Go.Ab
namespace Go.Ab
open Go Go.RowKit Go.Shelf Go.Proofs
theorem row_frozen {w : World} {M : Nat → Prop} {base e sz n : Nat} {v : Value} {xs : List Value} {cs : List FV} (q1 : w.ownsRow base e sz v n xs) (q2 : ∀ u ∈ xs, u.oneCell' = true) (q3 : RepL w M xs cs) (hM : ∀ b, bk v = some b → ¬ M b) : RepF w M v (.sl n cs) := by
  have lies : ∀ b, bk v = some b → Lies w M b 0 xs := fun b hb =>
    ⟨by
      have hb' := hb
      rw [row_bk q1] at hb'
      exact (q1.lt b hb').2, hM b hb, fun k hk => by
      rw [Nat.zero_add]
      rw [row_bk q1] at hb
      obtain ⟨ad, c, e1⟩ := q1.isSlice
      have := q1.cells hb k xs[k] (List.getElem?_eq_getElem hk)
      rw [addr_add, Nat.zero_add] at this
      rw [this, List.getElem?_eq_getElem hk]⟩
  rcases q1.2 with ⟨e1, e2⟩ | ⟨g, cap, cur, e1, h1, h2, h3, h4, h5, h6⟩
  · rw [e1]
    have hx : xs = [] := List.eq_nil_of_length_eq_zero (by rw [q1.1, e2]; simp)
    subst hx
    subst e2
    exact RepF.sl none 0 0 cs [] (Nat.le_refl _) q3.1 q2 (fun h => absurd rfl h) (fun k u x h => by simp at h)
  · have hL := lies g (by rw [e1]; rfl)
    rw [e1]
    exact RepF.sl _ n cap cs xs h3 q3.1 q2 (fun _ => ⟨g, 0, rfl, hL⟩) (fun k u x a b => q3.2 k u x a b)
section
variable {C : Ctx} {N : Nat} {st : St}
theorem v_callNwF {o : Oper} {f : Operand} {args : Array Operand} {ts : Array TypeId} {g e sz n : Nat} {caps : List AV} {ys cs : List FV} (K : SummG C.P C.G g [] (ys.map .f) (.ow 0) [.row e sz n cs]) (hG : ∀ k, C.G k = none) (ho : o.op = .call { callee := .value f, args := args, argTypes := ts }) (hd : dstB N o.dst = true) (hf : fnCaps (st.ev C f) = some (g, caps))
    (hys : SeesL C N st (args.toList.map (st.ev C) ++ caps) ys) (hv : ∃ vs : List Value, cs = vs.map .v) : ValOp C N o st (.f (.sl n cs)) := by
  intro w0 a w st' hA ⟨J, S⟩ K1 Q hK
  have hfe : st'.ev C f = st.ev C f := hA.ev f (by simp [ho, Op.operands, Call.operands])
  have hae : args.toList.map (st'.ev C) = args.toList.map (st.ev C) := List.map_congr_left fun x hx => hA.ev x (by simp [ho, Op.operands, Call.operands]; exact .inr (by simpa using hx))
  obtain ⟨us, hfv, hcap⟩ := fnCaps_rep (S.eval f) (by rw [hfe]; exact hf)
  have hrun := callEnter (w := w) K.enters ho hfv
  refine op_enter hrun ?_
  have hargs := RepAs.append (evs_rep S args.toList) hcap
  rw [hae] at hargs
  have hm : ∀ b, C.M0 b → b < w.heap.size ∧ ¬ (fun _ : Nat => False) b := fun b hb => ⟨Nat.lt_of_lt_of_le (S.old b hb).1 S.ext.le, id⟩
  have hX : ∀ b, (fun _ : Nat => False) b ↔ lentX ([] : List Blk).length J b := fun b => ⟨False.elim, fun ⟨i, hi, _⟩ => absurd hi (Nat.not_lt_zero i)⟩
  have hR : RepAs (cxG C.P C.G C.M0 (fun _ => False) [] J) w (blkL []) J (args.toList.map a.eval ++ us) (ys.map .f) := ⟨by rw [hargs.1, hys.len]; simp, fun k u y h1 h2 => by
    rw [List.getElem?_map] at h2
    cases hk : ys[k]? with
    | none => rw [hk] at h2; cases h2
    | some z =>
      rw [hk] at h2; cases h2
      have hk2 : k < (args.toList.map (st.ev C) ++ caps).length := by rw [hys.len]; exact (List.getElem?_eq_some_iff.1 hk).1
      have := hys.at_ k _ z (List.getElem?_eq_getElem hk2) hk st' hA.hp w0 a w J S u (hargs.2 k u _ h1 (List.getElem?_eq_getElem hk2))
      exact RepF.ext this (Ext.refl _) (fun b _ hb => by
        rcases hb with h | ⟨i, hi, _⟩
        · exact h
        · rw [blkL_eq] at hi; simp at hi)⟩
  refine Calls.mono (K.call w C.M0 (fun _ => False) _ J hX hm (fun gl cs hg => by rw [hG gl] at hg; cases hg) hR ⟨fun i B h => by simp at h, fun i j b hi => absurd hi (Nat.not_lt_zero i)⟩) ?_
  rintro en w' ⟨v, J', rfl, hret, hL, hg, -⟩
  have he : Ext w w' := hg.toExt
  obtain ⟨-, rfl⟩ := hret
  obtain ⟨xs, q1, q0, q2, q3⟩ := hL.blk 0 _ rfl
  have hfresh : ∀ c, bk (J' 0) = some c → w.heap.size ≤ c := fun c hc => (q0 c hc).resolve_right id
  obtain ⟨vs, rfl⟩ := hv
  refine hK _ _ ⟨J, (S.toExt he).put hd (row_frozen q1 q2 ⟨by simpa using q3.1, fun k u x h1 h2 => ?_⟩ fun b hb hmb => ?_)⟩
  · rw [List.getElem?_map] at h2
    cases hk : vs[k]? with
    | none => rw [hk] at h2; cases h2
    | some z =>
      rw [hk] at h2; cases h2
      have := q3.2 k u (.v z) h1 (by rw [List.getElem?_map, hk]; rfl)
      rw [repV this]; exact RepF.v z
  · have h1 := hfresh b hb
    rcases hmb with h2 | ⟨i, hi, hbi⟩
    · have := (hm b h2).1; omega
    · have := (S.own_at hi hbi).2; omega
theorem v_callWF {o : Oper} {f : Operand} {args : Array Operand} {ts : Array TypeId} {g e sz n : Nat} {caps ags : List AV} {vs : List Value} (hent : Enters C.P g) (ho : o.op = .call { callee := .value f, args := args, argTypes := ts }) (hd : dstB N o.dst = true) (hf : fnCaps (st.ev C f) = some (g, caps))
    (hag : args.toList.map (st.ev C) ++ caps = ags) (hone : ∀ v ∈ vs, v.oneCell' = true) (hc : ∀ st', Hp st st' → ∀ w0 a w J, Sim C w0 N st' a w J → ∀ us, RepAs C w st'.h J us ags → Calls C.P g us.toArray w fun en w' => ∃ v, en = .returned v ∧ w'.ownsRow w.heap.size e sz v n vs ∧ Ext w w') : ValOp C N o st (.f (.sl n (vs.map .v))) := by
  intro w0 a w st' hA ⟨J, S⟩ K1 Q hK
  have hfe : st'.ev C f = st.ev C f := hA.ev f (by simp [ho, Op.operands, Call.operands])
  have hae : args.toList.map (st'.ev C) = args.toList.map (st.ev C) := List.map_congr_left fun x hx => hA.ev x (by simp [ho, Op.operands, Call.operands]; exact .inr (by simpa using hx))
  obtain ⟨us, hfv, hcap⟩ := fnCaps_rep (S.eval f) (by rw [hfe]; exact hf)
  have hrun := callEnter (w := w) hent ho hfv
  refine op_enter hrun ?_
  have hargs := RepAs.append (evs_rep S args.toList) hcap
  rw [hae, hag] at hargs
  refine Calls.mono (hc st' hA.hp w0 a w J S _ hargs) ?_
  rintro en w' ⟨v, rfl, q1, he⟩
  refine hK _ _ ⟨J, (S.toExt he).put hd (row_frozen q1 hone ⟨by simp, fun k u x h1 h2 => ?_⟩ fun b hb hmb => ?_)⟩
  · rw [List.getElem?_map, h1] at h2
    cases h2; exact RepF.v _
  · have hb' := hb
    rw [row_bk q1] at hb'
    have h1 := (q1.lt b hb').1
    rcases hmb with h2 | ⟨i, hi, hbi⟩
    · have := (S.old b h2).1; have := S.ext.le; omega
    · have := (S.own_at hi hbi).2; omega
variable {ops : Array Oper} {pr : Bool} {K : St → Prop} {rest : List Oper} {d : Option Tmp} {T0 : TypeId} {pos : String} {af : Array Edge} {gd : Option (Nat × Bool)}
theorem s_callNwF {f : Operand} {args : Array Operand} {ts : Array TypeId} {g e sz n : Nat} {caps : List AV} {ys cs : List FV} (Kg : SummG C.P C.G g [] (ys.map .f) (.ow 0) [.row e sz n cs]) (hG : ∀ k, C.G k = none) (hv : ∃ vs : List Value, cs = vs.map .v) (hw : wantB st ops ⟨d, .call { callee := .value f, args := args, argTypes := ts }, T0, pos, af, gd⟩ = some true) (hd : dstB N d = true) (hf : fnCaps (st.ev C f) = some (g, caps))
    (hys : SeesL C N st (args.toList.map (st.ev C) ++ caps) ys) (k : R C N ops pr K rest (st.put d (.f (.sl n cs)))) : R C N ops pr K (⟨d, .call { callee := .value f, args := args, argTypes := ts }, T0, pos, af, gd⟩ :: rest) st :=
  ⟨r_val hw (v_callNwF Kg hG rfl hd hf hys hv) k.out⟩
theorem s_callWF {f : Operand} {args : Array Operand} {ts : Array TypeId} {g e sz n : Nat} {caps ags : List AV} {vs : List Value} (hent : Enters C.P g) (hone : ∀ v ∈ vs, v.oneCell' = true) (hw : wantB st ops ⟨d, .call { callee := .value f, args := args, argTypes := ts }, T0, pos, af, gd⟩ = some true) (hd : dstB N d = true) (hf : fnCaps (st.ev C f) = some (g, caps))
    (hag : args.toList.map (st.ev C) ++ caps = ags) (hc : ∀ st', Hp st st' → ∀ w0 a w J, Sim C w0 N st' a w J → ∀ us, RepAs C w st'.h J us ags → Calls C.P g us.toArray w fun en w' => ∃ v, en = .returned v ∧ w'.ownsRow w.heap.size e sz v n vs ∧ Ext w w') (k : R C N ops pr K rest (st.put d (.f (.sl n (vs.map .v))))) : R C N ops pr K (⟨d, .call { callee := .value f, args := args, argTypes := ts }, T0, pos, af, gd⟩ :: rest) st :=
  ⟨r_val hw (v_callWF hent rfl hd hf hag hone hc) k.out⟩
end
theorem gh_boxW {C : Ctx} {N : Nat} {st : St} (i : Nat) {cs cs' : List AV} (hi : st.h i = some (.box cs)) (hl : cs'.length = cs.length) (hc : ∀ (k : Nat) (x x' : AV), cs[k]? = some x → cs'[k]? = some x' → ∀ (w : World) (J : Nat → Value) (v : Value), RepA C w st.h J v x → RepA C w st.h J v x') : Gh C N st { st with h := upd st.h i (some (.box cs')) } := fun w0 a w ⟨J, S⟩ => ⟨J, S.swap (fun j => by
    by_cases e : j = i
    · subst e; rw [upd_same, hi]; rfl
    · rw [upd_other _ _ e]) (fun j B hB => by
    by_cases e : j = i
    · subst e
      rw [upd_same] at hB; cases hB
      obtain ⟨b, T, us, q1, q2, q3, q4, q5, q6⟩ := S.blk j _ hi
      refine ⟨b, T, us, q1, q2, q3, by rw [q4, hl], q5, fun k u x h1 h2 => ?_⟩
      have hk : k < cs.length := by rw [← hl]; exact (List.getElem?_eq_some_iff.1 h2).1
      exact hc k _ x (List.getElem?_eq_getElem hk) h2 w J u (q6 k u _ h1 (List.getElem?_eq_getElem hk))
    · rw [upd_other _ _ e] at hB; exact S.blk j B hB) (fun j B hc hs => by
    by_cases e : j = i
    · subst e; exact ⟨_, hi, rfl⟩
    · rw [upd_other _ _ e] at hc; exact ⟨B, hc, hs⟩)⟩
theorem afterG_h1 {st : St} {σ : List Nat} {L L' : List Blk} {d : Option Tmp} {ret : AV} {i e : Nat} {B : Blk} (h0 : moved σ L = [e]) (h1 : i ∉ σ) (h2 : i < st.nx) (h : st.h i = some B) (hk : killsB [e] B = B) : (st.afterG σ L L' d ret).h i = some B := by
  show laidB (killH (moved σ L) st.h) _ _ L' i = _
  rw [laidB_other (fun hm => by
    rcases List.mem_append.1 hm with h | h
    · exact h1 h
    · obtain ⟨r, _, e⟩ := List.mem_map.1 h; omega), h0]
  show (st.h i).map (killsB [e]) = _
  rw [h, Option.map_some, hk]
theorem afterG_h {st : St} {σ : List Nat} {L L' : List Blk} {d : Option Tmp} {ret : AV} {i : Nat} (h0 : moved σ L = []) (h1 : i ∉ σ) (h2 : i < st.nx) : (st.afterG σ L L' d ret).h i = st.h i := by
  show laidB (killH (moved σ L) st.h) _ _ L' i = _
  rw [laidB_other (fun hm => by
    rcases List.mem_append.1 hm with h | h
    · exact h1 h
    · obtain ⟨r, _, e⟩ := List.mem_map.1 h; omega), h0]
  rfl
theorem le_base {h h' : Nat → Option Blk} (hcl : ∀ i B, h' i = some B → closedB h' B) (heq : ∀ i B, h' i = some B → h i = some B) : ∀ i, h' i = none ∨ ∃ B, h' i = some B ∧ h i = some B ∧ closedB h' B := fun i => by
  cases hi : h' i with
  | none => exact .inl rfl
  | some B => exact .inr ⟨B, rfl, heq i B hi, hcl i B hi⟩
end Go.Ab
namespace Go.Ab
open Go Go.RowKit Go.Shelf Go.Proofs
section
variable {C : Ctx} {N : Nat} {st : St}
theorem res_sees {t : Nat} {x : AV} {y : FV} (h : st.s t = x) (H : Sees C N st x y) : ResOk C N st (.tmp t) y := fun w0 a w ⟨J, S⟩ => by
  have h1 := S.slot t
  rw [h] at h1
  exact ⟨_, rfl, H st (fun i B hi => .inr ⟨B, hi, .inl rfl⟩) w0 a w J S _ h1⟩
theorem ret4 {fn : Func} {r1 r2 r3 r4 : ResultVar} {x y z t : FV} (h : fn.results = #[r1, r2, r3, r4]) (h1 : ResOk C N st r1 x) (h2 : ResOk C N st r2 y) (h3 : ResOk C N st r3 z) (h4 : ResOk C N st r4 t) : RetOk C N fn (.tup [x, y, z, t]) st := fun w0 a w S => by
  obtain ⟨v, q1, q2⟩ := h1 w0 a w S
  obtain ⟨u, p1, p2⟩ := h2 w0 a w S
  obtain ⟨s, o1, o2⟩ := h3 w0 a w S
  obtain ⟨r, n1, n2⟩ := h4 w0 a w S
  refine ⟨.tuple #[v, u, s, r], by rw [results_eq, h]; simp [q1, p1, o1, n1], RepF.tup _ [v, u, s, r] rfl (fun k u' x' a b => ?_)⟩
  match k, a, b with
  | 0, a, b => cases a; cases b; exact q2
  | 1, a, b => cases a; cases b; exact p2
  | 2, a, b => cases a; cases b; exact o2
  | 3, a, b => cases a; cases b; exact n2
  | _ + 4, a, _ => simp at a
end
theorem closedC_mono {h h' : Nat → Option Blk} (hl : ∀ i, (h i).isSome = true → (h' i).isSome = true) {c : Cap} (hc : closedC h c = true) : closedC h' c = true := by
  cases c with
  | f x => rfl
  | bx i off => exact hl i hc
  | ow i => exact hl i hc
  | sv i off n => exact hl i hc
theorem closedA_mono {h h' : Nat → Option Blk} (hl : ∀ i, (h i).isSome = true → (h' i).isSome = true) {x : AV} (hc : closedA h x) : closedA h' x := by
  have key : ∀ l : List Cap, l.all (closedC h) = true → l.all (closedC h') = true := fun l hc => List.all_eq_true.2 fun c hm => closedC_mono hl (List.all_eq_true.1 hc c hm)
  cases x with
  | f x => trivial
  | bot => trivial
  | bx i off => exact hl i hc
  | ow i => exact hl i hc
  | sv i off n => exact hl i hc
  | ag l => exact key l hc
  | tp l => exact key l hc
  | fb f l => exact key l hc
theorem closedB_mono {h h' : Nat → Option Blk} (hl : ∀ i, (h i).isSome = true → (h' i).isSome = true) {B : Blk} (hc : closedB h B) : closedB h' B := by
  cases B with
  | box cs => exact fun x hx => closedA_mono hl (hc x hx)
  | row e sz n cs => trivial
  | rowA e sz n cs => exact fun x hx => closedA_mono hl (hc x hx)
  | arr e sz n cs => exact fun x hx => closedA_mono hl (hc x hx)
  | map G => trivial
theorem le_baseO {h h' : Nat → Option Blk} {k : Nat} {B0 : Blk} (hn : h' k = none) (hk : h k = some B0) (hc0 : closedB (upd h' k (some B0)) B0) (H : ∀ i, h' i = none ∨ ∃ B, h' i = some B ∧ h i = some B ∧ closedB h' B) : ∀ i, upd h' k (some B0) i = none ∨ ∃ B, upd h' k (some B0) i = some B ∧ h i = some B ∧ closedB (upd h' k (some B0)) B := fun i => by
  by_cases e : i = k
  · subst e; exact .inr ⟨B0, upd_same _ _ _, hk, hc0⟩
  · rw [upd_other _ _ e]
    rcases H i with h1 | ⟨B, h1, h2, h3⟩
    · exact .inl h1
    · refine .inr ⟨B, h1, h2, closedB_mono (fun j hj => ?_) h3⟩
      by_cases e2 : j = k
      · subst e2; rw [hn] at hj; cases hj
      · rw [upd_other _ _ e2]; exact hj
end Go.Ab
namespace Go.Ab
open Go Go.RowKit Go.Shelf Go.Proofs Go.Sort
section
variable {α : Type} [Inhabited α] {enc : α → Value}
theorem repL_v0 {w : World} {M : Nat → Prop} {xs vs : List Value} (h : RepL w M xs (vs.map FV.v)) : xs = vs := by
  apply List.ext_getElem?
  intro i
  by_cases hi : i < xs.length
  · have hv : i < vs.length := by have := h.1; simp at this; omega
    have hr := h.2 i xs[i] (.v vs[i]) (List.getElem?_eq_getElem hi) (by simp [hv])
    rw [List.getElem?_eq_getElem hi, List.getElem?_eq_getElem hv]
    generalize xs[i] = a at hr ⊢
    generalize vs[i] = b at hr ⊢
    cases hr
    rfl
  · have := h.1; simp at this
    rw [List.getElem?_eq_none (by omega), List.getElem?_eq_none (by omega)]
theorem repL_ofA0 {C : Ctx} {w : World} {h : Nat → Option Blk} {J : Nat → Value} {xs : List Value} {cs : List FV} (q : xs.length = (cs.map AV.f).length ∧ ∀ (k : Nat) (u : Value) (x : AV), xs[k]? = some u → (cs.map AV.f)[k]? = some x → RepA C w h J u x) : RepL w (Mb C h J) xs cs :=
  ⟨by simpa using q.1, fun k u x h1 h2 => q.2 k u (.f x) h1 (by simp [h2])⟩
theorem repA_ofL0 {C : Ctx} {w : World} {h : Nat → Option Blk} {J : Nat → Value} {xs : List Value} {cs : List FV} (q : RepL w (Mb C h J) xs cs) : xs.length = (cs.map AV.f).length ∧ ∀ (k : Nat) (u : Value) (x : AV), xs[k]? = some u → (cs.map AV.f)[k]? = some x → RepA C w h J u x :=
  ⟨by simpa using q.1, fun k u x h1 h2 => by
    rw [List.getElem?_map] at h2
    cases hk : cs[k]? with
    | none => simp [hk] at h2
    | some y => simp [hk] at h2; subst h2; exact q.2 k u y h1 hk⟩
theorem arr_ren0 (σ : Nat → Nat) (e sz n : Nat) (cs : List FV) : (Blk.arr e sz n (cs.map .f)).ren σ = .arr e sz n (cs.map .f) := by
  show Blk.arr e sz n ((cs.map .f).map (AV.ren σ)) = _
  rw [List.map_map]; rfl
theorem repL_of0 {w : World} {M : Nat → Prop} (vs : List Value) : RepL w M vs (vs.map FV.v) := ⟨by simp, fun i u x h1 h2 => by
  rw [List.getElem?_map, h1] at h2; cases h2; exact .v u⟩
theorem sortOrdG {P : Program} {G : Nat → Option (List FV)} {f : Nat} (srt : List α → List α) (hlen : ∀ d, (srt d).length = d.length) (h1 : ∀ x, (enc x).oneCell' = true) (hent : Enters P f)
    (hs : ∀ (blk off cap : Nat) (d : List α) (w : World), Holds enc w blk off d.toArray → blk < w.heap.size → d.length < 4611686018427387904 → Calls P f #[.slice (some ⟨blk, off, none⟩) d.length cap] w fun e w' => e = .returned (.tuple #[]) ∧ ∃ n os, w' = grow (putRow enc (Sort.ahead w n) blk off (srt d).toArray) os)
    (hnone : ∀ (p : Option Addr) (cap : Nat) (w : World), Calls P f #[.slice p 0 cap] w fun e w' => e = .returned (.tuple #[]) ∧ w' = w) (d : List α) (hd : d.length < 4611686018427387904) (T : TypeId) {n : Nat} (hn : n = d.length) {cs cs' : List FV} (hcs : (d.map enc).map FV.v = cs) (hcs' : ((srt d).map enc).map FV.v = cs') :
    SummG P G f [.arr T 1 n (cs.map .f)] [.ow 0] (.f (.tup [])) [.arr T 1 n (cs'.map .f)] := by
  subst hn; subst hcs; subst hcs'
  refine ⟨hent, Nat.le_refl _, fun i B B' h1 h2 => by
    rcases i with _ | i
    · cases h1; cases h2; rfl
    · simp at h1, fun w M X us J hX hM hG hA hL => ?_⟩
  obtain ⟨v0, rfl⟩ : ∃ v0, us = [v0] := by
    obtain ⟨e, _⟩ := hA
    match us, e with
    | [a], _ => exact ⟨a, rfl⟩
  obtain ⟨-, hv0⟩ : _ ∧ v0 = J 0 := hA.2 0 v0 (.ow 0) rfl rfl
  subst hv0
  obtain ⟨xs, hrow, hbk, hone, hrep⟩ := hL.blk 0 _ rfl
  have exs := repL_v0 (repL_ofA0 hrep)
  subst exs
  have hsl := hlen d
  obtain ⟨-, ⟨ev, en⟩ | ⟨b, cap, cur, ev, -, hb, hcap, hmax, hsz, htk⟩⟩ := hrow
  · have ed : d = [] := List.eq_nil_of_length_eq_zero en
    rw [ev]
    refine (hnone none 0 w).mono ?_
    rintro e w' ⟨rfl, rfl⟩
    refine ⟨_, J, rfl, RepF.tup [] [] rfl (fun k u x h => by simp at h), ⟨fun i B hB => ?_, fun i j _ hi hj _ _ => by simp at hi hj; omega⟩, Grew.refl _ _, fun i B hB hs => rfl⟩
    rcases i with _ | i
    · cases hB
      have hr : w'.ownsRow 0 T 1 (J 0) d.length [] := ⟨by rw [ed]; simp, .inl ⟨ev, en⟩⟩
      have e0 : srt d = [] := List.eq_nil_of_length_eq_zero (by rw [hsl, en])
      have hl : RepL w' (Mb (cxG P G M X [Blk.arr T 1 d.length (List.map AV.f (List.map FV.v (d.map enc)))] J) (blkL [Blk.arr T 1 d.length (List.map AV.f (List.map FV.v ((srt d).map enc)))]) J) [] (List.map FV.v ((srt d).map enc)) := by
        rw [e0]; exact RepL.nil _ _
      exact ⟨[], hr, hbk, (fun u hu => by simp at hu), repA_ofL0 hl⟩
    · cases hB
  · have hXb : X b := (hX b).2 ⟨0, by simp, by rw [ev]; rfl⟩
    have hbw : b < w.heap.size := (Array.getElem?_eq_some_iff.1 hb).1
    rw [Nat.mul_one] at hsz htk
    have hH : Holds enc w b 0 d.toArray := by
      intro j hj
      have hj' : j < d.length := by simpa using hj
      have hc : cur[j]? = some (enc d[j]) := by
        have h2 : (cur.toList.take d.length)[j]? = (d.map enc)[j]? := by rw [htk]
        rw [List.getElem?_take, if_pos hj'] at h2
        rw [← Array.getElem?_toList, h2, List.getElem?_map, List.getElem?_eq_getElem hj']; rfl
      rw [getElem!_pos _ j hj]
      refine ⟨?_, ?_⟩
      · unfold World.cell?
        simp only [hb]
        simpa using hc
      · unfold World.frozen?
        simp only [hb]
        simp
    rw [ev]
    refine (hs b 0 cap d w hH hbw hd).mono ?_
    rintro e w' ⟨rfl, m, os, rfl⟩
    obtain ⟨F, hF⟩ : ∃ F, F = (srt d).toArray := ⟨_, rfl⟩
    have hFs : F.size = d.length := by rw [hF]; simp [hsl]
    rw [← hF]
    have hsize : (putRow enc (Sort.ahead w m) b 0 F).heap.size = w.heap.size := by simp [putRow, mapBlock, Sort.ahead]
    have hat : ∀ i, i < w.heap.size → (grow (putRow enc (Sort.ahead w m) b 0 F) os).heap[i]? = if b = i then (w.heap[i]?).map (onCells (putCells enc 0 F)) else w.heap[i]? := fun i hi => by
      show ((putRow enc (Sort.ahead w m) b 0 F).heap ++ os)[i]? = _
      rw [Array.getElem?_append_left (by rw [hsize]; exact hi)]
      simp only [putRow, mapBlock, Sort.ahead, Array.getElem?_modify]
    have hpc : (putCells enc 0 F cur).toList.take (d.length * 1) = (srt d).map enc := by
      rw [Nat.mul_one, show srt d = F.toList by rw [hF]]
      apply List.ext_getElem?
      intro j
      rw [List.getElem?_take]
      by_cases hj : j < d.length
      · rw [if_pos hj, Array.getElem?_toList, putCells, Array.getElem?_mapIdx, List.getElem?_map, Array.getElem?_toList]
        have hcu : j < cur.size := by rw [hsz]; omega
        rw [Array.getElem?_eq_getElem hcu, Array.getElem?_eq_getElem (by rw [hFs]; exact hj)]
        simp [hFs, hj]
      · rw [if_neg hj, List.getElem?_eq_none (by simp; omega)]
    have hnew : (grow (putRow enc (Sort.ahead w m) b 0 F) os).heap[b]? = some (.cells (putCells enc 0 F cur) T (0, 0)) := by
      rw [hat b hbw, if_pos rfl, hb]; rfl
    refine ⟨_, J, rfl, RepF.tup [] [] rfl (fun k u x h => by simp at h), ⟨fun i B hB => ?_, fun i j _ hi hj _ _ => by simp at hi hj; omega⟩, ⟨rfl, rfl, rfl, ?_, fun i hi hx => ?_⟩, fun i B hB hs => rfl⟩
    · rcases i with _ | i
      · cases hB
        refine ⟨(srt d).map enc, ⟨by simp [hsl], .inr ⟨b, cap, putCells enc 0 F cur, ev, Nat.zero_le _, hnew, hcap, hmax, by simp [putCells, hsz], hpc⟩⟩, hbk, fun u hu => ?_, repA_ofL0 (repL_of0 _)⟩
        obtain ⟨x, _, rfl⟩ := List.mem_map.1 hu
        exact h1 x
      · cases hB
    · show _ ≤ ((putRow enc (Sort.ahead w m) b 0 F).heap ++ os).size
      rw [Array.size_append, hsize]; omega
    · rw [hat i hi, if_neg (fun (e : b = i) => hx (e ▸ hXb))]
end
end Go.Ab
namespace Go.Ab
open Go Go.RowKit Go.Shelf Go.Proofs Go.Sort
theorem deleteG {α : Type} [Inhabited α] {P : Program} {G : Nat → Option (List FV)} {f : Nat} {enc : α → Value} (h1 : ∀ x, (enc x).oneCell' = true) (zr : α) (hent : Enters P f)
    (hD : ∀ (blk off cap i j : Nat) (d : Array α) (w : World), Holds enc w blk off d → d.size ≤ cap → cap ≤ 9223372036854775807 → i ≤ j → j ≤ d.size → Calls P f #[.slice (some ⟨blk, off, none⟩) d.size cap, .int .i64 i, .int .i64 j] w fun e w' => e = .returned (.slice (some ⟨blk, off, none⟩) (d.size - (j - i)) cap) ∧ ∃ q, w' = putRow enc (Sort.ahead w q) blk off (d.toList.take i ++ d.toList.drop j ++ List.replicate (j - i) zr).toArray)
    (d : List α) (hne : 0 < d.length) (T : TypeId) {n m i j : Nat} (hn : n = d.length) (hij : i ≤ j) (hj : j ≤ d.length) (hm : m = d.length - (j - i)) {cs cs' : List FV} (hcs : (d.map enc).map FV.v = cs) (hcs' : ((d.take i ++ d.drop j).map enc).map FV.v = cs') :
    SummG P G f [.row T 1 n cs] [.ow 0, .f (.v (.int .i64 i)), .f (.v (.int .i64 j))] (.ow 0) [.row T 1 m cs'] := by
  subst hn; subst hcs; subst hcs'; subst hm
  refine ⟨hent, Nat.le_refl _, fun i B B' h1 h2 => by
    rcases i with _ | i
    · cases h1; cases h2; rfl
    · simp at h1, fun w M X us J hX hM hG hA hL => ?_⟩
  obtain ⟨v0, v1, v2, rfl⟩ : ∃ v0 v1 v2, us = [v0, v1, v2] := by
    obtain ⟨e, _⟩ := hA
    match us, e with
    | [a, b, c], _ => exact ⟨a, b, c, rfl⟩
  obtain ⟨-, hv0⟩ : _ ∧ v0 = J 0 := hA.2 0 v0 (.ow 0) rfl rfl
  have hv1 : v1 = .int .i64 i := repV (hA.2 1 v1 _ rfl rfl)
  have hv2 : v2 = .int .i64 j := repV (hA.2 2 v2 _ rfl rfl)
  subst hv0; subst hv1; subst hv2
  obtain ⟨xs, hrow, hbk, hone, hrep⟩ := hL.blk 0 _ rfl
  have exs := repL_v0 hrep
  subst exs
  obtain ⟨-, ⟨ev, en⟩ | ⟨b, cap, cur, ev, -, hb, hcap, hmax, hsz, htk⟩⟩ := hrow
  · omega
  · have hXb : X b := (hX b).2 ⟨0, by simp, by rw [ev]; rfl⟩
    have hbw : b < w.heap.size := (Array.getElem?_eq_some_iff.1 hb).1
    rw [Nat.mul_one] at hsz htk
    have hH : Holds enc w b 0 d.toArray := by
      intro j hj
      have hj' : j < d.length := by simpa using hj
      have hc : cur[j]? = some (enc d[j]) := by
        have h2 : (cur.toList.take d.length)[j]? = (d.map enc)[j]? := by rw [htk]
        rw [List.getElem?_take, if_pos hj'] at h2
        rw [← Array.getElem?_toList, h2, List.getElem?_map, List.getElem?_eq_getElem hj']; rfl
      rw [getElem!_pos _ j hj]
      refine ⟨?_, ?_⟩
      · unfold World.cell?
        simp only [hb]
        simpa using hc
      · unfold World.frozen?
        simp only [hb]
        simp
    rw [ev]
    have hcall := hD b 0 cap i j d.toArray w hH (by simpa using hcap) (by unfold maxLen at hmax; omega) hij (by simpa using hj)
    simp only [List.size_toArray] at hcall
    refine hcall.mono ?_
    rintro e w' ⟨rfl, q, rfl⟩
    obtain ⟨F, hF⟩ : ∃ F, F = (d.take i ++ d.drop j ++ List.replicate (j - i) zr).toArray := ⟨_, rfl⟩
    have hFs : F.size = d.length := by rw [hF]; simp; omega
    rw [← hF]
    have hsize : (putRow enc (Sort.ahead w q) b 0 F).heap.size = w.heap.size := by simp [putRow, mapBlock, Sort.ahead]
    have hat : ∀ i, i < w.heap.size → (putRow enc (Sort.ahead w q) b 0 F).heap[i]? = if b = i then (w.heap[i]?).map (onCells (putCells enc 0 F)) else w.heap[i]? := fun i hi => by
      simp only [putRow, mapBlock, Sort.ahead, Array.getElem?_modify]
    have hnew : (putRow enc (Sort.ahead w q) b 0 F).heap[b]? = some (.cells (putCells enc 0 F cur) T (0, 0)) := by
      rw [hat b hbw, if_pos rfl, hb]; rfl
    have hml : (d.take i ++ d.drop j).length = d.length - (j - i) := by simp; omega
    have hpc : (putCells enc 0 F cur).toList.take ((d.length - (j - i)) * 1) = (d.take i ++ d.drop j).map enc := by
      rw [Nat.mul_one]
      apply List.ext_getElem?
      intro k
      rw [List.getElem?_take]
      by_cases hk : k < d.length - (j - i)
      · rw [if_pos hk, Array.getElem?_toList, putCells, Array.getElem?_mapIdx, List.getElem?_map]
        have hcu : k < cur.size := by rw [hsz]; omega
        have hk2 : k < F.size := by rw [hFs]; omega
        rw [Array.getElem?_eq_getElem hcu]
        have hFk : F[k]? = (d.take i ++ d.drop j)[k]? := by
          rw [hF, List.getElem?_toArray, List.getElem?_append_left (by rw [hml]; exact hk)]
        rw [← hFk, Array.getElem?_eq_getElem hk2]
        simp [hk2]
      · rw [if_neg hk, List.getElem?_eq_none (by rw [List.length_map, hml]; omega)]
    refine ⟨_, fun _ => .slice (some ⟨b, 0, none⟩) (d.length - (j - i)) cap, rfl, ⟨rfl, rfl⟩, ⟨fun k B hB => ?_, fun k l _ hk hl _ _ => by simp at hk hl; omega⟩, ⟨rfl, rfl, rfl, ?_, fun k hk hx => ?_⟩, fun k B hB hs => by
      rcases k with _ | k
      · cases hB; cases hs
      · cases hB⟩
    · rcases k with _ | k
      · cases hB
        refine ⟨(d.take i ++ d.drop j).map enc, ⟨by rw [List.length_map, hml, Nat.mul_one], .inr ⟨b, cap, putCells enc 0 F cur, rfl, Nat.zero_le _, hnew, by omega, hmax, by simp [putCells, hsz], hpc⟩⟩, fun c hc => ?_, fun u hu => ?_, ?_⟩
        · have : b = c := by simpa [bk] using hc
          subst this
          exact .inr hXb
        · obtain ⟨x, _, rfl⟩ := List.mem_map.1 hu
          exact h1 x
        · exact repL_of0 _
      · cases hB
    · rw [hsize]; exact Nat.le_refl _
    · rw [hat k hk, if_neg (fun (e : b = k) => hx (e ▸ hXb))]
end Go.Ab
namespace Go.Ab
open Go Go.RowKit Go.Shelf Go.Proofs
section
variable {C : Ctx} {N : Nat} {st : St}
theorem gh_one (i r : Nat) {e sz n : Nat} {cs : List FV} (hs : st.s r = .ow i) (hi : st.h i = some (.row e sz n cs)) : Gh C N st ⟨upd (fun _ => .bot) r (.ow 0), blkL [.row e sz n cs], 1⟩ := fun w0 a w ⟨J, S⟩ => ⟨fun _ => J i, by
  have live : ∀ j, (blkL [Blk.row e sz n cs] j).isSome = true → j = 0 := fun j hj => by
    have := blkL_live.1 hj; simp at this; exact this
  have hM : ∀ b, b < w.heap.size → Mb C (blkL [Blk.row e sz n cs]) (fun _ => J i) b → Mb C st.h J b := fun b _ q => q.imp id fun ⟨j, _, hb⟩ => ⟨i, by rw [hi]; rfl, hb⟩
  refine ⟨S.ext, S.size, S.defs, fun t => ?_, fun j D hD => ?_, fun j k b hj hk _ _ => by rw [live j hj, live k hk], S.old, fun g cs hg => RepF.ext (S.glob g cs hg) (Ext.refl _) hM, fun j p B hp hc hst => ?_⟩
  · by_cases e : t = r
    · subst e
      show RepA C w _ _ _ (upd (fun _ => AV.bot) t (.ow 0) t)
      rw [upd_same]
      have := S.slot t
      rw [hs] at this
      exact ⟨rfl, this.2⟩
    · show RepA C w _ _ _ (upd (fun _ => AV.bot) r (.ow 0) t)
      rw [upd_other _ _ e]; trivial
  · have hj := live j (by show (blkL _ j).isSome = true; rw [show blkL [Blk.row e sz n cs] j = some D from hD]; rfl)
    subst hj
    have : D = .row e sz n cs := by have h : blkL [Blk.row e sz n cs] 0 = some D := hD; rw [blkL_eq] at h; simp at h; exact h.symm
    subst this
    obtain ⟨xs, q1, q0, q2, q3⟩ := S.blk i _ hi
    exact ⟨xs, q1, q0, q2, q3.1, fun k u x h1 h2 => RepF.ext (q3.2 k u x h1 h2) (Ext.refl _) hM⟩
  · have hj := live j (by show (blkL _ j).isSome = true; rw [show blkL [Blk.row e sz n cs] j = some B from hc]; rfl)
    subst hj
    have h : blkL [Blk.row e sz n cs] 0 = some B := hc
    rw [blkL_eq] at h; simp at h; subst h; cases hst⟩
end
end Go.Ab
namespace Go.Proofs.YtenkgipcblfocaaGreat
open Go Go.RowKit Go.Proofs Go.Shelf Go.Ab
structure Cel where
  ring : Int
  before : Int
  count : Int
  index : Int
deriving DecidableEq, Inhabited
def ringC (k : Nat) (b c : Int) (n : Nat) : List Cel := (List.range n).map fun i : Nat => ⟨k, b, c, i⟩
theorem ringC_len {k : Nat} {b c : Int} {n : Nat} : (ringC k b c n).length = n := by simp [ringC]
theorem ringC_at {k : Nat} {b c : Int} {n i : Nat} (h : i < n) : (ringC k b c n)[i]'(by rw [ringC_len]; exact h) = ⟨k, b, c, i⟩ := by simp [ringC]
theorem ringC_succ (k : Nat) (b c : Int) (n : Nat) : ringC k b c (n + 1) = ringC k b c n ++ [⟨k, b, c, n⟩] := by simp [ringC, List.range_succ]
def skyK (rs : List Int) : Nat → List Cel
  | 0 => []
  | k + 1 => skyK rs k ++ ringC k ((skyK rs k).length : Nat) (rs.getD k default) (rs.getD k default).toNat
def befK (rs : List Int) : Nat → Int
  | 0 => 0
  | k + 1 => befK rs k + rs.getD k default
structure SkyOk (rs : List Int) : Prop where
  pos : 1 ≤ rs.length
  len : rs.length ≤ 8
  ring : ∀ i, i < rs.length → 1 ≤ rs.getD i default ∧ rs.getD i default ≤ 12
theorem befK_bd {rs : List Int} (o : SkyOk rs) : ∀ {k : Nat}, k ≤ rs.length → (k : Int) ≤ befK rs k ∧ befK rs k ≤ 12 * k
  | 0, _ => by simp [befK]
  | k + 1, h => by
    have a := befK_bd o (k := k) (by omega)
    have b := o.ring k (by omega)
    unfold befK; omega
theorem befK_lt {rs : List Int} (o : SkyOk rs) : ∀ {k j : Nat}, j < k → k ≤ rs.length → befK rs j < befK rs k
  | 0, _, h, _ => by omega
  | k + 1, j, h, hk => by
    have b := o.ring k (by omega)
    by_cases e : j = k
    · subst e; rw [befK]; omega
    · have := befK_lt o (k := k) (j := j) (by omega) (by omega)
      rw [befK]; omega
theorem befK_le {rs : List Int} (o : SkyOk rs) {j k : Nat} (h : j ≤ k) (hk : k ≤ rs.length) : befK rs j ≤ befK rs k := by
  by_cases e : j = k
  · subst e; exact Int.le_refl _
  · exact Int.le_of_lt (befK_lt o (by omega) hk)
theorem skyK_len {rs : List Int} (o : SkyOk rs) : ∀ {k : Nat}, k ≤ rs.length → ((skyK rs k).length : Int) = befK rs k
  | 0, _ => rfl
  | k + 1, h => by
    have a := skyK_len o (k := k) (by omega)
    have b := o.ring k (by omega)
    rw [skyK, List.length_append, ringC_len, befK]; omega
theorem skyK_at {rs : List Int} (o : SkyOk rs) : ∀ {k : Nat}, k ≤ rs.length → ∀ {n : Nat} (hn : n < (skyK rs k).length), ∃ r i : Nat, r < k ∧ (i : Int) < rs.getD r default ∧ (n : Int) = befK rs r + i ∧ (skyK rs k)[n] = ⟨r, befK rs r, rs.getD r default, i⟩
  | 0, _, _, hn => absurd hn (by simp [skyK])
  | k + 1, h, n, hn => by
    have a := skyK_len o (k := k) (by omega)
    have b := o.ring k (by omega)
    by_cases hc : n < (skyK rs k).length
    · obtain ⟨r, i, h1, h2, h3, h4⟩ := skyK_at o (k := k) (by omega) hc
      refine ⟨r, i, by omega, h2, h3, ?_⟩
      rw [← h4]
      simp only [skyK]
      rw [List.getElem_append_left hc]
    · have hl : (skyK rs (k + 1)).length = (skyK rs k).length + (rs.getD k default).toNat := by rw [skyK, List.length_append, ringC_len]
      have hi : n - (skyK rs k).length < (rs.getD k default).toNat := by omega
      refine ⟨k, n - (skyK rs k).length, by omega, by omega, by omega, ?_⟩
      simp only [skyK]
      rw [List.getElem_append_right (by omega), ringC_at hi, a]
theorem ring_uniq {rs : List Int} (o : SkyOk rs) {r r' : Nat} {i i' : Int} (hr : r < rs.length) (hr' : r' < rs.length) (h0 : 0 ≤ i) (h0' : 0 ≤ i') (h : i < rs.getD r default) (h' : i' < rs.getD r' default) (e : befK rs r + i = befK rs r' + i') : r = r' ∧ i = i' := by
  have h1 : ¬ r < r' := fun hlt => by
    have := befK_le o (j := r + 1) (k := r') (by omega) (by omega)
    rw [befK] at this; omega
  have h2 : ¬ r' < r := fun hlt => by
    have := befK_le o (j := r' + 1) (k := r) (by omega) (by omega)
    rw [befK] at this; omega
  have : r = r' := by omega
  subst this
  exact ⟨rfl, by omega⟩
def skyC (rs : List Int) : List Cel := skyK rs rs.length
theorem skyC_len {rs : List Int} (o : SkyOk rs) : ((skyC rs).length : Int) = befK rs rs.length := skyK_len o (Nat.le_refl _)
theorem skyC_bd {rs : List Int} (o : SkyOk rs) : 1 ≤ (skyC rs).length ∧ (skyC rs).length ≤ 96 := by
  have a := skyC_len o
  have b := befK_bd o (Nat.le_refl rs.length)
  have c := o.pos
  have d := o.len
  omega
theorem skyC_of {rs : List Int} (o : SkyOk rs) {r i : Nat} (hr : r < rs.length) (hi : (i : Int) < rs.getD r default) : ∃ hn : (befK rs r + i).toNat < (skyC rs).length, (skyC rs)[(befK rs r + i).toNat] = ⟨r, befK rs r, rs.getD r default, i⟩ := by
  have a := skyC_len o
  have b := befK_le o (j := r + 1) (k := rs.length) (by omega) (Nat.le_refl _)
  have c := (befK_bd o (k := r) (by omega)).1
  rw [befK] at b
  have hn : (befK rs r + i).toNat < (skyC rs).length := by omega
  refine ⟨hn, ?_⟩
  obtain ⟨r', i', h1, h2, h3, h4⟩ := skyK_at o (Nat.le_refl _) hn
  obtain ⟨e1, e2⟩ := ring_uniq o hr h1 (Int.natCast_nonneg i) (Int.natCast_nonneg i') hi h2 (by omega)
  subst e1
  have e2 : i = i' := by omega
  subst e2
  exact h4
def upB (rs : List Int) (h b : Int) : Bool := decide (h * befK rs rs.length ≤ 1000000 * (befK rs rs.length - 2 * b))
theorem upB_mono {rs : List Int} {h b c : Int} (hbc : b ≤ c) (hc : upB rs h c = true) : upB rs h b = true := by
  unfold upB at *
  rw [decide_eq_true_eq] at *
  have : 1000000 * (befK rs rs.length - 2 * c) ≤ 1000000 * (befK rs rs.length - 2 * b) := by omega
  exact Int.le_trans hc this
def lastC (rs : List Int) (h : Int) (cs : List Cel) : Nat → Cel
  | 0 => ⟨0, 0, 0, 0⟩
  | k + 1 => if upB rs h (cs.getD k default).before then cs.getD k default else lastC rs h cs k
theorem lastC_stay {rs : List Int} {h : Int} {cs : List Cel} {m : Nat} : ∀ {k : Nat}, m ≤ k → (∀ i, m ≤ i → i < k → upB rs h (cs.getD i default).before = false) → lastC rs h cs k = lastC rs h cs m
  | 0, hm, _ => by rw [show m = 0 by omega]
  | k + 1, hm, hh => by
    by_cases e : m = k + 1
    · rw [e]
    · rw [lastC, hh k (by omega) (by omega)]
      exact lastC_stay (by omega) fun i h1 h2 => hh i h1 (by omega)
def goR (rs : List Int) (h : Int) : Nat → Nat → Nat
  | 0, r => r
  | f + 1, r => if r + 1 < rs.length ∧ upB rs h (befK rs (r + 1)) = true then goR rs h f (r + 1) else r
theorem goR_spec {rs : List Int} {h : Int} : ∀ {f r : Nat}, r < rs.length → rs.length ≤ r + 1 + f → upB rs h (befK rs r) = true → goR rs h f r < rs.length ∧ upB rs h (befK rs (goR rs h f r)) = true ∧ ¬ (goR rs h f r + 1 < rs.length ∧ upB rs h (befK rs (goR rs h f r + 1)) = true)
  | 0, r, h1, h2, h3 => ⟨h1, h3, fun h => by rw [goR] at h; omega⟩
  | f + 1, r, h1, h2, h3 => by
    rw [goR]
    by_cases hc : r + 1 < rs.length ∧ upB rs h (befK rs (r + 1)) = true
    · rw [if_pos hc]; exact goR_spec hc.1 (by omega) hc.2
    · rw [if_neg hc]; exact ⟨h1, h3, hc⟩
theorem lastC_ring {rs : List Int} (o : SkyOk rs) {h : Int} (hh : h ≤ 1000000) : (lastC rs h (skyC rs) (skyC rs).length).before = befK rs (goR rs h rs.length 0) ∧ (lastC rs h (skyC rs) (skyC rs).length).count = rs.getD (goR rs h rs.length 0) default := by
  have h0 : upB rs h (befK rs 0) = true := by
    unfold upB
    rw [decide_eq_true_eq, show befK rs 0 = 0 from rfl, Int.mul_zero, Int.sub_zero]
    exact Int.mul_le_mul_of_nonneg_right hh (by have := (befK_bd o (Nat.le_refl rs.length)).1; omega)
  obtain ⟨g1, g2, g3⟩ := goR_spec (f := rs.length) (r := 0) (h := h) (rs := rs) (by have := o.pos; omega) (by omega) h0
  generalize goR rs h rs.length 0 = R at *
  have hR := o.ring R g1
  have hb := befK_bd o (k := R) (by omega)
  obtain ⟨hn, e⟩ := skyC_of o (i := (rs.getD R default - 1).toNat) g1 (by omega)
  generalize hm : (befK rs R + ((rs.getD R default - 1).toNat : Nat)).toNat = m at hn e
  have hst : lastC rs h (skyC rs) (skyC rs).length = lastC rs h (skyC rs) (m + 1) := lastC_stay (by omega) fun i h1 h2 => by
    obtain ⟨r, j, q1, q2, q3, q4⟩ := skyK_at o (Nat.le_refl _) h2
    have q4' : (skyC rs)[i] = ⟨r, befK rs r, rs.getD r default, j⟩ := q4
    rw [List.getD_eq_getElem?_getD, List.getElem?_eq_getElem h2, q4', Option.getD_some]
    show upB rs h (befK rs r) = false
    have hr : R < r := by
      refine Classical.byContradiction fun hc => ?_
      have := befK_le o (j := r + 1) (k := R + 1) (by omega) (by omega)
      rw [befK, befK] at this
      omega
    rw [← Bool.not_eq_true]
    intro hu
    refine g3 ⟨by omega, upB_mono (befK_le o (by omega) (by omega)) hu⟩
  have hl : lastC rs h (skyC rs) (m + 1) = (skyC rs)[m] := by
    rw [lastC, List.getD_eq_getElem?_getD, List.getElem?_eq_getElem hn, Option.getD_some, e]
    show (if upB rs h (befK rs R) = true then _ else _) = _
    rw [if_pos g2]
  rw [hst, hl, e]
  exact ⟨rfl, rfl⟩
end Go.Proofs.YtenkgipcblfocaaGreat
namespace Go.Proofs.YtenkgipcblfocaaGreat
open Go Go.RowKit Go.Proofs Go.Shelf Go.Ab
structure Job where
  ready : Int
  length : Int
  due : Int
  rank : Int
deriving DecidableEq, Inhabited
def bestF (P : Nat → Bool) (v : Nat → Int) : Nat → Int
  | 0 => -1
  | k + 1 => if P k = true ∧ (bestF P v k < 0 ∨ v (bestF P v k).toNat < v k) then (k : Int) else bestF P v k
theorem bestF_bd {P : Nat → Bool} {v : Nat → Int} : ∀ n, -1 ≤ bestF P v n ∧ bestF P v n < n
  | 0 => by simp [bestF]
  | k + 1 => by
    have := bestF_bd (P := P) (v := v) k
    rw [bestF]; split <;> omega
theorem bestF_none {P : Nat → Bool} {v : Nat → Int} : ∀ {n : Nat}, (∀ i, i < n → P i = false) → bestF P v n = -1
  | 0, _ => rfl
  | k + 1, h => by
    rw [bestF, if_neg (by rw [h k (by omega)]; simp)]
    exact bestF_none fun i hi => h i (by omega)
theorem bestF_some {P : Nat → Bool} {v : Nat → Int} : ∀ {n : Nat}, (∃ i, i < n ∧ P i = true) → 0 ≤ bestF P v n ∧ P (bestF P v n).toNat = true ∧ ∀ i, i < n → P i = true → v i ≤ v (bestF P v n).toNat
  | 0, ⟨i, h, _⟩ => absurd h (Nat.not_lt_zero i)
  | k + 1, ⟨j, hj, hP⟩ => by
    rw [bestF]
    have hb := bestF_bd (P := P) (v := v) k
    by_cases hc : P k = true ∧ (bestF P v k < 0 ∨ v (bestF P v k).toNat < v k)
    · rw [if_pos hc]
      refine ⟨by omega, by simpa using hc.1, fun i hi hPi => ?_⟩
      show v i ≤ v k
      by_cases e : i = k
      · subst e; exact Int.le_refl _
      · have := (bestF_some (v := v) (n := k) ⟨i, by omega, hPi⟩)
        have h2 := this.2.2 i (by omega) hPi
        rcases hc.2 with h3 | h3
        · omega
        · omega
    · rw [if_neg hc]
      by_cases e : ∃ i, i < k ∧ P i = true
      · obtain ⟨a, b, c⟩ := bestF_some (v := v) e
        refine ⟨a, b, fun i hi hPi => ?_⟩
        by_cases e2 : i = k
        · subst e2
          refine Classical.byContradiction fun h => hc ⟨hPi, .inr (by omega)⟩
        · exact c i (by omega) hPi
      · exfalso
        have hn : bestF P v k = -1 := bestF_none fun i hi => by
          cases h : P i with
          | false => rfl
          | true => exact absurd ⟨i, hi, h⟩ e
        have : j = k := Classical.byContradiction fun h => e ⟨j, by omega, hP⟩
        subst this
        exact hc ⟨hP, .inl (by omega)⟩
def begF (U : Nat → Bool) (r : Nat → Int) (now : Int) : Nat → Int
  | 0 => -1
  | k + 1 => if U k = true ∧ (begF U r now k < 0 ∨ max now (r k) < begF U r now k) then max now (r k) else begF U r now k
theorem begF_none {U : Nat → Bool} {r : Nat → Int} {now : Int} : ∀ {n : Nat}, (∀ i, i < n → U i = false) → begF U r now n = -1
  | 0, _ => rfl
  | k + 1, h => by
    rw [begF, if_neg (by rw [h k (by omega)]; simp)]
    exact begF_none fun i hi => h i (by omega)
theorem begF_some {U : Nat → Bool} {r : Nat → Int} {now : Int} (h0 : 0 ≤ now) : ∀ {n : Nat}, (∃ i, i < n ∧ U i = true) → now ≤ begF U r now n ∧ (∃ i, i < n ∧ U i = true ∧ begF U r now n = max now (r i)) ∧ ∀ i, i < n → U i = true → begF U r now n ≤ max now (r i)
  | 0, ⟨i, h, _⟩ => absurd h (Nat.not_lt_zero i)
  | k + 1, ⟨j, hj, hP⟩ => by
    rw [begF]
    by_cases hc : U k = true ∧ (begF U r now k < 0 ∨ max now (r k) < begF U r now k)
    · rw [if_pos hc]
      refine ⟨by omega, ⟨k, by omega, hc.1, rfl⟩, fun i hi hPi => ?_⟩
      by_cases e : i = k
      · subst e; exact Int.le_refl _
      · obtain ⟨a, _, c⟩ := begF_some h0 (r := r) (n := k) ⟨i, by omega, hPi⟩
        have := c i (by omega) hPi
        rcases hc.2 with h3 | h3 <;> omega
    · rw [if_neg hc]
      by_cases e : ∃ i, i < k ∧ U i = true
      · obtain ⟨a, ⟨i0, b1, b2, b3⟩, c⟩ := begF_some h0 (r := r) e
        refine ⟨a, ⟨i0, by omega, b2, b3⟩, fun i hi hPi => ?_⟩
        by_cases e2 : i = k
        · subst e2
          refine Classical.byContradiction fun h => hc ⟨hPi, .inr (by omega)⟩
        · exact c i (by omega) hPi
      · exfalso
        have hn : begF U r now k = -1 := begF_none fun i hi => by
          cases h : U i with
          | false => rfl
          | true => exact absurd ⟨i, hi, h⟩ e
        have : j = k := Classical.byContradiction fun h => e ⟨j, by omega, hP⟩
        subst this
        exact hc ⟨hP, .inl (by omega)⟩
def nextR (U : Nat → Bool) (r k : Nat → Int) (n : Nat) (now : Int) : Int × Int :=
  let b := begF U r now n
  (bestF (fun i => U i && decide (r i ≤ b)) k n, b)
end Go.Proofs.YtenkgipcblfocaaGreat
namespace Go.Proofs.YtenkgipcblfocaaGreat
open Go Go.RowKit Go.Proofs Go.Shelf Go.Ab
def firstS {α : Type} (g : Nat → Option α) : Nat → Option α
  | 0 => none
  | k + 1 => match firstS g k with
    | some x => some x
    | none => g k
theorem firstS_none {α : Type} {g : Nat → Option α} : ∀ {n : Nat}, firstS g n = none ↔ ∀ i, i < n → g i = none
  | 0 => by simp [firstS]
  | k + 1 => by
    rw [firstS]
    cases h : firstS g k with
    | some x =>
      simp only [reduceCtorEq, false_iff]
      intro hh
      rw [firstS_none.2 fun i hi => hh i (by omega)] at h
      cases h
    | none =>
      have hk := firstS_none.1 h
      constructor
      · intro hg i hi
        by_cases e : i = k
        · subst e; exact hg
        · exact hk i (by omega)
      · intro hh; exact hh k (by omega)
theorem firstS_some {α : Type} {g : Nat → Option α} {x : α} : ∀ {n : Nat}, firstS g n = some x → ∃ i, i < n ∧ g i = some x ∧ ∀ j, j < i → g j = none
  | 0, h => by cases h
  | k + 1, h => by
    rw [firstS] at h
    cases hk : firstS g k with
    | some y =>
      rw [hk] at h
      cases h
      obtain ⟨i, h1, h2, h3⟩ := firstS_some hk
      exact ⟨i, by omega, h2, h3⟩
    | none =>
      rw [hk] at h
      exact ⟨k, by omega, h, firstS_none.1 hk⟩
def jobA (l : List Job) (z : Int) : Job := l.getD z.toNat default
def endT (l : List Job) (now z : Int) : Int := max now (jobA l z).ready + (jobA l z).length
def nowK (l : List Job) (o : List Int) : Nat → Int
  | 0 => 0
  | k + 1 => endT l (nowK l o k) (o.getD k default)
def endsK (l : List Job) (o : List Int) : Nat → List Int
  | 0 => List.replicate l.length 0
  | k + 1 => (endsK l o k).set (o.getD k default).toNat (nowK l o (k + 1))
def lateB (l : List Job) (o : List Int) : Prop := ∃ i, i < l.length ∧ (l.getD i default).due < (endsK l o o.length).getD i default
structure OrdOk (l : List Job) (o : List Int) : Prop where
  nd : o.Nodup
  mem : ∀ z, z ∈ o → 0 ≤ z ∧ z < l.length
theorem OrdOk.snoc {l : List Job} {o : List Int} (q : OrdOk l o) {i : Nat} (hi : i < l.length) (hm : (i : Int) ∉ o) : OrdOk l (o ++ [(i : Int)]) :=
  ⟨List.nodup_append.2 ⟨q.nd, by simp, fun a ha b hb => by rw [List.mem_singleton] at hb; subst hb; exact fun e => hm (e ▸ ha)⟩, fun z hz => by
    rcases List.mem_append.1 hz with h | h
    · exact q.mem z h
    · rw [List.mem_singleton] at h; subst h; omega⟩
theorem pig : ∀ {n : Nat} {o : List Nat}, o.Nodup → (∀ z, z ∈ o → z < n) → o.length ≤ n
  | 0, o, _, h => by
    cases o with
    | nil => exact Nat.le_refl _
    | cons a t => exact absurd (h a (by simp)) (Nat.not_lt_zero _)
  | n + 1, o, hd, h => by
    have h1 := pig (n := n) (o := o.erase n) (hd.erase n) fun z hz => by
      have := (hd.mem_erase_iff).1 hz
      have := h z this.2
      omega
    rw [List.length_erase] at h1
    split at h1 <;> omega
theorem OrdOk.full {l : List Job} {o : List Int} (q : OrdOk l o) (hl : o.length = l.length) {i : Nat} (hi : i < l.length) : (i : Int) ∈ o := by
  refine Classical.byContradiction fun h => ?_
  have q2 := q.snoc hi h
  have := pig (n := l.length) (o := (o ++ [(i : Int)]).map Int.toNat) (by
    refine (List.pairwise_map).2 (q2.nd.imp_of_mem fun {a b} ha hb hab he => hab ?_)
    have h1 := q2.mem a ha
    have h2 := q2.mem b hb
    omega) (fun z hz => by
    obtain ⟨x, hx, rfl⟩ := List.mem_map.1 hz
    have := q2.mem x hx
    omega)
  rw [List.length_map, List.length_append, List.length_singleton] at this
  omega
def onT (l : List Job) : Nat → List Int → Int → Option (List Int)
  | 0, o, _ => if o.length = l.length then some o else none
  | f + 1, o, now => if o.length = l.length then some o else firstS (fun i => if (i : Int) ∈ o ∨ (jobA l i).due < endT l now i then none else onT l f (o ++ [(i : Int)]) (endT l now i)) l.length
instance (l : List Job) (o : List Int) : Decidable (lateB l o) := by unfold lateB; infer_instance
end Go.Proofs.YtenkgipcblfocaaGreat
namespace Go.Proofs.YtenkgipcblfocaaGreat
open Go Go.RowKit Go.Proofs Go.Shelf Go.Ab
def orderO (l : List Job) : Option (List Int) := onT l l.length [] 0
def idxL (n : Nat) : List Int := (List.range n).map fun i : Nat => (i : Int)
theorem idxL_nd (n : Nat) : (idxL n).Nodup := List.pairwise_map.2 (List.nodup_range.imp fun h e => h (by omega))
theorem idxL_mem {n : Nat} {z : Int} : z ∈ idxL n ↔ 0 ≤ z ∧ z < n := by
  unfold idxL
  rw [List.mem_map]
  constructor
  · rintro ⟨i, hi, rfl⟩
    rw [List.mem_range] at hi
    omega
  · intro h
    exact ⟨z.toNat, List.mem_range.2 (by omega), by omega⟩
def sumI (f : Int → Int) : List Int → Int
  | [] => 0
  | x :: l => f x + sumI f l
theorem sumI_perm {f : Int → Int} {a b : List Int} (h : a.Perm b) : sumI f a = sumI f b := by
  induction h with
  | nil => rfl
  | cons x _ ih => rw [sumI, sumI, ih]
  | swap x y l => rw [sumI, sumI, sumI, sumI]; omega
  | trans _ _ h1 h2 => exact h1.trans h2
theorem sumI_app {f : Int → Int} : ∀ {a b : List Int}, sumI f (a ++ b) = sumI f a + sumI f b
  | [], b => by rw [List.nil_append, sumI]; omega
  | x :: a, b => by rw [List.cons_append, sumI, sumI, sumI_app]; omega
end Go.Proofs.YtenkgipcblfocaaGreat
namespace Go.Proofs.YtenkgipcblfocaaGreat
open Go Go.RowKit Go.Proofs Go.Shelf Go.Ab
structure JobsOk (l : List Job) : Prop where
  len : l.length ≤ 7
  job : ∀ i, i < l.length → (0 ≤ (l.getD i default).ready ∧ (l.getD i default).ready ≤ 1000000000000) ∧ (0 ≤ (l.getD i default).due ∧ (l.getD i default).due ≤ 1000000000000) ∧ (1 ≤ (l.getD i default).length ∧ (l.getD i default).length ≤ 100000) ∧ (0 ≤ (l.getD i default).rank ∧ (l.getD i default).rank ≤ 100000)
def outU (out : List Int) (i : Nat) : Bool := decide (out.getD i default = 0)
def stepR (l : List Job) (out : List Int) (now : Int) : Int × Int := nextR (outU out) (fun i => (l.getD i default).ready) (fun i => (l.getD i default).rank) l.length now
theorem sub_len {α : Type} [DecidableEq α] : ∀ {s o : List α}, s.Nodup → (∀ x, x ∈ s → x ∈ o) → s.length ≤ o.length
  | [], _, _, _ => Nat.zero_le _
  | a :: t, o, hd, hs => by
    rw [List.nodup_cons] at hd
    have ha := hs a (by simp)
    have := sub_len (o := o.erase a) hd.2 (fun x hx => (List.mem_erase_of_ne (fun e : x = a => hd.1 (by subst e; exact hx))).2 (hs x (by simp [hx])))
    rw [List.length_erase_of_mem ha] at this
    have := List.length_pos_of_mem ha
    simp only [List.length_cons]
    omega
theorem getD_set {l : List Int} {i j : Nat} {x : Int} (hi : i < l.length) : (l.set i x).getD j default = if i = j then x else l.getD j default := by
  rw [List.getD_eq_getElem?_getD, List.getElem?_set]
  by_cases e : i = j
  · subst e; rw [if_pos rfl, if_pos hi, if_pos rfl]; rfl
  · rw [if_neg e, if_neg e, ← List.getD_eq_getElem?_getD]
structure FinOk (l : List Job) (k : Nat) (out : List Int) (now b : Int) (S T : List Int) : Prop where
  len : out.length = l.length
  now0 : 0 ≤ now ∧ now ≤ 1000000000000 + 100000 * k
  b0 : b ≤ now
  nd : S.Nodup
  cnt : S.length = k
  rng : ∀ z, z ∈ S → 0 ≤ z ∧ z < l.length
  memS : ∀ i : Nat, i < l.length → ((i : Int) ∈ S ↔ out.getD i default ≠ 0)
  ndT : T.Nodup
  ne : k = 0 ∨ T ≠ []
  subT : ∀ z, z ∈ T → z ∈ S ∧ (0 ≤ z ∧ z < l.length) ∧ b ≤ (jobA l z).ready
  rest : ∀ i, i < l.length → out.getD i default = 0 → b ≤ (l.getD i default).ready
  eq : now = b + sumI (fun z => (jobA l z).length) T
  fin : ∀ i, i < l.length → out.getD i default ≠ 0 → (l.getD i default).ready + (l.getD i default).length ≤ out.getD i default ∧ out.getD i default ≤ now
  apart : ∀ i j, i < l.length → j < l.length → i ≠ j → out.getD i default ≠ 0 → out.getD j default ≠ 0 → out.getD i default ≤ out.getD j default - (l.getD j default).length ∨ out.getD j default ≤ out.getD i default - (l.getD i default).length
  top : k = 0 ∧ now = 0 ∨ ∃ i, i < l.length ∧ out.getD i default = now ∧ now ≠ 0
theorem FinOk.left {l : List Job} {k : Nat} {out : List Int} {now b : Int} {S T : List Int} (F : FinOk l k out now b S T) (hk : k < l.length) : ∃ i, i < l.length ∧ outU out i = true := by
  refine Classical.byContradiction fun h => ?_
  have := sub_len (idxL_nd l.length) (o := S) fun x hx => by
    have hx := idxL_mem.1 hx
    have e : ((x.toNat : Nat) : Int) = x := by omega
    rw [← e]
    refine (F.memS x.toNat (by omega)).2 fun h0 => h ⟨x.toNat, by omega, ?_⟩
    unfold outU; rw [decide_eq_true_eq]; exact h0
  have e1 := F.cnt
  simp only [idxL, List.length_map, List.length_range] at this
  omega
theorem FinOk.next {l : List Job} {k : Nat} {out : List Int} {now b : Int} {S T : List Int} (F : FinOk l k out now b S T) (hk : k < l.length) : (0 ≤ (stepR l out now).1 ∧ (stepR l out now).1 < l.length) ∧ out.getD (stepR l out now).1.toNat default = 0 ∧ (jobA l (stepR l out now).1).ready ≤ (stepR l out now).2 ∧ now ≤ (stepR l out now).2 ∧
    (∃ i, i < l.length ∧ (stepR l out now).2 = max now (l.getD i default).ready) ∧ ∀ i, i < l.length → out.getD i default = 0 → (stepR l out now).2 ≤ max now (l.getD i default).ready := by
  obtain ⟨a, ⟨i0, b1, b2, b3⟩, c⟩ := begF_some F.now0.1 (r := fun i => (l.getD i default).ready) (F.left hk)
  have e2 : (stepR l out now).2 = begF (outU out) (fun i => (l.getD i default).ready) now l.length := rfl
  have e1 : (stepR l out now).1 = bestF (fun i => outU out i && decide ((l.getD i default).ready ≤ (stepR l out now).2)) (fun i => (l.getD i default).rank) l.length := rfl
  have hU : ∀ i, outU out i = true ↔ out.getD i default = 0 := fun i => by unfold outU; rw [decide_eq_true_eq]
  rw [← e2] at a b3 c
  obtain ⟨q1, q2, _⟩ := bestF_some (P := fun i => outU out i && decide ((l.getD i default).ready ≤ (stepR l out now).2)) (v := fun i => (l.getD i default).rank) (n := l.length) ⟨i0, b1, by rw [b2, Bool.true_and, decide_eq_true_eq, b3]; omega⟩
  have q3 := (bestF_bd (P := fun i => outU out i && decide ((l.getD i default).ready ≤ (stepR l out now).2)) (v := fun i => (l.getD i default).rank) l.length).2
  rw [← e1] at q1 q2 q3
  rw [Bool.and_eq_true, decide_eq_true_eq, hU] at q2
  exact ⟨⟨q1, q3⟩, q2.1, q2.2, a, ⟨i0, b1, b3⟩, fun i hi h0 => c i hi ((hU i).2 h0)⟩
theorem FinOk.step {l : List Job} {k : Nat} {out : List Int} {now b : Int} {S T : List Int} (o : JobsOk l) (F : FinOk l k out now b S T) (hk : k < l.length) : ∃ b' S' T', FinOk l (k + 1) (out.set (stepR l out now).1.toNat ((stepR l out now).2 + (jobA l (stepR l out now).1).length)) ((stepR l out now).2 + (jobA l (stepR l out now).1).length) b' S' T' := by
  obtain ⟨⟨x0, x1⟩, x2, x3, x4, ⟨i0, x5, x6⟩, x7⟩ := F.next hk
  generalize (stepR l out now).1 = x at *
  generalize (stepR l out now).2 = t at *
  have hx := o.job x.toNat (by omega)
  have hi0 := o.job i0 x5
  have hJ : jobA l x = l.getD x.toNat default := rfl
  have hxr : (l.getD x.toNat default).ready ≤ t := x3
  have hn := F.now0
  have hlen := F.len
  have hG : ∀ j, (out.set x.toNat (t + (jobA l x).length)).getD j default = if x.toNat = j then t + (jobA l x).length else out.getD j default := fun j => getD_set (by omega)
  have exx : ((x.toNat : Nat) : Int) = x := by omega
  have hxS : x ∉ S := fun h => ((F.memS x.toNat (by omega)).1 (by rw [exx]; exact h)) x2
  have hmem : ∀ i : Nat, i < l.length → ((i : Int) ∈ S ++ [x] ↔ (out.set x.toNat (t + (jobA l x).length)).getD i default ≠ 0) := fun i hi => by
    rw [hG, List.mem_append, List.mem_singleton]
    by_cases e : x.toNat = i
    · rw [if_pos e]
      constructor
      · intro _; rw [hJ]; omega
      · intro _; exact .inr (by omega)
    · rw [if_neg e, F.memS i hi]
      constructor
      · rintro (h | h)
        · exact h
        · omega
      · exact .inl
  have hnd : (S ++ [x]).Nodup := List.nodup_append.2 ⟨F.nd, by simp, fun a ha b hb => by rw [List.mem_singleton] at hb; subst hb; exact fun e => hxS (e ▸ ha)⟩
  have hrng : ∀ z, z ∈ S ++ [x] → 0 ≤ z ∧ z < l.length := fun z hz => by
    rcases List.mem_append.1 hz with h | h
    · exact F.rng z h
    · rw [List.mem_singleton] at h; omega
  have hfin : ∀ i, i < l.length → (out.set x.toNat (t + (jobA l x).length)).getD i default ≠ 0 → (l.getD i default).ready + (l.getD i default).length ≤ (out.set x.toNat (t + (jobA l x).length)).getD i default ∧ (out.set x.toNat (t + (jobA l x).length)).getD i default ≤ t + (jobA l x).length := fun i hi => by
    rw [hG]
    by_cases e : x.toNat = i
    · subst e; rw [if_pos rfl]; intro _; rw [hJ]; omega
    · rw [if_neg e]; intro h
      have := F.fin i hi h
      rw [hJ]; omega
  have hap : ∀ i j, i < l.length → j < l.length → i ≠ j → (out.set x.toNat (t + (jobA l x).length)).getD i default ≠ 0 → (out.set x.toNat (t + (jobA l x).length)).getD j default ≠ 0 → (out.set x.toNat (t + (jobA l x).length)).getD i default ≤ (out.set x.toNat (t + (jobA l x).length)).getD j default - (l.getD j default).length ∨ (out.set x.toNat (t + (jobA l x).length)).getD j default ≤ (out.set x.toNat (t + (jobA l x).length)).getD i default - (l.getD i default).length := fun i j hi hj hij => by
    rw [hG, hG]
    by_cases e : x.toNat = i
    · subst e
      rw [if_pos rfl, if_neg hij]
      intro _ h
      have := F.fin j hj h
      rw [hJ]; right; omega
    · rw [if_neg e]
      by_cases e2 : x.toNat = j
      · subst e2
        rw [if_pos rfl]
        intro h _
        have := F.fin i hi h
        rw [hJ]; left; omega
      · rw [if_neg e2]; exact F.apart i j hi hj hij
  have htop : k + 1 = 0 ∧ t + (jobA l x).length = 0 ∨ ∃ i, i < l.length ∧ (out.set x.toNat (t + (jobA l x).length)).getD i default = t + (jobA l x).length ∧ t + (jobA l x).length ≠ 0 := .inr ⟨x.toNat, by omega, by rw [hG, if_pos rfl], by rw [hJ]; omega⟩
  have hnow : 0 ≤ t + (jobA l x).length ∧ t + (jobA l x).length ≤ 1000000000000 + 100000 * ((k + 1 : Nat) : Int) := by rw [hJ]; omega
  by_cases hc : t = now
  · refine ⟨b, S ++ [x], T ++ [x], ?_⟩
    have hb := F.b0
    have hxT : x ∉ T := fun h => hxS (F.subT x h).1
    exact { len := by simp [hlen], now0 := hnow, b0 := by rw [hJ]; omega, nd := hnd, cnt := by simp [F.cnt], rng := hrng, memS := hmem
            ne := .inr (by simp)
            ndT := List.nodup_append.2 ⟨F.ndT, by simp, fun a ha b hb => by rw [List.mem_singleton] at hb; subst hb; exact fun e => hxT (e ▸ ha)⟩
            subT := fun z hz => by
              rcases List.mem_append.1 hz with h | h
              · exact ⟨List.mem_append.2 (.inl (F.subT z h).1), (F.subT z h).2⟩
              · rw [List.mem_singleton] at h
                subst h
                exact ⟨by simp, ⟨x0, x1⟩, F.rest _ (by omega) x2⟩
            rest := fun i hi => by
              rw [hG]
              by_cases e : x.toNat = i
              · rw [if_pos e]; intro h; rw [hJ] at h; omega
              · rw [if_neg e]; exact F.rest i hi
            eq := by
              have := F.eq
              rw [sumI_app]
              show _ = _ + (_ + ((jobA l x).length + 0))
              omega
            fin := hfin, apart := hap, top := htop }
  · refine ⟨t, S ++ [x], [x], ?_⟩
    exact { len := by simp [hlen], now0 := hnow, b0 := by rw [hJ]; omega, nd := hnd, cnt := by simp [F.cnt], rng := hrng, memS := hmem, ndT := by simp, ne := .inr (by simp)
            subT := fun z hz => by
              rw [List.mem_singleton] at hz
              subst hz
              refine ⟨by simp, ⟨x0, x1⟩, ?_⟩
              have := x7 _ (show z.toNat < l.length by omega) x2
              rw [hJ]; omega
            rest := fun i hi => by
              rw [hG]
              by_cases e : x.toNat = i
              · rw [if_pos e]; intro h; rw [hJ] at h; omega
              · rw [if_neg e]; intro h
                have := x7 i hi h
                omega
            eq := by show _ = _ + ((jobA l x).length + 0); omega
            fin := hfin, apart := hap, top := htop }
end Go.Proofs.YtenkgipcblfocaaGreat
namespace Go.Proofs.YtenkgipcblfocaaGreat
open Go Go.RowKit Go.Proofs Go.Shelf Go.Ab
def turnZ (tick : Int) : Int := tick % 86164 * 1000000 / 86164
theorem turnZ_bd (tick : Int) : 0 ≤ turnZ tick ∧ turnZ tick < 1000000 := by unfold turnZ; omega
def turnedZ (turn tick times : Int) : Int := (turn + times * turnZ tick + 1000000) % 1000000
end Go.Proofs.YtenkgipcblfocaaGreat
namespace Go.Proofs.YtenkgipcblfocaaGreat
open Go Go.RowKit Go.Proofs Go.Shelf Go.Ab
def befW (w : Int → Int) (i j : Int) : Prop := w j < w i ∨ (w i = w j ∧ i < j)
theorem befW_irr {w : Int → Int} {i j : Int} (h : befW w i j) : ¬ befW w j i := by unfold befW at *; omega
theorem befW_tot {w : Int → Int} {i j : Int} (h : i ≠ j) : befW w i j ∨ befW w j i := by unfold befW; omega
structure SortW (w : Int → Int) (n : Nat) (L : List Int) : Prop where
  perm : L.Perm (idxL n)
  ord : L.Pairwise (befW w)
theorem SortW.len {w : Int → Int} {n : Nat} {L : List Int} (s : SortW w n L) : L.length = n := by rw [s.perm.length_eq]; simp [idxL]
theorem SortW.nd {w : Int → Int} {n : Nat} {L : List Int} (s : SortW w n L) : L.Nodup := s.perm.nodup_iff.2 (idxL_nd n)
theorem SortW.mem {w : Int → Int} {n : Nat} {L : List Int} (s : SortW w n L) {z : Int} : z ∈ L ↔ 0 ≤ z ∧ z < n := by rw [s.perm.mem_iff, idxL_mem]
def cntK (w : Int → Int) (L : List Int) (want : Int) : Nat → Nat → Nat
  | 0, c => c
  | f + 1, c => if 100 * sumI w (L.take c) < want then cntK w L want f (c + 1) else c
theorem cntK_spec {w : Int → Int} {L : List Int} {want : Int} (hw : want ≤ 100 * sumI w L) : ∀ {f c : Nat}, L.length ≤ c + f → c ≤ L.length → (∀ j, j < c → 100 * sumI w (L.take j) < want) → cntK w L want f c ≤ L.length ∧ want ≤ 100 * sumI w (L.take (cntK w L want f c)) ∧ ∀ j, j < cntK w L want f c → 100 * sumI w (L.take j) < want
  | 0, c, h1, h2, h3 => by
    rw [cntK]
    refine ⟨h2, ?_, h3⟩
    rw [List.take_of_length_le (by omega)]; exact hw
  | f + 1, c, h1, h2, h3 => by
    rw [cntK]
    by_cases hc : 100 * sumI w (L.take c) < want
    · rw [if_pos hc]
      have hlt : c < L.length := by
        refine Classical.byContradiction fun h => ?_
        rw [List.take_of_length_le (by omega)] at hc; omega
      exact cntK_spec hw (by omega) (by omega) fun j hj => by
        by_cases e : j = c
        · subst e; exact hc
        · exact h3 j (by omega)
    · rw [if_neg hc]; exact ⟨h2, by omega, h3⟩
theorem idxL_asc (n : Nat) : (idxL n).Pairwise (· < ·) := List.pairwise_map.2 (List.pairwise_lt_range.imp fun h => by omega)
end Go.Proofs.YtenkgipcblfocaaGreat
namespace Go.Proofs.YtenkgipcblfocaaGreat
open Go Go.RowKit Go.Proofs Go.Shelf Go.Ab
section
variable {w : Int → Int} {n : Nat} {L : List Int} {want : Int}
def regC (w : Int → Int) (L : List Int) (want : Int) : Nat := cntK w L want L.length 0
theorem regC_spec (hw : want ≤ 100 * sumI w L) : regC w L want ≤ L.length ∧ want ≤ 100 * sumI w (L.take (regC w L want)) ∧ ∀ j, j < regC w L want → 100 * sumI w (L.take j) < want :=
  cntK_spec hw (by omega) (Nat.zero_le _) fun j hj => absurd hj (Nat.not_lt_zero j)
end
end Go.Proofs.YtenkgipcblfocaaGreat
namespace Go.Proofs.YtenkgipcblfocaaGreat
open Go Go.RowKit Go.Proofs Go.Shelf Go.Ab
structure ActN (N : Type) where
  kind : Int
  name : N
  cells : List Int
section
variable {N : Type} [DecidableEq N]
def pplK (l : List (ActN N)) : Nat → List N
  | 0 => []
  | k + 1 => match l[k]? with
    | none => pplK l k
    | some a => if a.kind = 0 then pplK l k ++ [a.name] else if a.kind = 1 then (pplK l k).filter (fun x => !decide (x = a.name)) else pplK l k
def newV (name : N) (a : ActN N) : Bool := decide (a.name = name) && (decide (a.kind = 2) || decide (a.kind = 3))
def verK (l : List (ActN N)) (name : N) : Nat → Int
  | 0 => 0
  | k + 1 => match l[k]? with
    | none => verK l name k
    | some a => if newV name a then verK l name k + 1 else verK l name k
def celK (l : List (ActN N)) (name : N) : Nat → List Int
  | 0 => []
  | k + 1 => match l[k]? with
    | none => celK l name k
    | some a => if newV name a then a.cells else celK l name k
def wdrK (l : List (ActN N)) (name : N) : Nat → Bool
  | 0 => false
  | k + 1 => match l[k]? with
    | none => wdrK l name k
    | some a => if a.name = name ∧ a.kind = 4 then true else wdrK l name k
def hadK (l : List (ActN N)) (name who : N) : Nat → Option Int
  | 0 => none
  | k + 1 => match l[k]? with
    | none => hadK l name who k
    | some a => if newV name a ∧ who ∈ pplK l k then some (verK l name k + 1) else hadK l name who k
structure ActsOk (l : List (ActN N)) : Prop where
  kind : ∀ (k : Nat) (a : ActN N), l[k]? = some a → 0 ≤ a.kind ∧ a.kind ≤ 4
  join : ∀ (k : Nat) (a : ActN N), l[k]? = some a → a.kind = 0 → a.name ∉ pplK l k
  leave : ∀ (k : Nat) (a : ActN N), l[k]? = some a → a.kind = 1 → a.name ∈ pplK l k
  send : ∀ (k : Nat) (a : ActN N), l[k]? = some a → a.kind = 2 → verK l a.name k = 0
  later : ∀ (k : Nat) (a : ActN N), l[k]? = some a → 3 ≤ a.kind → 0 < verK l a.name k ∧ wdrK l a.name k = false
theorem verK_nn (l : List (ActN N)) (name : N) : ∀ k, 0 ≤ verK l name k ∧ verK l name k ≤ k
  | 0 => by simp [verK]
  | k + 1 => by
    have ih := verK_nn l name k
    rw [verK]
    cases l[k]? with
    | none => simp only; omega
    | some a => simp only; split <;> omega
theorem hadK_bd (l : List (ActN N)) (name who : N) : ∀ k v, hadK l name who k = some v → 1 ≤ v ∧ v ≤ verK l name k
  | 0, v, h => by simp [hadK] at h
  | k + 1, v, h => by
    have ih := hadK_bd l name who k
    have hv := verK_nn l name k
    rw [hadK] at h
    rw [verK]
    cases hl : l[k]? with
    | none => rw [hl] at h; exact ih v h
    | some a =>
      rw [hl] at h
      simp only at h ⊢
      by_cases hc : newV name a = true ∧ who ∈ pplK l k
      · rw [if_pos hc] at h
        rw [if_pos hc.1]
        cases h; omega
      · rw [if_neg hc] at h
        have := ih v h
        split <;> omega
theorem hadK_iff (l : List (ActN N)) (name who : N) : ∀ k, (hadK l name who k).isSome = true ↔ ∃ i a, i < k ∧ l[i]? = some a ∧ newV name a = true ∧ who ∈ pplK l i
  | 0 => by simp [hadK]
  | k + 1 => by
    have ih := hadK_iff l name who k
    rw [hadK]
    cases hl : l[k]? with
    | none =>
      simp only
      rw [ih]
      constructor
      · rintro ⟨i, a, h1, h2⟩; exact ⟨i, a, by omega, h2⟩
      · rintro ⟨i, a, h1, h2, h3⟩
        by_cases e : i = k
        · subst e; rw [hl] at h2; cases h2
        · exact ⟨i, a, by omega, h2, h3⟩
    | some b =>
      simp only
      by_cases hc : newV name b = true ∧ who ∈ pplK l k
      · rw [if_pos hc]
        simp only [Option.isSome_some, true_iff]
        exact ⟨k, b, by omega, hl, hc⟩
      · rw [if_neg hc, ih]
        constructor
        · rintro ⟨i, a, h1, h2⟩; exact ⟨i, a, by omega, h2⟩
        · rintro ⟨i, a, h1, h2, h3⟩
          by_cases e : i = k
          · subst e; rw [hl] at h2; cases h2; exact absurd h3 hc
          · exact ⟨i, a, by omega, h2, h3⟩
end
end Go.Proofs.YtenkgipcblfocaaGreat
namespace Go.Proofs.YtenkgipcblfocaaGreat
open Go Go.RowKit Go.Proofs Go.Shelf Go.Ab
section
variable {near : Int → Int → Bool}
inductive Conn (near : Int → Int → Bool) (X : List Int) : Int → Int → Prop
  | refl (a : Int) : Conn near X a a
  | step {a b c : Int} (h : Conn near X a b) (hb : b ∈ X) (hc : c ∈ X) (hn : near b c = true) : Conn near X a c
theorem Conn.trans {X : List Int} {a b c : Int} (h : Conn near X a b) (k : Conn near X b c) : Conn near X a c := by
  induction k with
  | refl => exact h
  | step _ hb hc hn ih => exact .step ih hb hc hn
theorem Conn.symm {X : List Int} (hs : ∀ a b, near a b = near b a) {a b : Int} (h : Conn near X a b) : Conn near X b a := by
  induction h with
  | refl => exact .refl _
  | step _ hb hc hn ih => exact (Conn.step (.refl _) hc hb (by rw [hs]; exact hn)).trans ih
structure BfsOk (near : Int → Int → Bool) (X : List Int) (a : Int) (re le : List Int) (i : Nat) : Prop where
  inX : ∀ x, x ∈ re ∨ x ∈ le → x ∈ X
  conn : ∀ x, x ∈ re → Conn near X a x
  start : a ∈ re
  done : ∀ j, j < i → ∀ k, k ∈ le → near (re.getD j default) k = false
  ile : i ≤ re.length
end
end Go.Proofs.YtenkgipcblfocaaGreat
namespace Go.Proofs.YtenkgipcblfocaaGreat
open Go Go.RowKit Go.Proofs Go.Shelf Go.Ab
section
variable {near : Int → Int → Bool}
end
end Go.Proofs.YtenkgipcblfocaaGreat
namespace Go.Proofs.YtenkgipcblfocaaGreat
open Go Go.RowKit Go.Proofs Go.Shelf Go.Ab
theorem befW_trans {w : Int → Int} {i j k : Int} (h : befW w i j) (g : befW w j k) : befW w i k := by unfold befW at *; omega
section
variable {w : Int → Int}
def putAt (P : List Int) (x : Int) (j : Nat) : List Int := P.take j ++ x :: P.drop j
theorem putAt_len {P : List Int} {x : Int} {j : Nat} (hj : j ≤ P.length) : (putAt P x j).length = P.length + 1 := by simp [putAt]; omega
theorem putAt_end (P : List Int) (x : Int) : putAt P x P.length = P ++ [x] := by simp [putAt]
theorem putAt_perm (P : List Int) (x : Int) (j : Nat) : (putAt P x j).Perm (x :: P) := by
  unfold putAt
  refine List.perm_middle.trans ?_
  rw [List.take_append_drop]
theorem putAt_at {P : List Int} {x : Int} {j : Nat} (hj : j ≤ P.length) : (putAt P x j)[j]? = some x := by
  unfold putAt
  rw [List.getElem?_append_right (by simp; omega)]
  simp [Nat.min_eq_left hj]
theorem putAt_before {P : List Int} {x : Int} {j : Nat} (hj : j < P.length) : (putAt P x (j + 1))[j]? = some P[j] := by
  unfold putAt
  rw [List.getElem?_append_left (by simp; omega), List.getElem?_take, if_pos (by omega), List.getElem?_eq_getElem hj]
theorem putAt_swap {P : List Int} {x : Int} {j : Nat} (hj : j < P.length) : ((putAt P x (j + 1)).set j x).set (j + 1) P[j] = putAt P x j := by
  apply List.ext_getElem?
  intro k
  have h1 : (P.take (j + 1)).length = j + 1 := by simp; omega
  have h2 : (P.take j).length = j := by simp; omega
  unfold putAt
  rw [List.getElem?_set, List.getElem?_set]
  simp only [List.length_set, List.length_append, List.length_cons, h1, List.length_drop]
  by_cases e1 : j + 1 = k
  · subst e1
    rw [if_pos rfl, if_pos (by omega), List.getElem?_append_right (by omega), h2, show j + 1 - j = 1 by omega, List.getElem?_cons_succ, List.getElem?_drop, Nat.add_zero, List.getElem?_eq_getElem hj]
  · rw [if_neg e1]
    by_cases e2 : j = k
    · subst e2
      rw [if_pos rfl, if_pos (by omega), List.getElem?_append_right (by omega), h2, Nat.sub_self, List.getElem?_cons_zero]
    · rw [if_neg e2]
      by_cases h3 : k < j
      · rw [List.getElem?_append_left (by omega), List.getElem?_append_left (by omega), List.getElem?_take, List.getElem?_take, if_pos (by omega), if_pos h3]
      · rw [List.getElem?_append_right (by omega), List.getElem?_append_right (by omega), h1, h2, show k - (j + 1) = k - (j + 2) + 1 by omega, show k - j = k - (j + 2) + 1 + 1 by omega, List.getElem?_cons_succ, List.getElem?_cons_succ, List.getElem?_drop, List.getElem?_drop]
        congr 1
        omega
theorem putAt_sorted {P : List Int} {x : Int} {j : Nat} (hj : j ≤ P.length) (hP : P.Pairwise (befW w)) (hx : x ∉ P) (h1 : ∀ k (hk : k < P.length), j ≤ k → befW w x P[k]) (h2 : ∀ hj' : 0 < j, ¬ befW w x (P[j - 1]'(by omega))) : (putAt P x j).Pairwise (befW w) := by
  unfold putAt
  have hs : P = P.take j ++ P.drop j := (List.take_append_drop _ _).symm
  have hP2 := hP
  rw [hs] at hP2
  obtain ⟨a, b, c⟩ := List.pairwise_append.1 hP2
  have hfrom : ∀ y, y ∈ P.take j → befW w y x := fun y hy => by
    obtain ⟨k, hk, e⟩ := List.getElem_of_mem hy
    rw [List.length_take] at hk
    rw [List.getElem_take] at e
    have hne : ∀ i (hi : i < P.length), P[i] ≠ x := fun i hi e => hx (e ▸ List.getElem_mem hi)
    have hl : befW w (P[j - 1]'(by omega)) x := (befW_tot (hne (j - 1) (by omega))).resolve_right (h2 (by omega))
    by_cases ek : k = j - 1
    · subst ek; rw [← e]; exact hl
    · have := List.pairwise_iff_getElem.1 hP k (j - 1) (by omega) (by omega) (by omega)
      rw [← e]
      exact befW_trans this hl
  refine List.pairwise_append.2 ⟨a, List.pairwise_cons.2 ⟨fun y hy => ?_, b⟩, fun y hy z hz => ?_⟩
  · obtain ⟨k, hk, e⟩ := List.getElem_of_mem hy
    rw [List.length_drop] at hk
    rw [List.getElem_drop] at e
    rw [← e]
    exact h1 (j + k) (by omega) (by omega)
  · rcases List.mem_cons.1 hz with e | e
    · subst e; exact hfrom y hy
    · exact c y hy z e
end
end Go.Proofs.YtenkgipcblfocaaGreat
namespace Go.Proofs.YtenkgipcblfocaaGreat
open Go Go.RowKit Go.Proofs Go.Shelf Go.Ab
instance (w : Int → Int) (i j : Int) : Decidable (befW w i j) := by unfold befW; infer_instance
section
variable {w : Int → Int}
theorem sort_uniq : ∀ {a b : List Int}, a.Pairwise (befW w) → b.Pairwise (befW w) → (∀ x, x ∈ a ↔ x ∈ b) → a = b
  | [], [], _, _, _ => rfl
  | [], y :: b, _, _, h => absurd ((h y).2 (by simp)) (by simp)
  | x :: a, [], _, _, h => absurd ((h x).1 (by simp)) (by simp)
  | x :: a, y :: b, ha, hb, h => by
    rw [List.pairwise_cons] at ha hb
    have e : x = y := by
      rcases List.mem_cons.1 ((h x).1 (by simp)) with e | e
      · exact e
      · rcases List.mem_cons.1 ((h y).2 (by simp)) with e2 | e2
        · exact e2.symm
        · exact absurd (ha.1 y e2) (befW_irr (hb.1 x e))
    subst e
    congr 1
    refine sort_uniq ha.2 hb.2 fun z => ?_
    constructor
    · intro hz
      rcases List.mem_cons.1 ((h z).1 (by simp [hz])) with e | e
      · subst e; exact absurd (ha.1 z hz) (befW_irr (ha.1 z hz))
      · exact e
    · intro hz
      rcases List.mem_cons.1 ((h z).2 (by simp [hz])) with e | e
      · subst e; exact absurd (hb.1 z hz) (befW_irr (hb.1 z hz))
      · exact e
def insO (w : Int → Int) (x : Int) : List Int → List Int
  | [] => [x]
  | y :: t => if befW w x y then x :: y :: t else y :: insO w x t
def sortO (w : Int → Int) : List Int → List Int
  | [] => []
  | x :: t => insO w x (sortO w t)
theorem insO_perm (x : Int) : ∀ l : List Int, (insO w x l).Perm (x :: l)
  | [] => .refl _
  | y :: t => by
    rw [insO]
    split
    · exact .refl _
    · exact (List.Perm.cons y (insO_perm x t)).trans (.swap x y t)
theorem sortO_perm : ∀ l : List Int, (sortO w l).Perm l
  | [] => .refl _
  | x :: t => (insO_perm x _).trans (.cons x (sortO_perm t))
theorem insO_sorted {x : Int} : ∀ {l : List Int}, l.Pairwise (befW w) → x ∉ l → (insO w x l).Pairwise (befW w)
  | [], _, _ => by simp [insO]
  | y :: t, h, hx => by
    rw [List.pairwise_cons] at h
    rw [insO]
    split
    · rename_i hb
      refine List.pairwise_cons.2 ⟨fun z hz => ?_, List.pairwise_cons.2 h⟩
      rcases List.mem_cons.1 hz with e | e
      · subst e; exact hb
      · exact befW_trans hb (h.1 z e)
    · rename_i hb
      refine List.pairwise_cons.2 ⟨fun z hz => ?_, insO_sorted h.2 fun hm => hx (by simp [hm])⟩
      rcases List.mem_cons.1 ((insO_perm x t).mem_iff.1 hz) with e | e
      · subst e
        exact (befW_tot (fun e => hx (by simp [e]))).resolve_left hb
      · exact h.1 z e
theorem sortO_sorted : ∀ {l : List Int}, l.Nodup → (sortO w l).Pairwise (befW w)
  | [], _ => List.Pairwise.nil
  | x :: t, h => by
    rw [List.nodup_cons] at h
    exact insO_sorted (sortO_sorted h.2) fun hm => h.1 ((sortO_perm t).mem_iff.1 hm)
theorem sortO_of {l L : List Int} (hn : l.Nodup) (hL : L.Pairwise (befW w)) (hm : ∀ x, x ∈ L ↔ x ∈ l) : sortO w l = L :=
  sort_uniq (sortO_sorted hn) hL fun x => by rw [(sortO_perm l).mem_iff, hm]
theorem sortO_len (l : List Int) : (sortO w l).length = l.length := (sortO_perm l).length_eq
theorem SortW.eq {n : Nat} {L : List Int} (s : SortW w n L) : L = sortO w (idxL n) := (sortO_of (idxL_nd n) s.ord fun _ => s.perm.mem_iff).symm
end
end Go.Proofs.YtenkgipcblfocaaGreat
namespace Go.Proofs.YtenkgipcblfocaaGreat
open Go Go.RowKit Go.Proofs Go.Shelf Go.Ab
end Go.Proofs.YtenkgipcblfocaaGreat
namespace Go.Proofs.YtenkgipcblfocaaGreat
open Go Go.RowKit Go.Proofs Go.Shelf Go.Ab
def cellZ (rs : List Int) (h t : Int) : Int := befK rs (goR rs h rs.length 0) + t * rs.getD (goR rs h rs.length 0) default / 1000000
end Go.Proofs.YtenkgipcblfocaaGreat
namespace Go.Proofs.YtenkgipcblfocaaGreat
open Go Go.RowKit Go.Proofs Go.Shelf Go.Ab
end Go.Proofs.YtenkgipcblfocaaGreat
namespace Go.Proofs.YtenkgipcblfocaaGreat
open Go Go.RowKit Go.Proofs Go.Shelf Go.Ab
section
variable {N : Type} {lt : N → N → Bool}
structure LtOk (lt : N → N → Bool) : Prop where
  irr : ∀ a, lt a a = false
  trans : ∀ a b c, lt a b = true → lt b c = true → lt a c = true
  tot : ∀ a b, a ≠ b → lt a b = true ∨ lt b a = true
theorem LtOk.asym (o : LtOk lt) {a b : N} (h : lt a b = true) : lt b a = false := by
  cases hb : lt b a with
  | false => rfl
  | true => have := o.trans a b a h hb; rw [o.irr] at this; cases this
def AscN (lt : N → N → Bool) (l : List N) : Prop := l.Pairwise fun a b => lt a b = true
theorem AscN.nodup (o : LtOk lt) {l : List N} (h : AscN lt l) : l.Nodup := List.Pairwise.imp (fun {a b} hab e => by subst e; rw [o.irr] at hab; cases hab) h
theorem ascN_uniq (o : LtOk lt) : ∀ {a b : List N}, AscN lt a → AscN lt b → (∀ x, x ∈ a ↔ x ∈ b) → a = b
  | [], [], _, _, _ => rfl
  | [], y :: b, _, _, h => absurd ((h y).2 (by simp)) (by simp)
  | x :: a, [], _, _, h => absurd ((h x).1 (by simp)) (by simp)
  | x :: a, y :: b, ha, hb, h => by
    unfold AscN at ha hb
    rw [List.pairwise_cons] at ha hb
    have e : x = y := by
      rcases List.mem_cons.1 ((h x).1 (by simp)) with e | e
      · exact e
      · rcases List.mem_cons.1 ((h y).2 (by simp)) with e2 | e2
        · exact e2.symm
        · have h1 := o.asym (ha.1 y e2)
          rw [hb.1 x e] at h1; cases h1
    subst e
    congr 1
    refine ascN_uniq o ha.2 hb.2 fun z => ?_
    constructor
    · intro hz
      rcases List.mem_cons.1 ((h z).1 (by simp [hz])) with e | e
      · subst e; have := ha.1 z hz; rw [o.irr] at this; cases this
      · exact e
    · intro hz
      rcases List.mem_cons.1 ((h z).2 (by simp [hz])) with e | e
      · subst e; have := hb.1 z hz; rw [o.irr] at this; cases this
      · exact e
def gtLast (lt : N → N → Bool) (out : List N) (x : N) : Bool := match out.getLast? with
  | none => true
  | some y => lt y x
def nextN [Inhabited N] (lt : N → N → Bool) (l out : List N) : Nat → Int
  | 0 => -1
  | k + 1 => if gtLast lt out (l.getD k default) = true ∧ (nextN lt l out k < 0 ∨ lt (l.getD k default) (l.getD (nextN lt l out k).toNat default) = true) then (k : Int) else nextN lt l out k
theorem nextN_bd [Inhabited N] {l out : List N} : ∀ n, -1 ≤ nextN lt l out n ∧ nextN lt l out n < n
  | 0 => by simp [nextN]
  | k + 1 => by
    have := nextN_bd (l := l) (out := out) k
    rw [nextN]; split <;> omega
theorem nextN_spec [Inhabited N] (o : LtOk lt) {l out : List N} : ∀ n, (nextN lt l out n < 0 → ∀ i, i < n → gtLast lt out (l.getD i default) = false) ∧ (0 ≤ nextN lt l out n → gtLast lt out (l.getD (nextN lt l out n).toNat default) = true ∧ ∀ i, i < n → gtLast lt out (l.getD i default) = true → lt (l.getD i default) (l.getD (nextN lt l out n).toNat default) = false)
  | 0 => ⟨fun _ i h => absurd h (Nat.not_lt_zero i), fun h => by simp [nextN] at h⟩
  | k + 1 => by
    obtain ⟨h1, h2⟩ := nextN_spec o (l := l) (out := out) k
    have hb := nextN_bd (lt := lt) (l := l) (out := out) k
    rw [nextN]
    by_cases hc : gtLast lt out (l.getD k default) = true ∧ (nextN lt l out k < 0 ∨ lt (l.getD k default) (l.getD (nextN lt l out k).toNat default) = true)
    · rw [if_pos hc]
      refine ⟨fun h => by omega, fun _ => ⟨by simpa using hc.1, fun i hi hg => ?_⟩⟩
      show lt (l.getD i default) (l.getD k default) = false
      by_cases e : i = k
      · subst e; exact o.irr _
      · rcases hc.2 with h | h
        · have := h1 h i (by omega); rw [hg] at this; cases this
        · have h3 := (h2 (by
            refine Classical.byContradiction fun hn => ?_
            have := h1 (by omega) i (by omega); rw [hg] at this; cases this)).2 i (by omega) hg
          cases hx : lt (l.getD i default) (l.getD k default) with
          | false => rfl
          | true => rw [o.trans _ _ _ hx h] at h3; cases h3
    · rw [if_neg hc]
      refine ⟨fun h i hi => ?_, fun h => ⟨(h2 h).1, fun i hi hg => ?_⟩⟩
      · by_cases e : i = k
        · subst e
          cases hg : gtLast lt out (l.getD i default) with
          | false => rfl
          | true => exact absurd ⟨hg, .inl h⟩ hc
        · exact h1 h i (by omega)
      · by_cases e : i = k
        · subst e
          cases hx : lt (l.getD i default) (l.getD (nextN lt l out i).toNat default) with
          | false => rfl
          | true => exact absurd ⟨hg, .inr hx⟩ hc
        · exact (h2 h).2 i (by omega) hg
def sortN [Inhabited N] (lt : N → N → Bool) (l : List N) : Nat → List N → List N
  | 0, out => out
  | f + 1, out => if nextN lt l out l.length < 0 then out else sortN lt l f (out ++ [l.getD (nextN lt l out l.length).toNat default])
theorem gtLast_all (o : LtOk lt) {out : List N} (h : AscN lt out) {x : N} : gtLast lt out x = true ↔ ∀ y, y ∈ out → lt y x = true := by
  unfold gtLast
  rcases List.eq_nil_or_concat out with e | ⟨t, z, e⟩
  · subst e; simp
  · rw [List.concat_eq_append] at e
    subst e
    rw [List.getLast?_append]
    simp only [List.getLast?_singleton, Option.some_or, List.mem_append, List.mem_singleton]
    constructor
    · rintro hz y (hy | rfl)
      · exact o.trans _ _ _ ((List.pairwise_append.1 h).2.2 y hy z (by simp)) hz
      · exact hz
    · intro hy; exact hy z (.inr rfl)
theorem sortN_spec [DecidableEq N] [Inhabited N] (o : LtOk lt) {l : List N} : ∀ {f : Nat} {out : List N}, AscN lt out → (∀ x, x ∈ out → x ∈ l) → (∀ x, x ∈ l → x ∈ out ∨ ∀ y, y ∈ out → lt y x = true) → l.length < out.length + f → AscN lt (sortN lt l f out) ∧ ∀ x, x ∈ sortN lt l f out ↔ x ∈ l
  | 0, out, h1, h2, _, h4 => by
    have := sub_len (h1.nodup o) h2
    omega
  | f + 1, out, h1, h2, h3, h4 => by
    rw [sortN]
    obtain ⟨s1, s2⟩ := nextN_spec o (l := l) (out := out) l.length
    have hb := nextN_bd (lt := lt) (l := l) (out := out) l.length
    have ix : ∀ x, x ∈ l → ∃ i, i < l.length ∧ l.getD i default = x := fun x hx => by
      obtain ⟨i, hi, e⟩ := List.getElem_of_mem hx
      exact ⟨i, hi, by rw [List.getD_eq_getElem?_getD, List.getElem?_eq_getElem hi]; exact e⟩
    by_cases hc : nextN lt l out l.length < 0
    · rw [if_pos hc]
      refine ⟨h1, fun x => ⟨h2 x, fun hx => ?_⟩⟩
      rcases h3 x hx with h | h
      · exact h
      · obtain ⟨i, hi, e⟩ := ix x hx
        have := s1 hc i hi
        rw [e, (gtLast_all o h1).2 h] at this
        cases this
    · rw [if_neg hc]
      obtain ⟨p1, p2⟩ := s2 (by omega)
      have hmem : l.getD (nextN lt l out l.length).toNat default ∈ l := by
        rw [List.getD_eq_getElem?_getD, List.getElem?_eq_getElem (by omega)]; exact List.getElem_mem _
      generalize l.getD (nextN lt l out l.length).toNat default = m at *
      have hall := (gtLast_all o h1).1 p1
      refine sortN_spec o (List.pairwise_append.2 ⟨h1, by simp, fun y hy z hz => by rw [List.mem_singleton] at hz; subst hz; exact hall y hy⟩) (fun x hx => ?_) (fun x hx => ?_) (by rw [List.length_append, List.length_singleton]; omega)
      · rcases List.mem_append.1 hx with h | h
        · exact h2 x h
        · rw [List.mem_singleton] at h; subst h; exact hmem
      · rcases h3 x hx with h | h
        · exact .inl (List.mem_append.2 (.inl h))
        · by_cases e : x = m
          · subst e; exact .inl (by simp)
          · right
            intro y hy
            rcases List.mem_append.1 hy with hy | hy
            · exact h y hy
            · rw [List.mem_singleton] at hy
              subst hy
              obtain ⟨i, hi, ei⟩ := ix x hx
              have := p2 i hi (by rw [ei]; exact (gtLast_all o h1).2 h)
              rw [ei] at this
              rcases o.tot x y e with h5 | h5
              · rw [h5] at this; cases this
              · exact h5
def sortedN [Inhabited N] (lt : N → N → Bool) (l : List N) : List N := sortN lt l (l.length + 1) []
theorem sortedN_spec [DecidableEq N] [Inhabited N] (o : LtOk lt) (l : List N) : AscN lt (sortedN lt l) ∧ ∀ x, x ∈ sortedN lt l ↔ x ∈ l :=
  sortN_spec o List.Pairwise.nil (fun _ h => by cases h) (fun _ _ => .inr fun _ h => by cases h) (by simp)
theorem sortedN_eq [DecidableEq N] [Inhabited N] (o : LtOk lt) {l s : List N} (h : AscN lt s) (hm : ∀ x, x ∈ s ↔ x ∈ l) : s = sortedN lt l :=
  ascN_uniq o h (sortedN_spec o l).1 fun x => by rw [hm, (sortedN_spec o l).2]
end
end Go.Proofs.YtenkgipcblfocaaGreat
namespace Go.Proofs.YtenkgipcblfocaaGreat
open Go Go.RowKit Go.Proofs Go.Shelf Go.Ab
section
variable {α : Type}
end
structure CutOk (w : Int → Int) (D : Nat → Int) (p lo hi s : Nat) : Prop where
  le : lo ≤ s ∧ s ≤ hi
  left : ∀ c, lo ≤ c → c < s → ¬ befW w (D (p - c)) (D c)
  right : ∀ c, s ≤ c → c < hi → befW w (D (p - c)) (D c)
end Go.Proofs.YtenkgipcblfocaaGreat
namespace Go.Proofs.YtenkgipcblfocaaGreat
open Go Go.RowKit Go.Proofs Go.Shelf Go.Ab
def SrtI (w : Int → Int) (D : Nat → Int) (a b : Nat) : Prop := ∀ i j, a ≤ i → i < j → j < b → befW w (D i) (D j)
theorem SrtI.sub {w : Int → Int} {D : Nat → Int} {a b c d : Nat} (h : SrtI w D a b) (h1 : a ≤ c) (h2 : d ≤ b) : SrtI w D c d := fun i j p q r => h i j (by omega) q (by omega)
theorem SrtI.join {w : Int → Int} {D : Nat → Int} {a m b : Nat} (h1 : SrtI w D a m) (h2 : SrtI w D m b) (h : ∀ i j, a ≤ i → i < m → m ≤ j → j < b → befW w (D i) (D j)) : SrtI w D a b := fun i j p q r => by
  by_cases hj : j < m
  · exact h1 i j p q hj
  · by_cases hi : i < m
    · exact h i j p hi (by omega) r
    · exact h2 i j (by omega) q r
end Go.Proofs.YtenkgipcblfocaaGreat
namespace Go.Proofs.YtenkgipcblfocaaGreat
open Go Go.RowKit Go.Proofs Go.Shelf Go.Ab
end Go.Proofs.YtenkgipcblfocaaGreat
namespace Go.Proofs.YtenkgipcblfocaaGreat
open Go Go.RowKit Go.Proofs Go.Shelf Go.Ab
section
variable {N : Type} [DecidableEq N] [Inhabited N] {lt : N → N → Bool}
def hadL (lt : N → N → Bool) (l : List (ActN N)) (name : N) : Nat → List N
  | 0 => []
  | k + 1 => match l[k]? with
    | none => hadL lt l name k
    | some a => if newV name a then hadL lt l name k ++ sortedN lt (pplK l k) else hadL lt l name k
theorem hadL_mem (o : LtOk lt) (l : List (ActN N)) (name who : N) : ∀ k, who ∈ hadL lt l name k ↔ (hadK l name who k).isSome = true
  | 0 => by simp [hadL, hadK]
  | k + 1 => by
    have ih := hadL_mem o l name who k
    rw [hadL, hadK]
    cases l[k]? with
    | none => exact ih
    | some a =>
      simp only
      by_cases hn : newV name a = true
      · rw [if_pos hn, List.mem_append, (sortedN_spec o _).2]
        by_cases hp : who ∈ pplK l k
        · rw [if_pos ⟨hn, hp⟩]
          simp [hp]
        · rw [if_neg (fun h => hp h.2), ih]
          simp [hp]
      · rw [if_neg hn, if_neg (fun h => hn h.1), ih]
def hadS (lt : N → N → Bool) (l : List (ActN N)) (name : N) (k : Nat) : List N := sortedN lt (hadL lt l name k)
theorem hadS_mem (o : LtOk lt) {l : List (ActN N)} {name who : N} {k : Nat} : who ∈ hadS lt l name k ↔ (hadK l name who k).isSome = true := by
  rw [hadS, (sortedN_spec o _).2, hadL_mem o]
theorem hadS_eq (o : LtOk lt) {l : List (ActN N)} {name : N} {k : Nat} {s : List N} (h : AscN lt s) (hm : ∀ x, x ∈ s ↔ (hadK l name x k).isSome = true) : s = hadS lt l name k :=
  ascN_uniq o h (sortedN_spec o _).1 fun x => by rw [hm]; exact (hadS_mem o).symm
def toldS (lt : N → N → Bool) (l : List (ActN N)) (k : Nat) : List N := match l[k]? with
  | none => []
  | some a => if a.kind = 4 then hadS lt l a.name k else sortedN lt (pplK l k)
end
end Go.Proofs.YtenkgipcblfocaaGreat
namespace Go.Proofs.YtenkgipcblfocaaGreat
open Go Go.RowKit Go.Proofs Go.Shelf Go.Ab
def iv (z : Int) : FV := .v (.int .i64 z)
def bv (b : Bool) : FV := .v (.bool b)
def intsF (l : List Int) : List FV := l.map iv
def GG : Nat → Option (List FV) := fun _ => none
theorem intsF_len (l : List Int) : (intsF l).length = l.length * 1 := by simp [intsF]
theorem intsF_ne {l : List Int} {k : Nat} (h : k < l.length) : intsF l ≠ [] := map_ne h
theorem intsF_at {l : List Int} {k : Nat} (h : k < l.length) : (intsF l)[k * 1]? = some (iv l[k]) := map_at h
theorem intsF_snoc (l : List Int) (z : Int) : intsF (l ++ [z]) = intsF l ++ [iv z] := by simp [intsF]
theorem flat_take {α : Type} {f : α → List FV} {s : Nat} (hs : ∀ x, (f x).length = s) (l : List α) (k : Nat) : (l.flatMap f).take (k * s) = (l.take k).flatMap f := by
  induction k generalizing l with
  | zero => simp
  | succ k ih => cases l with
    | nil => simp
    | cons x l => rw [List.flatMap_cons, Nat.succ_mul, List.take_append, hs x, List.take_of_length_le (by rw [hs x]; omega), show k * s + s - s = k * s by omega, ih, List.take_succ_cons, List.flatMap_cons]
abbrev Nm := List UInt8
def sv (s : Nm) : FV := .v (.string ⟨s.toArray⟩)
def strsF (l : List Nm) : List FV := l.map sv
theorem strsF_len (l : List Nm) : (strsF l).length = l.length * 1 := by simp [strsF]
theorem strsF_ne {l : List Nm} {k : Nat} (h : k < l.length) : strsF l ≠ [] := map_ne h
theorem strsF_at {l : List Nm} {k : Nat} (h : k < l.length) : (strsF l)[k * 1]? = some (sv l[k]) := map_at h
theorem strsF_snoc (l : List Nm) (z : Nm) : strsF (l ++ [z]) = strsF l ++ [sv z] := by simp [strsF]
def listF (l : List Nm) : FV := .sl l.length (strsF l)
def listsF (l : List (List Nm)) : List FV := l.map listF
theorem listsF_ne {l : List (List Nm)} {k : Nat} (h : k < l.length) : listsF l ≠ [] := map_ne h
theorem listsF_at {l : List (List Nm)} {k : Nat} (h : k < l.length) : (listsF l)[k * 1]? = some (listF l[k]) := map_at h
theorem listsF_snoc (l : List (List Nm)) (z : List Nm) : listsF (l ++ [z]) = listsF l ++ [listF z] := by simp [listsF]
structure Aev where
  tick : Int
  cell : Int
deriving DecidableEq, Inhabited
abbrev Act := ActN Nm
instance : Inhabited Act := ⟨⟨0, [], []⟩⟩
structure Ast where
  name : Nm
  version : Int
  cells : List Int
  gone : Bool
  had : List Nm
instance : Inhabited Ast := ⟨⟨[], 0, [], false, []⟩⟩
abbrev Pr := Int × Int
structure Pt where
  height : Int
  turn : Int
deriving DecidableEq, Inhabited
def skF (rs : List Int) : FV := .agg [.sl rs.length (intsF rs)]
def ptF (p : Pt) : FV := .agg [iv p.height, iv p.turn]
def celF (x : Cel) : List FV := [iv x.ring, iv x.before, iv x.count, iv x.index]
def celsF (l : List Cel) : List FV := l.flatMap celF
theorem celsF_ne {l : List Cel} {k : Nat} (h : k < l.length) : celsF l ≠ [] := flat_ne (f := celF) (fun _ => rfl) (by decide : 0 < 4) h
theorem celsF_sub {l : List Cel} {k : Nat} (h : k < l.length) : ((celsF l).drop (k * 4)).take 4 = celF l[k] := flat_sub (f := celF) (fun _ => rfl) h
theorem celsF_app (a b : List Cel) : celsF (a ++ b) = celsF a ++ celsF b := List.flatMap_append
theorem celsF_one (x : Cel) : celsF [x] = celF x := by simp [celsF]
theorem celsF_snoc (l : List Cel) (x : Cel) : celsF (l ++ [x]) = celsF l ++ celF x := by rw [celsF_app, celsF_one]
def jobF (x : Job) : List FV := [iv x.ready, iv x.length, iv x.due, iv x.rank]
def jobsF (l : List Job) : List FV := l.flatMap jobF
theorem jobsF_ne {l : List Job} {k : Nat} (h : k < l.length) : jobsF l ≠ [] := flat_ne (f := jobF) (fun _ => rfl) (by decide : 0 < 4) h
theorem jobsF_sub {l : List Job} {k : Nat} (h : k < l.length) : ((jobsF l).drop (k * 4)).take 4 = jobF l[k] := flat_sub (f := jobF) (fun _ => rfl) h
def actF (x : Act) : List FV := [iv x.kind, sv x.name, .sl x.cells.length (intsF x.cells)]
def actsF (l : List Act) : List FV := l.flatMap actF
theorem actsF_ne {l : List Act} {k : Nat} (h : k < l.length) : actsF l ≠ [] := flat_ne (f := actF) (fun _ => rfl) (by decide : 0 < 3) h
theorem actsF_sub {l : List Act} {k : Nat} (h : k < l.length) : ((actsF l).drop (k * 3)).take 3 = actF l[k] := flat_sub (f := actF) (fun _ => rfl) h
theorem actsF_f0 {l : List Act} {k : Nat} (h : k < l.length) : (actsF l)[k * 3 + 0]? = some (iv l[k].kind) := (flat_at (f := actF) (fun _ => rfl) h (by decide : 0 < 3)).trans rfl
theorem actsF_f1 {l : List Act} {k : Nat} (h : k < l.length) : (actsF l)[k * 3 + 1]? = some (sv l[k].name) := (flat_at (f := actF) (fun _ => rfl) h (by decide : 1 < 3)).trans rfl
theorem actsF_f2 {l : List Act} {k : Nat} (h : k < l.length) : (actsF l)[k * 3 + 2]? = some (.sl l[k].cells.length (intsF l[k].cells)) := (flat_at (f := actF) (fun _ => rfl) h (by decide : 2 < 3)).trans rfl
theorem actsF_app (a b : List Act) : actsF (a ++ b) = actsF a ++ actsF b := List.flatMap_append
theorem actsF_one (x : Act) : actsF [x] = actF x := by simp [actsF]
theorem actsF_snoc (l : List Act) (x : Act) : actsF (l ++ [x]) = actsF l ++ actF x := by rw [actsF_app, actsF_one]
theorem actsF_tk {l : List Act} {k : Nat} (h : k < l.length) : actsF (l.take (k + 1)) = actsF (l.take k) ++ actF l[k] := by rw [List.take_succ_eq_append_getElem h, actsF_snoc]
theorem actsF_take (l : List Act) (k : Nat) : (actsF l).take (k * 3) = actsF (l.take k) := flat_take (f := actF) (fun _ => rfl) l k
def astF (x : Ast) : List FV := [sv x.name, iv x.version, .sl x.cells.length (intsF x.cells), bv x.gone, .sl x.had.length (strsF x.had)]
def astsF (l : List Ast) : List FV := l.flatMap astF
theorem astsF_ne {l : List Ast} {k : Nat} (h : k < l.length) : astsF l ≠ [] := flat_ne (f := astF) (fun _ => rfl) (by decide : 0 < 5) h
theorem astsF_f0 {l : List Ast} {k : Nat} (h : k < l.length) : (astsF l)[k * 5 + 0]? = some (sv l[k].name) := (flat_at (f := astF) (fun _ => rfl) h (by decide : 0 < 5)).trans rfl
theorem astsF_f1 {l : List Ast} {k : Nat} (h : k < l.length) : (astsF l)[k * 5 + 1]? = some (iv l[k].version) := (flat_at (f := astF) (fun _ => rfl) h (by decide : 1 < 5)).trans rfl
theorem astsF_f2 {l : List Ast} {k : Nat} (h : k < l.length) : (astsF l)[k * 5 + 2]? = some (.sl l[k].cells.length (intsF l[k].cells)) := (flat_at (f := astF) (fun _ => rfl) h (by decide : 2 < 5)).trans rfl
theorem astsF_f3 {l : List Ast} {k : Nat} (h : k < l.length) : (astsF l)[k * 5 + 3]? = some (bv l[k].gone) := (flat_at (f := astF) (fun _ => rfl) h (by decide : 3 < 5)).trans rfl
theorem astsF_f4 {l : List Ast} {k : Nat} (h : k < l.length) : (astsF l)[k * 5 + 4]? = some (.sl l[k].had.length (strsF l[k].had)) := (flat_at (f := astF) (fun _ => rfl) h (by decide : 4 < 5)).trans rfl
theorem astsF_app (a b : List Ast) : astsF (a ++ b) = astsF a ++ astsF b := List.flatMap_append
def xF (cs : List Cel) : FV := .sl cs.length (celsF cs)
theorem getD_at {α : Type} [Inhabited α] {l : List α} {i : Nat} (h : i < l.length) : l.getD i default = l[i] := by simp [List.getD_eq_getElem?_getD, List.getElem?_eq_getElem h]
def withinB (n lo hi : Int) : Bool := decide (lo ≤ n) && decide (n ≤ hi)
def firstE : List Int → Int
  | [] => 0
  | e :: l => if e = 0 then firstE l else e
theorem firstE_hd {a : Int} {l : List Int} (h : a ≠ 0) : firstE (a :: l) = a := by unfold firstE; rw [if_neg h]
theorem firstE_tl {l : List Int} : firstE (0 :: l) = firstE l := by rw [firstE, if_pos rfl]
theorem firstE_zeros {l : List Int} (h : ∀ j (hj : j < l.length), l[j] = 0) : firstE l = 0 := by
  induction l with
  | nil => rfl
  | cons a l ih =>
    have h0 := h 0 (by simp)
    simp only [List.getElem_cons_zero] at h0
    subst h0
    rw [firstE_tl]
    exact ih fun j hj => by have := h (j + 1) (by simpa using hj); simpa using this
theorem firstE_at {l : List Int} {k : Nat} (hk : k < l.length) (h : ∀ j (hj : j < l.length), j < k → l[j] = 0) (hne : l[k] ≠ 0) : firstE l = l[k] := by
  induction l generalizing k with
  | nil => simp at hk
  | cons a l ih =>
    cases k with
    | zero => simp only [List.getElem_cons_zero] at hne ⊢; exact firstE_hd hne
    | succ k =>
      have h0 := h 0 (by simp) (by omega)
      simp only [List.getElem_cons_zero] at h0
      subst h0
      rw [firstE_tl]
      simp only [List.getElem_cons_succ] at hne ⊢
      exact ih (by simpa using hk) (fun j hj hlt => by have := h (j + 1) (by simpa using hj) (by omega); simpa using this) hne
def eachE (n : Nat) (f : Nat → Int) : Nat × Int := match (List.range n).find? fun i => f i ≠ 0 with
  | some i => (i, f i)
  | none => (0, 0)
theorem eachE_ok {n : Nat} {f : Nat → Int} (h : ∀ i, i < n → f i = 0) : eachE n f = (0, 0) := by
  unfold eachE
  rw [List.find?_eq_none.2 (fun i hi => by simpa using h i (List.mem_range.1 hi))]
theorem eachE_at {n k : Nat} {f : Nat → Int} (hk : k < n) (h : ∀ i, i < k → f i = 0) (hne : f k ≠ 0) : eachE n f = (k, f k) := by
  have : (List.range n).find? (fun i => f i ≠ 0) = some k := by
    obtain ⟨m, rfl⟩ : ∃ m, n = k + 1 + m := ⟨n - k - 1, by omega⟩
    rw [List.range_add, List.range_succ, List.append_assoc, List.find?_append, List.find?_eq_none.2 (fun i hi => by simpa using h i (List.mem_range.1 hi))]
    simp [hne]
  unfold eachE; rw [this]
theorem eachE_cases (n : Nat) (f : Nat → Int) : (eachE n f = (0, 0) ∧ ∀ i, i < n → f i = 0) ∨ ∃ k, k < n ∧ (∀ i, i < k → f i = 0) ∧ f k ≠ 0 ∧ eachE n f = (k, f k) := by
  by_cases h : ∀ i, i < n → f i = 0
  · exact .inl ⟨eachE_ok h, h⟩
  · have : ∃ k, k < n ∧ f k ≠ 0 := Classical.byContradiction fun h2 => h fun i hi => Classical.byContradiction fun h3 => h2 ⟨i, hi, h3⟩
    obtain ⟨k, ⟨hk, hne⟩, hmin⟩ := exists_least this
    have hz : ∀ i, i < k → f i = 0 := fun i hi => Classical.byContradiction fun h3 => by have := hmin i ⟨by omega, h3⟩; omega
    exact .inr ⟨k, hk, hz, hne, eachE_at hk hz hne⟩
end Go.Proofs.YtenkgipcblfocaaGreat
namespace Go.Proofs.YtenkgipcblfocaaGreat
open Go Go.Ab Go.Proofs
def td3 : TyD := { scal := true, zero := some [.int .i64 0] }
theorem tdok3 : TyOk Tryz.prog 3 td3 := ⟨(fun _ => by kernel_rfl), (fun n h => by cases h), (fun f o h => by simp [td3] at h), (fun x h => by cases h), (fun z h => by cases h; kernel_rfl), (fun z h u hu => by cases h; simp at hu; rcases hu with rfl <;> rfl), (fun x h => by cases h), (by intro h; cases h)⟩
def td4 : TyD := { scal := true, zero := some [.bool false] }
theorem tdok4 : TyOk Tryz.prog 4 td4 := ⟨(fun _ => by kernel_rfl), (fun n h => by cases h), (fun f o h => by simp [td4] at h), (fun x h => by cases h), (fun z h => by cases h; kernel_rfl), (fun z h u hu => by cases h; simp at hu; rcases hu with rfl <;> rfl), (fun x h => by cases h), (by intro h; cases h)⟩
def td5 : TyD := { scal := true, zero := some [.int .u8 0] }
theorem tdok5 : TyOk Tryz.prog 5 td5 := ⟨(fun _ => by kernel_rfl), (fun n h => by cases h), (fun f o h => by simp [td5] at h), (fun x h => by cases h), (fun z h => by cases h; kernel_rfl), (fun z h u hu => by cases h; simp at hu; rcases hu with rfl <;> rfl), (fun x h => by cases h), (by intro h; cases h)⟩
def td9 : TyD := { scal := true, str := true, zero := some [.string ByteArray.empty] }
theorem tdok9 : TyOk Tryz.prog 9 td9 := ⟨(fun _ => by kernel_rfl), (fun n h => by cases h), (fun f o h => by simp [td9] at h), (fun x h => by cases h), (fun z h => by cases h; kernel_rfl), (fun z h u hu => by cases h; simp at hu; rcases hu with rfl <;> rfl), (fun x h => by cases h), (fun _ => by kernel_rfl)⟩
def td23 : TyD := { agg := some 2, fld := [0, 1], pl := some [(0, 1), (1, 1)], zero := some [.int .i64 0, .int .i64 0] }
theorem tdok23 : TyOk Tryz.prog 23 td23 := ⟨(by intro h; cases h), (fun n h => by cases h; kernel_rfl), (fun f o h => by
    match f, h with
    | 0, h => exact (show fldO Tryz.prog 23 0 = some 0 by kernel_rfl).trans h
    | 1, h => exact (show fldO Tryz.prog 23 1 = some 1 by kernel_rfl).trans h
    | f + 2, h => simp [td23] at h), (fun x h => by cases h), (fun z h => by cases h; kernel_rfl), (fun z h u hu => by cases h; simp at hu; rcases hu with rfl | rfl <;> rfl), (fun x h => by cases h; kernel_rfl), (by intro h; cases h)⟩
def td25 : TyD := { scal := true, zero := some [.int .i64 0] }
theorem tdok25 : TyOk Tryz.prog 25 td25 := ⟨(fun _ => by kernel_rfl), (fun n h => by cases h), (fun f o h => by simp [td25] at h), (fun x h => by cases h), (fun z h => by cases h; kernel_rfl), (fun z h u hu => by cases h; simp at hu; rcases hu with rfl <;> rfl), (fun x h => by cases h), (by intro h; cases h)⟩
def td34 : TyD := { scal := true, sl := some (3, 1, 8), zero := some [.slice none 0 0] }
theorem tdok34 : TyOk Tryz.prog 34 td34 := ⟨(fun _ => by kernel_rfl), (fun n h => by cases h), (fun f o h => by simp [td34] at h), (fun x h => by cases h; kernel_rfl), (fun z h => by cases h; kernel_rfl), (fun z h u hu => by cases h; simp at hu; rcases hu with rfl <;> rfl), (fun x h => by cases h), (by intro h; cases h)⟩
def td36 : TyD := { agg := some 1, fld := [0], pl := some [(0, 1)], zero := some [.slice none 0 0] }
theorem tdok36 : TyOk Tryz.prog 36 td36 := ⟨(by intro h; cases h), (fun n h => by cases h; kernel_rfl), (fun f o h => by
    match f, h with
    | 0, h => exact (show fldO Tryz.prog 36 0 = some 0 by kernel_rfl).trans h
    | f + 1, h => simp [td36] at h), (fun x h => by cases h), (fun z h => by cases h; kernel_rfl), (fun z h u hu => by cases h; simp at hu; rcases hu with rfl <;> rfl), (fun x h => by cases h; kernel_rfl), (by intro h; cases h)⟩
def td37 : TyD := { scal := true, sl := some (67, 3, 48), zero := some [.slice none 0 0] }
theorem tdok37 : TyOk Tryz.prog 37 td37 := ⟨(fun _ => by kernel_rfl), (fun n h => by cases h), (fun f o h => by simp [td37] at h), (fun x h => by cases h; kernel_rfl), (fun z h => by cases h; kernel_rfl), (fun z h u hu => by cases h; simp at hu; rcases hu with rfl <;> rfl), (fun x h => by cases h), (by intro h; cases h)⟩
def td38 : TyD := { agg := some 2, zero := some [.string ByteArray.empty, .string ByteArray.empty] }
theorem tdok38 : TyOk Tryz.prog 38 td38 := ⟨(by intro h; cases h), (fun n h => by cases h; kernel_rfl), (fun f o h => by simp [td38] at h), (fun x h => by cases h), (fun z h => by cases h; kernel_rfl), (fun z h u hu => by cases h; simp at hu; rcases hu with rfl | rfl <;> rfl), (fun x h => by cases h), (by intro h; cases h)⟩
def td47 : TyD := { scal := true, sl := some (9, 1, 16), zero := some [.slice none 0 0] }
theorem tdok47 : TyOk Tryz.prog 47 td47 := ⟨(fun _ => by kernel_rfl), (fun n h => by cases h), (fun f o h => by simp [td47] at h), (fun x h => by cases h; kernel_rfl), (fun z h => by cases h; kernel_rfl), (fun z h u hu => by cases h; simp at hu; rcases hu with rfl <;> rfl), (fun x h => by cases h), (by intro h; cases h)⟩
def td49 : TyD := { agg := some 5, fld := [0, 1, 2, 3, 4], pl := some [(0, 1), (1, 1), (2, 1), (3, 1), (4, 1)], zero := some [.string ByteArray.empty, .int .i64 0, .slice none 0 0, .bool false, .slice none 0 0] }
theorem tdok49 : TyOk Tryz.prog 49 td49 := ⟨(by intro h; cases h), (fun n h => by cases h; kernel_rfl), (fun f o h => by
    match f, h with
    | 0, h => exact (show fldO Tryz.prog 49 0 = some 0 by kernel_rfl).trans h
    | 1, h => exact (show fldO Tryz.prog 49 1 = some 1 by kernel_rfl).trans h
    | 2, h => exact (show fldO Tryz.prog 49 2 = some 2 by kernel_rfl).trans h
    | 3, h => exact (show fldO Tryz.prog 49 3 = some 3 by kernel_rfl).trans h
    | 4, h => exact (show fldO Tryz.prog 49 4 = some 4 by kernel_rfl).trans h
    | f + 5, h => simp [td49] at h), (fun x h => by cases h), (fun z h => by cases h; kernel_rfl), (fun z h u hu => by cases h; simp at hu; rcases hu with rfl | rfl | rfl | rfl | rfl <;> rfl), (fun x h => by cases h; kernel_rfl), (by intro h; cases h)⟩
def td56 : TyD := { scal := true, sl := some (49, 5, 80), zero := some [.slice none 0 0] }
theorem tdok56 : TyOk Tryz.prog 56 td56 := ⟨(fun _ => by kernel_rfl), (fun n h => by cases h), (fun f o h => by simp [td56] at h), (fun x h => by cases h; kernel_rfl), (fun z h => by cases h; kernel_rfl), (fun z h u hu => by cases h; simp at hu; rcases hu with rfl <;> rfl), (fun x h => by cases h), (by intro h; cases h)⟩
def td67 : TyD := { agg := some 3, fld := [0, 1, 2], pl := some [(0, 1), (1, 1), (2, 1)], zero := some [.int .i64 0, .string ByteArray.empty, .slice none 0 0] }
theorem tdok67 : TyOk Tryz.prog 67 td67 := ⟨(by intro h; cases h), (fun n h => by cases h; kernel_rfl), (fun f o h => by
    match f, h with
    | 0, h => exact (show fldO Tryz.prog 67 0 = some 0 by kernel_rfl).trans h
    | 1, h => exact (show fldO Tryz.prog 67 1 = some 1 by kernel_rfl).trans h
    | 2, h => exact (show fldO Tryz.prog 67 2 = some 2 by kernel_rfl).trans h
    | f + 3, h => simp [td67] at h), (fun x h => by cases h), (fun z h => by cases h; kernel_rfl), (fun z h u hu => by cases h; simp at hu; rcases hu with rfl | rfl | rfl <;> rfl), (fun x h => by cases h; kernel_rfl), (by intro h; cases h)⟩
def td72 : TyD := { agg := some 1, fld := [0], pl := some [(0, 1)], zero := some [.slice none 0 0] }
theorem tdok72 : TyOk Tryz.prog 72 td72 := ⟨(by intro h; cases h), (fun n h => by cases h; kernel_rfl), (fun f o h => by
    match f, h with
    | 0, h => exact (show fldO Tryz.prog 72 0 = some 0 by kernel_rfl).trans h
    | f + 1, h => simp [td72] at h), (fun x h => by cases h), (fun z h => by cases h; kernel_rfl), (fun z h u hu => by cases h; simp at hu; rcases hu with rfl <;> rfl), (fun x h => by cases h; kernel_rfl), (by intro h; cases h)⟩
def td73 : TyD := { agg := some 2, zero := some [.slice none 0 0, .slice none 0 0] }
theorem tdok73 : TyOk Tryz.prog 73 td73 := ⟨(by intro h; cases h), (fun n h => by cases h; kernel_rfl), (fun f o h => by simp [td73] at h), (fun x h => by cases h), (fun z h => by cases h; kernel_rfl), (fun z h u hu => by cases h; simp at hu; rcases hu with rfl | rfl <;> rfl), (fun x h => by cases h), (by intro h; cases h)⟩
def td86 : TyD := { agg := some 2, zero := some [.int .i64 0, .int .i64 0] }
theorem tdok86 : TyOk Tryz.prog 86 td86 := ⟨(by intro h; cases h), (fun n h => by cases h; kernel_rfl), (fun f o h => by simp [td86] at h), (fun x h => by cases h), (fun z h => by cases h; kernel_rfl), (fun z h u hu => by cases h; simp at hu; rcases hu with rfl | rfl <;> rfl), (fun x h => by cases h), (by intro h; cases h)⟩
def td88 : TyD := { agg := some 3, fld := [0, 2], pl := some [(0, 2), (2, 1)], zero := some [.int .i64 0, .int .i64 0, .slice none 0 0] }
theorem tdok88 : TyOk Tryz.prog 88 td88 := ⟨(by intro h; cases h), (fun n h => by cases h; kernel_rfl), (fun f o h => by
    match f, h with
    | 0, h => exact (show fldO Tryz.prog 88 0 = some 0 by kernel_rfl).trans h
    | 1, h => exact (show fldO Tryz.prog 88 1 = some 2 by kernel_rfl).trans h
    | f + 2, h => simp [td88] at h), (fun x h => by cases h), (fun z h => by cases h; kernel_rfl), (fun z h u hu => by cases h; simp at hu; rcases hu with rfl | rfl | rfl <;> rfl), (fun x h => by cases h; kernel_rfl), (by intro h; cases h)⟩
def td97 : TyD := { scal := true, sl := some (108, 4, 32), zero := some [.slice none 0 0] }
theorem tdok97 : TyOk Tryz.prog 97 td97 := ⟨(fun _ => by kernel_rfl), (fun n h => by cases h), (fun f o h => by simp [td97] at h), (fun x h => by cases h; kernel_rfl), (fun z h => by cases h; kernel_rfl), (fun z h u hu => by cases h; simp at hu; rcases hu with rfl <;> rfl), (fun x h => by cases h), (by intro h; cases h)⟩
def td108 : TyD := { agg := some 4, fld := [0, 1, 2, 3], pl := some [(0, 1), (1, 1), (2, 1), (3, 1)], zero := some [.int .i64 0, .int .i64 0, .int .i64 0, .int .i64 0] }
theorem tdok108 : TyOk Tryz.prog 108 td108 := ⟨(by intro h; cases h), (fun n h => by cases h; kernel_rfl), (fun f o h => by
    match f, h with
    | 0, h => exact (show fldO Tryz.prog 108 0 = some 0 by kernel_rfl).trans h
    | 1, h => exact (show fldO Tryz.prog 108 1 = some 1 by kernel_rfl).trans h
    | 2, h => exact (show fldO Tryz.prog 108 2 = some 2 by kernel_rfl).trans h
    | 3, h => exact (show fldO Tryz.prog 108 3 = some 3 by kernel_rfl).trans h
    | f + 4, h => simp [td108] at h), (fun x h => by cases h), (fun z h => by cases h; kernel_rfl), (fun z h u hu => by cases h; simp at hu; rcases hu with rfl | rfl | rfl | rfl <;> rfl), (fun x h => by cases h; kernel_rfl), (by intro h; cases h)⟩
def td111 : TyD := { scal := true, sl := some (199, 2, 16), zero := some [.slice none 0 0] }
theorem tdok111 : TyOk Tryz.prog 111 td111 := ⟨(fun _ => by kernel_rfl), (fun n h => by cases h), (fun f o h => by simp [td111] at h), (fun x h => by cases h; kernel_rfl), (fun z h => by cases h; kernel_rfl), (fun z h u hu => by cases h; simp at hu; rcases hu with rfl <;> rfl), (fun x h => by cases h), (by intro h; cases h)⟩
def td112 : TyD := { agg := some 2, zero := some [.slice none 0 0, .slice none 0 0] }
theorem tdok112 : TyOk Tryz.prog 112 td112 := ⟨(by intro h; cases h), (fun n h => by cases h; kernel_rfl), (fun f o h => by simp [td112] at h), (fun x h => by cases h), (fun z h => by cases h; kernel_rfl), (fun z h u hu => by cases h; simp at hu; rcases hu with rfl | rfl <;> rfl), (fun x h => by cases h), (by intro h; cases h)⟩
def td113 : TyD := { scal := true, sl := some (86, 2, 16), zero := some [.slice none 0 0] }
theorem tdok113 : TyOk Tryz.prog 113 td113 := ⟨(fun _ => by kernel_rfl), (fun n h => by cases h), (fun f o h => by simp [td113] at h), (fun x h => by cases h; kernel_rfl), (fun z h => by cases h; kernel_rfl), (fun z h u hu => by cases h; simp at hu; rcases hu with rfl <;> rfl), (fun x h => by cases h), (by intro h; cases h)⟩
def td124 : TyD := { agg := some 2, fld := [0, 1], pl := some [(0, 1), (1, 1)], zero := some [.int .i64 0, .int .i64 0] }
theorem tdok124 : TyOk Tryz.prog 124 td124 := ⟨(by intro h; cases h), (fun n h => by cases h; kernel_rfl), (fun f o h => by
    match f, h with
    | 0, h => exact (show fldO Tryz.prog 124 0 = some 0 by kernel_rfl).trans h
    | 1, h => exact (show fldO Tryz.prog 124 1 = some 1 by kernel_rfl).trans h
    | f + 2, h => simp [td124] at h), (fun x h => by cases h), (fun z h => by cases h; kernel_rfl), (fun z h u hu => by cases h; simp at hu; rcases hu with rfl | rfl <;> rfl), (fun x h => by cases h; kernel_rfl), (by intro h; cases h)⟩
def td126 : TyD := { agg := some 4, fld := [0, 2], pl := some [(0, 2), (2, 2)], zero := some [.int .i64 0, .int .i64 0, .int .i64 0, .int .i64 0] }
theorem tdok126 : TyOk Tryz.prog 126 td126 := ⟨(by intro h; cases h), (fun n h => by cases h; kernel_rfl), (fun f o h => by
    match f, h with
    | 0, h => exact (show fldO Tryz.prog 126 0 = some 0 by kernel_rfl).trans h
    | 1, h => exact (show fldO Tryz.prog 126 1 = some 2 by kernel_rfl).trans h
    | f + 2, h => simp [td126] at h), (fun x h => by cases h), (fun z h => by cases h; kernel_rfl), (fun z h u hu => by cases h; simp at hu; rcases hu with rfl | rfl | rfl | rfl <;> rfl), (fun x h => by cases h; kernel_rfl), (by intro h; cases h)⟩
def td128 : TyD := { agg := some 8, fld := [0, 4], pl := some [(0, 4), (4, 4)], zero := some [.int .i64 0, .int .i64 0, .int .i64 0, .int .i64 0, .int .i64 0, .int .i64 0, .int .i64 0, .int .i64 0] }
theorem tdok128 : TyOk Tryz.prog 128 td128 := ⟨(by intro h; cases h), (fun n h => by cases h; kernel_rfl), (fun f o h => by
    match f, h with
    | 0, h => exact (show fldO Tryz.prog 128 0 = some 0 by kernel_rfl).trans h
    | 1, h => exact (show fldO Tryz.prog 128 1 = some 4 by kernel_rfl).trans h
    | f + 2, h => simp [td128] at h), (fun x h => by cases h), (fun z h => by cases h; kernel_rfl), (fun z h u hu => by cases h; simp at hu; rcases hu with rfl | rfl | rfl | rfl | rfl | rfl | rfl | rfl <;> rfl), (fun x h => by cases h; kernel_rfl), (by intro h; cases h)⟩
def td139 : TyD := { agg := some 2, fld := [0, 1], pl := some [(0, 1), (1, 1)], zero := some [.int .i64 0, .slice none 0 0] }
theorem tdok139 : TyOk Tryz.prog 139 td139 := ⟨(by intro h; cases h), (fun n h => by cases h; kernel_rfl), (fun f o h => by
    match f, h with
    | 0, h => exact (show fldO Tryz.prog 139 0 = some 0 by kernel_rfl).trans h
    | 1, h => exact (show fldO Tryz.prog 139 1 = some 1 by kernel_rfl).trans h
    | f + 2, h => simp [td139] at h), (fun x h => by cases h), (fun z h => by cases h; kernel_rfl), (fun z h u hu => by cases h; simp at hu; rcases hu with rfl | rfl <;> rfl), (fun x h => by cases h; kernel_rfl), (by intro h; cases h)⟩
def td141 : TyD := { agg := some 4, fld := [0, 2], pl := some [(0, 2), (2, 2)], zero := some [.int .i64 0, .slice none 0 0, .int .i64 0, .slice none 0 0] }
theorem tdok141 : TyOk Tryz.prog 141 td141 := ⟨(by intro h; cases h), (fun n h => by cases h; kernel_rfl), (fun f o h => by
    match f, h with
    | 0, h => exact (show fldO Tryz.prog 141 0 = some 0 by kernel_rfl).trans h
    | 1, h => exact (show fldO Tryz.prog 141 1 = some 2 by kernel_rfl).trans h
    | f + 2, h => simp [td141] at h), (fun x h => by cases h), (fun z h => by cases h; kernel_rfl), (fun z h u hu => by cases h; simp at hu; rcases hu with rfl | rfl | rfl | rfl <;> rfl), (fun x h => by cases h; kernel_rfl), (by intro h; cases h)⟩
def td163 : TyD := { scal := true, sl := some (47, 1, 24), zero := some [.slice none 0 0] }
theorem tdok163 : TyOk Tryz.prog 163 td163 := ⟨(fun _ => by kernel_rfl), (fun n h => by cases h), (fun f o h => by simp [td163] at h), (fun x h => by cases h; kernel_rfl), (fun z h => by cases h; kernel_rfl), (fun z h u hu => by cases h; simp at hu; rcases hu with rfl <;> rfl), (fun x h => by cases h), (by intro h; cases h)⟩
def td166 : TyD := { scal := true, zero := some [.pointer none] }
theorem tdok166 : TyOk Tryz.prog 166 td166 := ⟨(fun _ => by kernel_rfl), (fun n h => by cases h), (fun f o h => by simp [td166] at h), (fun x h => by cases h), (fun z h => by cases h; kernel_rfl), (fun z h u hu => by cases h; simp at hu; rcases hu with rfl <;> rfl), (fun x h => by cases h), (by intro h; cases h)⟩
def td168 : TyD := { scal := true, zero := some [.map none] }
theorem tdok168 : TyOk Tryz.prog 168 td168 := ⟨(fun _ => by kernel_rfl), (fun n h => by cases h), (fun f o h => by simp [td168] at h), (fun x h => by cases h), (fun z h => by cases h; kernel_rfl), (fun z h u hu => by cases h; simp at hu; rcases hu with rfl <;> rfl), (fun x h => by cases h), (by intro h; cases h)⟩
def td170 : TyD := { agg := some 6, fld := [0, 5], pl := some [(0, 5), (5, 1)], zero := some [.string ByteArray.empty, .int .i64 0, .slice none 0 0, .bool false, .slice none 0 0, .map none] }
theorem tdok170 : TyOk Tryz.prog 170 td170 := ⟨(by intro h; cases h), (fun n h => by cases h; kernel_rfl), (fun f o h => by
    match f, h with
    | 0, h => exact (show fldO Tryz.prog 170 0 = some 0 by kernel_rfl).trans h
    | 1, h => exact (show fldO Tryz.prog 170 1 = some 5 by kernel_rfl).trans h
    | f + 2, h => simp [td170] at h), (fun x h => by cases h), (fun z h => by cases h; kernel_rfl), (fun z h u hu => by cases h; simp at hu; rcases hu with rfl | rfl | rfl | rfl | rfl | rfl <;> rfl), (fun x h => by cases h; kernel_rfl), (by intro h; cases h)⟩
def td173 : TyD := { scal := true, sl := some (205, 4, 32), zero := some [.slice none 0 0] }
theorem tdok173 : TyOk Tryz.prog 173 td173 := ⟨(fun _ => by kernel_rfl), (fun n h => by cases h), (fun f o h => by simp [td173] at h), (fun x h => by cases h; kernel_rfl), (fun z h => by cases h; kernel_rfl), (fun z h u hu => by cases h; simp at hu; rcases hu with rfl <;> rfl), (fun x h => by cases h), (by intro h; cases h)⟩
def td174 : TyD := { scal := true, sl := some (166, 1, 8), zero := some [.slice none 0 0] }
theorem tdok174 : TyOk Tryz.prog 174 td174 := ⟨(fun _ => by kernel_rfl), (fun n h => by cases h), (fun f o h => by simp [td174] at h), (fun x h => by cases h; kernel_rfl), (fun z h => by cases h; kernel_rfl), (fun z h u hu => by cases h; simp at hu; rcases hu with rfl <;> rfl), (fun x h => by cases h), (by intro h; cases h)⟩
def td176 : TyD := { agg := some 3, fld := [0, 1, 2], pl := some [(0, 1), (1, 1), (2, 1)], zero := some [.slice none 0 0, .slice none 0 0, .slice none 0 0] }
theorem tdok176 : TyOk Tryz.prog 176 td176 := ⟨(by intro h; cases h), (fun n h => by cases h; kernel_rfl), (fun f o h => by
    match f, h with
    | 0, h => exact (show fldO Tryz.prog 176 0 = some 0 by kernel_rfl).trans h
    | 1, h => exact (show fldO Tryz.prog 176 1 = some 1 by kernel_rfl).trans h
    | 2, h => exact (show fldO Tryz.prog 176 2 = some 2 by kernel_rfl).trans h
    | f + 3, h => simp [td176] at h), (fun x h => by cases h), (fun z h => by cases h; kernel_rfl), (fun z h u hu => by cases h; simp at hu; rcases hu with rfl | rfl | rfl <;> rfl), (fun x h => by cases h; kernel_rfl), (by intro h; cases h)⟩
def td194 : TyD := { scal := true, sl := some (4, 1, 1), zero := some [.slice none 0 0] }
theorem tdok194 : TyOk Tryz.prog 194 td194 := ⟨(fun _ => by kernel_rfl), (fun n h => by cases h), (fun f o h => by simp [td194] at h), (fun x h => by cases h; kernel_rfl), (fun z h => by cases h; kernel_rfl), (fun z h u hu => by cases h; simp at hu; rcases hu with rfl <;> rfl), (fun x h => by cases h), (by intro h; cases h)⟩
def td199 : TyD := { agg := some 2, fld := [0, 1], pl := some [(0, 1), (1, 1)], zero := some [.int .i64 0, .int .i64 0] }
theorem tdok199 : TyOk Tryz.prog 199 td199 := ⟨(by intro h; cases h), (fun n h => by cases h; kernel_rfl), (fun f o h => by
    match f, h with
    | 0, h => exact (show fldO Tryz.prog 199 0 = some 0 by kernel_rfl).trans h
    | 1, h => exact (show fldO Tryz.prog 199 1 = some 1 by kernel_rfl).trans h
    | f + 2, h => simp [td199] at h), (fun x h => by cases h), (fun z h => by cases h; kernel_rfl), (fun z h u hu => by cases h; simp at hu; rcases hu with rfl | rfl <;> rfl), (fun x h => by cases h; kernel_rfl), (by intro h; cases h)⟩
def td205 : TyD := { agg := some 4, fld := [0, 1, 2, 3], pl := some [(0, 1), (1, 1), (2, 1), (3, 1)], zero := some [.int .i64 0, .int .i64 0, .int .i64 0, .int .i64 0] }
theorem tdok205 : TyOk Tryz.prog 205 td205 := ⟨(by intro h; cases h), (fun n h => by cases h; kernel_rfl), (fun f o h => by
    match f, h with
    | 0, h => exact (show fldO Tryz.prog 205 0 = some 0 by kernel_rfl).trans h
    | 1, h => exact (show fldO Tryz.prog 205 1 = some 1 by kernel_rfl).trans h
    | 2, h => exact (show fldO Tryz.prog 205 2 = some 2 by kernel_rfl).trans h
    | 3, h => exact (show fldO Tryz.prog 205 3 = some 3 by kernel_rfl).trans h
    | f + 4, h => simp [td205] at h), (fun x h => by cases h), (fun z h => by cases h; kernel_rfl), (fun z h u hu => by cases h; simp at hu; rcases hu with rfl | rfl | rfl | rfl <;> rfl), (fun x h => by cases h; kernel_rfl), (by intro h; cases h)⟩
def td224 : TyD := { scal := true, sl := some (25, 1, 8), zero := some [.slice none 0 0] }
theorem tdok224 : TyOk Tryz.prog 224 td224 := ⟨(fun _ => by kernel_rfl), (fun n h => by cases h), (fun f o h => by simp [td224] at h), (fun x h => by cases h; kernel_rfl), (fun z h => by cases h; kernel_rfl), (fun z h u hu => by cases h; simp at hu; rcases hu with rfl <;> rfl), (fun x h => by cases h), (by intro h; cases h)⟩
def td228 : TyD := { scal := true, zero := some [.int .u64 0] }
theorem tdok228 : TyOk Tryz.prog 228 td228 := ⟨(fun _ => by kernel_rfl), (fun n h => by cases h), (fun f o h => by simp [td228] at h), (fun x h => by cases h), (fun z h => by cases h; kernel_rfl), (fun z h u hu => by cases h; simp at hu; rcases hu with rfl <;> rfl), (fun x h => by cases h), (by intro h; cases h)⟩
def td238 : TyD := { scal := true, zero := some [.int .i64 0] }
theorem tdok238 : TyOk Tryz.prog 238 td238 := ⟨(fun _ => by kernel_rfl), (fun n h => by cases h), (fun f o h => by simp [td238] at h), (fun x h => by cases h), (fun z h => by cases h; kernel_rfl), (fun z h u hu => by cases h; simp at hu; rcases hu with rfl <;> rfl), (fun x h => by cases h), (by intro h; cases h)⟩
def td245 : TyD := { scal := true, zero := some [.int .u32 0] }
theorem tdok245 : TyOk Tryz.prog 245 td245 := ⟨(fun _ => by kernel_rfl), (fun n h => by cases h), (fun f o h => by simp [td245] at h), (fun x h => by cases h), (fun z h => by cases h; kernel_rfl), (fun z h u hu => by cases h; simp at hu; rcases hu with rfl <;> rfl), (fun x h => by cases h), (by intro h; cases h)⟩
def td247 : TyD := { scal := true, zero := some [.int .u64 0] }
theorem tdok247 : TyOk Tryz.prog 247 td247 := ⟨(fun _ => by kernel_rfl), (fun n h => by cases h), (fun f o h => by simp [td247] at h), (fun x h => by cases h), (fun z h => by cases h; kernel_rfl), (fun z h u hu => by cases h; simp at hu; rcases hu with rfl <;> rfl), (fun x h => by cases h), (by intro h; cases h)⟩
def td251 : TyD := { scal := true, sl := some (5, 1, 1), zero := some [.slice none 0 0] }
theorem tdok251 : TyOk Tryz.prog 251 td251 := ⟨(fun _ => by kernel_rfl), (fun n h => by cases h), (fun f o h => by simp [td251] at h), (fun x h => by cases h; kernel_rfl), (fun z h => by cases h; kernel_rfl), (fun z h u hu => by cases h; simp at hu; rcases hu with rfl <;> rfl), (fun x h => by cases h), (by intro h; cases h)⟩
def td259 : TyD := { scal := true, zero := some [.int .u64 0] }
theorem tdok259 : TyOk Tryz.prog 259 td259 := ⟨(fun _ => by kernel_rfl), (fun n h => by cases h), (fun f o h => by simp [td259] at h), (fun x h => by cases h), (fun z h => by cases h; kernel_rfl), (fun z h u hu => by cases h; simp at hu; rcases hu with rfl <;> rfl), (fun x h => by cases h), (by intro h; cases h)⟩
theorem tdok_none (T : Nat) : TyOk Tryz.prog T {} := ⟨(by intro h; cases h), (fun n h => by cases h), (fun f o h => by simp at h), (fun x h => by cases h), (fun z h => by cases h), (fun z h => by cases h), (fun x h => by cases h), (by intro h; cases h)⟩
def tyT : Nat → TyD
  | 3 => td3
  | 4 => td4
  | 5 => td5
  | 9 => td9
  | 23 => td23
  | 25 => td25
  | 34 => td34
  | 36 => td36
  | 37 => td37
  | 38 => td38
  | 47 => td47
  | 49 => td49
  | 56 => td56
  | 67 => td67
  | 72 => td72
  | 73 => td73
  | 86 => td86
  | 88 => td88
  | 97 => td97
  | 108 => td108
  | 111 => td111
  | 112 => td112
  | 113 => td113
  | 124 => td124
  | 126 => td126
  | 128 => td128
  | 139 => td139
  | 141 => td141
  | 163 => td163
  | 166 => td166
  | 168 => td168
  | 170 => td170
  | 173 => td173
  | 174 => td174
  | 176 => td176
  | 194 => td194
  | 199 => td199
  | 205 => td205
  | 224 => td224
  | 228 => td228
  | 238 => td238
  | 245 => td245
  | 247 => td247
  | 251 => td251
  | 259 => td259
  | _ => {}
theorem tyT_ok (T : Nat) : TyOk Tryz.prog T (tyT T) := by
  unfold tyT
  split
  · exact tdok3
  · exact tdok4
  · exact tdok5
  · exact tdok9
  · exact tdok23
  · exact tdok25
  · exact tdok34
  · exact tdok36
  · exact tdok37
  · exact tdok38
  · exact tdok47
  · exact tdok49
  · exact tdok56
  · exact tdok67
  · exact tdok72
  · exact tdok73
  · exact tdok86
  · exact tdok88
  · exact tdok97
  · exact tdok108
  · exact tdok111
  · exact tdok112
  · exact tdok113
  · exact tdok124
  · exact tdok126
  · exact tdok128
  · exact tdok139
  · exact tdok141
  · exact tdok163
  · exact tdok166
  · exact tdok168
  · exact tdok170
  · exact tdok173
  · exact tdok174
  · exact tdok176
  · exact tdok194
  · exact tdok199
  · exact tdok205
  · exact tdok224
  · exact tdok228
  · exact tdok238
  · exact tdok245
  · exact tdok247
  · exact tdok251
  · exact tdok259
  · exact tdok_none _
def TY : Ty Tryz.prog := ⟨tyT, tyT_ok⟩
end Go.Proofs.YtenkgipcblfocaaGreat
namespace Go.Proofs.YtenkgipcblfocaaGreat
open Go Go.RowKit Go.Proofs Go.Shelf Go.Ab
theorem within_T (n lo hi : Int) (h : lo ≤ n ∧ n ≤ hi) : Summ Tryz.prog GG 109 [iv n, iv lo, iv hi] (.v (.bool true)) := by
  obtain ⟨h1, h2⟩ := h
  refine summW Tryz.func109 rfl rfl 15 rfl (by simp) (fun M0 => ?_)
  repeat (first
    | (apply s_a TY; exact rfl)
    | (apply s_t; exact rfl; (first | assumption | omega))
    | apply w_seq
    | apply w_region
    | apply s_nil
    | apply t_norm
    | apply w_ret)
  exact lv_ret (ret1 rfl (res_tmp rfl))
theorem within_F (n lo hi : Int) (h : ¬ (lo ≤ n ∧ n ≤ hi)) : Summ Tryz.prog GG 109 [iv n, iv lo, iv hi] (.v (.bool false)) := by
  by_cases h1 : lo ≤ n
  · have h2 : ¬ n ≤ hi := fun h2 => h ⟨h1, h2⟩
    refine summW Tryz.func109 rfl rfl 15 rfl (by simp) (fun M0 => ?_)
    repeat (first
    | (apply s_a TY; exact rfl)
    | (apply s_t; exact rfl; (first | assumption | omega))
    | (apply s_f; exact rfl; (first | assumption | omega))
    | apply w_seq
    | apply w_region
    | apply s_nil
    | apply t_norm
    | apply w_ret)
    exact lv_ret (ret1 rfl (res_tmp rfl))
  · refine summW Tryz.func109 rfl rfl 15 rfl (by simp) (fun M0 => ?_)
    repeat (first
    | (apply s_a TY; exact rfl)
    | (apply s_f; exact rfl; (first | assumption | omega))
    | apply w_seq
    | apply w_region
    | apply s_nil
    | apply t_norm
    | apply w_ret
    | (apply s_s; exact rfl))
    exact lv_ret (ret1 rfl (res_tmp rfl))
theorem unless_T (k : Int) : Summ Tryz.prog GG 108 [.v (.bool true), iv k] (iv 0) := by
  refine summW Tryz.func108 rfl rfl 7 rfl (by simp) (fun M0 => ?_)
  repeat (first
    | (apply s_a TY; exact rfl)
    | apply w_seq
    | apply w_region
    | apply s_nil
    | apply t_norm
    | apply t_ret
    | apply w_ret
    | (apply w_condT; exact rfl; exact rfl))
  exact lv_ret (ret1 rfl (res_tmp rfl))
theorem unless_F (k : Int) : Summ Tryz.prog GG 108 [.v (.bool false), iv k] (iv k) := by
  refine summW Tryz.func108 rfl rfl 7 rfl (by simp) (fun M0 => ?_)
  repeat (first
    | (apply s_a TY; exact rfl)
    | apply w_seq
    | apply w_region
    | apply s_nil
    | apply t_norm
    | apply w_ret
    | apply w_skip
    | (apply w_condF; exact rfl; exact rfl))
  exact lv_ret (ret1 rfl (res_tmp rfl))
set_option maxRecDepth 100000 in
theorem first_s (l : List Int) (hl : l.length ≤ 1000000) : Summ Tryz.prog GG 107 [.sl l.length (intsF l)] (iv (firstE l)) := by
  refine summW Tryz.func107 rfl rfl 15 rfl (by simp) (fun M0 => ?_)
  repeat (first
    | (apply s_a TY; exact rfl)
    | apply w_seq
    | apply w_region
    | apply s_nil
    | apply t_norm
    | apply w_block)
  apply w_loop (fun k : Nat => ⟨(Ab.upd (Ab.upd (Ab.upd (fun _ => .bot) 5 (.f (.sl l.length (intsF l)))) 6 (.f (iv l.length))) 7 (.f (iv (k : Nat)))), (fun _ => none), 0⟩) (fun k => k ≤ l.length ∧ ∀ j (hj : j < l.length), j < k → l[j] = 0) (fun k => l.length - k) 0 (⟨Nat.zero_le _, fun j _ h => absurd h (Nat.not_lt_zero j)⟩) (gh_le ⟨le_upd rfl trivial (le_upd rfl trivial (le_upd rfl trivial (le_nil _))), le_h0 _ _⟩)
  intro k ⟨hk, hz⟩
  by_cases hc : k < l.length
  · by_cases he : l[k] = 0
    · repeat (first
    | (apply s_a TY; exact rfl)
    | (apply s_t; exact rfl; (first | assumption | omega))
    | apply w_seq
    | apply w_region
    | apply s_nil
    | apply t_norm
    | apply k_norm
    | apply w_block
    | apply w_skip
    | (apply w_condT; exact rfl; exact rfl)
    | (apply w_condF; exact rfl; exact rfl)
    | (apply s_c TY; exact rfl; (first | omega | exact ⟨by omega, by (first | with_reducible assumption | ((with_reducible apply intsF_ne); omega) | assumption)⟩))
    | (apply s_l TY; exact rfl; (first | exact rfl | with_reducible assumption | ((with_reducible apply intsF_at); omega) | assumption)))
      exact ⟨k + 1, ⟨by omega, fun j hj hlt => by
        by_cases e : j = k
        · subst e; exact he
        · exact hz j hj (by omega)⟩, by omega, gh_le ⟨le_upd rfl trivial (le_upd rfl trivial (le_upd rfl trivial (le_nil _))), le_h0 _ _⟩⟩
    · rw [firstE_at hc (fun j hj hlt => hz j hj hlt) he]
      repeat (first
    | (apply s_a TY; exact rfl)
    | (apply s_t; exact rfl; (first | assumption | omega))
    | (apply s_f; exact rfl; (first | assumption | omega))
    | apply w_seq
    | apply w_region
    | apply s_nil
    | apply t_norm
    | apply t_ret
    | apply k_ret
    | apply w_block
    | apply w_ret
    | apply w_skip
    | (apply w_condT; exact rfl; exact rfl)
    | (apply s_c TY; exact rfl; (first | omega | exact ⟨by omega, by (first | with_reducible assumption | ((with_reducible apply intsF_ne); omega) | assumption)⟩))
    | (apply s_l TY; exact rfl; (first | exact rfl | with_reducible assumption | ((with_reducible apply intsF_at); omega) | assumption)))
      exact lv_ret (ret1 rfl (res_tmp rfl))
  · rw [firstE_zeros (fun j hj => hz j hj (by omega))]
    repeat (first
    | (apply s_a TY; exact rfl)
    | (apply s_f; exact rfl; (first | assumption | omega))
    | apply w_seq
    | apply w_region
    | apply s_nil
    | apply t_norm
    | apply t_exit
    | apply k_hit
    | apply w_exit
    | apply w_ret
    | (apply w_condF; exact rfl; exact rfl))
    exact lv_ret (ret1 rfl (res_tmp rfl))
theorem first2_0 (a0 a1 : Int) (h : a0 ≠ 0) : Summ Tryz.prog GG 107 [.sl 2 [iv a0, iv a1]] (iv a0) := by
  have := first_s [a0, a1] (by simp)
  rwa [show firstE [a0, a1] = a0 by simp [firstE, h]] at this
theorem first2_1 (a0 a1 : Int) (h : a0 = 0) : Summ Tryz.prog GG 107 [.sl 2 [iv a0, iv a1]] (iv a1) := by
  have := first_s [a0, a1] (by simp)
  rwa [show firstE [a0, a1] = a1 by simp [firstE, h] <;> exact fun e => e.symm] at this
theorem first3_0 (a0 a1 a2 : Int) (h : a0 ≠ 0) : Summ Tryz.prog GG 107 [.sl 3 [iv a0, iv a1, iv a2]] (iv a0) := by
  have := first_s [a0, a1, a2] (by simp)
  rwa [show firstE [a0, a1, a2] = a0 by simp [firstE, h]] at this
theorem first3_1 (a0 a1 a2 : Int) (h : a0 = 0 ∧ a1 ≠ 0) : Summ Tryz.prog GG 107 [.sl 3 [iv a0, iv a1, iv a2]] (iv a1) := by
  have := first_s [a0, a1, a2] (by simp)
  rwa [show firstE [a0, a1, a2] = a1 by simp [firstE, h]] at this
theorem first3_2 (a0 a1 a2 : Int) (h : a0 = 0 ∧ a1 = 0) : Summ Tryz.prog GG 107 [.sl 3 [iv a0, iv a1, iv a2]] (iv a2) := by
  have := first_s [a0, a1, a2] (by simp)
  rwa [show firstE [a0, a1, a2] = a2 by simp [firstE, h] <;> exact fun e => e.symm] at this
theorem first4_3 (a0 a1 a2 a3 : Int) (h : a0 = 0 ∧ a1 = 0 ∧ a2 = 0) : Summ Tryz.prog GG 107 [.sl 4 [iv a0, iv a1, iv a2, iv a3]] (iv a3) := by
  have := first_s [a0, a1, a2, a3] (by simp)
  rwa [show firstE [a0, a1, a2, a3] = a3 by simp [firstE, h] <;> exact fun e => e.symm] at this
theorem bwithin_T (n lo hi : Int) (h : lo ≤ n ∧ n ≤ hi) : Summ Tryz.prog GG 38 [iv n, iv lo, iv hi] (.v (.bool true)) := by
  obtain ⟨h1, h2⟩ := h
  refine summW Tryz.func38 rfl rfl 15 rfl (by simp) (fun M0 => ?_)
  repeat (first
    | (apply s_a TY; exact rfl)
    | (apply s_t; exact rfl; (first | assumption | omega))
    | apply w_seq
    | apply w_region
    | apply s_nil
    | apply t_norm
    | apply w_ret)
  exact lv_ret (ret1 rfl (res_tmp rfl))
theorem bwithin_F (n lo hi : Int) (h : ¬ (lo ≤ n ∧ n ≤ hi)) : Summ Tryz.prog GG 38 [iv n, iv lo, iv hi] (.v (.bool false)) := by
  by_cases h1 : lo ≤ n
  · have h2 : ¬ n ≤ hi := fun h2 => h ⟨h1, h2⟩
    refine summW Tryz.func38 rfl rfl 15 rfl (by simp) (fun M0 => ?_)
    repeat (first
    | (apply s_a TY; exact rfl)
    | (apply s_t; exact rfl; (first | assumption | omega))
    | (apply s_f; exact rfl; (first | assumption | omega))
    | apply w_seq
    | apply w_region
    | apply s_nil
    | apply t_norm
    | apply w_ret)
    exact lv_ret (ret1 rfl (res_tmp rfl))
  · refine summW Tryz.func38 rfl rfl 15 rfl (by simp) (fun M0 => ?_)
    repeat (first
    | (apply s_a TY; exact rfl)
    | (apply s_f; exact rfl; (first | assumption | omega))
    | apply w_seq
    | apply w_region
    | apply s_nil
    | apply t_norm
    | apply w_ret
    | (apply s_s; exact rfl))
    exact lv_ret (ret1 rfl (res_tmp rfl))
theorem isWeight_T (n : Int) (h : 0 ≤ n ∧ n ≤ 1000000) : Summ Tryz.prog GG 120 [iv n] (.v (.bool true)) := by
  refine summW Tryz.func120 rfl rfl 5 rfl (by simp) (fun M0 => ?_)
  repeat (first
    | (apply s_a TY; exact rfl)
    | apply w_seq
    | apply w_region
    | apply s_nil
    | apply t_norm
    | apply w_ret
    | (apply s_k1 (within_T _ _ _); exact rfl; (first | assumption | omega | decide)))
  exact lv_ret (ret1 rfl (res_tmp rfl))
theorem isWeight_F (n : Int) (h : ¬ (0 ≤ n ∧ n ≤ 1000000)) : Summ Tryz.prog GG 120 [iv n] (.v (.bool false)) := by
  refine summW Tryz.func120 rfl rfl 5 rfl (by simp) (fun M0 => ?_)
  repeat (first
    | (apply s_a TY; exact rfl)
    | apply w_seq
    | apply w_region
    | apply s_nil
    | apply t_norm
    | apply w_ret
    | (apply s_k1 (within_F _ _ _); exact rfl; (first | assumption | omega | decide)))
  exact lv_ret (ret1 rfl (res_tmp rfl))
def tickE (n : Int) : Int := if 0 ≤ n ∧ n ≤ 1000000000000 then 0 else 2
def ptE (p : Pt) : Int := if (-1000000 ≤ p.height ∧ p.height ≤ 1000000) ∧ 0 ≤ p.turn ∧ p.turn ≤ 999999 then 0 else 2
theorem tickE_0 {n : Int} (h : 0 ≤ n ∧ n ≤ 1000000000000) : tickE n = 0 := if_pos h
theorem tickE_2 {n : Int} (h : ¬ (0 ≤ n ∧ n ≤ 1000000000000)) : tickE n = 2 := if_neg h
theorem ptE_0 {p : Pt} (h : (-1000000 ≤ p.height ∧ p.height ≤ 1000000) ∧ 0 ≤ p.turn ∧ p.turn ≤ 999999) : ptE p = 0 := if_pos h
set_option maxRecDepth 100000 in
theorem tickErr_s (n : Int) : Summ Tryz.prog GG 98 [iv n] (iv (tickE n)) := by
  by_cases h : 0 ≤ n ∧ n ≤ 1000000000000
  · rw [show tickE n = 0 by unfold tickE; repeat (first | omega | split)]
    refine summW Tryz.func98 rfl rfl 6 rfl (by simp) (fun M0 => ?_)
    repeat (first
    | (apply s_a TY; exact rfl)
    | apply w_seq
    | apply w_region
    | apply s_nil
    | apply t_norm
    | apply w_ret
    | (apply s_k (unless_T _); exact rfl)
    | (apply s_k1 (within_T _ _ _); exact rfl; (first | assumption | omega | decide)))
    exact lv_ret (ret1 rfl (res_tmp rfl))
  · rw [show tickE n = 2 by unfold tickE; repeat (first | omega | split)]
    refine summW Tryz.func98 rfl rfl 6 rfl (by simp) (fun M0 => ?_)
    repeat (first
    | (apply s_a TY; exact rfl)
    | apply w_seq
    | apply w_region
    | apply s_nil
    | apply t_norm
    | apply w_ret
    | (apply s_k (unless_F _); exact rfl)
    | (apply s_k1 (within_F _ _ _); exact rfl; (first | assumption | omega | decide)))
    exact lv_ret (ret1 rfl (res_tmp rfl))
set_option maxRecDepth 100000 in
theorem pointErr_s (p : Pt) : Summ Tryz.prog GG 130 [ptF p] (iv (ptE p)) := by
  by_cases h1 : -1000000 ≤ p.height ∧ p.height ≤ 1000000
  · by_cases h2 : 0 ≤ p.turn ∧ p.turn ≤ 999999
    · rw [show ptE p = 0 by unfold ptE; repeat (first | omega | split)]
      refine summW Tryz.func130 rfl rfl 12 rfl (by simp) (fun M0 => ?_)
      repeat (first
    | (apply s_a TY; exact rfl)
    | apply w_seq
    | apply w_region
    | apply s_nil
    | apply t_norm
    | apply w_ret
    | (apply s_k (unless_T _); exact rfl)
    | (apply s_k1 (within_T _ _ _); exact rfl; (first | assumption | omega | decide)))
      exact lv_ret (ret1 rfl (res_tmp rfl))
    · rw [show ptE p = 2 by unfold ptE; repeat (first | omega | split)]
      refine summW Tryz.func130 rfl rfl 12 rfl (by simp) (fun M0 => ?_)
      repeat (first
    | (apply s_a TY; exact rfl)
    | apply w_seq
    | apply w_region
    | apply s_nil
    | apply t_norm
    | apply w_ret
    | (apply s_k (unless_F _); exact rfl)
    | (apply s_k1 (within_T _ _ _); exact rfl; (first | assumption | omega | decide))
    | (apply s_k1 (within_F _ _ _); exact rfl; (first | assumption | omega | decide)))
      exact lv_ret (ret1 rfl (res_tmp rfl))
  · rw [show ptE p = 2 by unfold ptE; repeat (first | omega | split)]
    refine summW Tryz.func130 rfl rfl 12 rfl (by simp) (fun M0 => ?_)
    repeat (first
    | (apply s_a TY; exact rfl)
    | apply w_seq
    | apply w_region
    | apply s_nil
    | apply t_norm
    | apply w_ret
    | (apply s_k (unless_F _); exact rfl)
    | (apply s_k1 (within_F _ _ _); exact rfl; (first | assumption | omega | decide))
    | (apply s_s; exact rfl))
    exact lv_ret (ret1 rfl (res_tmp rfl))
theorem turnAt_s (n : Int) (h : 0 ≤ n ∧ n ≤ 2000000000000) : Summ Tryz.prog GG 99 [iv n] (iv (turnZ n)) := by
  unfold turnZ
  refine summW Tryz.func99 rfl rfl 7 rfl (by simp) (fun M0 => ?_)
  repeat (first
    | (apply s_a TY; exact rfl)
    | apply w_seq
    | apply w_region
    | apply s_nil
    | apply t_norm
    | apply w_ret
    | (apply s_c TY; exact rfl; omega))
  exact lv_ret (ret1 rfl (res_tmp rfl))
end Go.Proofs.YtenkgipcblfocaaGreat
namespace Go.Proofs.YtenkgipcblfocaaGreat
open Go Go.RowKit Go.Proofs Go.Shelf Go.Ab
def idxP (n : Nat) (p : Nat → Bool) : Int := match (List.range n).find? p with
  | some i => i
  | none => -1
def anyP (n : Nat) (p : Nat → Bool) : Bool := (List.range n).any p
theorem idxP_no {n : Nat} {p : Nat → Bool} (h : ∀ i, i < n → p i = false) : idxP n p = -1 := by
  unfold idxP
  rw [List.find?_eq_none.2 (fun i hi => by rw [h i (List.mem_range.1 hi)]; decide)]
theorem idxP_at {n k : Nat} {p : Nat → Bool} (hk : k < n) (h : ∀ i, i < k → p i = false) (hp : p k = true) : idxP n p = k := by
  obtain ⟨m, rfl⟩ : ∃ m, n = k + 1 + m := ⟨n - k - 1, by omega⟩
  unfold idxP
  rw [List.range_add, List.range_succ, List.append_assoc, List.find?_append, List.find?_eq_none.2 (fun i hi => by rw [h i (List.mem_range.1 hi)]; decide), Option.none_or, List.singleton_append, List.find?_cons, hp]
theorem anyP_iff {n : Nat} {p : Nat → Bool} : anyP n p = true ↔ ∃ i, i < n ∧ p i = true := by
  unfold anyP
  rw [List.any_eq_true]
  exact ⟨fun ⟨i, h1, h2⟩ => ⟨i, List.mem_range.1 h1, h2⟩, fun ⟨i, h1, h2⟩ => ⟨i, List.mem_range.2 h1, h2⟩⟩
theorem idxP_cases (n : Nat) (p : Nat → Bool) : (idxP n p = -1 ∧ ∀ i, i < n → p i = false) ∨ ∃ k, k < n ∧ (∀ i, i < k → p i = false) ∧ p k = true ∧ idxP n p = k := by
  by_cases h : ∃ i, i < n ∧ p i = true
  · obtain ⟨k, ⟨hk, hp⟩, hmin⟩ := exists_least h
    have hz : ∀ i, i < k → p i = false := fun i hi => by
      cases hpi : p i with
      | false => rfl
      | true => have := hmin i ⟨by omega, hpi⟩; omega
    exact .inr ⟨k, hk, hz, hp, idxP_at hk hz hp⟩
  · have hz : ∀ i, i < n → p i = false := fun i hi => by
      cases hpi : p i with
      | false => rfl
      | true => exact absurd ⟨i, hi, hpi⟩ h
    exact .inl ⟨idxP_no hz, hz⟩
theorem idxP_pos (n : Nat) (p : Nat → Bool) : 0 ≤ idxP n p ↔ anyP n p = true := by
  rw [anyP_iff]
  rcases idxP_cases n p with ⟨e, h⟩ | ⟨k, hk, _, hp, e⟩
  · rw [e]
    exact ⟨fun h => by omega, fun ⟨i, h1, h2⟩ => by rw [h i h1] at h2; cases h2⟩
  · rw [e]
    exact ⟨fun _ => ⟨k, hk, hp⟩, fun _ => by omega⟩
set_option maxRecDepth 100000 in
theorem idxI_s (l : List Int) (g : Nat) (caps : List FV) (p : Nat → Bool) (hl : l.length ≤ 1000000) (hg : ∀ i (hi : i < l.length), Summ Tryz.prog GG g ([iv l[i]] ++ caps) (bv (p i))) : Summ Tryz.prog GG 128 [.sl l.length (intsF l), .fn g caps] (iv (idxP l.length p)) := by
  refine summW Tryz.func128 rfl rfl 19 rfl (by simp) (fun M0 => ?_)
  repeat (first
    | (apply s_a TY; exact rfl)
    | apply w_seq
    | apply w_region
    | apply s_nil
    | apply t_norm
    | apply w_block)
  apply w_loop (fun k : Nat => ⟨(Ab.upd (Ab.upd (Ab.upd (Ab.upd (fun _ => .bot) 0 (.f (.sl l.length (intsF l)))) 1 (.f (.fn g caps))) 7 (.f (iv l.length))) 8 (.f (iv (k : Nat)))), (fun _ => none), 0⟩) (fun k => k ≤ l.length ∧ ∀ i, i < k → p i = false) (fun k => l.length - k) 0 (⟨Nat.zero_le _, fun j h => absurd h (Nat.not_lt_zero j)⟩) (gh_le ⟨le_upd rfl trivial (le_upd rfl trivial (le_upd rfl trivial (le_upd rfl trivial (le_nil _)))), le_h0 _ _⟩)
  intro k ⟨hk, hz⟩
  by_cases hc : k < l.length
  · have Hc := hg k hc
    cases hp : p k with
    | true =>
      rw [hp] at Hc
      rw [idxP_at hc hz hp]
      repeat (first
    | (apply s_a TY; exact rfl)
    | (apply s_t; exact rfl; (first | assumption | omega))
    | apply w_seq
    | apply w_region
    | apply s_nil
    | apply t_norm
    | apply t_ret
    | apply k_ret
    | apply w_block
    | apply w_ret
    | apply w_skip
    | (apply w_condT; exact rfl; exact rfl)
    | (apply s_k (Hc); exact rfl)
    | (apply s_c TY; exact rfl; (first | omega | exact ⟨by omega, by (first | with_reducible assumption | ((with_reducible apply intsF_ne); omega) | assumption)⟩))
    | (apply s_l TY; exact rfl; (first | exact rfl | with_reducible assumption | ((with_reducible apply intsF_at); omega) | assumption)))
      exact lv_ret (ret1 rfl (res_tmp rfl))
    | false =>
      rw [hp] at Hc
      repeat (first
    | (apply s_a TY; exact rfl)
    | (apply s_t; exact rfl; (first | assumption | omega))
    | apply w_seq
    | apply w_region
    | apply s_nil
    | apply t_norm
    | apply k_norm
    | apply w_block
    | apply w_skip
    | (apply w_condT; exact rfl; exact rfl)
    | (apply w_condF; exact rfl; exact rfl)
    | (apply s_k (Hc); exact rfl)
    | (apply s_c TY; exact rfl; (first | omega | exact ⟨by omega, by (first | with_reducible assumption | ((with_reducible apply intsF_ne); omega) | assumption)⟩))
    | (apply s_l TY; exact rfl; (first | exact rfl | with_reducible assumption | ((with_reducible apply intsF_at); omega) | assumption)))
      exact ⟨k + 1, ⟨by omega, fun i hi => by
        by_cases e : i = k
        · subst e; exact hp
        · exact hz i (by omega)⟩, by omega, gh_le ⟨le_upd rfl trivial (le_upd rfl trivial (le_upd rfl trivial (le_upd rfl trivial (le_nil _)))), le_h0 _ _⟩⟩
  · rw [idxP_no fun i hi => hz i (by omega)]
    repeat (first
    | (apply s_a TY; exact rfl)
    | (apply s_f; exact rfl; (first | assumption | omega))
    | apply w_seq
    | apply w_region
    | apply s_nil
    | apply t_norm
    | apply t_exit
    | apply k_hit
    | apply w_exit
    | apply w_ret
    | (apply w_condF; exact rfl; exact rfl))
    exact lv_ret (ret1 rfl (res_tmp rfl))
def ringE (n : Int) : Int := if 1 ≤ n ∧ n ≤ 12 then 0 else 2
def skyChk (rs : List Int) : Nat × Int := if rs.length = 0 then (0, 10) else if 8 < rs.length then (0, 8) else eachE rs.length fun i => ringE (rs.getD i default)
theorem ringE_0 {n : Int} (h : 1 ≤ n ∧ n ≤ 12) : ringE n = 0 := if_pos h
theorem ringE_2 {n : Int} (h : ¬ (1 ≤ n ∧ n ≤ 12)) : ringE n = 2 := if_neg h
theorem ringE_iff {n : Int} : ringE n = 0 ↔ 1 ≤ n ∧ n ≤ 12 := by
  unfold ringE; split <;> simp_all
theorem skyOk_of {rs : List Int} (h : (skyChk rs).2 = 0) : SkyOk rs := by
  unfold skyChk at h
  split at h
  · cases h
  rename_i h1
  split at h
  · cases h
  rename_i h2
  rcases eachE_cases rs.length (fun i => ringE (rs.getD i default)) with ⟨e, hz⟩ | ⟨q, _, _, hne, e⟩
  · exact ⟨by omega, by omega, fun i hi => ringE_iff.1 (hz i hi)⟩
  · rw [e] at h; exact absurd h hne
theorem skyChk_ok {rs : List Int} (o : SkyOk rs) : skyChk rs = (0, 0) := by
  unfold skyChk
  have := o.pos
  have := o.len
  rw [if_neg (by omega), if_neg (by omega)]
  exact eachE_ok fun i hi => ringE_iff.2 (o.ring i hi)
def ringP (rs : List Int) (i : Nat) : Bool := !withinB (rs.getD i default) 1 12
theorem skyChk_idx {rs : List Int} (h1 : ¬ rs.length = 0) (h2 : ¬ 8 < rs.length) : (idxP rs.length (ringP rs) = -1 ∧ skyChk rs = (0, 0)) ∨ ∃ k : Nat, idxP rs.length (ringP rs) = k ∧ skyChk rs = (k, 2) := by
  unfold skyChk
  rw [if_neg h1, if_neg h2]
  have hp : ∀ i, ringP rs i = false ↔ ringE (rs.getD i default) = 0 := fun i => by
    rw [ringE_iff]; simp [ringP, withinB]
  rcases idxP_cases rs.length (ringP rs) with ⟨e, hz⟩ | ⟨k, hk, hz, hpk, e⟩
  · exact .inl ⟨e, eachE_ok fun i hi => (hp i).1 (hz i hi)⟩
  · have hne : ringE (rs.getD k default) ≠ 0 := fun h => by rw [(hp k).2 h] at hpk; cases hpk
    refine .inr ⟨k, e, ?_⟩
    rw [eachE_at hk (fun i hi => (hp i).1 (hz i hi)) hne, ringE_2 (fun h => hne (ringE_0 h))]
theorem ringBad_s (n : Int) : Summ Tryz.prog GG 129 [iv n] (bv (!withinB n 1 12)) := by
  by_cases h : 1 ≤ n ∧ n ≤ 12
  · rw [show withinB n 1 12 = true by simp [withinB, h]]
    refine summW Tryz.func129 rfl rfl 6 rfl (by simp) (fun M0 => ?_)
    repeat (first
    | (apply s_a TY; exact rfl)
    | apply w_seq
    | apply w_region
    | apply s_nil
    | apply t_norm
    | apply w_ret
    | (apply s_k1 (within_T _ _ _); exact rfl; (first | assumption | omega | decide)))
    exact lv_ret (ret1 rfl (res_tmp rfl))
  · rw [show withinB n 1 12 = false by simp [withinB]; omega]
    refine summW Tryz.func129 rfl rfl 6 rfl (by simp) (fun M0 => ?_)
    repeat (first
    | (apply s_a TY; exact rfl)
    | apply w_seq
    | apply w_region
    | apply s_nil
    | apply t_norm
    | apply w_ret
    | (apply s_k1 (within_F _ _ _); exact rfl; (first | assumption | omega | decide)))
    exact lv_ret (ret1 rfl (res_tmp rfl))
set_option maxRecDepth 100000 in
theorem CheckSky_s (rs : List Int) (hl : rs.length ≤ 1000000) : Summ Tryz.prog GG 71 [skF rs] (.tup [iv (skyChk rs).1, iv (skyChk rs).2]) := by
  by_cases h1 : rs.length = 0
  · rw [show skyChk rs = (0, 10) by unfold skyChk; rw [if_pos h1]]
    refine summW Tryz.func71 rfl rfl 27 rfl (by simp) (fun M0 => ?_)
    repeat (first
    | (apply s_a TY; exact rfl)
    | (apply s_t; exact rfl; (first | assumption | omega))
    | (apply s_f; exact rfl; (first | assumption | omega))
    | apply w_seq
    | apply w_region
    | (apply w_draw (id := 1) 9 rfl (by kernel_rfl))
    | apply s_nil
    | apply t_norm
    | apply t_ret
    | apply w_ret
    | (apply w_condT; exact rfl; exact rfl)
    | (apply s_k1 (first2_0 _ _); exact rfl; (first | assumption | omega | decide))
    | (apply s_k (unless_T _); exact rfl)
    | (apply s_k (unless_F _); exact rfl))
    exact lv_ret (ret2 rfl (res_tmp rfl) (res_tmp rfl))
  by_cases h2 : 8 < rs.length
  · rw [show skyChk rs = (0, 8) by unfold skyChk; rw [if_neg h1, if_pos h2]]
    refine summW Tryz.func71 rfl rfl 27 rfl (by simp) (fun M0 => ?_)
    repeat (first
    | (apply s_a TY; exact rfl)
    | (apply s_t; exact rfl; (first | assumption | omega))
    | (apply s_f; exact rfl; (first | assumption | omega))
    | apply w_seq
    | apply w_region
    | (apply w_draw (id := 1) 9 rfl (by kernel_rfl))
    | apply s_nil
    | apply t_norm
    | apply t_ret
    | apply w_ret
    | (apply w_condT; exact rfl; exact rfl)
    | (apply s_k1 (first2_1 _ _); exact rfl; (first | assumption | omega | decide))
    | (apply s_k (unless_T _); exact rfl)
    | (apply s_k (unless_F _); exact rfl))
    exact lv_ret (ret2 rfl (res_tmp rfl) (res_tmp rfl))
  have HI := idxI_s rs 129 [] (ringP rs) (by omega) (fun i hi => by unfold ringP; rw [getD_at hi]; exact ringBad_s _)
  rcases skyChk_idx h1 h2 with ⟨e1, e2⟩ | ⟨k, e1, e2⟩
  · rw [e2]
    rw [e1] at HI
    refine summW Tryz.func71 rfl rfl 27 rfl (by simp) (fun M0 => ?_)
    repeat (first
    | (apply s_a TY; exact rfl)
    | (apply s_t; exact rfl; (first | assumption | omega))
    | (apply s_f; exact rfl; (first | assumption | omega))
    | apply w_seq
    | apply w_region
    | (apply w_draw (id := 1) 9 rfl (by kernel_rfl))
    | apply s_nil
    | apply t_norm
    | apply w_ret
    | apply w_skip
    | (apply w_condF; exact rfl; exact rfl)
    | (apply s_k (HI); exact rfl)
    | (apply s_k1 (first2_1 _ _); exact rfl; (first | assumption | omega | decide))
    | (apply s_k (unless_T _); exact rfl))
    exact lv_ret (ret2 rfl (res_tmp rfl) (res_tmp rfl))
  · rw [e2]
    rw [e1] at HI
    refine summW Tryz.func71 rfl rfl 27 rfl (by simp) (fun M0 => ?_)
    repeat (first
    | (apply s_a TY; exact rfl)
    | (apply s_t; exact rfl; (first | assumption | omega))
    | apply w_seq
    | apply w_region
    | (apply w_draw (id := 1) 9 rfl (by kernel_rfl))
    | apply s_nil
    | apply t_norm
    | apply t_ret
    | apply w_ret
    | apply w_skip
    | (apply w_condT; exact rfl; exact rfl)
    | (apply w_condF; exact rfl; exact rfl)
    | (apply s_k (HI); exact rfl)
    | (apply s_k1 (first2_1 _ _); exact rfl; (first | assumption | omega | decide))
    | (apply s_k (unless_T _); exact rfl))
    exact lv_ret (ret2 rfl (res_tmp rfl) (res_tmp rfl))
theorem rep_nilsl {w : World} {M : Nat → Prop} {v : Value} (h : RepF w M v (.v (.slice none 0 0))) : RepF w M v (.sl 0 []) := by
  have := repV h; subst this
  exact RepF.sl none 0 0 [] [] (Nat.le_refl _) rfl (fun u hu => by cases hu) (fun h => absurd rfl h) (fun k u x h => by simp at h)
theorem celRow {L M : List Cel} (h : L = M) : some (Blk.row 205 4 L.length (celsF L)) = some (Blk.row 205 4 M.length (celsF M)) := by rw [h]
theorem celRow_app {L M : List Cel} {x : Cel} (h : M = L ++ [x]) : some (Blk.row 205 4 (L.length + 1) (celsF L ++ celF x)) = some (Blk.row 205 4 M.length (celsF M)) := by
  rw [h, celsF_snoc, List.length_append]; rfl
set_option maxRecDepth 100000 in
set_option maxHeartbeats 1600000 in
theorem open_ok (rs : List Int) (o : SkyOk rs) : Summ Tryz.prog GG 124 [skF rs] (.tup [xF (skyC rs), iv 0]) := by
  have hlen := o.len
  have HS := CheckSky_s rs (by omega)
  rw [skyChk_ok o] at HS
  refine summW Tryz.func124 rfl rfl 44 rfl (by simp) (fun M0 => ?_)
  repeat (first
    | (apply s_a TY; exact rfl)
    | (apply s_t; exact rfl; (first | assumption | omega))
    | apply w_seq
    | apply w_region
    | apply s_nil
    | apply t_norm
    | apply w_block
    | apply w_skip
    | (apply w_condF; exact rfl; exact rfl)
    | (apply s_k (HS); exact rfl))
  apply w_gh (gh_own 6 205 4 rfl rfl)
  apply w_loop (fun k : Nat => ⟨(Ab.upd (Ab.upd (Ab.upd (Ab.upd (fun _ => .bot) 6 (.ow 0)) 20 (.f (.sl rs.length (intsF rs)))) 21 (.f (iv rs.length))) 22 (.f (iv (k : Nat)))), (Ab.upd (fun _ => none) 0 (some (.row 205 4 (skyK rs k).length (celsF (skyK rs k))))), 1⟩) (fun k => k ≤ rs.length) (fun k => rs.length - k) 0 (Nat.zero_le _) (gh_le ⟨le_upd rfl trivial (le_upd rfl trivial (le_upd rfl trivial (le_upd rfl rfl (le_nil _)))), le_hupd rfl trivial (le_h0 _ _)⟩)
  intro k hk
  by_cases hc : k < rs.length
  · have hr := o.ring k hc
    rw [getD_at hc] at hr
    have hl1 := skyK_len o hk
    have hb1 := befK_bd o hk
    have hsucc : skyK rs (k + 1) = skyK rs k ++ ringC k ((skyK rs k).length : Nat) rs[k] rs[k].toNat := by rw [skyK, getD_at hc]
    repeat (first
    | (apply s_a TY; exact rfl)
    | (apply s_t; exact rfl; (first | assumption | omega))
    | apply w_seq
    | apply w_region
    | apply s_nil
    | apply t_norm
    | apply w_block
    | apply w_skip
    | (apply w_condT; exact rfl; exact rfl)
    | (apply s_c TY; exact rfl; (first | omega | exact ⟨by omega, by (first | with_reducible assumption | ((with_reducible apply intsF_ne); omega) | assumption)⟩))
    | (apply s_l TY; exact rfl; (first | exact rfl | with_reducible assumption | ((with_reducible apply intsF_at); omega) | assumption)))
    apply w_loop (fun j : Nat => ⟨(Ab.upd (Ab.upd (Ab.upd (Ab.upd (Ab.upd (Ab.upd (Ab.upd (Ab.upd (Ab.upd (fun _ => .bot) 6 (.ow 0)) 7 (.f (iv (k : Nat)))) 8 (.f (iv rs[k]))) 9 (.f (iv ((skyK rs k).length : Nat)))) 20 (.f (.sl rs.length (intsF rs)))) 21 (.f (iv rs.length))) 22 (.f (iv (k : Nat)))) 29 (.f (iv rs[k]))) 30 (.f (iv (j : Nat)))), (Ab.upd (fun _ => none) 0 (some (.row 205 4 (skyK rs k ++ ringC k ((skyK rs k).length : Nat) rs[k] j).length (celsF (skyK rs k ++ ringC k ((skyK rs k).length : Nat) rs[k] j))))), 1⟩) (fun j => (j : Int) ≤ rs[k]) (fun j => rs[k].toNat - j) 0 ((by omega)) (gh_le ⟨le_upd rfl trivial (le_upd rfl trivial (le_upd rfl trivial (le_upd rfl trivial (le_upd rfl trivial (le_upd rfl trivial (le_upd rfl trivial (le_upd rfl trivial (le_upd rfl rfl (le_nil _))))))))), le_hupd (celRow (by simp [ringC])) trivial (le_h0 _ _)⟩)
    intro j hj
    have hjl : (skyK rs k ++ ringC k ((skyK rs k).length : Nat) rs[k] j).length = (skyK rs k).length + j := by rw [List.length_append, ringC_len]
    by_cases hjc : (j : Int) < rs[k]
    · repeat (first
    | (apply s_a TY; exact rfl)
    | (apply s_t; exact rfl; (first | assumption | omega))
    | apply w_seq
    | apply w_region
    | apply s_nil
    | apply t_norm
    | apply k_norm
    | apply w_block
    | apply w_skip
    | (apply w_condT; exact rfl; exact rfl)
    | (apply s_c TY; exact rfl; (first | omega | exact ⟨by omega, by (first | with_reducible assumption | ((with_reducible apply intsF_ne); omega) | assumption)⟩))
    | (apply s_append TY; exact rfl; exact rfl; exact rfl; exact rfl; exact rfl; exact rfl; exact rfl; exact rfl; exact rfl; (unfold maxLen; omega); omega))
      exact ⟨j + 1, by omega, by omega, gh_le ⟨le_upd rfl trivial (le_upd rfl trivial (le_upd rfl trivial (le_upd rfl trivial (le_upd rfl trivial (le_upd rfl trivial (le_upd rfl trivial (le_upd rfl trivial (le_upd rfl rfl (le_nil _))))))))), le_hupd (celRow_app (L := skyK rs k ++ ringC k ((skyK rs k).length : Nat) rs[k] j) (x := ⟨k, ((skyK rs k).length : Nat), rs[k], j⟩) (by rw [ringC_succ, ← List.append_assoc])) trivial (le_h0 _ _)⟩⟩
    · have hje : j = rs[k].toNat := by omega
      subst hje
      repeat (first
    | (apply s_a TY; exact rfl)
    | (apply s_f; exact rfl; (first | assumption | omega))
    | apply w_seq
    | apply w_region
    | apply s_nil
    | apply t_norm
    | apply t_exit
    | apply k_hit
    | apply k_norm
    | apply w_exit
    | (apply w_condF; exact rfl; exact rfl)
    | (apply s_c TY; exact rfl; (first | omega | exact ⟨by omega, by (first | with_reducible assumption | ((with_reducible apply intsF_ne); omega) | assumption)⟩)))
      exact ⟨k + 1, by omega, by omega, gh_le ⟨le_upd rfl trivial (le_upd rfl trivial (le_upd rfl trivial (le_upd rfl rfl (le_nil _)))), le_hupd (celRow hsucc.symm) trivial (le_h0 _ _)⟩⟩
  · have hke : k = rs.length := by omega
    subst hke
    repeat (first
    | (apply s_a TY; exact rfl)
    | (apply s_f; exact rfl; (first | assumption | omega))
    | apply w_seq
    | apply w_region
    | apply s_nil
    | apply t_norm
    | apply t_exit
    | apply k_hit
    | apply w_exit
    | apply w_ret
    | (apply w_condF; exact rfl; exact rfl))
    exact lv_ret (ret_gh (gh_row 0 rfl) (ret2 rfl (res_tmp rfl) (res_tmp rfl)))
def celE (c : Int) (n : Int) : Int := if 0 ≤ n ∧ n ≤ c - 1 then 0 else 6
def celsX (c : Int) (l : List Int) (i : Nat) : Int := if ¬ (0 ≤ l.getD i default ∧ l.getD i default ≤ c - 1) then 6 else if i ≠ 0 ∧ l.getD i default ≤ l.getD (i - 1) default then 9 else 0
def celsE (c : Int) (l : List Int) : Int := (eachE l.length (celsX c l)).2
theorem celE_0 {c n : Int} (h : 0 ≤ n ∧ n ≤ c - 1) : celE c n = 0 := if_pos h
theorem celE_6 {c n : Int} (h : ¬ (0 ≤ n ∧ n ≤ c - 1)) : celE c n = 6 := if_neg h
theorem celsE_0 {c : Int} {l : List Int} (h : ∀ i, i < l.length → celsX c l i = 0) : celsE c l = 0 := by unfold celsE; rw [eachE_ok h]
theorem celsE_at {c : Int} {l : List Int} {k : Nat} (hk : k < l.length) (h : ∀ i, i < k → celsX c l i = 0) (hne : celsX c l k ≠ 0) : celsE c l = celsX c l k := by unfold celsE; rw [eachE_at hk h hne]
theorem height_s (cs : List Cel) (b : Int) (hl : cs.length ≤ 1000) (hb : 0 ≤ b ∧ b ≤ 1000) : Summ Tryz.prog GG 131 [xF cs, iv b] (iv (1000000 * ((cs.length : Int) - 2 * b))) := by
  refine summW Tryz.func131 rfl rfl 11 rfl (by simp) (fun M0 => ?_)
  repeat (first
    | (apply s_a TY; exact rfl)
    | apply w_seq
    | apply w_region
    | apply s_nil
    | apply t_norm
    | apply w_ret
    | (apply s_c TY; exact rfl; omega))
  exact lv_ret (ret1 rfl (res_tmp rfl))
set_option maxRecDepth 100000 in
theorem cellErr_s (cs : List Cel) (n : Int) (hl : cs.length ≤ 1000) : Summ Tryz.prog GG 132 [xF cs, iv n] (iv (celE cs.length n)) := by
  by_cases h : 0 ≤ n ∧ n ≤ (cs.length : Int) - 1
  · rw [celE_0 h]
    refine summW Tryz.func132 rfl rfl 11 rfl (by simp) (fun M0 => ?_)
    repeat (first
    | (apply s_a TY; exact rfl)
    | apply w_seq
    | apply w_region
    | apply s_nil
    | apply t_norm
    | apply w_ret
    | (apply s_k (unless_T _); exact rfl)
    | (apply s_k1 (within_T _ _ _); exact rfl; (first | assumption | omega | decide))
    | (apply s_c TY; exact rfl; omega))
    exact lv_ret (ret1 rfl (res_tmp rfl))
  · rw [celE_6 h]
    refine summW Tryz.func132 rfl rfl 11 rfl (by simp) (fun M0 => ?_)
    repeat (first
    | (apply s_a TY; exact rfl)
    | apply w_seq
    | apply w_region
    | apply s_nil
    | apply t_norm
    | apply w_ret
    | (apply s_k (unless_F _); exact rfl)
    | (apply s_k1 (within_F _ _ _); exact rfl; (first | assumption | omega | decide))
    | (apply s_c TY; exact rfl; omega))
    exact lv_ret (ret1 rfl (res_tmp rfl))
theorem cellErrT (cs : List Cel) (n : Int) (hl : cs.length ≤ 1000) (h : 0 ≤ n ∧ n ≤ (cs.length : Int) - 1) : Summ Tryz.prog GG 132 [xF cs, iv n] (iv 0) := by
  have := cellErr_s cs n hl
  rwa [celE_0 h] at this
theorem cellErrF (cs : List Cel) (n : Int) (hl : cs.length ≤ 1000) (h : ¬ (0 ≤ n ∧ n ≤ (cs.length : Int) - 1)) : Summ Tryz.prog GG 132 [xF cs, iv n] (iv 6) := by
  have := cellErr_s cs n hl
  rwa [celE_6 h] at this
set_option maxRecDepth 100000 in
set_option maxHeartbeats 1600000 in
theorem cellsErr_s (cs : List Cel) (l : List Int) (hll : l.length ≤ 1000000) (hl : cs.length ≤ 1000) : Summ Tryz.prog GG 122 [(xF cs), .sl l.length (intsF l)] (iv (celsE (cs.length : Int) l)) := by
  refine summW Tryz.func122 rfl rfl 37 rfl (by simp) (fun M0 => ?_)
  repeat (first
    | (apply s_a TY; exact rfl)
    | apply w_seq
    | apply w_region
    | apply s_nil
    | apply t_norm
    | apply w_block)
  apply w_loop (fun k : Nat => ⟨(Ab.upd (Ab.upd (Ab.upd (Ab.upd (Ab.upd (fun _ => .bot) 0 (.f (xF cs))) 1 (.f (.sl l.length (intsF l)))) 8 (.f (.sl l.length (intsF l)))) 9 (.f (iv l.length))) 10 (.f (iv (k : Nat)))), (fun _ => none), 0⟩) (fun k => k ≤ l.length ∧ ∀ i, i < k → celsX (cs.length : Int) l i = 0) (fun k => l.length - k) 0 (⟨Nat.zero_le _, fun i h => absurd h (Nat.not_lt_zero i)⟩) (gh_le ⟨le_upd rfl trivial (le_upd rfl trivial (le_upd rfl trivial (le_upd rfl trivial (le_upd rfl trivial (le_nil _))))), le_h0 _ _⟩)
  intro k ⟨hk, hz⟩
  by_cases hc : k < l.length
  · have hg := getD_at hc
    by_cases h1 : 0 ≤ l[k] ∧ l[k] ≤ (cs.length : Int) - 1
    · by_cases h0 : k = 0
      · have hx : celsX (cs.length : Int) l k = 0 := by unfold celsX; rw [hg, if_neg (by simpa using h1), if_neg (by omega)]
        subst h0
        repeat (first
    | (apply s_a TY; exact rfl)
    | (apply s_t; exact rfl; (first | assumption | omega))
    | apply w_seq
    | apply w_region
    | apply s_nil
    | apply t_norm
    | apply k_norm
    | apply w_block
    | apply w_skip
    | (apply w_condT; exact rfl; exact rfl)
    | (apply w_condF; exact rfl; exact rfl)
    | (apply s_k2 (cellErrT _ _); exact rfl; (first | assumption | omega | decide); (first | assumption | omega | decide))
    | (apply s_k1 (first2_1 _ _); exact rfl; (first | assumption | omega | decide))
    | (apply s_k (unless_T _); exact rfl)
    | (apply s_s; exact rfl)
    | (apply s_c TY; exact rfl; (first | omega | exact ⟨by omega, by (first | with_reducible assumption | ((with_reducible apply intsF_ne); omega) | assumption)⟩))
    | (apply s_l TY; exact rfl; (first | exact rfl | with_reducible assumption | ((with_reducible apply intsF_at); omega) | assumption)))
        exact ⟨0 + 1, ⟨by omega, fun i hi => by
          have : i = 0 := by omega
          subst this; exact hx⟩, by omega, gh_le ⟨le_upd rfl trivial (le_upd rfl trivial (le_upd rfl trivial (le_upd rfl trivial (le_upd rfl trivial (le_nil _))))), le_h0 _ _⟩⟩
      · have hp : k - 1 < l.length := by omega
        have hgp := getD_at hp
        have hW : (intsF l)[(max 0 (((k : Nat) : Int) - 1)).toNat * 1]? = some (iv l[k - 1]) := by
          rw [show (max 0 (((k : Nat) : Int) - 1)).toNat = k - 1 by omega]; exact intsF_at hp
        by_cases h2 : l[k - 1] < l[k]
        · have hx : celsX (cs.length : Int) l k = 0 := by unfold celsX; rw [hg, if_neg (by simpa using h1), if_neg (by rw [hgp]; omega)]
          repeat (first
    | (apply s_a TY; exact rfl)
    | (apply s_t; exact rfl; (first | assumption | omega))
    | (apply s_f; exact rfl; (first | assumption | omega))
    | apply w_seq
    | apply w_region
    | apply s_nil
    | apply t_norm
    | apply k_norm
    | apply w_block
    | apply w_skip
    | (apply w_condT; exact rfl; exact rfl)
    | (apply w_condF; exact rfl; exact rfl)
    | (apply s_k2 (cellErrT _ _); exact rfl; (first | assumption | omega | decide); (first | assumption | omega | decide))
    | (apply s_k1 (first2_1 _ _); exact rfl; (first | assumption | omega | decide))
    | (apply s_k (unless_T _); exact rfl)
    | (apply s_c TY; exact rfl; (first | omega | exact ⟨by omega, by (first | with_reducible assumption | ((with_reducible apply intsF_ne); omega) | assumption)⟩))
    | (apply s_z TY; exact rfl; (first | omega | exact ⟨by omega, by (first | with_reducible assumption | ((with_reducible apply intsF_ne); omega) | assumption)⟩))
    | (apply s_l TY; exact rfl; (first | exact rfl | with_reducible assumption | ((with_reducible apply intsF_at); omega) | assumption)))
          exact ⟨k + 1, ⟨by omega, fun i hi => by
            by_cases e : i = k
            · subst e; exact hx
            · exact hz i (by omega)⟩, by omega, gh_le ⟨le_upd rfl trivial (le_upd rfl trivial (le_upd rfl trivial (le_upd rfl trivial (le_upd rfl trivial (le_nil _))))), le_h0 _ _⟩⟩
        · have hx : celsX (cs.length : Int) l k = 9 := by unfold celsX; rw [hg, if_neg (by simpa using h1), if_pos ⟨h0, by rw [hgp]; omega⟩]
          rw [celsE_at hc hz (by rw [hx]; decide), hx]
          repeat (first
    | (apply s_a TY; exact rfl)
    | (apply s_t; exact rfl; (first | assumption | omega))
    | (apply s_f; exact rfl; (first | assumption | omega))
    | apply w_seq
    | apply w_region
    | apply s_nil
    | apply t_norm
    | apply t_ret
    | apply k_ret
    | apply w_block
    | apply w_ret
    | apply w_skip
    | (apply w_condT; exact rfl; exact rfl)
    | (apply s_k2 (cellErrT _ _); exact rfl; (first | assumption | omega | decide); (first | assumption | omega | decide))
    | (apply s_k1 (first2_1 _ _); exact rfl; (first | assumption | omega | decide))
    | (apply s_k (unless_F _); exact rfl)
    | (apply s_c TY; exact rfl; (first | omega | exact ⟨by omega, by (first | with_reducible assumption | ((with_reducible apply intsF_ne); omega) | assumption)⟩))
    | (apply s_z TY; exact rfl; (first | omega | exact ⟨by omega, by (first | with_reducible assumption | ((with_reducible apply intsF_ne); omega) | assumption)⟩))
    | (apply s_l TY; exact rfl; (first | exact rfl | with_reducible assumption | ((with_reducible apply intsF_at); omega) | assumption)))
          exact lv_ret (ret1 rfl (res_tmp rfl))
    · have hx : celsX (cs.length : Int) l k = 6 := by unfold celsX; rw [hg, if_pos h1]
      rw [celsE_at hc hz (by rw [hx]; decide), hx]
      by_cases h0 : k = 0
      · subst h0
        repeat (first
    | (apply s_a TY; exact rfl)
    | (apply s_t; exact rfl; (first | assumption | omega))
    | (apply s_f; exact rfl; (first | assumption | omega))
    | apply w_seq
    | apply w_region
    | apply s_nil
    | apply t_norm
    | apply t_ret
    | apply k_ret
    | apply w_block
    | apply w_ret
    | apply w_skip
    | (apply w_condT; exact rfl; exact rfl)
    | (apply s_k2 (cellErrF _ _); exact rfl; (first | assumption | omega | decide); (first | assumption | omega | decide))
    | (apply s_k1 (first2_0 _ _); exact rfl; (first | assumption | omega | decide))
    | (apply s_k (unless_T _); exact rfl)
    | (apply s_s; exact rfl)
    | (apply s_c TY; exact rfl; (first | omega | exact ⟨by omega, by (first | with_reducible assumption | ((with_reducible apply intsF_ne); omega) | assumption)⟩))
    | (apply s_l TY; exact rfl; (first | exact rfl | with_reducible assumption | ((with_reducible apply intsF_at); omega) | assumption)))
        exact lv_ret (ret1 rfl (res_tmp rfl))
      · have hp : k - 1 < l.length := by omega
        have hW : (intsF l)[(max 0 (((k : Nat) : Int) - 1)).toNat * 1]? = some (iv l[k - 1]) := by
          rw [show (max 0 (((k : Nat) : Int) - 1)).toNat = k - 1 by omega]; exact intsF_at hp
        by_cases h2 : l[k - 1] < l[k]
        · repeat (first
    | (apply s_a TY; exact rfl)
    | (apply s_t; exact rfl; (first | assumption | omega))
    | (apply s_f; exact rfl; (first | assumption | omega))
    | apply w_seq
    | apply w_region
    | apply s_nil
    | apply t_norm
    | apply t_ret
    | apply k_ret
    | apply w_block
    | apply w_ret
    | apply w_skip
    | (apply w_condT; exact rfl; exact rfl)
    | (apply s_k2 (cellErrF _ _); exact rfl; (first | assumption | omega | decide); (first | assumption | omega | decide))
    | (apply s_k1 (first2_0 _ _); exact rfl; (first | assumption | omega | decide))
    | (apply s_k (unless_T _); exact rfl)
    | (apply s_c TY; exact rfl; (first | omega | exact ⟨by omega, by (first | with_reducible assumption | ((with_reducible apply intsF_ne); omega) | assumption)⟩))
    | (apply s_z TY; exact rfl; (first | omega | exact ⟨by omega, by (first | with_reducible assumption | ((with_reducible apply intsF_ne); omega) | assumption)⟩))
    | (apply s_l TY; exact rfl; (first | exact rfl | with_reducible assumption | ((with_reducible apply intsF_at); omega) | assumption)))
          exact lv_ret (ret1 rfl (res_tmp rfl))
        · repeat (first
    | (apply s_a TY; exact rfl)
    | (apply s_t; exact rfl; (first | assumption | omega))
    | (apply s_f; exact rfl; (first | assumption | omega))
    | apply w_seq
    | apply w_region
    | apply s_nil
    | apply t_norm
    | apply t_ret
    | apply k_ret
    | apply w_block
    | apply w_ret
    | apply w_skip
    | (apply w_condT; exact rfl; exact rfl)
    | (apply s_k2 (cellErrF _ _); exact rfl; (first | assumption | omega | decide); (first | assumption | omega | decide))
    | (apply s_k1 (first2_0 _ _); exact rfl; (first | assumption | omega | decide))
    | (apply s_k (unless_F _); exact rfl)
    | (apply s_c TY; exact rfl; (first | omega | exact ⟨by omega, by (first | with_reducible assumption | ((with_reducible apply intsF_ne); omega) | assumption)⟩))
    | (apply s_z TY; exact rfl; (first | omega | exact ⟨by omega, by (first | with_reducible assumption | ((with_reducible apply intsF_ne); omega) | assumption)⟩))
    | (apply s_l TY; exact rfl; (first | exact rfl | with_reducible assumption | ((with_reducible apply intsF_at); omega) | assumption)))
          exact lv_ret (ret1 rfl (res_tmp rfl))
  · rw [celsE_0 fun i hi => hz i (by omega)]
    repeat (first
    | (apply s_a TY; exact rfl)
    | (apply s_f; exact rfl; (first | assumption | omega))
    | apply w_seq
    | apply w_region
    | apply s_nil
    | apply t_norm
    | apply t_exit
    | apply k_hit
    | apply w_exit
    | apply w_ret
    | (apply w_condF; exact rfl; exact rfl))
    exact lv_ret (ret1 rfl (res_tmp rfl))
end Go.Proofs.YtenkgipcblfocaaGreat
namespace Go.Proofs.YtenkgipcblfocaaGreat
open Go Go.RowKit Go.Proofs Go.Shelf Go.Ab
theorem cel_bd {rs : List Int} (o : SkyOk rs) {k : Nat} (hk : k < (skyC rs).length) : (0 ≤ (skyC rs)[k].before ∧ (skyC rs)[k].before ≤ 96) ∧ (1 ≤ (skyC rs)[k].count ∧ (skyC rs)[k].count ≤ 12) ∧ (0 ≤ (skyC rs)[k].ring ∧ (skyC rs)[k].ring < 8) ∧ 0 ≤ (skyC rs)[k].index ∧ (skyC rs)[k].index < (skyC rs)[k].count := by
  obtain ⟨r, i, h1, h2, h3, h4⟩ := skyK_at o (Nat.le_refl _) hk
  have h4' : (skyC rs)[k] = ⟨r, befK rs r, rs.getD r default, i⟩ := h4
  have hb := befK_bd o (k := r) (by omega)
  have hr := o.ring r h1
  have hl := o.len
  rw [h4']
  refine ⟨⟨?_, ?_⟩, hr, ⟨?_, ?_⟩, ?_, h2⟩ <;> simp only <;> omega
theorem mul_bd {a b A B : Int} (ha : -A ≤ a ∧ a ≤ A) (hb : 0 ≤ b ∧ b ≤ B) : -(A * B) ≤ a * b ∧ a * b ≤ A * B := by
  have h1 : a * b ≤ A * b := Int.mul_le_mul_of_nonneg_right ha.2 hb.1
  have h2 : A * b ≤ A * B := Int.mul_le_mul_of_nonneg_left hb.2 (by omega)
  have h3 : -A * b ≤ a * b := Int.mul_le_mul_of_nonneg_right ha.1 hb.1
  rw [Int.neg_mul] at h3
  omega
theorem mul_nn {a b A B : Int} (ha : 0 ≤ a ∧ a ≤ A) (hb : 0 ≤ b ∧ b ≤ B) : 0 ≤ a * b ∧ a * b ≤ A * B :=
  ⟨Int.mul_nonneg ha.1 hb.1, (mul_bd ⟨by omega, ha.2⟩ hb).2⟩
theorem lastC_bd {rs : List Int} (o : SkyOk rs) {h : Int} : ∀ k, k ≤ (skyC rs).length → (0 ≤ (lastC rs h (skyC rs) k).before ∧ (lastC rs h (skyC rs) k).before ≤ 96) ∧ 0 ≤ (lastC rs h (skyC rs) k).count ∧ (lastC rs h (skyC rs) k).count ≤ 12
  | 0, _ => by simp [lastC]
  | k + 1, hk => by
    unfold lastC
    split
    · rw [getD_at (show k < (skyC rs).length by omega)]
      have := cel_bd o (show k < (skyC rs).length by omega)
      omega
    · exact lastC_bd o k (by omega)
theorem celBox {x y : Cel} (h : x = y) : some (Blk.box [.f (iv x.ring), .f (iv x.before), .f (iv x.count), .f (iv x.index)]) = some (Blk.box [.f (iv y.ring), .f (iv y.before), .f (iv y.count), .f (iv y.index)]) := by rw [h]
set_option maxRecDepth 100000 in
set_option maxHeartbeats 1600000 in
theorem CellOf_ok (rs : List Int) (p : Pt) (o : SkyOk rs) (h : (-1000000 ≤ p.height ∧ p.height ≤ 1000000) ∧ 0 ≤ p.turn ∧ p.turn ≤ 999999) : Summ Tryz.prog GG 72 [skF rs, ptF p] (.tup [iv (cellZ rs p.height p.turn), iv 0]) := by
  have hp0 := ptE_0 h
  have HP := pointErr_s p
  rw [hp0] at HP
  have hb := skyC_bd o
  have hln := skyC_len o
  have hm := mul_bd h.1 (b := ((skyC rs).length : Int)) (B := 96) (by omega)
  refine summW Tryz.func72 rfl rfl 52 rfl (by simp) (fun M0 => ?_)
  repeat (first
    | (apply s_a TY; exact rfl)
    | (apply s_t; exact rfl; (first | assumption | omega))
    | apply w_seq
    | apply w_region
    | apply s_nil
    | apply t_norm
    | apply w_block
    | apply w_skip
    | (apply w_condF; exact rfl; exact rfl)
    | (apply s_k (HP); exact rfl)
    | (apply s_k1 (first2_1 _ _); exact rfl; (first | assumption | omega | decide))
    | (apply s_k1 (open_ok _); exact rfl; (first | assumption | omega | decide))
    | (apply s_alloc TY; exact rfl; exact rfl; exact rfl)
    | (apply s_store TY; exact rfl; exact rfl; exact rfl; exact rfl; exact rfl; exact rfl))
  apply w_loop (fun k : Nat => ⟨(Ab.upd (Ab.upd (Ab.upd (Ab.upd (Ab.upd (Ab.upd (fun _ => .bot) 3 (.f (.pt [iv p.height, iv p.turn] 0))) 6 (.f (xF (skyC rs)))) 8 (.bx 0 0)) 25 (.f (xF (skyC rs)))) 26 (.f (iv (skyC rs).length))) 27 (.f (iv (k : Nat)))), (Ab.upd (fun _ => none) 0 (some (.box [.f (iv (lastC rs p.height (skyC rs) (k : Nat)).ring), .f (iv (lastC rs p.height (skyC rs) (k : Nat)).before), .f (iv (lastC rs p.height (skyC rs) (k : Nat)).count), .f (iv (lastC rs p.height (skyC rs) (k : Nat)).index)]))), 1⟩) (fun k => k ≤ (skyC rs).length) (fun k => (skyC rs).length - k) 0 (Nat.zero_le _) (gh_le ⟨le_upd rfl trivial (le_upd rfl trivial (le_upd rfl trivial (le_upd rfl rfl (le_upd rfl trivial (le_upd rfl trivial (le_nil _)))))), le_hupd rfl (fun y hy => by simp at hy; rcases hy with rfl | rfl | rfl | rfl <;> trivial) (le_h0 _ _)⟩)
  intro k hk
  by_cases hc : k < (skyC rs).length
  · have hcb := cel_bd o hc
    have hg := getD_at hc
    by_cases hu : p.height * ((skyC rs).length : Int) ≤ 1000000 * (((skyC rs).length : Int) - 2 * (skyC rs)[k].before)
    · have hs : (lastC rs p.height (skyC rs) (k + 1)) = (skyC rs)[k] := by
        rw [lastC, hg, if_pos (by unfold upB; rw [← hln]; simpa using hu)]
      repeat (first
    | (apply s_a TY; exact rfl)
    | (apply s_t; exact rfl; (first | assumption | omega))
    | apply w_seq
    | apply w_region
    | (apply w_draw (id := 9) 9 rfl (by kernel_rfl))
    | apply s_nil
    | apply t_norm
    | apply k_norm
    | apply w_block
    | apply w_skip
    | (apply w_condT; exact rfl; exact rfl)
    | (apply s_k2 (height_s _ _); exact rfl; (first | assumption | omega | decide); (first | assumption | omega | decide))
    | (apply s_c TY; exact rfl; (first | omega | exact ⟨by omega, by (first | with_reducible assumption | ((with_reducible apply celsF_ne); omega) | assumption)⟩))
    | (apply s_m TY; exact rfl; (first | with_reducible assumption | ((with_reducible apply celsF_sub); omega) | exact rfl); exact rfl)
    | (apply s_alloc TY; exact rfl; exact rfl; exact rfl)
    | (apply s_store TY; exact rfl; exact rfl; exact rfl; exact rfl; exact rfl; exact rfl))
      exact ⟨k + 1, by omega, by omega, gh_le ⟨le_upd rfl trivial (le_upd rfl trivial (le_upd rfl trivial (le_upd rfl rfl (le_upd rfl trivial (le_upd rfl trivial (le_nil _)))))), le_hupd (celBox hs.symm) (fun y hy => by simp at hy; rcases hy with rfl | rfl | rfl | rfl <;> trivial) (le_h0 _ _)⟩⟩
    · have hs : (lastC rs p.height (skyC rs) (k + 1)) = (lastC rs p.height (skyC rs) k) := by
        rw [lastC, hg, if_neg (by unfold upB; rw [← hln]; simpa using hu)]
      repeat (first
    | (apply s_a TY; exact rfl)
    | (apply s_t; exact rfl; (first | assumption | omega))
    | (apply s_f; exact rfl; (first | assumption | omega))
    | apply w_seq
    | apply w_region
    | (apply w_draw (id := 9) 9 rfl (by kernel_rfl))
    | apply s_nil
    | apply t_norm
    | apply k_norm
    | apply w_block
    | apply w_skip
    | (apply w_condT; exact rfl; exact rfl)
    | (apply w_condF; exact rfl; exact rfl)
    | (apply s_k2 (height_s _ _); exact rfl; (first | assumption | omega | decide); (first | assumption | omega | decide))
    | (apply s_c TY; exact rfl; (first | omega | exact ⟨by omega, by (first | with_reducible assumption | ((with_reducible apply celsF_ne); omega) | assumption)⟩))
    | (apply s_m TY; exact rfl; (first | with_reducible assumption | ((with_reducible apply celsF_sub); omega) | exact rfl); exact rfl)
    | (apply s_alloc TY; exact rfl; exact rfl; exact rfl)
    | (apply s_store TY; exact rfl; exact rfl; exact rfl; exact rfl; exact rfl; exact rfl))
      exact ⟨k + 1, by omega, by omega, gh_le ⟨le_upd rfl trivial (le_upd rfl trivial (le_upd rfl trivial (le_upd rfl rfl (le_upd rfl trivial (le_upd rfl trivial (le_nil _)))))), le_hupd (celBox hs.symm) (fun y hy => by simp at hy; rcases hy with rfl | rfl | rfl | rfl <;> trivial) (le_h0 _ _)⟩⟩
  · have hke : k = (skyC rs).length := by omega
    subst hke
    have hr := lastC_ring o h.1.2
    have hbd := lastC_bd o (h := p.height) (skyC rs).length (Nat.le_refl _)
    have hm2 := mul_nn (a := p.turn) (A := 999999) h.2 hbd.2
    have hz : cellZ rs p.height p.turn = (lastC rs p.height (skyC rs) (skyC rs).length).before + p.turn * (lastC rs p.height (skyC rs) (skyC rs).length).count / 1000000 := by
      unfold cellZ; rw [hr.1, hr.2]
    rw [hz]
    generalize (lastC rs p.height (skyC rs) (skyC rs).length) = X at *
    repeat (first
    | (apply s_a TY; exact rfl)
    | (apply s_f; exact rfl; (first | assumption | omega))
    | apply w_seq
    | apply w_region
    | apply s_nil
    | apply t_norm
    | apply t_exit
    | apply k_hit
    | apply w_exit
    | apply w_ret
    | (apply w_condF; exact rfl; exact rfl)
    | (apply s_c TY; exact rfl; (first | omega | exact ⟨by omega, by (first | with_reducible assumption | ((with_reducible apply celsF_ne); omega) | assumption)⟩)))
    exact lv_ret (ret2 rfl (res_tmp rfl) (res_tmp rfl))
set_option maxRecDepth 100000 in
theorem Before_s (rs : List Int) (k : Nat) (o : SkyOk rs) (hk : k ≤ rs.length) : Summ Tryz.prog GG 135 [skF rs, iv (k : Nat)] (iv (befK rs k)) := by
  have hlen := o.len
  refine summW Tryz.func135 rfl rfl 20 rfl (by simp) (fun M0 => ?_)
  repeat (first
    | (apply s_a TY; exact rfl)
    | apply w_seq
    | apply w_region
    | apply s_nil
    | apply t_norm
    | apply w_block)
  apply w_loop (fun j : Nat => ⟨(Ab.upd (Ab.upd (Ab.upd (Ab.upd (fun _ => .bot) 1 (.f (iv (k : Nat)))) 2 (.f (.pt [.sl rs.length (intsF rs)] 0))) 5 (.f (iv (befK rs j)))) 6 (.f (iv (j : Nat)))), (fun _ => none), 0⟩) (fun j => j ≤ k) (fun j => k - j) 0 (Nat.zero_le _) (gh_le ⟨le_upd rfl trivial (le_upd rfl trivial (le_upd rfl trivial (le_upd rfl trivial (le_nil _)))), le_h0 _ _⟩)
  intro j hj
  by_cases hc : j < k
  · have hjl : j < rs.length := by omega
    have hr := o.ring j hjl
    have hb := befK_bd o (k := j) (by omega)
    have hs : befK rs (j + 1) = befK rs j + rs[j] := by rw [befK, getD_at hjl]
    rw [getD_at hjl] at hr
    repeat (first
    | (apply s_a TY; exact rfl)
    | (apply s_t; exact rfl; (first | assumption | omega))
    | apply w_seq
    | apply w_region
    | apply s_nil
    | apply t_norm
    | apply k_norm
    | apply w_block
    | apply w_skip
    | (apply w_condT; exact rfl; exact rfl)
    | (apply s_c TY; exact rfl; (first | omega | exact ⟨by omega, by (first | with_reducible assumption | ((with_reducible apply intsF_ne); omega) | assumption)⟩))
    | (apply s_l TY; exact rfl; (first | exact rfl | with_reducible assumption | ((with_reducible apply intsF_at); omega) | assumption)))
    exact ⟨j + 1, by omega, by omega, gh_le ⟨le_upd rfl trivial (le_upd (congrArg (fun z => AV.f (iv z)) hs) trivial (le_upd rfl trivial (le_upd rfl trivial (le_nil _)))), le_h0 _ _⟩⟩
  · have hje : j = k := by omega
    subst hje
    repeat (first
    | (apply s_a TY; exact rfl)
    | (apply s_f; exact rfl; (first | assumption | omega))
    | apply w_seq
    | apply w_region
    | apply s_nil
    | apply t_norm
    | apply t_exit
    | apply k_hit
    | apply w_exit
    | apply w_ret
    | (apply w_condF; exact rfl; exact rfl))
    exact lv_ret (ret1 rfl (res_tmp rfl))
theorem Count_s (rs : List Int) (o : SkyOk rs) : Summ Tryz.prog GG 134 [skF rs] (iv (befK rs rs.length)) := by
  have HB := Before_s rs rs.length o (Nat.le_refl _)
  refine summW Tryz.func134 rfl rfl 8 rfl (by simp) (fun M0 => ?_)
  repeat (first
    | (apply s_a TY; exact rfl)
    | apply w_seq
    | apply w_region
    | apply s_nil
    | apply t_norm
    | apply w_ret
    | (apply s_k (HB); exact rfl))
  exact lv_ret (ret1 rfl (res_tmp rfl))
set_option maxRecDepth 100000 in
theorem rCheckSky_s (rs : List Int) (hl : rs.length ≤ 1000000) : Summ Tryz.prog GG 75 [skF rs] (.tup [iv (skyChk rs).1, iv (skyChk rs).2]) := by
  by_cases h1 : rs.length = 0
  · rw [show skyChk rs = (0, 10) by unfold skyChk; rw [if_pos h1]]
    refine summW Tryz.func75 rfl rfl 28 rfl (by simp) (fun M0 => ?_)
    repeat (first
    | (apply s_a TY; exact rfl)
    | (apply s_t; exact rfl; (first | assumption | omega))
    | apply w_seq
    | apply w_region
    | apply s_nil
    | apply t_norm
    | apply t_ret
    | apply w_ret
    | (apply w_condT; exact rfl; exact rfl))
    exact lv_ret (ret2 rfl (res_tmp rfl) (res_tmp rfl))
  by_cases h2 : 8 < rs.length
  · rw [show skyChk rs = (0, 8) by unfold skyChk; rw [if_neg h1, if_pos h2]]
    refine summW Tryz.func75 rfl rfl 28 rfl (by simp) (fun M0 => ?_)
    repeat (first
    | (apply s_a TY; exact rfl)
    | (apply s_t; exact rfl; (first | assumption | omega))
    | (apply s_f; exact rfl; (first | assumption | omega))
    | apply w_seq
    | apply w_region
    | apply s_nil
    | apply t_norm
    | apply t_ret
    | apply w_ret
    | apply w_skip
    | (apply w_condT; exact rfl; exact rfl)
    | (apply w_condF; exact rfl; exact rfl))
    exact lv_ret (ret2 rfl (res_tmp rfl) (res_tmp rfl))
  have he : skyChk rs = eachE rs.length fun i => ringE (rs.getD i default) := by unfold skyChk; rw [if_neg h1, if_neg h2]
  rw [he]
  refine summW Tryz.func75 rfl rfl 28 rfl (by simp) (fun M0 => ?_)
  repeat (first
    | (apply s_a TY; exact rfl)
    | (apply s_f; exact rfl; (first | assumption | omega))
    | apply w_seq
    | apply w_region
    | apply s_nil
    | apply t_norm
    | apply w_block
    | apply w_skip
    | (apply w_condF; exact rfl; exact rfl))
  apply w_loop (fun k : Nat => ⟨(Ab.upd (Ab.upd (fun _ => .bot) 1 (.f (.pt [.sl rs.length (intsF rs)] 0))) 4 (.f (iv (k : Nat)))), (fun _ => none), 0⟩) (fun k => k ≤ rs.length ∧ ∀ i, i < k → ringE (rs.getD i default) = 0) (fun k => rs.length - k) 0 (⟨Nat.zero_le _, fun i h => absurd h (Nat.not_lt_zero i)⟩) (gh_le ⟨le_upd rfl trivial (le_upd rfl trivial (le_nil _)), le_h0 _ _⟩)
  intro k ⟨hk, hz⟩
  by_cases hc : k < rs.length
  · have hg := getD_at hc
    by_cases hr : 1 ≤ rs[k] ∧ rs[k] ≤ 12
    · repeat (first
    | (apply s_a TY; exact rfl)
    | (apply s_t; exact rfl; (first | assumption | omega))
    | apply w_seq
    | apply w_region
    | apply s_nil
    | apply t_norm
    | apply k_norm
    | apply w_block
    | apply w_skip
    | (apply w_condT; exact rfl; exact rfl)
    | (apply w_condF; exact rfl; exact rfl)
    | (apply s_k1 (bwithin_T _ _ _); exact rfl; (first | assumption | omega | decide))
    | (apply s_c TY; exact rfl; (first | omega | exact ⟨by omega, by (first | with_reducible assumption | ((with_reducible apply intsF_ne); omega) | assumption)⟩))
    | (apply s_l TY; exact rfl; (first | exact rfl | with_reducible assumption | ((with_reducible apply intsF_at); omega) | assumption)))
      exact ⟨k + 1, ⟨by omega, fun i hi => by
        by_cases e : i = k
        · subst e; rw [hg]; exact ringE_0 hr
        · exact hz i (by omega)⟩, by omega, gh_le ⟨le_upd rfl trivial (le_upd rfl trivial (le_nil _)), le_h0 _ _⟩⟩
    · have h2 : ringE (rs.getD k default) = 2 := by rw [hg]; exact ringE_2 hr
      rw [eachE_at hc hz (by rw [h2]; decide), h2]
      repeat (first
    | (apply s_a TY; exact rfl)
    | (apply s_t; exact rfl; (first | assumption | omega))
    | apply w_seq
    | apply w_region
    | apply s_nil
    | apply t_norm
    | apply t_ret
    | apply k_ret
    | apply w_block
    | apply w_ret
    | apply w_skip
    | (apply w_condT; exact rfl; exact rfl)
    | (apply s_k1 (bwithin_F _ _ _); exact rfl; (first | assumption | omega | decide))
    | (apply s_c TY; exact rfl; (first | omega | exact ⟨by omega, by (first | with_reducible assumption | ((with_reducible apply intsF_ne); omega) | assumption)⟩))
    | (apply s_l TY; exact rfl; (first | exact rfl | with_reducible assumption | ((with_reducible apply intsF_at); omega) | assumption)))
      exact lv_ret (ret2 rfl (res_tmp rfl) (res_tmp rfl))
  · rw [eachE_ok fun i hi => hz i (by omega)]
    repeat (first
    | (apply s_a TY; exact rfl)
    | (apply s_f; exact rfl; (first | assumption | omega))
    | apply w_seq
    | apply w_region
    | apply s_nil
    | apply t_norm
    | apply t_exit
    | apply k_hit
    | apply w_exit
    | apply w_ret
    | (apply w_condF; exact rfl; exact rfl))
    exact lv_ret (ret2 rfl (res_tmp rfl) (res_tmp rfl))
theorem SkyErr_s (rs : List Int) (hl : rs.length ≤ 1000000) : Summ Tryz.prog GG 28 [skF rs] (iv (skyChk rs).2) := by
  refine summW Tryz.func28 rfl rfl 11 rfl (by simp) (fun M0 => ?_)
  repeat (first
    | (apply s_a TY; exact rfl)
    | apply w_seq
    | apply w_region
    | apply s_nil
    | apply t_norm
    | apply w_ret
    | (apply s_k1 (rCheckSky_s _); exact rfl; (first | assumption | omega | decide)))
  exact lv_ret (ret1 rfl (res_tmp rfl))
theorem rCellErr_s (rs : List Int) (n : Int) (o : SkyOk rs) : Summ Tryz.prog GG 77 [skF rs, iv n] (iv (celE (befK rs rs.length) n)) := by
  have hb := befK_bd o (Nat.le_refl rs.length)
  have hlen := o.len
  by_cases h : 0 ≤ n ∧ n ≤ befK rs rs.length - 1
  · rw [celE_0 h]
    refine summW Tryz.func77 rfl rfl 11 rfl (by simp) (fun M0 => ?_)
    repeat (first
    | (apply s_a TY; exact rfl)
    | apply w_seq
    | apply w_region
    | apply s_nil
    | apply t_norm
    | apply w_ret
    | apply w_skip
    | (apply w_condF; exact rfl; exact rfl)
    | (apply s_k1 (bwithin_T _ _ _); exact rfl; (first | assumption | omega | decide))
    | (apply s_k1 (Count_s _); exact rfl; (first | assumption | omega | decide))
    | (apply s_c TY; exact rfl; omega))
    exact lv_ret (ret1 rfl (res_tmp rfl))
  · rw [celE_6 h]
    refine summW Tryz.func77 rfl rfl 11 rfl (by simp) (fun M0 => ?_)
    repeat (first
    | (apply s_a TY; exact rfl)
    | apply w_seq
    | apply w_region
    | apply s_nil
    | apply t_norm
    | apply t_ret
    | apply w_ret
    | (apply w_condT; exact rfl; exact rfl)
    | (apply s_k1 (bwithin_F _ _ _); exact rfl; (first | assumption | omega | decide))
    | (apply s_k1 (Count_s _); exact rfl; (first | assumption | omega | decide))
    | (apply s_c TY; exact rfl; omega))
    exact lv_ret (ret1 rfl (res_tmp rfl))
set_option maxRecDepth 100000 in
set_option maxHeartbeats 1600000 in
theorem rCellsErr_s (rs : List Int) (l : List Int) (o : SkyOk rs) (hll : l.length ≤ 1000000) : Summ Tryz.prog GG 49 [skF rs, .sl l.length (intsF l)] (iv (celsE (befK rs rs.length) l)) := by
  refine summW Tryz.func49 rfl rfl 36 rfl (by simp) (fun M0 => ?_)
  repeat (first
    | (apply s_a TY; exact rfl)
    | apply w_seq
    | apply w_region
    | apply s_nil
    | apply t_norm
    | apply w_block)
  apply w_loop (fun k : Nat => ⟨(Ab.upd (Ab.upd (Ab.upd (fun _ => .bot) 1 (.f (.sl l.length (intsF l)))) 2 (.f (.pt [.sl rs.length (intsF rs)] 0))) 5 (.f (iv (k : Nat)))), (fun _ => none), 0⟩) (fun k => k ≤ l.length ∧ ∀ i, i < k → celsX (befK rs rs.length) l i = 0) (fun k => l.length - k) 0 (⟨Nat.zero_le _, fun i h => absurd h (Nat.not_lt_zero i)⟩) (gh_le ⟨le_upd rfl trivial (le_upd rfl trivial (le_upd rfl trivial (le_nil _))), le_h0 _ _⟩)
  intro k ⟨hk, hz⟩
  by_cases hc : k < l.length
  · have hg := getD_at hc
    have HC := rCellErr_s rs l[k] o
    by_cases h1 : 0 ≤ l[k] ∧ l[k] ≤ (befK rs rs.length) - 1
    · rw [celE_0 h1] at HC
      by_cases h0 : k = 0
      · have hx : celsX (befK rs rs.length) l k = 0 := by unfold celsX; rw [hg, if_neg (by simpa using h1), if_neg (by omega)]
        subst h0
        repeat (first
    | (apply s_a TY; exact rfl)
    | (apply s_t; exact rfl; (first | assumption | omega))
    | (apply s_f; exact rfl; (first | assumption | omega))
    | apply w_seq
    | apply w_region
    | (apply w_draw (id := 4) 5 rfl (by kernel_rfl))
    | (apply w_draw (id := 7) 12 rfl (by kernel_rfl))
    | apply s_nil
    | apply t_norm
    | apply k_norm
    | apply w_block
    | apply w_skip
    | (apply w_condT; exact rfl; exact rfl)
    | (apply w_condF; exact rfl; exact rfl)
    | (apply s_k (HC); exact rfl)
    | (apply s_s; exact rfl)
    | (apply s_c TY; exact rfl; (first | omega | exact ⟨by omega, by (first | with_reducible assumption | ((with_reducible apply intsF_ne); omega) | assumption)⟩))
    | (apply s_l TY; exact rfl; (first | exact rfl | with_reducible assumption | ((with_reducible apply intsF_at); omega) | assumption)))
        exact ⟨0 + 1, ⟨by omega, fun i hi => by
          have : i = 0 := by omega
          subst this; exact hx⟩, by omega, gh_le ⟨le_upd rfl trivial (le_upd rfl trivial (le_upd rfl trivial (le_nil _))), le_h0 _ _⟩⟩
      · have hp : k - 1 < l.length := by omega
        have hgp := getD_at hp
        have hW : (intsF l)[(((k : Nat) : Int) - 1).toNat * 1]? = some (iv l[k - 1]) := by
          rw [show (((k : Nat) : Int) - 1).toNat = k - 1 by omega]; exact intsF_at hp
        by_cases h2 : l[k - 1] < l[k]
        · have hx : celsX (befK rs rs.length) l k = 0 := by unfold celsX; rw [hg, if_neg (by simpa using h1), if_neg (by rw [hgp]; omega)]
          repeat (first
    | (apply s_a TY; exact rfl)
    | (apply s_t; exact rfl; (first | assumption | omega))
    | (apply s_f; exact rfl; (first | assumption | omega))
    | apply w_seq
    | apply w_region
    | (apply w_draw (id := 4) 5 rfl (by kernel_rfl))
    | (apply w_draw (id := 7) 12 rfl (by kernel_rfl))
    | apply s_nil
    | apply t_norm
    | apply k_norm
    | apply w_block
    | apply w_skip
    | (apply w_condT; exact rfl; exact rfl)
    | (apply w_condF; exact rfl; exact rfl)
    | (apply s_k (HC); exact rfl)
    | (apply s_c TY; exact rfl; (first | omega | exact ⟨by omega, by (first | with_reducible assumption | ((with_reducible apply intsF_ne); omega) | assumption)⟩))
    | (apply s_z TY; exact rfl; (first | omega | exact ⟨by omega, by (first | with_reducible assumption | ((with_reducible apply intsF_ne); omega) | assumption)⟩))
    | (apply s_l TY; exact rfl; (first | exact rfl | with_reducible assumption | ((with_reducible apply intsF_at); omega) | assumption)))
          exact ⟨k + 1, ⟨by omega, fun i hi => by
          by_cases e : i = k
          · subst e; exact hx
          · exact hz i (by omega)⟩, by omega, gh_le ⟨le_upd rfl trivial (le_upd rfl trivial (le_upd rfl trivial (le_nil _))), le_h0 _ _⟩⟩
        · have hx : celsX (befK rs rs.length) l k = 9 := by unfold celsX; rw [hg, if_neg (by simpa using h1), if_pos ⟨h0, by rw [hgp]; omega⟩]
          rw [celsE_at hc hz (by rw [hx]; decide), hx]
          repeat (first
    | (apply s_a TY; exact rfl)
    | (apply s_t; exact rfl; (first | assumption | omega))
    | apply w_seq
    | apply w_region
    | (apply w_draw (id := 4) 5 rfl (by kernel_rfl))
    | (apply w_draw (id := 7) 12 rfl (by kernel_rfl))
    | apply s_nil
    | apply t_norm
    | apply t_ret
    | apply k_ret
    | apply w_block
    | apply w_ret
    | apply w_skip
    | (apply w_condT; exact rfl; exact rfl)
    | (apply w_condF; exact rfl; exact rfl)
    | (apply s_k (HC); exact rfl)
    | (apply s_c TY; exact rfl; (first | omega | exact ⟨by omega, by (first | with_reducible assumption | ((with_reducible apply intsF_ne); omega) | assumption)⟩))
    | (apply s_z TY; exact rfl; (first | omega | exact ⟨by omega, by (first | with_reducible assumption | ((with_reducible apply intsF_ne); omega) | assumption)⟩))
    | (apply s_l TY; exact rfl; (first | exact rfl | with_reducible assumption | ((with_reducible apply intsF_at); omega) | assumption)))
          exact lv_ret (ret1 rfl (res_tmp rfl))
    · rw [celE_6 h1] at HC
      have hx : celsX (befK rs rs.length) l k = 6 := by unfold celsX; rw [hg, if_pos h1]
      rw [celsE_at hc hz (by rw [hx]; decide), hx]
      repeat (first
    | (apply s_a TY; exact rfl)
    | (apply s_t; exact rfl; (first | assumption | omega))
    | (apply s_f; exact rfl; (first | assumption | omega))
    | apply w_seq
    | apply w_region
    | (apply w_draw (id := 4) 5 rfl (by kernel_rfl))
    | apply s_nil
    | apply t_norm
    | apply t_ret
    | apply k_ret
    | apply w_block
    | apply w_ret
    | apply w_skip
    | (apply w_condT; exact rfl; exact rfl)
    | (apply s_k (HC); exact rfl)
    | (apply s_c TY; exact rfl; (first | omega | exact ⟨by omega, by (first | with_reducible assumption | ((with_reducible apply intsF_ne); omega) | assumption)⟩))
    | (apply s_l TY; exact rfl; (first | exact rfl | with_reducible assumption | ((with_reducible apply intsF_at); omega) | assumption)))
      exact lv_ret (ret1 rfl (res_tmp rfl))
  · rw [celsE_0 fun i hi => hz i (by omega)]
    repeat (first
    | (apply s_a TY; exact rfl)
    | (apply s_f; exact rfl; (first | assumption | omega))
    | apply w_seq
    | apply w_region
    | apply s_nil
    | apply t_norm
    | apply t_exit
    | apply k_hit
    | apply w_exit
    | apply w_ret
    | (apply w_condF; exact rfl; exact rfl))
    exact lv_ret (ret1 rfl (res_tmp rfl))
theorem CopyInts_s (l : List Int) (hl : l.length ≤ 1000000) : Summ Tryz.prog GG 51 [.sl l.length (intsF l)] (.sl l.length (intsF l)) := by
  have hlen := intsF_len l
  refine summW Tryz.func51 rfl rfl 6 rfl (by simp) (fun M0 => ?_)
  repeat (first
    | (apply s_bslice_clip TY; exact rfl; exact rfl; exact rfl; exact rfl; exact rfl; exact rfl)
    | (apply s_append_copy TY; exact rfl; exact rfl; exact rfl; exact rfl; exact rfl; exact rfl; exact rfl; assumption; (unfold maxLen; omega); omega)
    | (apply s_a TY; exact rfl)
    | apply w_seq
    | apply w_region
    | apply s_nil
    | apply t_norm
    | apply w_ret)
  exact lv_ret (ret1 rfl (res_tmp rfl))
theorem CopySky_s (l : List Int) (hl : l.length ≤ 1000000) : Summ Tryz.prog GG 26 [skF l] (skF l) := by
  refine summW Tryz.func26 rfl rfl 7 rfl (by simp) (fun M0 => ?_)
  repeat (first
    | (apply s_boxw; exact rfl; exact rfl; exact rfl; exact rfl)
    | (apply s_a TY; exact rfl)
    | apply w_seq
    | apply w_region
    | apply s_nil
    | apply t_norm
    | apply w_ret
    | (apply s_k1 (CopyInts_s _); exact rfl; (first | assumption | omega | decide))
    | (apply s_alloc TY; exact rfl; exact rfl; exact rfl)
    | (apply s_store TY; exact rfl; exact rfl; exact rfl; exact rfl; exact rfl; exact rfl))
  exact lv_ret (ret1 rfl (res_bxs (sub := [.sl l.length (intsF l)]) TY rfl rfl rfl rfl rfl))
theorem few_T (rs : List Int) (h : rs.length ≤ 10) : Summ Tryz.prog GG 23 [skF rs] (.v (.bool true)) := by
  refine summW Tryz.func23 rfl rfl 7 rfl (by simp) (fun M0 => ?_)
  repeat (first
    | (apply s_a TY; exact rfl)
    | (apply s_f; exact rfl; (first | assumption | omega))
    | apply w_seq
    | apply w_region
    | apply s_nil
    | apply t_norm
    | apply w_ret
    | apply w_skip
    | (apply w_condF; exact rfl; exact rfl))
  exact lv_ret (ret1 rfl (res_tmp rfl))
theorem few_F (rs : List Int) (h : 10 < rs.length) : Summ Tryz.prog GG 23 [skF rs] (.v (.bool false)) := by
  refine summW Tryz.func23 rfl rfl 7 rfl (by simp) (fun M0 => ?_)
  repeat (first
    | (apply s_a TY; exact rfl)
    | (apply s_t; exact rfl; (first | assumption | omega))
    | apply w_seq
    | apply w_region
    | apply s_nil
    | apply t_norm
    | apply t_ret
    | apply w_ret
    | (apply w_condT; exact rfl; exact rfl))
  exact lv_ret (ret1 rfl (res_tmp rfl))
end Go.Proofs.YtenkgipcblfocaaGreat
