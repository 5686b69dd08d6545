/- Laws on which the proofs of this seat stand. No condition. -/
import Derived.Test.YtbkdjlahhcofmaaGreatDoorTaMail5
import Derived.DataShut
import Derived.Test.YtbkdjlahhcofmaaGreatDoorRows
import Derived.WalkKit
import Derived.ProofKit
import Derived.OpenShut
import Derived.Stop.Joined
namespace Go.Ab
open Go Go.RowKit Go.Shelf Go.Proofs
section
variable {C : Ctx} {N : Nat}
def lenIs (n : Nat) (v : Value) : Prop := ∃ a c, v = .slice a n c
def killL (i n : Nat) : AV → AV
  | .ow j => bif Nat.beq j i then .f (.any (lenIs n)) else killA i (.ow j)
  | av => killA i av
def St.growL (st : St) (i n : Nat) (B : Blk) : St := { s := fun t => killL i n (st.s t), h := (st.grow i B).h, nx := st.nx }
def GroOpL (C : Ctx) (N : Nat) (o : Oper) (st : St) (i n : Nat) (B : Blk) (d : Nat) : Prop := o.guard = none ∧ o.dst = some d ∧
  ∀ w0 a w st', Agree C o st st' → (∀ k, st'.h k = st.h k) → SimE C w0 N st' a w → ∀ K Q, (∀ v w', SimE C w0 N ((st'.growL i n B).put (some d) (.ow i)) (a.put o.dst v) w' → K (a.put o.dst v) w') → o.wpIn (Fence.wr C.ro) 7 C.P a w K Q
def dstsL (l : List Oper) (s1 s2 : Nat → AV) (i n : Nat) : Prop := match l with
  | [] => True
  | o :: l => (match o.dst with | some t => killL i n (s1 t) = s2 t | none => True) ∧ dstsL l s1 s2 i n
theorem dstsL_mem {s1 s2 : Nat → AV} {i n : Nat} : ∀ {l : List Oper}, dstsL l s1 s2 i n → ∀ {o : Oper} {t : Nat}, o ∈ l → o.dst = some t → killL i n (s1 t) = s2 t
  | [], _, _, _, h, _ => by cases h
  | x :: l, hd, o, t, h, ht => by
    rcases List.mem_cons.1 h with rfl | h
    · have := hd.1; rw [ht] at this; exact this
    · exact dstsL_mem hd.2 h ht
def earlyB (bf : Nat → Nat) (e n0 em : Nat) : Bool := (List.range n0).all fun j => Nat.ble j e || em.testBit j || (bf j).testBit e
theorem earlyB_at {bf : Nat → Nat} {e n0 em j : Nat} (h : earlyB bf e n0 em = true) (hj : j < n0) (he : e < j) (hm : em.testBit j = false) : (bf j).testBit e = true := by
  have h1 := List.all_eq_true.1 h j (List.mem_range.2 hj)
  have hn : Nat.ble j e = false := by cases q : Nat.ble j e; rfl; have := Nat.le_of_ble_eq_true q; omega
  rwa [hn, hm, Bool.false_or, Bool.false_or] at h1
theorem selL_mem {mask : Nat} : ∀ {l : List Oper} {j i : Nat} {o : Oper}, l[i]? = some o → mask.testBit (j + i) = true → o ∈ selL mask j l
  | [], _, _, _, h, _ => by simp at h
  | x :: l, j, 0, o, h, hb => by
    simp at h; subst h
    rw [Nat.add_zero] at hb
    unfold selL; rw [hb]; exact List.mem_cons_self
  | x :: l, j, i + 1, o, h, hb => by
    have ih := selL_mem (mask := mask) (l := l) (j := j + 1) (i := i) (o := o) (by simpa using h) (by rw [show j + 1 + i = j + (i + 1) by omega]; exact hb)
    unfold selL
    cases mask.testBit j with
    | true => exact List.mem_cons_of_mem _ ih
    | false => exact ih
variable {l : List Oper} {n0 : Nat}
theorem draw_sound5 {id : Nat} {Q : St → Prop} {st : St} {Qc : Exit → Act → World → Prop} (e em : Nat) (hm : C.P.follows .mixedOrders = true) (hok : okReg l n0 = true) (hmid : midB l (bitsOf l) e n0 = true) (hear : earlyB (bitsOf l) e n0 em = true) (hen : e < n0) {oo : Oper} (hoo : l[e]? = some oo)
    (hrun : Run C N l.toArray true (fun stE => ∃ i n B d, GroOpL C N oo stE i n B d ∧ Run C N l.toArray true (fun st1 => Run C N l.toArray true (fun st2 => (dstsL (selL em 0 (l.take n0)) st1.s st2.s i n ∧ st1.nx = stE.nx ∧ st2.nx = stE.nx) ∧ Run C N l.toArray false Q (l.drop n0) st2) ((l.take n0).drop (e + 1)) ((stE.growL i n B).put (some d) (.ow i))) ((l.take n0).drop (e + 1)) stE) (l.take e) st)
    {w0 : World} {a : Act} {w : World} (S : SimE C w0 N st a w) (hq : ∀ st' a' w', Q st' → SimE C w0 N st' a' w' → Qc .normal a' w') : (Code.region id l.toArray true).wpIn (Fence.wr C.ro) 7 C.P Qc a w := by
  simp only [okReg, Bool.and_eq_true] at hok
  obtain ⟨⟨⟨⟨hup, hb⟩, hap⟩, htl⟩, hle⟩ := hok
  have hle' : n0 ≤ l.length := Nat.le_of_ble_eq_true hle
  obtain ⟨s1, e1, r1, q1⟩ := hrun.states
  have htk : (l.take e).length = e := by simp; omega
  rw [htk] at q1
  obtain ⟨bi, bn, BB, bd, hgro, q1⟩ := q1
  have hmidl : ((l.take n0).drop (e + 1)).length = n0 - (e + 1) := by simp; omega
  obtain ⟨s2, e2, r2, q2⟩ := q1.states
  rw [hmidl] at q2
  obtain ⟨s3, e3, r3, q3⟩ := q2.states
  rw [hmidl] at q3
  obtain ⟨⟨hds, hnx1, hnx2⟩, q3⟩ := q3
  obtain ⟨s4, e4, r4, q4⟩ := q3.states
  obtain ⟨sa, hsa⟩ : ∃ sa : Nat → St, sa = fun i => if i ≤ e then s1 i else s2 (i - (e + 1)) := ⟨_, rfl⟩
  obtain ⟨sb, hsb⟩ : ∃ sb : Nat → St, sb = fun i => if i ≤ e + 1 then ((s1 e).growL bi bn BB).put (some bd) (.ow bi) else if i ≤ n0 then s3 (i - (e + 1)) else s4 (i - n0) := ⟨_, rfl⟩
  have a1 : ∀ i, i ≤ e → sa i = s1 i := fun i hi => by rw [hsa]; simp [hi]
  have a2 : ∀ i, e + 1 ≤ i → sa i = s2 (i - (e + 1)) := fun i hi => by rw [hsa]; simp [show ¬ i ≤ e by omega]
  have a3 : sa (e + 1) = sa e := by rw [a2 _ (Nat.le_refl _), Nat.sub_self, e2, a1 e (Nat.le_refl _)]
  have b1 : ∀ i, i ≤ e + 1 → sb i = ((sa e).growL bi bn BB).put (some bd) (.ow bi) := fun i hi => by rw [hsb, a1 e (Nat.le_refl _)]; simp [hi]
  have b2 : ∀ i, e + 1 ≤ i → i ≤ n0 → sb i = s3 (i - (e + 1)) := fun i hi hn => by
    by_cases q : i = e + 1
    · subst q; rw [b1 _ (Nat.le_refl _), Nat.sub_self, e3, a1 e (Nat.le_refl _)]
    · rw [hsb]; simp [show ¬ i ≤ e + 1 by omega, hn]
  have b3 : ∀ i, n0 ≤ i → sb i = s4 (i - n0) := fun i hi => by
    by_cases q : i = n0
    · subst q; rw [b2 _ (by omega) (Nat.le_refl _), Nat.sub_self, e4]
    · rw [hsb]; simp [show ¬ i ≤ e + 1 by omega, show ¬ i ≤ n0 by omega]
  have getm : ∀ i o, e + 1 ≤ i → i < n0 → l[i]? = some o → ((l.take n0).drop (e + 1))[i - (e + 1)]? = some o := fun i o h1 h2 ho => by
    rw [List.getElem?_drop, show e + 1 + (i - (e + 1)) = i by omega, List.getElem?_take, if_pos h2]; exact ho
  have oneA : ∀ i o, i < n0 → i ≠ e → l[i]? = some o → One C N l.toArray true o (sa i) (sa (i + 1)) := fun i o hi hne ho => by
    rcases Nat.lt_or_gt_of_ne hne with h | h
    · rw [a1 i (by omega), a1 (i + 1) h]
      exact r1 i o (by rw [List.getElem?_take, if_pos h]; exact ho)
    · rw [a2 i h, a2 (i + 1) (by omega), show i + 1 - (e + 1) = (i - (e + 1)) + 1 by omega]
      exact r2 _ o (getm i o h hi ho)
  have oneB : ∀ i o, e < i → i < n0 → l[i]? = some o → One C N l.toArray true o (sb i) (sb (i + 1)) := fun i o hei hi ho => by
    rw [b2 i hei (by omega), b2 (i + 1) (by omega) hi, show i + 1 - (e + 1) = (i - (e + 1)) + 1 by omega]
    exact r3 _ o (getm i o hei hi ho)
  have chA : Chain C N l n0 sa := ⟨fun i o hi ho => by
      by_cases he : i = e
      · subst he; exact .inr a3
      · exact .inl (oneA i o hi he ho), hle'⟩
  have chB : Chain C N l n0 sb := ⟨fun i o hi ho => by
      by_cases he : i ≤ e
      · exact .inr (by rw [b1 i (by omega), b1 (i + 1) (by omega)])
      · exact .inl (oneB i o (by omega) hi ho), hle'⟩
  have post : ∀ i o, n0 ≤ i → l[i]? = some o → One C N l.toArray false o (sb i) (sb (i + 1)) := fun i o hi ho => by
      rw [b3 i hi, b3 (i + 1) (by omega), show i + 1 - n0 = (i - n0) + 1 by omega]
      exact r4 (i - n0) o (by rw [List.getElem?_drop, show n0 + (i - n0) = i by omega]; exact ho)
  have hend : Q (sb l.length) := by
    rw [b3 _ hle']; simpa using q4
  have hAe : (sa n0).nx = (sa e).nx := by rw [a2 n0 (by omega), a1 e (Nat.le_refl _)]; exact hnx1
  have hBe : (sb n0).nx = (sb 0).nx := by
    rw [b2 n0 (by omega) (Nat.le_refl _), b1 0 (by omega), a1 e (Nat.le_refl _)]; exact hnx2
  have lit : ∀ i, e ≤ i → i < n0 → (sa (i + 1)).nx = (sa i).nx ∧ (sa (i + 1)).h = (sa i).h := fun i hei hi => by
    obtain ⟨o, ho, h1⟩ := chA.one hi
    have m1 := chA.nx_mono (i := e) (j := i) hei (by omega)
    have m2 := chA.nx_mono (i := i + 1) (j := n0) hi (Nat.le_refl _)
    rcases h1.slot.2 with h2 | ⟨h2, _⟩
    · exact h2
    · omega
  have litB : ∀ i, i < n0 → (sb (i + 1)).nx = (sb i).nx ∧ (sb (i + 1)).h = (sb i).h := fun i hi => by
    obtain ⟨o, ho, h1⟩ := chB.one hi
    have m1 := chB.nx_mono (i := 0) (j := i) (Nat.zero_le _) (by omega)
    have m2 := chB.nx_mono (i := i + 1) (j := n0) hi (Nat.le_refl _)
    rcases h1.slot.2 with h2 | ⟨h2, _⟩
    · exact h2
    · omega
  have hBh : ∀ m, m ≤ n0 → (sb m).h = (sb 0).h := fun m => by
    induction m with
    | zero => intro _; rfl
    | succ m ih => intro hmn; rw [(litB m hmn).2, ih (by omega)]
  have hBheap : ∀ (s : Nat → Bool) m, m ≤ n0 → ∀ k, heapS sb s m k = (sb 0).h k := fun s m => by
    induction m with
    | zero => intro _ k; rfl
    | succ m ih =>
      intro hmn k
      unfold heapS
      rw [if_neg (fun hc => by have := (litB m hmn).1; omega)]
      exact ih (by omega) k
  have tail : ∀ {s : Nat → Bool}, (∀ i o, l[i]? = some o → s i = true → ∀ e ∈ o.after, Region.binds .any e = true → s e.on = true) → ∀ (i : Nat) (o : Oper), n0 ≤ i → l[i]? = some o → (∀ e ∈ o.after, Region.binds .any e = true → s e.on = true) → ∀ j, j < i → s j = true := fun hdc i o hi ho he j hj => by
    have h1 := List.all_eq_true.1 htl i (List.mem_range.2 (List.getElem?_eq_some_iff.1 ho).1)
    have : Nat.blt i n0 = false := by cases e : Nat.blt i n0; rfl; have := Nat.le_of_ble_eq_true e; omega
    rw [this, Bool.false_or] at h1
    exact bits_done hb hup hdc i o ho he j hj (List.all_eq_true.1 h1 j (List.mem_range.2 hj))
  have early : ∀ {s : Nat → Bool}, (∀ i o, l[i]? = some o → s i = true → ∀ e ∈ o.after, Region.binds .any e = true → s e.on = true) → (∀ e ∈ oo.after, Region.binds .any e = true → s e.on = true) → ∀ j, j < e → s j = true := fun hdc he j hj => by
    unfold midB at hmid
    rw [Bool.and_eq_true] at hmid
    exact bits_done hb hup hdc e oo hoo he j hj (List.all_eq_true.1 hmid.1 j (List.mem_range.2 hj))
  have full : ∀ {s : Nat → Bool} {a : Act} {w : World}, (∀ j, j < n0 → s j = true) → SimE C w0 N ⟨slotS l sb s n0, heapS sb s n0, 0⟩ a w → SimE C w0 N (sb n0) a w := fun {s} _ _ hall S => by
    refine S.cast (fun t => ?_) (fun k => ?_)
    · exact (chB.slot_eq (i := n0) (fun m hm _ => hall m hm) n0 (Nat.le_refl _) (Nat.le_refl _)).symm
    · exact (chB.heap_full hall n0 (Nat.le_refl _)).symm
  refine wpIn_region_inv hm hup (fun s a w => (∀ i o, l[i]? = some o → s i = true → ∀ e ∈ o.after, Region.binds .any e = true → s e.on = true) ∧
    (((∀ i, n0 ≤ i → s i = false) ∧ (s e = false ∧ SimE C w0 N ⟨slotS l sa s n0, heapS sa s n0, 0⟩ a w ∨ s e = true ∧ SimE C w0 N ⟨slotS l sb s n0, heapS sb s n0, 0⟩ a w)) ∨ ∃ m, n0 ≤ m ∧ (∀ i, i < l.length → (s i = true ↔ i < m)) ∧ m ≤ l.length ∧ SimE C w0 N (sb m) a w)) ?_ ?_ ?_
  · refine ⟨fun i o _ h => (by cases h), .inl ⟨fun _ _ => rfl, .inl ⟨rfl, ?_⟩⟩⟩
    have S' : SimE C w0 N st a w.drew := let ⟨J, S⟩ := S; ⟨J, S.toExt (Ext.drew w)⟩
    rw [← e1, ← a1 0 (Nat.zero_le _)] at S'
    refine S'.cast (fun t => ?_) (fun k => ?_)
    · exact slot_more (l := l) (i := 0) (fun m _ _ h => by cases h) (Nat.zero_le _)
    · have : ∀ m, heapS sa (fun _ => false) m k = (sa 0).h k := fun m => by
        induction m with
        | zero => rfl
        | succ m ih => unfold heapS; rw [if_neg (by simp)]; exact ih
      exact this n0
  · rintro s a w i o ho hs hedge ⟨hdc, hInv⟩
    have ho' : l[i]? = some o := by simpa using ho
    have hil : i < l.length := (List.getElem?_eq_some_iff.1 ho').1
    have hdc' : ∀ j oj, l[j]? = some oj → (decide (j = i) || s j) = true → ∀ e ∈ oj.after, Region.binds .any e = true → (decide (e.on = i) || s e.on) = true := fun j oj hj hsj e he hbe => by
      by_cases ej : j = i
      · subst ej; rw [ho'] at hj; cases hj; rw [hedge e he hbe]; simp
      · rw [hdc j oj hj (by simpa [ej] using hsj) e he hbe]; simp
    unfold wpOpIn
    simp only [ho]
    obtain ⟨Inv, hInvE⟩ : ∃ Inv : Act → World → Prop, Inv = fun a' w' => (∀ j oj, l[j]? = some oj → (decide (j = i) || s j) = true → ∀ e ∈ oj.after, Region.binds .any e = true → (decide (e.on = i) || s e.on) = true) ∧
          (((∀ j, n0 ≤ j → (decide (j = i) || s j) = false) ∧ ((decide (e = i) || s e) = false ∧ SimE C w0 N ⟨slotS l sa (fun j => decide (j = i) || s j) n0, heapS sa (fun j => decide (j = i) || s j) n0, 0⟩ a' w' ∨ (decide (e = i) || s e) = true ∧ SimE C w0 N ⟨slotS l sb (fun j => decide (j = i) || s j) n0, heapS sb (fun j => decide (j = i) || s j) n0, 0⟩ a' w')) ∨ ∃ m, n0 ≤ m ∧ (∀ j, j < l.length → ((decide (j = i) || s j) = true ↔ j < m)) ∧ m ≤ l.length ∧ SimE C w0 N (sb m) a' w') := ⟨_, rfl⟩
    have late : ∀ m, n0 ≤ m → (∀ i, i < l.length → (s i = true ↔ i < m)) → m ≤ l.length → SimE C w0 N (sb m) a w → n0 ≤ i →
        if Region.wanted o (yielded l.toArray a.tmps) then o.wpIn (Fence.wr C.ro) 7 C.P a w Inv Qc else Inv (a.put o.dst undef) w := by
      intro m hm hall hml S hin
      have him : i = m := by
        have h1 : ¬ i < m := fun h => by rw [(hall i hil).2 h] at hs; cases hs
        refine Classical.byContradiction fun hc => ?_
        have h2 := tail hdc i o hin ho' hedge m (by omega)
        have := (hall m (by omega)).1 h2
        omega
      subst him
      refine (post i o hin ho').wp S (fun a' w' S' => ?_)
      rw [hInvE]
      refine ⟨hdc', .inr ⟨i + 1, by omega, fun j hj => ?_, hil, S'⟩⟩
      have := hall j hj
      by_cases ej : j = i
      · subst ej; simp
      · simp only [show decide (j = i) = false by simp [ej], Bool.false_or, this]; omega
    refine both_in (fun _ _ => trivial) ?_
    suffices hgoal : if Region.wanted o (yielded l.toArray a.tmps) then o.wpIn (Fence.wr C.ro) 7 C.P a w Inv Qc else Inv (a.put o.dst undef) w by rw [hInvE] at hgoal; exact hgoal
    rcases hInv with ⟨hin, hAB⟩ | ⟨m, hm, hall, hml, S⟩
    · by_cases hi : i < n0
      · rcases hAB with ⟨hse, S⟩ | ⟨hse, S⟩
        · by_cases hie : i = e
          ·
            subst hie
            rw [hoo] at ho'; cases ho'
            have hdone := early hdc hedge
            have hheap : ∀ k, heapS sa s n0 k = (sa i).h k := fun k => by
              rw [chA.heap_here n0 (Nat.le_refl _) (fun j hj hx => by
                by_cases hji : j < i
                · exact hdone j hji
                · have := (lit j (by omega) hj).1; omega)]
              have : ∀ m, i ≤ m → m ≤ n0 → (sa m).h = (sa i).h := fun m him => by
                induction him with
                | refl => intro _; rfl
                | step h ih => intro hmn; rw [(lit _ h (by omega)).2, ih (by omega)]
              rw [this n0 (by omega) (Nat.le_refl _)]
            obtain ⟨conf2, read⟩ := chA.read hb hup (Nat.le_refl _) hap hdc hi hoo hs hedge
            have agr : Agree C oo (sa i) ⟨slotS l sa s n0, heapS sa s n0, 0⟩ := ⟨fun x hx => by
              cases x with
              | tmp t => exact read t (by unfold Oper.looksAt; simp only [List.mem_append, List.mem_filterMap]; exact .inl ⟨.tmp t, hx, rfl⟩)
              | _ => rfl, fun k B hB => .inr ⟨B, (hheap k).trans hB, .inl rfl⟩⟩
            obtain ⟨g0, gd, gw⟩ := hgro
            rw [← a1 i (Nat.le_refl _)] at gw
            have hwt : wantB ⟨slotS l sa s n0, heapS sa s n0, 0⟩ l.toArray oo = some true := by unfold wantB; rw [g0]
            rw [want_sim S hwt, if_pos rfl]
            refine gw w0 a w _ agr hheap S _ _ (fun v w' S' => ?_)
            rw [hInvE]
            refine ⟨hdc', .inl ⟨fun j hj => by rw [hin j hj]; simp; omega, .inr ⟨by simp, S'.cast (fun t => ?_) (fun k => ?_)⟩⟩⟩
            · show slotS l sb (fun j => decide (j = i) || s j) n0 t = (St.put (St.growL ⟨slotS l sa s n0, heapS sa s n0, 0⟩ bi bn BB) (some bd) (.ow bi)).s t
              by_cases hd : t = bd
              · subst hd
                have e5 : slotS l sb (fun j => decide (j = i) || s j) n0 t = slotS l sb (fun j => decide (j = i) || s j) (i + 1) t := slot_more (fun m hm hmn hsm hdm => by
                  have hmi : ¬ m = i := by omega
                  have hsm' : s m = true := by simpa [hmi] using hsm
                  have hom := List.getElem?_eq_getElem (show m < l.length by omega)
                  rw [hom] at hdm
                  have := conf2 m _ hmn hom (by omega) (by
                    cases hc : oo.apart l.toArray l[m] with
                    | false => rfl
                    | true => exact absurd hdm ((Oper.apart_spec hc).2.1 t gd))
                  rw [this] at hsm'; cases hsm') (by omega)
                rw [e5]
                show (if (decide (i = i) || s i) = true ∧ (l[i]?).bind (·.dst) = some t then (sb (i + 1)).s t else slotS l sb (fun j => decide (j = i) || s j) i t) = _
                rw [if_pos ⟨by simp, by rw [hoo]; exact gd⟩, b1 _ (Nat.le_refl _)]
                simp only [St.put, upd_same]
              · have hbase : ∀ m, m ≤ i + 1 → slotS l sb (fun j => decide (j = i) || s j) m t = killL bi bn ((sa i).s t) := fun m => by
                  induction m with
                  | zero =>
                    intro _
                    show (sb 0).s t = _
                    rw [b1 0 (by omega)]; simp only [St.put]; rw [upd_other _ _ hd]; rfl
                  | succ m ih =>
                    intro hmi
                    show (if (decide (m = i) || s m) = true ∧ (l[m]?).bind (·.dst) = some t then (sb (m + 1)).s t else slotS l sb (fun j => decide (j = i) || s j) m t) = _
                    split
                    · rw [b1 (m + 1) hmi]; simp only [St.put]; rw [upd_other _ _ hd]; rfl
                    · exact ih (by omega)
                have hA0 : slotS l sa s (i + 1) t = (sa i).s t := by
                  show (if s i = true ∧ (l[i]?).bind (·.dst) = some t then (sa (i + 1)).s t else slotS l sa s i t) = _
                  rw [if_neg (by rw [hs]; simp)]
                  exact chA.slot_eq (i := i) (fun m hm _ => hdone m hm) i (Nat.le_refl _) (by omega)
                have hstep : ∀ m, i + 1 ≤ m → m ≤ n0 → slotS l sb (fun j => decide (j = i) || s j) m t = killL bi bn (slotS l sa s m t) := fun m him => by
                  induction him with
                  | refl => intro _; rw [hbase _ (Nat.le_refl _), hA0]
                  | @step m him ih =>
                    intro hmn
                    have hmi : ¬ m = i := by have : i + 1 ≤ m := him; omega
                    show (if (decide (m = i) || s m) = true ∧ (l[m]?).bind (·.dst) = some t then (sb (m + 1)).s t else slotS l sb (fun j => decide (j = i) || s j) m t) = killL bi bn (if s m = true ∧ (l[m]?).bind (·.dst) = some t then (sa (m + 1)).s t else slotS l sa s m t)
                    by_cases hc : s m = true ∧ (l[m]?).bind (·.dst) = some t
                    · rw [if_pos ⟨by simp [hc.1], hc.2⟩, if_pos hc]
                      have hml : m < l.length := by omega
                      have hom := List.getElem?_eq_getElem hml
                      have hdm : (l[m]).dst = some t := by have := hc.2; rw [hom] at this; exact this
                      have endA : (sa (m + 1)).s t = (sa n0).s t := by
                        have : ∀ q, m + 1 ≤ q → q ≤ n0 → (sa q).s t = (sa (m + 1)).s t := fun q hq => by
                          induction hq with
                          | refl => intro _; rfl
                          | @step q hq ih2 =>
                            intro hqn
                            have hq' : m + 1 ≤ q := hq
                            obtain ⟨oq, hoq, h1⟩ := chA.one (show q < n0 by omega)
                            rw [h1.slot.1 t (fun h => (midB_light hmid (show q < n0 by omega) (show i < q by have : i + 1 ≤ m := him; omega) hoq) m _ (show i < m from him) (by omega) hom t h hdm), ih2 (by omega)]
                        exact (this n0 hmn (Nat.le_refl _)).symm
                      have endB : (sb (m + 1)).s t = (sb n0).s t := by
                        have : ∀ q, m + 1 ≤ q → q ≤ n0 → (sb q).s t = (sb (m + 1)).s t := fun q hq => by
                          induction hq with
                          | refl => intro _; rfl
                          | @step q hq ih2 =>
                            intro hqn
                            have hq' : m + 1 ≤ q := hq
                            obtain ⟨oq, hoq, h1⟩ := chB.one (show q < n0 by omega)
                            rw [h1.slot.1 t (fun h => (midB_light hmid (show q < n0 by omega) (show i < q by have : i + 1 ≤ m := him; omega) hoq) m _ (show i < m from him) (by omega) hom t h hdm), ih2 (by omega)]
                        exact (this n0 hmn (Nat.le_refl _)).symm
                      rw [endA, endB]
                      have hnb : em.testBit m = true := by
                        cases hq : em.testBit m with
                        | true => rfl
                        | false =>
                          have hlate := earlyB_at hear (show m < n0 by omega) (show i < m from him) hq
                          have hdn := bits_done hb hup hdc m _ hom (hdc m _ hom hc.1) i him hlate
                          rw [hs] at hdn; cases hdn
                      have hmem : l[m] ∈ selL em 0 (l.take n0) := selL_mem (by rw [List.getElem?_take, if_pos (show m < n0 by omega)]; exact hom) (by rw [Nat.zero_add]; exact hnb)
                      have := dstsL_mem hds hmem hdm
                      rw [a2 n0 (by omega), b2 n0 (by omega) (Nat.le_refl _)]
                      exact this.symm
                    · rw [if_neg (fun h => hc ⟨by simpa [hmi] using h.1, h.2⟩), if_neg hc]
                      exact ih (by omega)
                rw [hstep n0 (by omega) (Nat.le_refl _)]
                show _ = (St.put (St.growL ⟨slotS l sa s n0, heapS sa s n0, 0⟩ bi bn BB) (some bd) (.ow bi)).s t
                simp only [St.put]; rw [upd_other _ _ hd]; rfl
            · show heapS sb (fun j => decide (j = i) || s j) n0 k = (St.put (St.growL ⟨slotS l sa s n0, heapS sa s n0, 0⟩ bi bn BB) (some bd) (.ow bi)).h k
              rw [hBheap _ n0 (Nat.le_refl _) k, b1 0 (by omega)]
              show (bif Nat.beq k bi then some BB else ((sa i).h k).map (killB bi)) = (bif Nat.beq k bi then some BB else (heapS sa s n0 k).map (killB bi))
              rw [hheap k]
          · refine chA.step hb hup (Nat.le_refl _) hap (ov := fun _ => none) (fun _ _ h => by cases h) hdc hi ho' hs hedge S (oneA i o hi hie ho') (fun a' w' S' => ?_)
            rw [hInvE]
            refine ⟨hdc', .inl ⟨fun j hj => by rw [hin j hj]; simp; omega, .inl ⟨by rw [hse]; simp; omega, S'⟩⟩⟩
        · have hei : e < i := by
            refine Nat.lt_of_not_le fun hle2 => ?_
            rcases Nat.lt_or_eq_of_le hle2 with h | h
            · have := early hdc (hdc e oo hoo hse) i h
              rw [hs] at this; cases this
            · subst h; rw [hs] at hse; cases hse
          refine chB.step hb hup (Nat.le_refl _) hap (ov := fun _ => none) (fun _ _ h => by cases h) hdc hi ho' hs hedge S (oneB i o hei hi ho') (fun a' w' S' => ?_)
          rw [hInvE]
          refine ⟨hdc', .inl ⟨fun j hj => by rw [hin j hj]; simp; omega, .inr ⟨by rw [hse]; simp, S'⟩⟩⟩
      · have hall : ∀ j, j < n0 → s j = true := fun j hj => tail hdc i o (by omega) ho' hedge j (by omega)
        rcases hAB with ⟨hse, S⟩ | ⟨hse, S⟩
        · rw [hall e hen] at hse; cases hse
        · refine late n0 (Nat.le_refl _) (fun j hj => ⟨fun h => ?_, fun h => hall j h⟩) hle' (full hall S) (by omega)
          refine Classical.byContradiction fun hc => ?_
          rw [hin j (by omega)] at h; cases h
    · refine late m hm hall hml S ?_
      refine Classical.byContradiction fun hc => ?_
      rw [(hall i hil).2 (by omega)] at hs; cases hs
  · rintro s a w hall ⟨_, hInv⟩
    rcases hInv with ⟨hin, hAB⟩ | ⟨m, hm, hiff, hml, S⟩
    · have hn : n0 = l.length := by
        refine Classical.byContradiction fun hc => ?_
        have := hall n0 (by omega)
        rw [hin n0 (Nat.le_refl _)] at this; cases this
      rcases hAB with ⟨hse, S⟩ | ⟨hse, S⟩
      · rw [hall e (by omega)] at hse; cases hse
      · refine hq (sb l.length) a w hend ?_
        rw [← hn]
        exact full (fun j hj => hall j (by omega)) S
    · have hmm : m = l.length := by
        refine Classical.byContradiction fun hc => ?_
        have := (hiff m (by omega)).1 (hall m (by omega))
        omega
      exact hq _ a w (hmm ▸ hend) (hmm ▸ S)
structure GDL (C : Ctx) (N : Nat) (ops : Array Oper) (o : Oper) (mid ear : List Oper) (K : St → Prop) (st : St) : Prop where
  out : ∃ i n B d, GroOpL C N o st i n B d ∧ Run C N ops true (fun st1 => Run C N ops true (fun st2 => (dstsL ear st1.s st2.s i n ∧ st1.nx = st.nx ∧ st2.nx = st.nx) ∧ K st2) mid ((st.growL i n B).put (some d) (.ow i))) mid st
structure KDL (ear : List Oper) (i n nx : Nat) (K : St → Prop) (st1 st2 : St) : Prop where
  eqs : dstsL ear st1.s st2.s i n
  nx1 : st1.nx = nx
  nx2 : st2.nx = nx
  out : K st2
theorem w_draw5 {Q : Exit → St → Prop} {id : Nat} {st : St} (e n0 em : Nat) (hm : C.P.follows .mixedOrders = true) (hok : okReg l n0 = true) (hmid : (midB l (bitsOf l) e n0 && earlyB (bitsOf l) e n0 em && Nat.blt e n0) = true) {oo : Oper} (hoo : l[e]? = some oo) (h : R C N l.toArray true (GDL C N l.toArray oo ((l.take n0).drop (e + 1)) (selL em 0 (l.take n0)) (R C N l.toArray false (Q .normal) (l.drop n0))) (l.take e) st) : W C N (.region id l.toArray true) Q st := by
  rw [Bool.and_eq_true, Bool.and_eq_true] at hmid
  exact ⟨fun _w0 _a _w _Qc S hq => draw_sound5 e em hm hok hmid.1.1 hmid.1.2 (Nat.le_of_ble_eq_true hmid.2) hoo (Run.mono (fun _ g => let ⟨i, n, B, d, h1, h2⟩ := g.out; ⟨i, n, B, d, h1, Run.mono (fun _ h3 => Run.mono (fun _ h4 => ⟨h4.1, h4.2.out⟩) h3) h2⟩) h.out) S (fun _st' _a' _w' q S' => hq _ _ _ _ q S')⟩
theorem grow_len {w0 : World} {a : Act} {w w' : World} {st : St} {e sz n i d : Nat} {cs : List FV} {B : Blk} {v : Value} (hi : st.h i = some (.row e sz n cs)) (hd : d < N) (S : SimE C w0 N st a w) (S' : SimE C w0 N ((st.grow i B).put (some d) (.ow i)) (a.put (some d) v) w') : SimE C w0 N ((st.growL i n B).put (some d) (.ow i)) (a.put (some d) v) w' := by
  obtain ⟨J, S⟩ := S
  obtain ⟨J', S'⟩ := S'
  have hs : ∀ t, RepA C w' ((st.growL i n B).put (some d) (.ow i)).h J' ((a.put (some d) v).tmps.getD t undef) (((st.growL i n B).put (some d) (.ow i)).s t) := fun t => by
    have h1 := S'.slot t
    by_cases e1 : t = d
    · subst e1
      have e2 : ((st.growL i n B).put (some t) (.ow i)).s t = ((st.grow i B).put (some t) (.ow i)).s t := by simp only [St.put, upd_same]
      rw [e2]; exact h1
    · have e2 : ((st.grow i B).put (some d) (.ow i)).s t = killA i (st.s t) := by simp only [St.put]; rw [upd_other _ _ e1]; rfl
      have e3 : ((st.growL i n B).put (some d) (.ow i)).s t = killL i n (st.s t) := by simp only [St.put]; rw [upd_other _ _ e1]; rfl
      rw [e2] at h1
      rw [e3]
      cases hst : st.s t with
      | ow j =>
        by_cases ej : j = i
        · subst ej
          have r := S.slot t
          rw [hst] at r
          obtain ⟨hlv, hv⟩ := r
          obtain ⟨xs, q1, _⟩ := S.blk j _ hi
          have hg : (a.put (some d) v).tmps.getD t undef = J j := by
            rw [getD_put S.size hd, if_neg e1]; exact hv
          show RepA _ _ _ _ _ (bif Nat.beq j j then .f (.any (lenIs n)) else killA j (.ow j))
          rw [Nat.beq_refl, cond_true, hg]
          rcases q1.2 with ⟨hj, rfl⟩ | ⟨g, cap, cur, hj, _⟩
          · rw [hj]; exact RepF.any _ _ ⟨_, _, rfl⟩ rfl
          · rw [hj]; exact RepF.any _ _ ⟨_, _, rfl⟩ rfl
        · show RepA _ _ _ _ _ (bif Nat.beq j i then .f (.any (lenIs n)) else killA i (.ow j))
          rw [killA_ne ej, cond_false]
          rw [hst] at h1; exact h1
      | _ => rw [hst] at h1; exact h1
  exact ⟨J', S'.ext, S'.size, S'.defs, hs, S'.blk, S'.apart, S'.old, S'.glob, S'.fix⟩
theorem v_groL {o : Oper} {st : St} {T i n m e sz bs d : Nat} {x y : Operand} {cs ys : List FV} {zs : List Value} (ty : Ty C.P) (ho : o.op = .call { callee := .builtin .append, args := #[x, y], argTypes := #[T, T] }) (hg : o.guard = none) (hd : o.dst = some d) (hdN : dstB N o.dst = true) (hT : (ty.ty T).sl = some (e, sz, bs)) (hz : (ty.ty e).zero = some zs) (hzl : zs.length = sz) (hsz : Nat.blt 0 sz = true)
    (hx : st.ev C x = .ow i) (hi : st.h i = some (.row e sz n cs)) (hy : st.ev C y = .f (.sl m ys)) (hl : ys.length = m * sz) (h63 : n + m ≤ maxLen) (hbs : (n + m) * bs ≤ 140737488355328) : GroOpL C N o st i n (.row e sz (n + m) (cs ++ ys)) d :=
  ⟨hg, hd, fun w0 a w st' hA hh S K Q hK => e_append (st := st') ty ho hd hdN hT hz hzl (Nat.le_of_ble_eq_true hsz) ((hA.ev x (by simp [ho, Op.operands, Call.operands])).trans hx) ((hh i).trans hi) ((hA.ev y (by simp [ho, Op.operands, Call.operands])).trans hy) hl h63 hbs w0 a w S K Q (fun v w' S' => hK v w' (by
    rw [hd] at S' ⊢
    exact grow_len ((hh i).trans hi) (by rw [hd] at hdN; exact Nat.le_of_ble_eq_true hdN) S S'))⟩
theorem s_groL (ty : Ty C.P) {T0 : TypeId} {pos : String} {af : Array Edge} {K : St → Prop} {ops : Array Oper} {mid ear : List Oper} {st : St} {T i n m e sz bs d : Nat} {x y : Operand} {cs ys : List FV} {zs : List Value} (hdN : dstB N (some d) = true) (hT : (ty.ty T).sl = some (e, sz, bs)) (hz : (ty.ty e).zero = some zs) (hzl : zs.length = sz) (hsz : Nat.blt 0 sz = true)
    (hx : st.ev C x = .ow i) (hi : st.h i = some (.row e sz n cs)) (hy : st.ev C y = .f (.sl m ys)) (hl : ys.length = m * sz) (h63 : n + m ≤ maxLen) (hbs : (n + m) * bs ≤ 140737488355328)
    (h : R C N ops true (fun st1 => R C N ops true (KDL ear i n st.nx K st1) mid ((st.growL i n (.row e sz (n + m) (cs ++ ys))).put (some d) (.ow i))) mid st) : GDL C N ops ⟨some d, .call { callee := .builtin .append, args := #[x, y], argTypes := #[T, T] }, T0, pos, af, none⟩ mid ear K st :=
  ⟨i, n, _, d, v_groL ty rfl rfl rfl hdN hT hz hzl hsz hx hi hy hl h63 hbs, Run.mono (fun _ h1 => Run.mono (fun _ h2 => ⟨⟨h2.eqs, h2.nx1, h2.nx2⟩, h2.out⟩) h1.out) h.out⟩
theorem v_lenAny {o : Oper} {st : St} {T : TypeId} {x : Operand} {n E s bs : Nat} (ty : Ty C.P) (ho : o.op = .call { callee := .builtin .len, args := #[x], argTypes := #[T] }) (hd : dstB N o.dst = true) (hT : (ty.ty T).sl = some (E, s, bs)) (hx : st.ev C x = .f (.any (lenIs n))) : ValOp C N o st (.f (.v (.int .i64 n))) :=
  valop_run hd fun w0 a w J st' hA S => by
    have e1 := evF S ((hA.ev x (by simp [ho, Op.operands, Call.operands])).trans hx)
    have hu := (slE_spec ((ty.ok T).sl _ hT)).1
    generalize hv : a.eval x = v at e1
    cases e1 with
    | any _ _ h1 _ =>
      obtain ⟨ad, c, rfl⟩ := h1
      exact ⟨_, w, by simp [execOp, ho, resolve, invoke, builtin, Builtin.len_, hv, run_underlying hu, goInt], Ext.refl _, RepF.v _⟩
variable {ops : Array Oper} {pr : Bool} {K : St → Prop} {rest : List Oper} {d : Option Tmp} {T0 : TypeId} {pos : String} {af : Array Edge} {gd : Option (Nat × Bool)} {st : St}
theorem s_lenAny (ty : Ty C.P) {T : TypeId} {x : Operand} {n E s bs : Nat} (hw : wantB st ops ⟨d, .call { callee := .builtin .len, args := #[x], argTypes := #[T] }, T0, pos, af, gd⟩ = some true) (hd : dstB N d = true) (hT : (ty.ty T).sl = some (E, s, bs)) (hx : st.ev C x = .f (.any (lenIs n)))
    (h : R C N ops pr K rest (st.put d (.f (.v (.int .i64 n))))) : R C N ops pr K (⟨d, .call { callee := .builtin .len, args := #[x], argTypes := #[T] }, T0, pos, af, gd⟩ :: rest) st := ⟨r_val hw (v_lenAny ty rfl hd hT hx) h.out⟩
end
end Go.Ab
namespace Go.Proofs.YtbkdjlahhcofmaaGreatDoor
open Go Go.RowKit Go.Proofs Go.Shelf Go.Ab
theorem rowM_eq {a b : List Mb} (h : a = b) : some (Blk.row 106 4 a.length (mbsF a)) = some (Blk.row 106 4 b.length (mbsF b)) := by rw [h]
theorem nameB_le {s : Nm} (h : nameB s = true) : 1 ≤ s.length ∧ s.length ≤ 12 := Classical.byContradiction fun hn => by rw [nameB_len hn] at h; cases h
theorem neb_same (b : Bool) : (b != b) = false := by cases b <;> rfl
set_option maxRecDepth 100000 in
set_option maxHeartbeats 25600000 in
theorem TopAlertMail_s (rs : List Int) (l : List Act) (hcm : ∀ i (hi : i < l.length), l[i].cells.length ≤ 9223372036854775807) : Summ Tryz.prog GS 4 [skF rs, .sl l.length (actsF l)] (.v (.bool true)) := by
  have HA := up shown_s
  by_cases h8 : rs.length ≤ 8
  case neg =>
    refine summW Tryz.func4 rfl rfl 352 rfl (by simp) (fun M0 => ?_)
    repeat (first
    | (apply s_a TY; exact rfl)
    | (apply s_t; exact rfl; (first | assumption | omega))
    | apply w_seq
    | apply w_region
    | apply s_nil
    | apply t_norm
    | apply t_ret
    | apply w_ret
    | apply w_skip
    | (apply w_condT; exact rfl; exact rfl)
    | (apply w_condF; exact rfl; exact rfl)
    | (apply s_k (HA); exact rfl)
    | (apply s_s; exact rfl))
    exact lv_ret (ret1 rfl (res_tmp rfl))
  have HS := up (SkyErr_s rs (by omega))
  by_cases h40 : 40 < l.length
  · refine summW Tryz.func4 rfl rfl 352 rfl (by simp) (fun M0 => ?_)
    repeat (first
    | (apply s_a TY; exact rfl)
    | (apply s_t; exact rfl; (first | assumption | omega))
    | (apply s_f; exact rfl; (first | assumption | omega))
    | apply w_seq
    | apply w_region
    | apply s_nil
    | apply t_norm
    | apply t_ret
    | apply w_ret
    | apply w_skip
    | (apply w_condT; exact rfl; exact rfl)
    | (apply w_condF; exact rfl; exact rfl)
    | (apply s_k (HA); exact rfl)
    | (apply s_s; exact rfl))
    exact lv_ret (ret1 rfl (res_tmp rfl))
  by_cases he : (skyChk rs).2 = 0
  case neg =>
    refine summW Tryz.func4 rfl rfl 352 rfl (by simp) (fun M0 => ?_)
    repeat (first
    | (apply s_a TY; exact rfl)
    | (apply s_f; exact rfl; (first | assumption | omega))
    | apply w_seq
    | apply w_region
    | apply s_nil
    | apply t_norm
    | apply t_ret
    | apply w_ret
    | apply w_skip
    | (apply w_condT; exact rfl; exact rfl)
    | (apply w_condF; exact rfl; exact rfl)
    | (apply s_k (HA); exact rfl)
    | (apply s_k (HS); exact rfl)
    | (apply s_s; exact rfl))
    exact lv_ret (ret1 rfl (res_tmp rfl))
  have o := skyOk_of he
  rw [he] at HS
  have hlc := skyC_len o
  have HK := up (ActsErr_b rs o l (by omega) hcm)
  rw [← hlc] at HK
  rcases chk_ref (c := ((skyC rs).length : Nat)) (l := l) h40 with ⟨hall, hac⟩ | ⟨q, hq, hz, hne, hac⟩
  case inr =>
    rw [hac] at HK
    generalize runE ((skyC rs).length : Nat) l q = E at *
    refine summW Tryz.func4 rfl rfl 352 rfl (by simp) (fun M0 => ?_)
    repeat (first
    | (apply s_a TY; exact rfl)
    | (apply s_t; exact rfl; (first | assumption | omega))
    | (apply s_f; exact rfl; (first | assumption | omega))
    | apply w_seq
    | apply w_region
    | apply s_nil
    | apply t_norm
    | apply t_ret
    | apply w_ret
    | apply w_skip
    | (apply w_condT; exact rfl; exact rfl)
    | (apply w_condF; exact rfl; exact rfl)
    | (apply s_k (HA); exact rfl)
    | (apply s_k (HS); exact rfl)
    | (apply s_k (HK); exact rfl))
    exact lv_ret (ret1 rfl (res_tmp rfl))
  rw [hac] at HK
  have hbl := befK_bd o (Nat.le_refl rs.length)
  have hol := o.len
  have hcl : ∀ i (hi : i < l.length), l[i].cells.length ≤ 1000000 := fun i hi => by
    have h := cels_few (act_facts hall hi).2.2
    omega
  have hcd : ∀ i, i < l.length → (l.getD i default).cells.length ≤ 1000000 := fun i hi => by rw [getD_at hi]; exact hcl i hi
  have HCp := up (CopySky_s rs (by omega))
  have HCa := up (CopyActs_s l (by omega) hcl)
  refine summW Tryz.func4 rfl rfl 352 rfl (by simp) (fun M0 => ?_)
  repeat (first
    | (apply s_a TY; exact rfl)
    | (apply s_t; exact rfl; (first | assumption | omega))
    | (apply s_f; exact rfl; (first | assumption | omega))
    | apply w_seq
    | apply w_region
    | apply s_nil
    | apply t_norm
    | apply w_block
    | apply w_skip
    | (apply w_condF; exact rfl; exact rfl)
    | (apply s_k (HA); exact rfl)
    | (apply s_k (HS); exact rfl)
    | (apply s_k (HK); exact rfl))
  apply w_gh (gh_own 5 106 4 rfl rfl)
  apply w_loop (fun q : Nat × Nat => ⟨(Ab.upd (Ab.upd (Ab.upd (Ab.upd (Ab.upd (fun _ => .bot) 1 (.f (.sl l.length (actsF l)))) 2 (.f (.pt [.sl rs.length (intsF rs)] 0))) 5 (.ow 0)) 6 (.f (iv ((q.2 : Nat) : Int)))) 7 (.f (iv ((q.1 : Nat) : Int)))), (Ab.upd (fun _ => none) 0 (some (.row 106 4 (mailO l q.1).length (mbsF (mailO l q.1))))), 1⟩) (fun q => q.1 ≤ l.length ∧ (keyO l q.1).length ≤ q.2 ∧ q.2 ≤ q.1 * 40) (fun q => l.length - q.1) (0, 0) ⟨Nat.zero_le _, Nat.le_refl _, Nat.le_refl _⟩ (gh_le ⟨le_upd rfl trivial (le_upd rfl trivial (le_upd rfl rfl (le_upd rfl trivial (le_upd rfl trivial (le_nil _))))), le_hupd rfl trivial (le_h0 _ _)⟩)
  rintro ⟨i, t⟩ ⟨hi, hk1, hk2⟩
  change i ≤ l.length at hi
  change (keyO l i).length ≤ t at hk1
  change t ≤ i * 40 at hk2
  change W _ _ _ _ (⟨(Ab.upd (Ab.upd (Ab.upd (Ab.upd (Ab.upd (fun _ => .bot) 1 (.f (.sl l.length (actsF l)))) 2 (.f (.pt [.sl rs.length (intsF rs)] 0))) 5 (.ow 0)) 6 (.f (iv ((t : Nat) : Int)))) 7 (.f (iv ((i : Nat) : Int)))), (Ab.upd (fun _ => none) 0 (some (.row 106 4 (mailO l i).length (mbsF (mailO l i))))), 1⟩)
  by_cases hic : i < l.length
  · by_cases h2 : l[i].kind < 2
    · obtain ⟨hs1, hs2⟩ := mail_skip hic h2
      repeat (first
    | (apply s_a TY; exact rfl)
    | (apply s_t; exact rfl; (first | assumption | omega))
    | apply w_seq
    | apply w_region
    | apply s_nil
    | apply t_norm
    | apply t_exit
    | apply k_hit
    | apply w_block
    | apply w_exit
    | apply w_skip
    | (apply w_condT; exact rfl; exact rfl)
    | (apply s_c TY; exact rfl; (first | omega | exact ⟨by omega, by (first | with_reducible assumption | ((with_reducible apply actsF_ne); omega) | ((with_reducible apply mbsF_ne); omega) | ((with_reducible apply strsF_ne); omega) | ((with_reducible apply astsF_ne); omega) | assumption)⟩))
    | (apply s_l TY; exact rfl; (first | exact rfl | with_reducible assumption | ((with_reducible apply actsF_f0); omega) | ((with_reducible apply actsF_f1); omega) | ((with_reducible apply actsF_f2); omega) | ((with_reducible apply mbsF_f0); omega) | ((with_reducible apply mbsF_f1); omega) | ((with_reducible apply mbsF_f2); omega) | ((with_reducible apply mbsF_f3); omega) | ((with_reducible apply strsF_at); omega) | ((with_reducible apply astsF_f0); omega) | ((with_reducible apply astsF_f1); omega) | ((with_reducible apply astsF_f2); omega) | ((with_reducible apply astsF_f3); omega) | ((with_reducible apply astsF_f4); omega) | assumption)))
      have hrow := rowM_eq hs2.symm
      exact ⟨(i + 1, t), ⟨hic, by rw [hs1]; exact hk1, by show t ≤ (i + 1) * 40; omega⟩, by show l.length - (i + 1) < l.length - i; omega, gh_le ⟨le_upd rfl trivial (le_upd rfl trivial (le_upd rfl rfl (le_upd rfl trivial (le_upd rfl trivial (le_nil _))))), le_hupd hrow trivial (le_h0 _ _)⟩⟩
    have h22 : 2 ≤ l[i].kind := by omega
    obtain ⟨hkd, hnb, hcc⟩ := act_facts hall hic
    obtain ⟨hsin, hv1, hv2⟩ := ver_in hall hic h22
    have hcok := cel_ok hall l[i].name (i + 1) (by omega)
    have hcf := cels_few hcok
    obtain ⟨hcz, hcp⟩ := celsE_of hcok
    have hlk : (l.take (i + 1)).length = i + 1 := by rw [List.length_take]; omega
    have HRc := up (RecipientsOf_ok rs o l (by omega) hcd hall i hic (by omega) (by omega))
    rw [runW_ix hic, getD_at hic, told_ref hic hall h22] at HRc
    have hwl := told_few hic
    have HR2 := replay_ok rs o (l.take (i + 1)) (by omega) (fun j hj => by
      rw [getD_at hj, List.getElem_take]; exact hcl j (by omega)) (fun j hj => by
      rw [runE_take _ l (by omega)]; exact hall j (by omega))
    have hall2 : ∀ j, j < (l.take (i + 1)).length → runE ((skyC rs).length : Nat) (l.take (i + 1)) j = 0 := fun j hj => by
      rw [runE_take _ l (by omega)]; exact hall j (by omega)
    have inv2 := inv_run (c := ((skyC rs).length : Nat)) (l := l.take (i + 1)) (k := (l.take (i + 1)).length) hall2
    have hal2 := inv2.al
    have HSt := up (StatesOf_ok rs (l.take (i + 1)) _ _ _ _ (by omega) (inv_in inv2 (by omega)) HR2)
    rw [states_ref hall2] at HSt
    obtain ⟨hX, hEx⟩ := sts_at l (k := i + 1) (by omega)
    obtain ⟨xa, hxa, hxn⟩ := hEx l[i].name hsin
    have hXl := stsK_len (l.take (i + 1)) (l.take (i + 1)).length
    have HCa2 := up (CopyActs_s (l.take (i + 1)) (by omega) (fun j hj => by rw [List.getElem_take]; exact hcl j (by omega)))
    generalize stsK (l.take (i + 1)) (l.take (i + 1)).length = X at *
    rw [hlk] at HSt HCa2 hXl
    have hpl := pplK_len l i
    have hps := sortedN_len (pplK l i)
    have HPe := up (PeopleK_s l i (by omega) (by omega))
    have hme := mail_end hic h22 hkd.2
    have hml := mail_len hic h22 hkd.2
    have hnd := (told_asc hic).nodup ltSOk
    have htp : l[i].kind ≠ 4 → toldS ltS l i = sortedN ltS (pplK l i) := fun h => by rw [toldS_at hic, if_neg h]
    have hkt : l[i].kind = 4 → ∀ n, n ∈ toldS ltS l i → (n, l[i].name) ∈ keyO l i := fun h4 n hn => key_told (c := ((skyC rs).length : Nat)) hall hic h4 hn
    generalize toldS ltS l i = TW at *
    have htk : (actsF l).take ((i + 1) * 3) = actsF (l.take (i + 1)) := actsF_take l (i + 1)
    repeat (first
    | (apply s_sliceTo TY (m := i + 1); exact rfl; exact rfl; exact rfl; exact rfl; exact rfl; omega; exact htk)
    | (apply s_a TY; exact rfl)
    | (apply s_t; exact rfl; (first | assumption | omega))
    | (apply s_f; exact rfl; (first | assumption | omega))
    | apply w_seq
    | apply w_region
    | (apply w_draw (id := 14) 12 rfl (by kernel_rfl))
    | apply s_nil
    | apply t_norm
    | apply w_block
    | apply w_skip
    | (apply w_condT; exact rfl; exact rfl)
    | (apply w_condF; exact rfl; exact rfl)
    | (apply s_k (HCp); exact rfl)
    | (apply s_k (HCa); exact rfl)
    | (apply s_k (HRc); exact rfl)
    | (apply s_k (HSt); exact rfl)
    | (apply s_k (HCa2); exact rfl)
    | (apply s_c TY; exact rfl; (first | omega | exact ⟨by omega, by (first | with_reducible assumption | ((with_reducible apply actsF_ne); omega) | ((with_reducible apply mbsF_ne); omega) | ((with_reducible apply strsF_ne); omega) | ((with_reducible apply astsF_ne); omega) | assumption)⟩))
    | (apply s_l TY; exact rfl; (first | exact rfl | with_reducible assumption | ((with_reducible apply actsF_f0); omega) | ((with_reducible apply actsF_f1); omega) | ((with_reducible apply actsF_f2); omega) | ((with_reducible apply mbsF_f0); omega) | ((with_reducible apply mbsF_f1); omega) | ((with_reducible apply mbsF_f2); omega) | ((with_reducible apply mbsF_f3); omega) | ((with_reducible apply strsF_at); omega) | ((with_reducible apply astsF_f0); omega) | ((with_reducible apply astsF_f1); omega) | ((with_reducible apply astsF_f2); omega) | ((with_reducible apply astsF_f3); omega) | ((with_reducible apply astsF_f4); omega) | assumption)))
    clear htk
    apply w_loop (fun q : Nat × Int × List Int => ⟨(Ab.upd (Ab.upd (Ab.upd (Ab.upd (Ab.upd (Ab.upd (Ab.upd (Ab.upd (Ab.upd (Ab.upd (fun _ => .bot) 1 (.f (.sl l.length (actsF l)))) 2 (.f (.pt [.sl rs.length (intsF rs)] 0))) 5 (.ow 0)) 6 (.f (iv ((t : Nat) : Int)))) 7 (.f (iv ((i : Nat) : Int)))) 8 (.f (.sl TW.length (strsF TW)))) 10 (.f (.sl X.length (astsF X)))) 12 (.f (iv q.2.1))) 13 (.f (.sl q.2.2.length (intsF q.2.2)))) 14 (.f (iv ((q.1 : Nat) : Int)))), (Ab.upd (fun _ => none) 0 (some (.row 106 4 (mailO l i).length (mbsF (mailO l i))))), 1⟩) (fun q => q.1 ≤ X.length ∧ ((q.2.1 = (verK l l[i].name (i + 1)) ∧ q.2.2 = (celK l l[i].name (i + 1))) ∨ (q.2.1 = 0 ∧ q.2.2 = [] ∧ ∀ a (ha : a < X.length), a < q.1 → X[a].name ≠ l[i].name))) (fun q => X.length - q.1) (0, 0, []) ⟨Nat.zero_le _, .inr ⟨rfl, rfl, fun a _ h => absurd h (Nat.not_lt_zero a)⟩⟩ (gh_le ⟨le_upd rfl trivial (le_upd rfl trivial (le_upd rfl trivial (le_upd rfl trivial (le_upd rfl trivial (le_upd rfl trivial (le_upd rfl trivial (le_upd rfl rfl (le_upd rfl trivial (le_upd rfl trivial (le_nil _)))))))))), le_hupd rfl trivial (le_h0 _ _)⟩)
    rintro ⟨k, v, cs⟩ ⟨hk, hvc⟩
    change k ≤ X.length at hk
    change (v = (verK l l[i].name (i + 1)) ∧ cs = (celK l l[i].name (i + 1))) ∨ (v = 0 ∧ cs = [] ∧ ∀ a (ha : a < X.length), a < k → X[a].name ≠ l[i].name) at hvc
    change W _ _ _ _ (⟨(Ab.upd (Ab.upd (Ab.upd (Ab.upd (Ab.upd (Ab.upd (Ab.upd (Ab.upd (Ab.upd (Ab.upd (fun _ => .bot) 1 (.f (.sl l.length (actsF l)))) 2 (.f (.pt [.sl rs.length (intsF rs)] 0))) 5 (.ow 0)) 6 (.f (iv ((t : Nat) : Int)))) 7 (.f (iv ((i : Nat) : Int)))) 8 (.f (.sl TW.length (strsF TW)))) 10 (.f (.sl X.length (astsF X)))) 12 (.f (iv v))) 13 (.f (.sl cs.length (intsF cs)))) 14 (.f (iv ((k : Nat) : Int)))), (Ab.upd (fun _ => none) 0 (some (.row 106 4 (mailO l i).length (mbsF (mailO l i))))), 1⟩)
    by_cases hkx : k < X.length
    · by_cases hne : X[k].name = l[i].name
      · have hXk := hX k hkx
        rw [hne] at hXk
        repeat (first
    | (apply s_bind; exact rfl; exact rfl; exact rfl; exact rfl; exact rfl; exact rfl; exact eqs_t (by assumption))
    | (apply s_a TY; exact rfl)
    | (apply s_t; exact rfl; (first | assumption | omega))
    | apply w_seq
    | apply w_region
    | (apply w_draw (id := 21) 10 rfl (by kernel_rfl))
    | (apply w_draw (id := 22) 11 rfl (by kernel_rfl))
    | apply s_nil
    | apply t_norm
    | apply k_norm
    | apply w_block
    | apply w_skip
    | (apply w_condT; exact rfl; exact rfl)
    | (apply s_c TY; exact rfl; (first | omega | exact ⟨by omega, by (first | with_reducible assumption | ((with_reducible apply actsF_ne); omega) | ((with_reducible apply mbsF_ne); omega) | ((with_reducible apply strsF_ne); omega) | ((with_reducible apply astsF_ne); omega) | assumption)⟩))
    | (apply s_l TY; exact rfl; (first | exact rfl | with_reducible assumption | ((with_reducible apply actsF_f0); omega) | ((with_reducible apply actsF_f1); omega) | ((with_reducible apply actsF_f2); omega) | ((with_reducible apply mbsF_f0); omega) | ((with_reducible apply mbsF_f1); omega) | ((with_reducible apply mbsF_f2); omega) | ((with_reducible apply mbsF_f3); omega) | ((with_reducible apply strsF_at); omega) | ((with_reducible apply astsF_f0); omega) | ((with_reducible apply astsF_f1); omega) | ((with_reducible apply astsF_f2); omega) | ((with_reducible apply astsF_f3); omega) | ((with_reducible apply astsF_f4); omega) | assumption)))
        exact ⟨(k + 1, X[k].version, X[k].cells), ⟨hkx, .inl hXk⟩, by show X.length - (k + 1) < X.length - k; omega, gh_le ⟨le_upd rfl trivial (le_upd rfl trivial (le_upd rfl trivial (le_upd rfl trivial (le_upd rfl trivial (le_upd rfl trivial (le_upd rfl trivial (le_upd rfl rfl (le_upd rfl trivial (le_upd rfl trivial (le_nil _)))))))))), le_hupd rfl trivial (le_h0 _ _)⟩⟩
      · repeat (first
    | (apply s_bind; exact rfl; exact rfl; exact rfl; exact rfl; exact rfl; exact rfl; exact eqs_f (by assumption))
    | (apply s_a TY; exact rfl)
    | (apply s_t; exact rfl; (first | assumption | omega))
    | apply w_seq
    | apply w_region
    | (apply w_draw (id := 21) 10 rfl (by kernel_rfl))
    | apply s_nil
    | apply t_norm
    | apply k_norm
    | apply w_block
    | apply w_skip
    | (apply w_condT; exact rfl; exact rfl)
    | (apply w_condF; exact rfl; exact rfl)
    | (apply s_c TY; exact rfl; (first | omega | exact ⟨by omega, by (first | with_reducible assumption | ((with_reducible apply actsF_ne); omega) | ((with_reducible apply mbsF_ne); omega) | ((with_reducible apply strsF_ne); omega) | ((with_reducible apply astsF_ne); omega) | assumption)⟩))
    | (apply s_l TY; exact rfl; (first | exact rfl | with_reducible assumption | ((with_reducible apply actsF_f0); omega) | ((with_reducible apply actsF_f1); omega) | ((with_reducible apply actsF_f2); omega) | ((with_reducible apply mbsF_f0); omega) | ((with_reducible apply mbsF_f1); omega) | ((with_reducible apply mbsF_f2); omega) | ((with_reducible apply mbsF_f3); omega) | ((with_reducible apply strsF_at); omega) | ((with_reducible apply astsF_f0); omega) | ((with_reducible apply astsF_f1); omega) | ((with_reducible apply astsF_f2); omega) | ((with_reducible apply astsF_f3); omega) | ((with_reducible apply astsF_f4); omega) | assumption)))
        exact ⟨(k + 1, v, cs), ⟨hkx, hvc.imp id fun h => ⟨h.1, h.2.1, fun a ha hak => by
          by_cases e : a = k
          · subst e; exact hne
          · exact h.2.2 a ha (by omega)⟩⟩, by show X.length - (k + 1) < X.length - k; omega, gh_le ⟨le_upd rfl trivial (le_upd rfl trivial (le_upd rfl trivial (le_upd rfl trivial (le_upd rfl trivial (le_upd rfl trivial (le_upd rfl trivial (le_upd rfl rfl (le_upd rfl trivial (le_upd rfl trivial (le_nil _)))))))))), le_hupd rfl trivial (le_h0 _ _)⟩⟩
    have hkX : k = X.length := by omega
    subst hkX
    obtain ⟨hvV, hcC⟩ : v = (verK l l[i].name (i + 1)) ∧ cs = (celK l l[i].name (i + 1)) := by
      rcases hvc with h | h
      · exact h
      · exact absurd hxn (h.2.2 xa hxa hxa)
    clear hvc
    rw [← hcC] at hcok hcf hcz hcp
    rw [← hvV] at hv1 hv2
    have HB := up (bwithin_T v 1 l.length ⟨by omega, by omega⟩)
    have HE := up (rCellsErr_s rs cs o (by omega))
    rw [← hlc, hcok] at HE
    have HCI := up (CopyInts_s cs (by omega))
    have hi64 : I64 ([v, ((i : Nat) : Int)] ++ cs) := fun z hz => by
      rcases List.mem_append.1 hz with h | h
      · rcases List.mem_cons.1 h with h | h
        · subst h; omega
        · rw [List.mem_singleton] at h; subst h; omega
      · have := hcz z h; omega
    have hnl := nameB_le hnb
    have HFm := FormatNotice_s ⟨l[i].name, v, ((i : Nat) : Int), cs⟩ (by show l[i].name.length ≤ _; omega) (by show cs.length ≤ _; omega) hi64
    have hwS := wordsS_len hi64
    rw [len_two] at hwS
    have htl : (ntcS ⟨l[i].name, v, ((i : Nat) : Int), cs⟩).length ≤ 10000 := by
      unfold ntcS
      rw [List.length_append, List.length_append]
      show l[i].name.length + 1 + (wordsS ([v, ((i : Nat) : Int)] ++ cs)).length ≤ _
      omega
    have HPn := ParseNotice_s (ntcS ⟨l[i].name, v, ((i : Nat) : Int), cs⟩) htl
    unfold ntcR at HPn
    rw [ntc_again (x := ⟨l[i].name, v, ((i : Nat) : Int), cs⟩) hnb (by show 1 ≤ v ∧ v ≤ 1000; omega) (by show 0 ≤ ((i : Nat) : Int) ∧ ((i : Nat) : Int) ≤ _; omega) hcp (fun z hz => by have := hcz z hz; omega)] at HPn
    change Summ _ _ _ [.agg ([sv l[i].name, iv v, iv ((i : Nat) : Int)] ++ [.sl cs.length (intsF cs)])] _ at HFm
    change Summ _ _ _ _ (.tup [.agg ([sv l[i].name, iv v, iv ((i : Nat) : Int)] ++ [.sl cs.length (intsF cs)]), iv 0]) at HPn
    generalize ntcS ⟨l[i].name, v, ((i : Nat) : Int), cs⟩ = TX at HFm HPn
    have HI := up (Ints_s cs cs (by omega) (by omega))
    rw [decide_eq_true rfl] at HI
    repeat (first
    | (apply s_a TY; exact rfl)
    | (apply s_t; exact rfl; (first | assumption | omega))
    | (apply s_f; exact rfl; (first | assumption | omega))
    | apply w_seq
    | apply w_region
    | (apply w_draw (id := 25) 9 rfl (by kernel_rfl))
    | apply s_nil
    | apply t_norm
    | apply t_exit
    | apply k_hit
    | apply w_block
    | apply w_exit
    | apply w_skip
    | (apply w_condF; exact rfl; exact rfl)
    | (apply s_k (HB); exact rfl)
    | (apply s_k (HE); exact rfl)
    | (apply s_k (HCI); exact rfl)
    | (apply s_k (HFm); exact rfl)
    | (apply s_c TY; exact rfl; (first | omega | exact ⟨by omega, by (first | with_reducible assumption | ((with_reducible apply actsF_ne); omega) | ((with_reducible apply mbsF_ne); omega) | ((with_reducible apply strsF_ne); omega) | ((with_reducible apply astsF_ne); omega) | assumption)⟩))
    | (apply s_l TY; exact rfl; (first | exact rfl | with_reducible assumption | ((with_reducible apply actsF_f0); omega) | ((with_reducible apply actsF_f1); omega) | ((with_reducible apply actsF_f2); omega) | ((with_reducible apply mbsF_f0); omega) | ((with_reducible apply mbsF_f1); omega) | ((with_reducible apply mbsF_f2); omega) | ((with_reducible apply mbsF_f3); omega) | ((with_reducible apply strsF_at); omega) | ((with_reducible apply astsF_f0); omega) | ((with_reducible apply astsF_f1); omega) | ((with_reducible apply astsF_f2); omega) | ((with_reducible apply astsF_f3); omega) | ((with_reducible apply astsF_f4); omega) | assumption)))
    apply w_loop (fun k : Nat => ⟨(Ab.upd (Ab.upd (Ab.upd (Ab.upd (Ab.upd (Ab.upd (Ab.upd (Ab.upd (Ab.upd (Ab.upd (fun _ => .bot) 1 (.f (.sl l.length (actsF l)))) 2 (.f (.pt [.sl rs.length (intsF rs)] 0))) 5 (.ow 0)) 6 (.f (iv (((t + TW.length : Nat)) : Int)))) 7 (.f (iv ((i : Nat) : Int)))) 8 (.f (.sl TW.length (strsF TW)))) 12 (.f (iv v))) 13 (.f (.sl cs.length (intsF cs)))) 15 (.f (sv TX))) 16 (.f (iv ((k : Nat) : Int)))), (Ab.upd (fun _ => none) 0 (some (.row 106 4 (midM (keyO l i) l[i].name (TW.take k) (mbAt l i) (mbTo l i)).length (mbsF (midM (keyO l i) l[i].name (TW.take k) (mbAt l i) (mbTo l i)))))), 1⟩) (fun k => k ≤ TW.length) (fun k => TW.length - k) 0 (Nat.zero_le _) (gh_le ⟨le_upd rfl trivial (le_upd rfl trivial (le_upd rfl trivial (le_upd rfl trivial (le_upd rfl trivial (le_upd rfl trivial (le_upd (congrArg (fun z => AV.f (iv z)) (Int.natCast_add t TW.length)) trivial (le_upd rfl rfl (le_upd rfl trivial (le_upd rfl trivial (le_nil _)))))))))), le_hupd (rowM_eq (midM_nil _ _ _ _).symm) trivial (le_h0 _ _)⟩)
    intro k hk
    by_cases hkw : k < TW.length
    · have htk2 := List.take_succ_eq_append_getElem hkw
      have hnn : l[i].name = l[i].name := rfl
      have hwk : (strsF TW)[k * 1]? = some (sv TW[k]) := strsF_at hkw
      have hnk : (TW.take k ++ [TW[k]]).Nodup := by rw [← htk2]; exact hnd.sublist (List.take_sublist _ _)
      have hKl := midK_len (keyO l i) l[i].name (TW.take k)
      have hKt : (TW.take k).length = k := by rw [List.length_take]; omega
      have hMl := midM_len (keyO l i) l[i].name (TW.take k) (mbAt l i) (mbTo l i)
      have hMk := @midM_key (keyO l i) l[i].name (TW.take k) (mbAt l i) (mbTo l i) (mbAt_key l i) (mbTo_key l i)
      have hold := @midB_old (keyO l i) l[i].name TW[k] (TW.take k) (mbAt l i) (mbTo l i) (keyO_nd l i) hnk
      have hnew := @midB_new (keyO l i) l[i].name TW[k] (TW.take k) (mbAt l i) (mbTo l i) hnk
      rw [← htk2] at hold hnew
      obtain ⟨M, hM⟩ : ∃ M, M = (midM (keyO l i) l[i].name (TW.take k) (mbAt l i) (mbTo l i)) := ⟨_, rfl⟩
      obtain ⟨KK, hKK⟩ : ∃ KK, KK = (midK (keyO l i) l[i].name (TW.take k)) := ⟨_, rfl⟩
      have hndK : KK.Nodup := by rw [hKK]; exact midK_nd (keyO_nd l i) (hnd.sublist (List.take_sublist _ _))
      simp only [← hM, ← hKK] at hKl hMl hMk hold hnew ⊢
      repeat (first
    | (apply s_a TY; exact rfl)
    | (apply s_t; exact rfl; (first | assumption | omega))
    | apply w_seq
    | apply w_region
    | apply s_nil
    | apply t_norm
    | apply w_block
    | apply w_skip
    | (apply w_condT; exact rfl; exact rfl)
    | (apply s_k (HPn); exact rfl)
    | (apply s_alloc TY; exact rfl; exact rfl; exact rfl)
    | (apply s_store TY; exact rfl; exact rfl; exact rfl; exact rfl; exact rfl; exact rfl))
      apply w_gh (gh_box 1 (cs := [sv l[i].name, iv v, iv ((i : Nat) : Int), .sl cs.length (intsF cs)]) rfl rfl)
      repeat (first
    | (apply s_bind; exact rfl; exact rfl; exact rfl; exact rfl; exact rfl; exact rfl; exact nes_f (by assumption))
    | (apply s_a TY; exact rfl)
    | (apply s_t; exact rfl; (first | assumption | omega))
    | apply w_seq
    | apply w_region
    | (apply w_draw (id := 31) 28 rfl (by kernel_rfl))
    | apply s_nil
    | apply t_norm
    | apply w_block
    | apply w_skip
    | (apply w_condF; exact rfl; exact rfl)
    | (apply s_k (HI); exact rfl)
    | (apply s_c TY; exact rfl; (first | omega | exact ⟨by omega, by (first | with_reducible assumption | ((with_reducible apply actsF_ne); omega) | ((with_reducible apply mbsF_ne); omega) | ((with_reducible apply strsF_ne); omega) | ((with_reducible apply astsF_ne); omega) | assumption)⟩))
    | (apply s_l TY; exact rfl; (first | exact rfl | with_reducible assumption | ((with_reducible apply actsF_f0); omega) | ((with_reducible apply actsF_f1); omega) | ((with_reducible apply actsF_f2); omega) | ((with_reducible apply mbsF_f0); omega) | ((with_reducible apply mbsF_f1); omega) | ((with_reducible apply mbsF_f2); omega) | ((with_reducible apply mbsF_f3); omega) | ((with_reducible apply strsF_at); omega) | ((with_reducible apply astsF_f0); omega) | ((with_reducible apply astsF_f1); omega) | ((with_reducible apply astsF_f2); omega) | ((with_reducible apply astsF_f3); omega) | ((with_reducible apply astsF_f4); omega) | assumption)))
      apply w_loop (fun q : Nat × Int => ⟨(Ab.upd (Ab.upd (Ab.upd (Ab.upd (Ab.upd (Ab.upd (Ab.upd (Ab.upd (Ab.upd (Ab.upd (Ab.upd (Ab.upd (Ab.upd (fun _ => .bot) 1 (.f (.sl l.length (actsF l)))) 2 (.f (.pt [.sl rs.length (intsF rs)] 0))) 5 (.ow 0)) 6 (.f (iv (((t + TW.length : Nat)) : Int)))) 7 (.f (iv ((i : Nat) : Int)))) 8 (.f (.sl TW.length (strsF TW)))) 12 (.f (iv v))) 13 (.f (.sl cs.length (intsF cs)))) 15 (.f (sv TX))) 16 (.f (iv ((k : Nat) : Int)))) 17 (.f (.pt [sv l[i].name, iv v, iv ((i : Nat) : Int), .sl cs.length (intsF cs)] 0))) 19 (.f (iv q.2))) 20 (.f (iv ((q.1 : Nat) : Int)))), (Ab.upd (fun _ => none) 0 (some (.row 106 4 M.length (mbsF M)))), 1⟩) (fun q => q.1 ≤ M.length ∧ ((q.2 = -1 ∧ ∀ a (ha : a < KK.length), a < q.1 → KK[a] ≠ (TW[k], l[i].name)) ∨ ∃ a, ∃ ha : a < KK.length, a < q.1 ∧ q.2 = (a : Int) ∧ KK[a] = (TW[k], l[i].name))) (fun q => M.length - q.1) (0, -1) ⟨Nat.zero_le _, .inl ⟨rfl, fun a _ h => absurd h (Nat.not_lt_zero a)⟩⟩ (gh_le ⟨le_upd rfl trivial (le_upd rfl trivial (le_upd rfl trivial (le_upd rfl trivial (le_upd rfl trivial (le_upd rfl trivial (le_upd rfl trivial (le_upd rfl trivial (le_upd rfl trivial (le_upd rfl trivial (le_upd rfl rfl (le_upd rfl trivial (le_upd rfl trivial (le_nil _))))))))))))), le_hupd rfl trivial (le_h0 _ _)⟩)
      rintro ⟨j, a⟩ ⟨hj, hja⟩
      change j ≤ M.length at hj
      change (a = -1 ∧ ∀ b (hb : b < KK.length), b < j → KK[b] ≠ (TW[k], l[i].name)) ∨ ∃ b, ∃ hb : b < KK.length, b < j ∧ a = (b : Int) ∧ KK[b] = (TW[k], l[i].name) at hja
      change W _ _ _ _ (⟨(Ab.upd (Ab.upd (Ab.upd (Ab.upd (Ab.upd (Ab.upd (Ab.upd (Ab.upd (Ab.upd (Ab.upd (Ab.upd (Ab.upd (Ab.upd (fun _ => .bot) 1 (.f (.sl l.length (actsF l)))) 2 (.f (.pt [.sl rs.length (intsF rs)] 0))) 5 (.ow 0)) 6 (.f (iv (((t + TW.length : Nat)) : Int)))) 7 (.f (iv ((i : Nat) : Int)))) 8 (.f (.sl TW.length (strsF TW)))) 12 (.f (iv v))) 13 (.f (.sl cs.length (intsF cs)))) 15 (.f (sv TX))) 16 (.f (iv ((k : Nat) : Int)))) 17 (.f (.pt [sv l[i].name, iv v, iv ((i : Nat) : Int), .sl cs.length (intsF cs)] 0))) 19 (.f (iv a))) 20 (.f (iv ((j : Nat) : Int)))), (Ab.upd (fun _ => none) 0 (some (.row 106 4 M.length (mbsF M)))), 1⟩)
      by_cases hjM : j < M.length
      · have hjK : j < KK.length := by omega
        obtain ⟨hk1', hk2'⟩ := hMk hjK
        by_cases hw1 : M[j].who = TW[k]
        · by_cases hw2 : M[j].alert = l[i].name
          · repeat (first
    | (apply s_bind; exact rfl; exact rfl; exact rfl; exact rfl; exact rfl; exact rfl; exact eqs_t (by assumption))
    | (apply s_a TY; exact rfl)
    | (apply s_t; exact rfl; (first | assumption | omega))
    | apply w_seq
    | apply w_region
    | (apply w_draw (id := 37) 18 rfl (by kernel_rfl))
    | apply s_nil
    | apply t_norm
    | apply k_norm
    | apply w_block
    | apply w_skip
    | (apply w_condT; exact rfl; exact rfl)
    | (apply s_c TY; exact rfl; (first | omega | exact ⟨by omega, by (first | with_reducible assumption | ((with_reducible apply actsF_ne); omega) | ((with_reducible apply mbsF_ne); omega) | ((with_reducible apply strsF_ne); omega) | ((with_reducible apply astsF_ne); omega) | assumption)⟩))
    | (apply s_l TY; exact rfl; (first | exact rfl | with_reducible assumption | ((with_reducible apply actsF_f0); omega) | ((with_reducible apply actsF_f1); omega) | ((with_reducible apply actsF_f2); omega) | ((with_reducible apply mbsF_f0); omega) | ((with_reducible apply mbsF_f1); omega) | ((with_reducible apply mbsF_f2); omega) | ((with_reducible apply mbsF_f3); omega) | ((with_reducible apply strsF_at); omega) | ((with_reducible apply astsF_f0); omega) | ((with_reducible apply astsF_f1); omega) | ((with_reducible apply astsF_f2); omega) | ((with_reducible apply astsF_f3); omega) | ((with_reducible apply astsF_f4); omega) | assumption))
    | (apply s_r TY; exact rfl; (first | exact rfl | with_reducible assumption | ((with_reducible apply actsF_f0); omega) | ((with_reducible apply actsF_f1); omega) | ((with_reducible apply actsF_f2); omega) | ((with_reducible apply mbsF_f0); omega) | ((with_reducible apply mbsF_f1); omega) | ((with_reducible apply mbsF_f2); omega) | ((with_reducible apply mbsF_f3); omega) | ((with_reducible apply strsF_at); omega) | ((with_reducible apply astsF_f0); omega) | ((with_reducible apply astsF_f1); omega) | ((with_reducible apply astsF_f2); omega) | ((with_reducible apply astsF_f3); omega) | ((with_reducible apply astsF_f4); omega) | assumption)))
            exact ⟨(j + 1, (j : Int)), ⟨hjM, .inr ⟨j, hjK, Nat.lt_succ_self j, rfl, Prod.ext (hk1'.symm.trans hw1) (hk2'.symm.trans hw2)⟩⟩, by show M.length - (j + 1) < M.length - j; omega, gh_le ⟨le_upd rfl trivial (le_upd rfl trivial (le_upd rfl trivial (le_upd rfl trivial (le_upd rfl trivial (le_upd rfl trivial (le_upd rfl trivial (le_upd rfl trivial (le_upd rfl trivial (le_upd rfl trivial (le_upd rfl rfl (le_upd rfl trivial (le_upd rfl trivial (le_nil _))))))))))))), le_hupd rfl trivial (le_h0 _ _)⟩⟩
          · repeat (first
    | (apply s_bind; exact rfl; exact rfl; exact rfl; exact rfl; exact rfl; exact rfl; exact eqs_t (by assumption))
    | (apply s_bind; exact rfl; exact rfl; exact rfl; exact rfl; exact rfl; exact rfl; exact eqs_f (by assumption))
    | (apply s_a TY; exact rfl)
    | (apply s_t; exact rfl; (first | assumption | omega))
    | apply w_seq
    | apply w_region
    | (apply w_draw (id := 37) 18 rfl (by kernel_rfl))
    | apply s_nil
    | apply t_norm
    | apply k_norm
    | apply w_block
    | apply w_skip
    | (apply w_condT; exact rfl; exact rfl)
    | (apply w_condF; exact rfl; exact rfl)
    | (apply s_c TY; exact rfl; (first | omega | exact ⟨by omega, by (first | with_reducible assumption | ((with_reducible apply actsF_ne); omega) | ((with_reducible apply mbsF_ne); omega) | ((with_reducible apply strsF_ne); omega) | ((with_reducible apply astsF_ne); omega) | assumption)⟩))
    | (apply s_l TY; exact rfl; (first | exact rfl | with_reducible assumption | ((with_reducible apply actsF_f0); omega) | ((with_reducible apply actsF_f1); omega) | ((with_reducible apply actsF_f2); omega) | ((with_reducible apply mbsF_f0); omega) | ((with_reducible apply mbsF_f1); omega) | ((with_reducible apply mbsF_f2); omega) | ((with_reducible apply mbsF_f3); omega) | ((with_reducible apply strsF_at); omega) | ((with_reducible apply astsF_f0); omega) | ((with_reducible apply astsF_f1); omega) | ((with_reducible apply astsF_f2); omega) | ((with_reducible apply astsF_f3); omega) | ((with_reducible apply astsF_f4); omega) | assumption))
    | (apply s_r TY; exact rfl; (first | exact rfl | with_reducible assumption | ((with_reducible apply actsF_f0); omega) | ((with_reducible apply actsF_f1); omega) | ((with_reducible apply actsF_f2); omega) | ((with_reducible apply mbsF_f0); omega) | ((with_reducible apply mbsF_f1); omega) | ((with_reducible apply mbsF_f2); omega) | ((with_reducible apply mbsF_f3); omega) | ((with_reducible apply strsF_at); omega) | ((with_reducible apply astsF_f0); omega) | ((with_reducible apply astsF_f1); omega) | ((with_reducible apply astsF_f2); omega) | ((with_reducible apply astsF_f3); omega) | ((with_reducible apply astsF_f4); omega) | assumption)))
            exact ⟨(j + 1, a), ⟨hjM, hja.imp (fun h => ⟨h.1, fun b hb hbj e => by
              by_cases e2 : b = j
              · subst e2; exact hw2 (hk2'.trans (congrArg Prod.snd e))
              · exact h.2 b hb (by omega) e⟩) (fun ⟨b, hb, h1, h2, h3⟩ => ⟨b, hb, by show b < j + 1; omega, h2, h3⟩)⟩, by show M.length - (j + 1) < M.length - j; omega, gh_le ⟨le_upd rfl trivial (le_upd rfl trivial (le_upd rfl trivial (le_upd rfl trivial (le_upd rfl trivial (le_upd rfl trivial (le_upd rfl trivial (le_upd rfl trivial (le_upd rfl trivial (le_upd rfl trivial (le_upd rfl rfl (le_upd rfl trivial (le_upd rfl trivial (le_nil _))))))))))))), le_hupd rfl trivial (le_h0 _ _)⟩⟩
        · repeat (first
    | (apply s_bind; exact rfl; exact rfl; exact rfl; exact rfl; exact rfl; exact rfl; exact eqs_f (by assumption))
    | (apply s_a TY; exact rfl)
    | (apply s_t; exact rfl; (first | assumption | omega))
    | apply w_seq
    | apply w_region
    | (apply w_draw (id := 37) 18 rfl (by kernel_rfl))
    | apply s_nil
    | apply t_norm
    | apply k_norm
    | apply w_block
    | apply w_skip
    | (apply w_condT; exact rfl; exact rfl)
    | (apply w_condF; exact rfl; exact rfl)
    | (apply s_s; exact rfl)
    | (apply s_c TY; exact rfl; (first | omega | exact ⟨by omega, by (first | with_reducible assumption | ((with_reducible apply actsF_ne); omega) | ((with_reducible apply mbsF_ne); omega) | ((with_reducible apply strsF_ne); omega) | ((with_reducible apply astsF_ne); omega) | assumption)⟩))
    | (apply s_l TY; exact rfl; (first | exact rfl | with_reducible assumption | ((with_reducible apply actsF_f0); omega) | ((with_reducible apply actsF_f1); omega) | ((with_reducible apply actsF_f2); omega) | ((with_reducible apply mbsF_f0); omega) | ((with_reducible apply mbsF_f1); omega) | ((with_reducible apply mbsF_f2); omega) | ((with_reducible apply mbsF_f3); omega) | ((with_reducible apply strsF_at); omega) | ((with_reducible apply astsF_f0); omega) | ((with_reducible apply astsF_f1); omega) | ((with_reducible apply astsF_f2); omega) | ((with_reducible apply astsF_f3); omega) | ((with_reducible apply astsF_f4); omega) | assumption))
    | (apply s_r TY; exact rfl; (first | exact rfl | with_reducible assumption | ((with_reducible apply actsF_f0); omega) | ((with_reducible apply actsF_f1); omega) | ((with_reducible apply actsF_f2); omega) | ((with_reducible apply mbsF_f0); omega) | ((with_reducible apply mbsF_f1); omega) | ((with_reducible apply mbsF_f2); omega) | ((with_reducible apply mbsF_f3); omega) | ((with_reducible apply strsF_at); omega) | ((with_reducible apply astsF_f0); omega) | ((with_reducible apply astsF_f1); omega) | ((with_reducible apply astsF_f2); omega) | ((with_reducible apply astsF_f3); omega) | ((with_reducible apply astsF_f4); omega) | assumption)))
          exact ⟨(j + 1, a), ⟨hjM, hja.imp (fun h => ⟨h.1, fun b hb hbj e => by
            by_cases e2 : b = j
            · subst e2; exact hw1 (hk1'.trans (congrArg Prod.fst e))
            · exact h.2 b hb (by omega) e⟩) (fun ⟨b, hb, h1, h2, h3⟩ => ⟨b, hb, by show b < j + 1; omega, h2, h3⟩)⟩, by show M.length - (j + 1) < M.length - j; omega, gh_le ⟨le_upd rfl trivial (le_upd rfl trivial (le_upd rfl trivial (le_upd rfl trivial (le_upd rfl trivial (le_upd rfl trivial (le_upd rfl trivial (le_upd rfl trivial (le_upd rfl trivial (le_upd rfl trivial (le_upd rfl rfl (le_upd rfl trivial (le_upd rfl trivial (le_nil _))))))))))))), le_hupd rfl trivial (le_h0 _ _)⟩⟩
      have hjl : j = M.length := by omega
      subst hjl
      by_cases hin : (TW[k], l[i].name) ∈ keyO l i
      · have hinK : (TW[k], l[i].name) ∈ KK := by rw [hKK]; exact List.mem_append_left _ hin
        obtain ⟨q0, hq0, hqe0⟩ := List.getElem_of_mem hinK
        obtain ⟨q, hqK, hqj, haq, hqe⟩ : ∃ b, ∃ hb : b < KK.length, b < M.length ∧ a = (b : Int) ∧ KK[b] = (TW[k], l[i].name) := by
          rcases hja with h | h
          · exact absurd hqe0 (h.2 q0 hq0 (by omega))
          · exact h
        clear hja hq0 hqe0
        obtain ⟨hn1, hn2, hn3⟩ := hold hin hqK hqe
        subst haq
        by_cases h4 : l[i].kind = 4
        · have hst : q * 4 + 3 + 1 ≤ (mbsF M).length := by rw [mbsF_len]; omega
          have hrow : some (Blk.row 106 4 M.length (setAt (mbsF M) (q * 4 + 3) [bv true])) = some (Blk.row 106 4 (midM (keyO l i) l[i].name (TW.take (k + 1)) (mbAt l i) (mbTo l i)).length (mbsF (midM (keyO l i) l[i].name (TW.take (k + 1)) (mbAt l i) (mbTo l i)))) := by
            rw [mbs_wd hqj true, hn3, ← hn2, mbTo_4 hic h4, List.length_set]; rfl
          repeat (first
    | (apply s_storeR TY; exact rfl; exact rfl; exact rfl; exact rfl; exact rfl; exact hst)
    | (apply s_a TY; exact rfl)
    | (apply s_t; exact rfl; (first | assumption | omega))
    | (apply s_f; exact rfl; (first | assumption | omega))
    | apply w_seq
    | apply w_region
    | apply s_nil
    | apply t_norm
    | apply t_exit
    | apply k_hit
    | apply w_exit
    | apply w_skip
    | (apply w_condT; exact rfl; exact rfl)
    | (apply w_condF; exact rfl; exact rfl)
    | (apply s_c TY; exact rfl; (first | omega | exact ⟨by omega, by (first | with_reducible assumption | ((with_reducible apply actsF_ne); omega) | ((with_reducible apply mbsF_ne); omega) | ((with_reducible apply strsF_ne); omega) | ((with_reducible apply astsF_ne); omega) | assumption)⟩))
    | (apply s_l TY; exact rfl; (first | exact rfl | with_reducible assumption | ((with_reducible apply actsF_f0); omega) | ((with_reducible apply actsF_f1); omega) | ((with_reducible apply actsF_f2); omega) | ((with_reducible apply mbsF_f0); omega) | ((with_reducible apply mbsF_f1); omega) | ((with_reducible apply mbsF_f2); omega) | ((with_reducible apply mbsF_f3); omega) | ((with_reducible apply strsF_at); omega) | ((with_reducible apply astsF_f0); omega) | ((with_reducible apply astsF_f1); omega) | ((with_reducible apply astsF_f2); omega) | ((with_reducible apply astsF_f3); omega) | ((with_reducible apply astsF_f4); omega) | assumption)))
          exact ⟨k + 1, hkw, by omega, gh_le ⟨le_upd rfl trivial (le_upd rfl trivial (le_upd rfl trivial (le_upd rfl trivial (le_upd rfl trivial (le_upd rfl trivial (le_upd rfl trivial (le_upd rfl rfl (le_upd rfl trivial (le_upd rfl trivial (le_nil _)))))))))), le_hupd hrow trivial (le_h0 _ _)⟩⟩
        · have hver : ¬ v ≤ M[q].ver := by
            rw [hn3, hvV, (new_step hic (by omega)).1]
            have := had_le l l[i].name TW[k] i
            show ¬ _ ≤ (hadK l l[i].name TW[k] i).getD 0
            omega
          have hst : q * 4 + 2 + 1 ≤ (mbsF M).length := by rw [mbsF_len]; omega
          have hrow : some (Blk.row 106 4 M.length (setAt (mbsF M) (q * 4 + 2) [iv v])) = some (Blk.row 106 4 (midM (keyO l i) l[i].name (TW.take (k + 1)) (mbAt l i) (mbTo l i)).length (mbsF (midM (keyO l i) l[i].name (TW.take (k + 1)) (mbAt l i) (mbTo l i)))) := by
            rw [mbs_ver hqj v, hn3, ← hn2, mbTo_n hic h4, List.length_set, hvV, (new_step hic (by omega)).1]; rfl
          repeat (first
    | (apply s_storeR TY; exact rfl; exact rfl; exact rfl; exact rfl; exact rfl; exact hst)
    | (apply s_a TY; exact rfl)
    | (apply s_f; exact rfl; (first | assumption | omega))
    | apply w_seq
    | apply w_region
    | (apply w_draw (id := 45) 7 rfl (by kernel_rfl))
    | apply s_nil
    | apply t_norm
    | apply t_exit
    | apply k_hit
    | apply k_norm
    | apply w_exit
    | apply w_skip
    | (apply w_condF; exact rfl; exact rfl)
    | (apply s_c TY; exact rfl; (first | omega | exact ⟨by omega, by (first | with_reducible assumption | ((with_reducible apply actsF_ne); omega) | ((with_reducible apply mbsF_ne); omega) | ((with_reducible apply strsF_ne); omega) | ((with_reducible apply astsF_ne); omega) | assumption)⟩))
    | (apply s_l TY; exact rfl; (first | exact rfl | with_reducible assumption | ((with_reducible apply actsF_f0); omega) | ((with_reducible apply actsF_f1); omega) | ((with_reducible apply actsF_f2); omega) | ((with_reducible apply mbsF_f0); omega) | ((with_reducible apply mbsF_f1); omega) | ((with_reducible apply mbsF_f2); omega) | ((with_reducible apply mbsF_f3); omega) | ((with_reducible apply strsF_at); omega) | ((with_reducible apply astsF_f0); omega) | ((with_reducible apply astsF_f1); omega) | ((with_reducible apply astsF_f2); omega) | ((with_reducible apply astsF_f3); omega) | ((with_reducible apply astsF_f4); omega) | assumption))
    | (apply s_r TY; exact rfl; (first | exact rfl | with_reducible assumption | ((with_reducible apply actsF_f0); omega) | ((with_reducible apply actsF_f1); omega) | ((with_reducible apply actsF_f2); omega) | ((with_reducible apply mbsF_f0); omega) | ((with_reducible apply mbsF_f1); omega) | ((with_reducible apply mbsF_f2); omega) | ((with_reducible apply mbsF_f3); omega) | ((with_reducible apply strsF_at); omega) | ((with_reducible apply astsF_f0); omega) | ((with_reducible apply astsF_f1); omega) | ((with_reducible apply astsF_f2); omega) | ((with_reducible apply astsF_f3); omega) | ((with_reducible apply astsF_f4); omega) | assumption)))
          exact ⟨k + 1, hkw, by omega, gh_le ⟨le_upd rfl trivial (le_upd rfl trivial (le_upd rfl trivial (le_upd rfl trivial (le_upd rfl trivial (le_upd rfl trivial (le_upd rfl trivial (le_upd rfl rfl (le_upd rfl trivial (le_upd rfl trivial (le_nil _)))))))))), le_hupd hrow trivial (le_h0 _ _)⟩⟩
      · have h4 : ¬ l[i].kind = 4 := fun h4 => hin (hkt h4 _ (List.getElem_mem hkw))
        obtain ⟨hn0, hn1, hn2⟩ := hnew hin
        obtain ha : a = -1 := by
          rcases hja with h | ⟨b, hb, _, _, e⟩
          · exact h.1
          · exact absurd (e ▸ List.getElem_mem hb) hn0
        clear hja
        subst ha
        have hwd := (valid_at hic hall rfl h22).1
        have hat2 : (mbsF M ++ [sv TW[k], sv l[i].name, iv 0, bv false])[M.length * 4 + 2]? = some (iv 0) := by
          have hl4 := mbsF_len M
          rw [List.getElem?_append_right (by omega), show M.length * 4 + 2 - (mbsF M).length = 2 by omega]; rfl
        have hst : M.length * 4 + 2 + 1 ≤ (mbsF M ++ [sv TW[k], sv l[i].name, iv 0, bv false]).length := by
          have hl4 := mbsF_len M
          rw [List.length_append]; show _ ≤ _ + 4; omega
        have hrow : some (Blk.row 106 4 (M.length + 1) (setAt (mbsF M ++ [sv TW[k], sv l[i].name, iv 0, bv false]) (M.length * 4 + 2) [iv v])) = some (Blk.row 106 4 (midM (keyO l i) l[i].name (TW.take (k + 1)) (mbAt l i) (mbTo l i)).length (mbsF (midM (keyO l i) l[i].name (TW.take (k + 1)) (mbAt l i) (mbTo l i)))) := by
          have e1 : mbsF M ++ [sv TW[k], sv l[i].name, iv 0, bv false] = mbsF (M ++ [(⟨TW[k], l[i].name, 0, false⟩ : Mb)]) := by rw [mbsF_snoc]; rfl
          have e2 : (M ++ [(⟨TW[k], l[i].name, 0, false⟩ : Mb)]).length = M.length + 1 := by rw [List.length_append]; rfl
          have e3 : (M ++ [(⟨TW[k], l[i].name, 0, false⟩ : Mb)])[M.length]'(by omega) = ⟨TW[k], l[i].name, 0, false⟩ := by
            rw [List.getElem_append_right (Nat.le_refl _)]; simp
          rw [e1, mbs_ver (show M.length < (M ++ [(⟨TW[k], l[i].name, 0, false⟩ : Mb)]).length by omega) v, e3, List.set_append_right _ _ (Nat.le_refl _), Nat.sub_self, List.set_cons_zero, ← hn2, mbTo_n hic h4, hvV, (new_step hic (by omega)).1, List.length_append]
          show _ = some (Blk.row 106 4 _ (mbsF (M ++ [(⟨TW[k], l[i].name, verK l l[i].name i + 1, wdrK l l[i].name i⟩ : Mb)])))
          rw [hwd]; rfl
        have hver : ¬ v ≤ 0 := by omega
        repeat (first
    | (apply w_draw5 (id := 44) 9 13 3072 rfl (by kernel_rfl) (by kernel_rfl); exact rfl)
    | (apply s_groL TY; exact rfl; exact rfl; exact rfl; exact rfl; exact rfl; exact rfl; exact rfl; exact rfl; exact rfl; (unfold maxLen; omega); omega)
    | (refine KDL.mk ⟨rfl, rfl, trivial⟩ rfl rfl ?_)
    | (apply s_lenAny TY; exact rfl; exact rfl; exact rfl; exact rfl)
    | (apply s_storeR TY; exact rfl; exact rfl; exact rfl; exact rfl; exact rfl; exact hst)
    | (apply s_a TY; exact rfl)
    | (apply s_t; exact rfl; (first | assumption | omega))
    | (apply s_f; exact rfl; (first | assumption | omega))
    | apply w_seq
    | apply w_region
    | (apply w_draw (id := 45) 7 rfl (by kernel_rfl))
    | apply s_nil
    | apply t_norm
    | apply t_exit
    | apply k_hit
    | apply k_norm
    | apply w_exit
    | apply w_skip
    | (apply w_condT; exact rfl; exact rfl)
    | (apply w_condF; exact rfl; exact rfl)
    | (apply s_c TY; exact rfl; (first | omega | exact ⟨by omega, by (first | with_reducible assumption | ((with_reducible apply actsF_ne); omega) | ((with_reducible apply mbsF_ne); omega) | ((with_reducible apply strsF_ne); omega) | ((with_reducible apply astsF_ne); omega) | assumption)⟩))
    | (apply s_l TY; exact rfl; (first | exact rfl | with_reducible assumption | ((with_reducible apply actsF_f0); omega) | ((with_reducible apply actsF_f1); omega) | ((with_reducible apply actsF_f2); omega) | ((with_reducible apply mbsF_f0); omega) | ((with_reducible apply mbsF_f1); omega) | ((with_reducible apply mbsF_f2); omega) | ((with_reducible apply mbsF_f3); omega) | ((with_reducible apply strsF_at); omega) | ((with_reducible apply astsF_f0); omega) | ((with_reducible apply astsF_f1); omega) | ((with_reducible apply astsF_f2); omega) | ((with_reducible apply astsF_f3); omega) | ((with_reducible apply astsF_f4); omega) | assumption))
    | (apply s_r TY; exact rfl; (first | exact rfl | with_reducible assumption | ((with_reducible apply actsF_f0); omega) | ((with_reducible apply actsF_f1); omega) | ((with_reducible apply actsF_f2); omega) | ((with_reducible apply mbsF_f0); omega) | ((with_reducible apply mbsF_f1); omega) | ((with_reducible apply mbsF_f2); omega) | ((with_reducible apply mbsF_f3); omega) | ((with_reducible apply strsF_at); omega) | ((with_reducible apply astsF_f0); omega) | ((with_reducible apply astsF_f1); omega) | ((with_reducible apply astsF_f2); omega) | ((with_reducible apply astsF_f3); omega) | ((with_reducible apply astsF_f4); omega) | assumption)))
        exact ⟨k + 1, hkw, by omega, gh_le ⟨le_upd rfl trivial (le_upd rfl trivial (le_upd rfl trivial (le_upd rfl trivial (le_upd rfl trivial (le_upd rfl trivial (le_upd rfl trivial (le_upd rfl rfl (le_upd rfl trivial (le_upd rfl trivial (le_nil _)))))))))), le_hupd hrow trivial (le_h0 _ _)⟩⟩
    have hkl : k = TW.length := by omega
    subst hkl
    rw [List.take_length]
    have hrow := rowM_eq hme.2
    by_cases h4 : l[i].kind = 4
    · repeat (first
    | (apply s_a TY; exact rfl)
    | (apply s_t; exact rfl; (first | assumption | omega))
    | (apply s_f; exact rfl; (first | assumption | omega))
    | apply w_seq
    | apply w_region
    | apply s_nil
    | apply t_norm
    | apply t_exit
    | apply k_hit
    | apply w_exit
    | (apply w_condT; exact rfl; exact rfl)
    | (apply w_condF; exact rfl; exact rfl)
    | (apply s_c TY; exact rfl; (first | omega | exact ⟨by omega, by (first | with_reducible assumption | ((with_reducible apply actsF_ne); omega) | ((with_reducible apply mbsF_ne); omega) | ((with_reducible apply strsF_ne); omega) | ((with_reducible apply astsF_ne); omega) | assumption)⟩))
    | (apply s_l TY; exact rfl; (first | exact rfl | with_reducible assumption | ((with_reducible apply actsF_f0); omega) | ((with_reducible apply actsF_f1); omega) | ((with_reducible apply actsF_f2); omega) | ((with_reducible apply mbsF_f0); omega) | ((with_reducible apply mbsF_f1); omega) | ((with_reducible apply mbsF_f2); omega) | ((with_reducible apply mbsF_f3); omega) | ((with_reducible apply strsF_at); omega) | ((with_reducible apply astsF_f0); omega) | ((with_reducible apply astsF_f1); omega) | ((with_reducible apply astsF_f2); omega) | ((with_reducible apply astsF_f3); omega) | ((with_reducible apply astsF_f4); omega) | assumption)))
      exact ⟨(i + 1, t + TW.length), ⟨hic, by show (keyO l (i + 1)).length ≤ t + TW.length; omega, by show t + TW.length ≤ (i + 1) * 40; omega⟩, by show l.length - (i + 1) < l.length - i; omega, gh_le ⟨le_upd rfl trivial (le_upd rfl trivial (le_upd rfl rfl (le_upd rfl trivial (le_upd rfl trivial (le_nil _))))), le_hupd hrow trivial (le_h0 _ _)⟩⟩
    · have htk : (actsF l).take (i * 3) = actsF (l.take i) := actsF_take l i
      have HTx := up (Texts_s TW (sortedN ltS (pplK l i)) (by omega) (by omega))
      rw [decide_eq_true (htp h4)] at HTx
      repeat (first
    | (apply s_sliceTo TY (m := i); exact rfl; exact rfl; exact rfl; exact rfl; exact rfl; omega; exact htk)
    | (apply s_a TY; exact rfl)
    | (apply s_f; exact rfl; (first | assumption | omega))
    | apply w_seq
    | apply w_region
    | apply s_nil
    | apply t_norm
    | apply t_exit
    | apply k_hit
    | apply k_norm
    | apply w_exit
    | apply w_skip
    | (apply w_condF; exact rfl; exact rfl)
    | (apply s_k (HPe); exact rfl)
    | (apply s_k (HTx); exact rfl)
    | (apply s_c TY; exact rfl; (first | omega | exact ⟨by omega, by (first | with_reducible assumption | ((with_reducible apply actsF_ne); omega) | ((with_reducible apply mbsF_ne); omega) | ((with_reducible apply strsF_ne); omega) | ((with_reducible apply astsF_ne); omega) | assumption)⟩))
    | (apply s_l TY; exact rfl; (first | exact rfl | with_reducible assumption | ((with_reducible apply actsF_f0); omega) | ((with_reducible apply actsF_f1); omega) | ((with_reducible apply actsF_f2); omega) | ((with_reducible apply mbsF_f0); omega) | ((with_reducible apply mbsF_f1); omega) | ((with_reducible apply mbsF_f2); omega) | ((with_reducible apply mbsF_f3); omega) | ((with_reducible apply strsF_at); omega) | ((with_reducible apply astsF_f0); omega) | ((with_reducible apply astsF_f1); omega) | ((with_reducible apply astsF_f2); omega) | ((with_reducible apply astsF_f3); omega) | ((with_reducible apply astsF_f4); omega) | assumption)))
      exact ⟨(i + 1, t + TW.length), ⟨hic, by show (keyO l (i + 1)).length ≤ t + TW.length; omega, by show t + TW.length ≤ (i + 1) * 40; omega⟩, by show l.length - (i + 1) < l.length - i; omega, gh_le ⟨le_upd rfl trivial (le_upd rfl trivial (le_upd rfl rfl (le_upd rfl trivial (le_upd rfl trivial (le_nil _))))), le_hupd hrow trivial (le_h0 _ _)⟩⟩
  have hil : i = l.length := by omega
  subst hil
  have hMl := mailO_len l l.length
  have hMa := @mailO_at l l.length
  obtain ⟨M, hM⟩ : ∃ M, M = mailO l l.length := ⟨_, rfl⟩
  simp only [← hM] at hMl hMa ⊢
  apply w_gh (gh_row 0 rfl)
  repeat (first
    | (apply s_a TY; exact rfl)
    | (apply s_f; exact rfl; (first | assumption | omega))
    | apply w_seq
    | apply w_region
    | apply s_nil
    | apply t_norm
    | apply t_exit
    | apply k_hit
    | apply w_block
    | apply w_exit
    | apply w_skip
    | (apply w_condF; exact rfl; exact rfl))
  apply w_loop (fun j : Nat => ⟨(Ab.upd (Ab.upd (Ab.upd (Ab.upd (fun _ => .bot) 1 (.f (.sl l.length (actsF l)))) 2 (.f (.pt [.sl rs.length (intsF rs)] 0))) 5 (.f (.sl M.length (mbsF M)))) 22 (.f (iv ((j : Nat) : Int)))), (fun _ => none), 0⟩) (fun j => j ≤ M.length) (fun j => M.length - j) 0 (Nat.zero_le _) (gh_le ⟨le_upd rfl trivial (le_upd rfl trivial (le_upd rfl trivial (le_upd rfl trivial (le_nil _)))), le_h0 _ _⟩)
  intro j hj
  by_cases hjM : j < M.length
  · have hjK : j < (keyO l l.length).length := by omega
    have hMj := hMa hjK
    have hkm := List.getElem_mem hjK
    generalize (keyO l l.length)[j] = q at hMj hkm
    obtain ⟨hqs, hqh⟩ := key_sent hall (Nat.le_refl _) hkm
    have HKn := up (KnownBy_all rs o l (by omega) hcd hall q.1 q.2 hqs)
    rw [hqh, Bool.true_and] at HKn
    have HSa := up (State_s l q.2 (by omega) hcl)
    have hb := had_le l q.2 q.1 l.length
    have e1 : q.1 = M[j].who := by rw [hMj]; rfl
    have e2 : q.2 = M[j].alert := by rw [hMj]; rfl
    have e3 : (hadK l q.2 q.1 l.length).getD 0 = M[j].ver := by rw [hMj]; rfl
    have e4 : wdrK l q.2 l.length = M[j].wd := by rw [hMj]; rfl
    rw [e3] at hb
    rw [e3, e4, e1, e2] at HKn
    rw [e4] at HSa
    rw [e2] at HSa hb
    have hbb := neb_same M[j].wd
    repeat (first
    | (apply s_bind; exact rfl; exact rfl; exact rfl; exact rfl; exact rfl; exact rfl; exact neb_t (c := false) hbb)
    | (apply s_a TY; exact rfl)
    | (apply s_t; exact rfl; (first | assumption | omega))
    | (apply s_f; exact rfl; (first | assumption | omega))
    | apply w_seq
    | apply w_region
    | (apply w_draw (id := 57) 21 rfl (by kernel_rfl))
    | (apply w_draw (id := 59) 34 rfl (by kernel_rfl))
    | apply s_nil
    | apply t_norm
    | apply k_norm
    | apply w_block
    | apply w_skip
    | (apply w_condT; exact rfl; exact rfl)
    | (apply w_condF; exact rfl; exact rfl)
    | (apply s_k (HCp); exact rfl)
    | (apply s_k (HCa); exact rfl)
    | (apply s_k (HKn); exact rfl)
    | (apply s_k (HSa); exact rfl)
    | (apply s_c TY; exact rfl; (first | omega | exact ⟨by omega, by (first | with_reducible assumption | ((with_reducible apply actsF_ne); omega) | ((with_reducible apply mbsF_ne); omega) | ((with_reducible apply strsF_ne); omega) | ((with_reducible apply astsF_ne); omega) | assumption)⟩))
    | (apply s_l TY; exact rfl; (first | exact rfl | with_reducible assumption | ((with_reducible apply actsF_f0); omega) | ((with_reducible apply actsF_f1); omega) | ((with_reducible apply actsF_f2); omega) | ((with_reducible apply mbsF_f0); omega) | ((with_reducible apply mbsF_f1); omega) | ((with_reducible apply mbsF_f2); omega) | ((with_reducible apply mbsF_f3); omega) | ((with_reducible apply strsF_at); omega) | ((with_reducible apply astsF_f0); omega) | ((with_reducible apply astsF_f1); omega) | ((with_reducible apply astsF_f2); omega) | ((with_reducible apply astsF_f3); omega) | ((with_reducible apply astsF_f4); omega) | assumption))
    | (apply s_alloc TY; exact rfl; exact rfl; exact rfl)
    | (apply s_store TY; exact rfl; exact rfl; exact rfl; exact rfl; exact rfl; exact rfl))
    exact ⟨j + 1, by omega, by omega, gh_le ⟨le_upd rfl trivial (le_upd rfl trivial (le_upd rfl trivial (le_upd rfl trivial (le_nil _)))), le_h0 _ _⟩⟩
  · repeat (first
    | (apply s_a TY; exact rfl)
    | (apply s_f; exact rfl; (first | assumption | omega))
    | apply w_seq
    | apply w_region
    | apply s_nil
    | apply t_norm
    | apply t_exit
    | apply k_hit
    | apply w_exit
    | apply w_ret
    | (apply w_condF; exact rfl; exact rfl))
    exact lv_ret (ret1 rfl (res_tmp rfl))
end Go.Proofs.YtbkdjlahhcofmaaGreatDoor
namespace Go.Ab
open Go Go.RowKit
section
variable {P : Program} {w : World}
end
end Go.Ab
namespace Go.Proofs.YtbkdjlahhcofmaaGreatDoor
open Go Go.Ab Go.ChangeShapes Go.WideShapes Go.ChangeAt Go.RowKit
theorem ownKnobT : ownKnob Tryz.prog.godebug = none := by kernel_rfl
theorem laidOutT : laidOutB Tryz.prog = true := by kernel_rfl
theorem trodAll_stays {H : Type} {enc : TypeId × Value → H} {W W' : World} {sp : Nat → Bool} (hb : Below W.heap.size W W') : ∀ {ts : List TypeId} {vs : List Value} {ds : List (DataW H)} {ps : List MemPlace}, (∀ t ∈ ts, Tryz.prog.readableRec t = true ∧ t < Tryz.prog.types.size) → DataW.TrodAll enc Tryz.prog W 0 (fun _ => true) true ts vs ds ps → (∀ p ∈ ps, p.block < W.heap.size) → (∀ p ∈ ps, sp p.block = true) → DataW.TrodAll enc Tryz.prog W' 0 sp true ts vs ds ps
  | [], [], [], _, _, h, _, _ => h
  | t :: ts, v :: vs, d :: ds, ps, ht, ⟨p, q, h1, h2, e⟩, hlt, hsp => by
    have hp : ∀ x ∈ p, x ∈ ps := fun x hx => by rw [e]; exact List.mem_append_left _ hx
    have hq : ∀ x ∈ q, x ∈ ps := fun x hx => by rw [e]; exact List.mem_append_right _ hx
    exact ⟨p, q, WideElems.Trod_stays laidOutT (ht t (by simp)).1 (ht t (by simp)).2 h1 (fun x hx => hb.same (hlt x (hp x hx))) (fun x hx => hsp x (hp x hx)),
      trodAll_stays hb (fun u hu => ht u (by simp [hu])) h2 (fun x hx => hlt x (hq x hx)) (fun x hx => hsp x (hq x hx)), e⟩
theorem post_law {H : Type} {enc : TypeId × Value → H} {f : Func} {s : ChangeSpec} {W W' : World} {args : Array Value} {ds gs : List (DataW H)} {before : List MemPlace}
    (hW : DataW.Whole enc Tryz.prog f.params.toList s.vars false W args.toList ds gs before) (hv : s.vars = []) (hr : f.resultTypes = #[4])
    (ht : ∀ t ∈ f.params.toList, Tryz.prog.readableRec t = true ∧ t < Tryz.prog.types.size)
    (hres : (s.fn H (ds ++ gs)).results = [.lit (.bool true)]) (hargs : (s.fn H (ds ++ gs)).args = ds) (hvs : (s.fn H (ds ++ gs)).vars = [])
    (hb : Below W.heap.size W W') : s.post enc Tryz.prog f false true false false W args (.bool true) W' := by
  have hlt := hW.lt
  have hW0 := hW
  obtain ⟨p, q, h1, h2, e, hz, hn⟩ := hW
  have h2' := h2
  rw [hv] at h2'
  have hq : gs = [] ∧ q = [] := by
    cases gs with
    | nil => exact ⟨rfl, h2'⟩
    | cons g r => exact absurd h2' (by intro h; cases h)
  obtain ⟨rfl, rfl⟩ := hq
  rw [List.append_nil] at e
  subst e
  refine ⟨ds, [], before, [], before, [], hW0, ?_, ?_, ?_, Below.frame hb _, fun h => by cases h⟩
  · rw [hr, hres]; exact trodAll_mk1 (shut_bool Tryz.underlying4 true)
  · rw [hargs]
    exact trodAll_stays hb ht h1 hlt (fun x hx => by simpa using hlt x hx)
  · rw [hv, hvs]; rfl
theorem sq_map {α : Type} (f : α → FV) : ∀ l : List α, l.flatMap (fun x => [f x]) = l.map f
  | [] => rfl
  | x :: l => by rw [List.flatMap_cons, sq_map f l]; rfl
section
variable {W : World}
theorem opens_i : Opens Tryz.prog W 3 (fun z : Int => [iv z]) := opens_int Tryz.underlying3
theorem opens_nm : Opens Tryz.prog W 9 (fun s : Nm => [sv s]) := (opens_str Tryz.underlying9).map (fun s => s.data.toList) fun s => by obtain ⟨⟨l⟩⟩ := s; rfl
end
set_option maxRecDepth 100000 in
theorem arg_st {H : Type} {enc : TypeId × Value → H} {W : World} {base : Nat} {T : TypeId} {fs : Array Field} {α : Type} {f : α → List FV} {v : Value} {d : DataW H} {ps : List MemPlace} (h : Opens Tryz.prog W T f) (ht : Tryz.prog.underlying T = some (.struct fs)) (hv : Value.okWide Tryz.prog W .any base T v) (hd : DataW.Trod enc Tryz.prog W 0 (fun _ => true) true T v d ps) : ∃ a, RepF W (fun _ => False) v (.agg (f a)) := by
  obtain ⟨cs, e, _⟩ := okWide_struct ht hv
  exact arg_agg h e hd
set_option maxRecDepth 100000 in
theorem arg_sl {H : Type} {enc : TypeId × Value → H} {W : World} {base : Nat} {T E : TypeId} {α : Type} {f : α → FV} {v : Value} {d : DataW H} {ps : List MemPlace} (h : Opens Tryz.prog W T (fun a => [f a])) (ht : Tryz.prog.underlying T = some (.slice E)) (hv : Value.okWide Tryz.prog W .any base T v) (hd : DataW.Trod enc Tryz.prog W 0 (fun _ => true) true T v d ps) : ∃ a, RepF W (fun _ => False) v (f a) := by
  obtain ⟨a, n, c, rfl⟩ := okWide_slice ht hv
  exact arg_one h rfl hd
end Go.Proofs.YtbkdjlahhcofmaaGreatDoor
