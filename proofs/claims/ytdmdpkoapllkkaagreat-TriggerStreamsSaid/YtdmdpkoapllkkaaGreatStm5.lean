/- Laws on which the proofs of this seat stand. No condition. -/
import Derived.Test.YtdmdpkoapllkkaaGreatStm4
import Derived.Shelf.SlSortCmp.NoneTotal
import Derived.Test.YtdmdpkoapllkkaaGreatRows
import Derived.WalkKit
import Derived.ProofKit
import Derived.OpenShut
import Derived.Stop.Joined
namespace Go.Ab
open Go Go.RowKit Go.Shelf Go.Proofs
section
variable {C : Ctx} {N : Nat}
def GroOp (C : Ctx) (N : Nat) (o : Oper) (st : St) (i : Nat) (B : Blk) (d : Nat) : Prop := o.guard = none ∧ o.dst = some d ∧
  ∀ w0 a w st', Agree C o st st' → (∀ k, st'.h k = st.h k) → SimE C w0 N st' a w → ∀ K Q, (∀ v w', SimE C w0 N ((st'.grow i B).put (some d) (.ow i)) (a.put o.dst v) w' → K (a.put o.dst v) w') → o.wpIn (Fence.wr C.ro) 7 C.P a w K Q
def midB (l : List Oper) (bf : Nat → Nat) (e n0 : Nat) : Bool := (List.range e).all (fun j => (bf e).testBit j) && (List.range n0).all fun j => Nat.ble j e || match l[j]? with
  | some o => (List.range j).all fun i => Nat.ble i e || match l[i]?, o.dst with
    | some oi, some d => (match oi.dst with | some d' => !(Nat.beq d' d) | none => true)
    | _, _ => true
  | none => true
def dstsB (l : List Oper) (s1 s2 : Nat → AV) (i : Nat) : Prop := match l with
  | [] => True
  | o :: l => (match o.dst with | some t => killA i (s1 t) = s2 t | none => True) ∧ dstsB l s1 s2 i
theorem dstsB_mem {s1 s2 : Nat → AV} {i : Nat} : ∀ {l : List Oper}, dstsB l s1 s2 i → ∀ {o : Oper} {t : Nat}, o ∈ l → o.dst = some t → killA i (s1 t) = s2 t
  | [], _, _, _, h, _ => by cases h
  | x :: l, hd, o, t, h, ht => by
    rcases List.mem_cons.1 h with rfl | h
    · have := hd.1; rw [ht] at this; exact this
    · exact dstsB_mem hd.2 h ht
variable {l : List Oper} {n0 : Nat}
theorem midB_light {bf : Nat → Nat} {e : Nat} (h : midB l bf e n0 = true) {j : Nat} {o : Oper} (hj : j < n0) (he : e < j) (ho : l[j]? = some o) : ∀ i oi, e < i → i < j → l[i]? = some oi → ∀ t, o.dst = some t → oi.dst ≠ some t := by
  unfold midB at h
  rw [Bool.and_eq_true] at h
  have h1 := List.all_eq_true.1 h.2 j (List.mem_range.2 hj)
  have hn : Nat.ble j e = false := by cases q : Nat.ble j e; rfl; have := Nat.le_of_ble_eq_true q; omega
  rw [hn, Bool.false_or, ho] at h1
  intro i oi hei hij hoi t ht hd
  have h2 := List.all_eq_true.1 h1 i (List.mem_range.2 hij)
  have hn2 : Nat.ble i e = false := by cases q : Nat.ble i e; rfl; have := Nat.le_of_ble_eq_true q; omega
  rw [hn2, Bool.false_or, hoi, ht] at h2
  simp only [hd] at h2
  have : Nat.beq t t = true := Nat.beq_refl t
  rw [this] at h2; cases h2
theorem draw_sound2 {id : Nat} {Q : St → Prop} {st : St} {Qc : Exit → Act → World → Prop} (e : Nat) (hm : C.P.follows .mixedOrders = true) (hok : okReg l n0 = true) (hmid : midB l (bitsOf l) e n0 = true) (hen : e < n0) {oo : Oper} (hoo : l[e]? = some oo)
    (hrun : Run C N l.toArray true (fun stE => ∃ i B d, GroOp C N oo stE i B d ∧ Run C N l.toArray true (fun st1 => Run C N l.toArray true (fun st2 => (dstsB ((l.take n0).drop (e + 1)) st1.s st2.s i ∧ st1.nx = stE.nx ∧ st2.nx = stE.nx) ∧ Run C N l.toArray false Q (l.drop n0) st2) ((l.take n0).drop (e + 1)) ((stE.grow i B).put (some d) (.ow i))) ((l.take n0).drop (e + 1)) stE) (l.take e) st)
    {w0 : World} {a : Act} {w : World} (S : SimE C w0 N st a w) (hq : ∀ st' a' w', Q st' → SimE C w0 N st' a' w' → Qc .normal a' w') : (Code.region id l.toArray true).wpIn (Fence.wr C.ro) 7 C.P Qc a w := by
  simp only [okReg, Bool.and_eq_true] at hok
  obtain ⟨⟨⟨⟨hup, hb⟩, hap⟩, htl⟩, hle⟩ := hok
  have hle' : n0 ≤ l.length := Nat.le_of_ble_eq_true hle
  obtain ⟨s1, e1, r1, q1⟩ := hrun.states
  have htk : (l.take e).length = e := by simp; omega
  rw [htk] at q1
  obtain ⟨bi, BB, bd, hgro, q1⟩ := q1
  have hmidl : ((l.take n0).drop (e + 1)).length = n0 - (e + 1) := by simp; omega
  obtain ⟨s2, e2, r2, q2⟩ := q1.states
  rw [hmidl] at q2
  obtain ⟨s3, e3, r3, q3⟩ := q2.states
  rw [hmidl] at q3
  obtain ⟨⟨hds, hnx1, hnx2⟩, q3⟩ := q3
  obtain ⟨s4, e4, r4, q4⟩ := q3.states
  obtain ⟨sa, hsa⟩ : ∃ sa : Nat → St, sa = fun i => if i ≤ e then s1 i else s2 (i - (e + 1)) := ⟨_, rfl⟩
  obtain ⟨sb, hsb⟩ : ∃ sb : Nat → St, sb = fun i => if i ≤ e + 1 then ((s1 e).grow bi BB).put (some bd) (.ow bi) else if i ≤ n0 then s3 (i - (e + 1)) else s4 (i - n0) := ⟨_, rfl⟩
  have a1 : ∀ i, i ≤ e → sa i = s1 i := fun i hi => by rw [hsa]; simp [hi]
  have a2 : ∀ i, e + 1 ≤ i → sa i = s2 (i - (e + 1)) := fun i hi => by rw [hsa]; simp [show ¬ i ≤ e by omega]
  have a3 : sa (e + 1) = sa e := by rw [a2 _ (Nat.le_refl _), Nat.sub_self, e2, a1 e (Nat.le_refl _)]
  have b1 : ∀ i, i ≤ e + 1 → sb i = ((sa e).grow bi BB).put (some bd) (.ow bi) := fun i hi => by rw [hsb, a1 e (Nat.le_refl _)]; simp [hi]
  have b2 : ∀ i, e + 1 ≤ i → i ≤ n0 → sb i = s3 (i - (e + 1)) := fun i hi hn => by
    by_cases q : i = e + 1
    · subst q; rw [b1 _ (Nat.le_refl _), Nat.sub_self, e3, a1 e (Nat.le_refl _)]
    · rw [hsb]; simp [show ¬ i ≤ e + 1 by omega, hn]
  have b3 : ∀ i, n0 ≤ i → sb i = s4 (i - n0) := fun i hi => by
    by_cases q : i = n0
    · subst q; rw [b2 _ (by omega) (Nat.le_refl _), Nat.sub_self, e4]
    · rw [hsb]; simp [show ¬ i ≤ e + 1 by omega, show ¬ i ≤ n0 by omega]
  have getm : ∀ i o, e + 1 ≤ i → i < n0 → l[i]? = some o → ((l.take n0).drop (e + 1))[i - (e + 1)]? = some o := fun i o h1 h2 ho => by
    rw [List.getElem?_drop, show e + 1 + (i - (e + 1)) = i by omega, List.getElem?_take, if_pos h2]; exact ho
  have oneA : ∀ i o, i < n0 → i ≠ e → l[i]? = some o → One C N l.toArray true o (sa i) (sa (i + 1)) := fun i o hi hne ho => by
    rcases Nat.lt_or_gt_of_ne hne with h | h
    · rw [a1 i (by omega), a1 (i + 1) h]
      exact r1 i o (by rw [List.getElem?_take, if_pos h]; exact ho)
    · rw [a2 i h, a2 (i + 1) (by omega), show i + 1 - (e + 1) = (i - (e + 1)) + 1 by omega]
      exact r2 _ o (getm i o h hi ho)
  have oneB : ∀ i o, e < i → i < n0 → l[i]? = some o → One C N l.toArray true o (sb i) (sb (i + 1)) := fun i o hei hi ho => by
    rw [b2 i hei (by omega), b2 (i + 1) (by omega) hi, show i + 1 - (e + 1) = (i - (e + 1)) + 1 by omega]
    exact r3 _ o (getm i o hei hi ho)
  have chA : Chain C N l n0 sa := ⟨fun i o hi ho => by
      by_cases he : i = e
      · subst he; exact .inr a3
      · exact .inl (oneA i o hi he ho), hle'⟩
  have chB : Chain C N l n0 sb := ⟨fun i o hi ho => by
      by_cases he : i ≤ e
      · exact .inr (by rw [b1 i (by omega), b1 (i + 1) (by omega)])
      · exact .inl (oneB i o (by omega) hi ho), hle'⟩
  have post : ∀ i o, n0 ≤ i → l[i]? = some o → One C N l.toArray false o (sb i) (sb (i + 1)) := fun i o hi ho => by
      rw [b3 i hi, b3 (i + 1) (by omega), show i + 1 - n0 = (i - n0) + 1 by omega]
      exact r4 (i - n0) o (by rw [List.getElem?_drop, show n0 + (i - n0) = i by omega]; exact ho)
  have hend : Q (sb l.length) := by
    rw [b3 _ hle']; simpa using q4
  have hAe : (sa n0).nx = (sa e).nx := by rw [a2 n0 (by omega), a1 e (Nat.le_refl _)]; exact hnx1
  have hBe : (sb n0).nx = (sb 0).nx := by
    rw [b2 n0 (by omega) (Nat.le_refl _), b1 0 (by omega), a1 e (Nat.le_refl _)]; exact hnx2
  have lit : ∀ i, e ≤ i → i < n0 → (sa (i + 1)).nx = (sa i).nx ∧ (sa (i + 1)).h = (sa i).h := fun i hei hi => by
    obtain ⟨o, ho, h1⟩ := chA.one hi
    have m1 := chA.nx_mono (i := e) (j := i) hei (by omega)
    have m2 := chA.nx_mono (i := i + 1) (j := n0) hi (Nat.le_refl _)
    rcases h1.slot.2 with h2 | ⟨h2, _⟩
    · exact h2
    · omega
  have litB : ∀ i, i < n0 → (sb (i + 1)).nx = (sb i).nx ∧ (sb (i + 1)).h = (sb i).h := fun i hi => by
    obtain ⟨o, ho, h1⟩ := chB.one hi
    have m1 := chB.nx_mono (i := 0) (j := i) (Nat.zero_le _) (by omega)
    have m2 := chB.nx_mono (i := i + 1) (j := n0) hi (Nat.le_refl _)
    rcases h1.slot.2 with h2 | ⟨h2, _⟩
    · exact h2
    · omega
  have hBh : ∀ m, m ≤ n0 → (sb m).h = (sb 0).h := fun m => by
    induction m with
    | zero => intro _; rfl
    | succ m ih => intro hmn; rw [(litB m hmn).2, ih (by omega)]
  have hBheap : ∀ (s : Nat → Bool) m, m ≤ n0 → ∀ k, heapS sb s m k = (sb 0).h k := fun s m => by
    induction m with
    | zero => intro _ k; rfl
    | succ m ih =>
      intro hmn k
      unfold heapS
      rw [if_neg (fun hc => by have := (litB m hmn).1; omega)]
      exact ih (by omega) k
  have tail : ∀ {s : Nat → Bool}, (∀ i o, l[i]? = some o → s i = true → ∀ e ∈ o.after, Region.binds .any e = true → s e.on = true) → ∀ (i : Nat) (o : Oper), n0 ≤ i → l[i]? = some o → (∀ e ∈ o.after, Region.binds .any e = true → s e.on = true) → ∀ j, j < i → s j = true := fun hdc i o hi ho he j hj => by
    have h1 := List.all_eq_true.1 htl i (List.mem_range.2 (List.getElem?_eq_some_iff.1 ho).1)
    have : Nat.blt i n0 = false := by cases e : Nat.blt i n0; rfl; have := Nat.le_of_ble_eq_true e; omega
    rw [this, Bool.false_or] at h1
    exact bits_done hb hup hdc i o ho he j hj (List.all_eq_true.1 h1 j (List.mem_range.2 hj))
  have early : ∀ {s : Nat → Bool}, (∀ i o, l[i]? = some o → s i = true → ∀ e ∈ o.after, Region.binds .any e = true → s e.on = true) → (∀ e ∈ oo.after, Region.binds .any e = true → s e.on = true) → ∀ j, j < e → s j = true := fun hdc he j hj => by
    unfold midB at hmid
    rw [Bool.and_eq_true] at hmid
    exact bits_done hb hup hdc e oo hoo he j hj (List.all_eq_true.1 hmid.1 j (List.mem_range.2 hj))
  have full : ∀ {s : Nat → Bool} {a : Act} {w : World}, (∀ j, j < n0 → s j = true) → SimE C w0 N ⟨slotS l sb s n0, heapS sb s n0, 0⟩ a w → SimE C w0 N (sb n0) a w := fun {s} _ _ hall S => by
    refine S.cast (fun t => ?_) (fun k => ?_)
    · exact (chB.slot_eq (i := n0) (fun m hm _ => hall m hm) n0 (Nat.le_refl _) (Nat.le_refl _)).symm
    · exact (chB.heap_full hall n0 (Nat.le_refl _)).symm
  refine wpIn_region_inv hm hup (fun s a w => (∀ i o, l[i]? = some o → s i = true → ∀ e ∈ o.after, Region.binds .any e = true → s e.on = true) ∧
    (((∀ i, n0 ≤ i → s i = false) ∧ (s e = false ∧ SimE C w0 N ⟨slotS l sa s n0, heapS sa s n0, 0⟩ a w ∨ s e = true ∧ SimE C w0 N ⟨slotS l sb s n0, heapS sb s n0, 0⟩ a w)) ∨ ∃ m, n0 ≤ m ∧ (∀ i, i < l.length → (s i = true ↔ i < m)) ∧ m ≤ l.length ∧ SimE C w0 N (sb m) a w)) ?_ ?_ ?_
  · refine ⟨fun i o _ h => (by cases h), .inl ⟨fun _ _ => rfl, .inl ⟨rfl, ?_⟩⟩⟩
    have S' : SimE C w0 N st a w.drew := let ⟨J, S⟩ := S; ⟨J, S.toExt (Ext.drew w)⟩
    rw [← e1, ← a1 0 (Nat.zero_le _)] at S'
    refine S'.cast (fun t => ?_) (fun k => ?_)
    · exact slot_more (l := l) (i := 0) (fun m _ _ h => by cases h) (Nat.zero_le _)
    · have : ∀ m, heapS sa (fun _ => false) m k = (sa 0).h k := fun m => by
        induction m with
        | zero => rfl
        | succ m ih => unfold heapS; rw [if_neg (by simp)]; exact ih
      exact this n0
  · rintro s a w i o ho hs hedge ⟨hdc, hInv⟩
    have ho' : l[i]? = some o := by simpa using ho
    have hil : i < l.length := (List.getElem?_eq_some_iff.1 ho').1
    have hdc' : ∀ j oj, l[j]? = some oj → (decide (j = i) || s j) = true → ∀ e ∈ oj.after, Region.binds .any e = true → (decide (e.on = i) || s e.on) = true := fun j oj hj hsj e he hbe => by
      by_cases ej : j = i
      · subst ej; rw [ho'] at hj; cases hj; rw [hedge e he hbe]; simp
      · rw [hdc j oj hj (by simpa [ej] using hsj) e he hbe]; simp
    unfold wpOpIn
    simp only [ho]
    obtain ⟨Inv, hInvE⟩ : ∃ Inv : Act → World → Prop, Inv = fun a' w' => (∀ j oj, l[j]? = some oj → (decide (j = i) || s j) = true → ∀ e ∈ oj.after, Region.binds .any e = true → (decide (e.on = i) || s e.on) = true) ∧
          (((∀ j, n0 ≤ j → (decide (j = i) || s j) = false) ∧ ((decide (e = i) || s e) = false ∧ SimE C w0 N ⟨slotS l sa (fun j => decide (j = i) || s j) n0, heapS sa (fun j => decide (j = i) || s j) n0, 0⟩ a' w' ∨ (decide (e = i) || s e) = true ∧ SimE C w0 N ⟨slotS l sb (fun j => decide (j = i) || s j) n0, heapS sb (fun j => decide (j = i) || s j) n0, 0⟩ a' w')) ∨ ∃ m, n0 ≤ m ∧ (∀ j, j < l.length → ((decide (j = i) || s j) = true ↔ j < m)) ∧ m ≤ l.length ∧ SimE C w0 N (sb m) a' w') := ⟨_, rfl⟩
    have late : ∀ m, n0 ≤ m → (∀ i, i < l.length → (s i = true ↔ i < m)) → m ≤ l.length → SimE C w0 N (sb m) a w → n0 ≤ i →
        if Region.wanted o (yielded l.toArray a.tmps) then o.wpIn (Fence.wr C.ro) 7 C.P a w Inv Qc else Inv (a.put o.dst undef) w := by
      intro m hm hall hml S hin
      have him : i = m := by
        have h1 : ¬ i < m := fun h => by rw [(hall i hil).2 h] at hs; cases hs
        refine Classical.byContradiction fun hc => ?_
        have h2 := tail hdc i o hin ho' hedge m (by omega)
        have := (hall m (by omega)).1 h2
        omega
      subst him
      refine (post i o hin ho').wp S (fun a' w' S' => ?_)
      rw [hInvE]
      refine ⟨hdc', .inr ⟨i + 1, by omega, fun j hj => ?_, hil, S'⟩⟩
      have := hall j hj
      by_cases ej : j = i
      · subst ej; simp
      · simp only [show decide (j = i) = false by simp [ej], Bool.false_or, this]; omega
    refine both_in (fun _ _ => trivial) ?_
    suffices hgoal : if Region.wanted o (yielded l.toArray a.tmps) then o.wpIn (Fence.wr C.ro) 7 C.P a w Inv Qc else Inv (a.put o.dst undef) w by rw [hInvE] at hgoal; exact hgoal
    rcases hInv with ⟨hin, hAB⟩ | ⟨m, hm, hall, hml, S⟩
    · by_cases hi : i < n0
      · rcases hAB with ⟨hse, S⟩ | ⟨hse, S⟩
        · by_cases hie : i = e
          ·
            subst hie
            rw [hoo] at ho'; cases ho'
            have hdone := early hdc hedge
            have hheap : ∀ k, heapS sa s n0 k = (sa i).h k := fun k => by
              rw [chA.heap_here n0 (Nat.le_refl _) (fun j hj hx => by
                by_cases hji : j < i
                · exact hdone j hji
                · have := (lit j (by omega) hj).1; omega)]
              have : ∀ m, i ≤ m → m ≤ n0 → (sa m).h = (sa i).h := fun m him => by
                induction him with
                | refl => intro _; rfl
                | step h ih => intro hmn; rw [(lit _ h (by omega)).2, ih (by omega)]
              rw [this n0 (by omega) (Nat.le_refl _)]
            obtain ⟨conf2, read⟩ := chA.read hb hup (Nat.le_refl _) hap hdc hi hoo hs hedge
            have agr : Agree C oo (sa i) ⟨slotS l sa s n0, heapS sa s n0, 0⟩ := ⟨fun x hx => by
              cases x with
              | tmp t => exact read t (by unfold Oper.looksAt; simp only [List.mem_append, List.mem_filterMap]; exact .inl ⟨.tmp t, hx, rfl⟩)
              | _ => rfl, fun k B hB => .inr ⟨B, (hheap k).trans hB, .inl rfl⟩⟩
            obtain ⟨g0, gd, gw⟩ := hgro
            rw [← a1 i (Nat.le_refl _)] at gw
            have hwt : wantB ⟨slotS l sa s n0, heapS sa s n0, 0⟩ l.toArray oo = some true := by unfold wantB; rw [g0]
            rw [want_sim S hwt, if_pos rfl]
            refine gw w0 a w _ agr hheap S _ _ (fun v w' S' => ?_)
            rw [hInvE]
            refine ⟨hdc', .inl ⟨fun j hj => by rw [hin j hj]; simp; omega, .inr ⟨by simp, S'.cast (fun t => ?_) (fun k => ?_)⟩⟩⟩
            · show slotS l sb (fun j => decide (j = i) || s j) n0 t = (St.put (St.grow ⟨slotS l sa s n0, heapS sa s n0, 0⟩ bi BB) (some bd) (.ow bi)).s t
              by_cases hd : t = bd
              · subst hd
                have e5 : slotS l sb (fun j => decide (j = i) || s j) n0 t = slotS l sb (fun j => decide (j = i) || s j) (i + 1) t := slot_more (fun m hm hmn hsm hdm => by
                  have hmi : ¬ m = i := by omega
                  have hsm' : s m = true := by simpa [hmi] using hsm
                  have hom := List.getElem?_eq_getElem (show m < l.length by omega)
                  rw [hom] at hdm
                  have := conf2 m _ hmn hom (by omega) (by
                    cases hc : oo.apart l.toArray l[m] with
                    | false => rfl
                    | true => exact absurd hdm ((Oper.apart_spec hc).2.1 t gd))
                  rw [this] at hsm'; cases hsm') (by omega)
                rw [e5]
                show (if (decide (i = i) || s i) = true ∧ (l[i]?).bind (·.dst) = some t then (sb (i + 1)).s t else slotS l sb (fun j => decide (j = i) || s j) i t) = _
                rw [if_pos ⟨by simp, by rw [hoo]; exact gd⟩, b1 _ (Nat.le_refl _)]
                simp only [St.put, upd_same]
              · have hbase : ∀ m, m ≤ i + 1 → slotS l sb (fun j => decide (j = i) || s j) m t = killA bi ((sa i).s t) := fun m => by
                  induction m with
                  | zero =>
                    intro _
                    show (sb 0).s t = _
                    rw [b1 0 (by omega)]; simp only [St.put]; rw [upd_other _ _ hd]; rfl
                  | succ m ih =>
                    intro hmi
                    show (if (decide (m = i) || s m) = true ∧ (l[m]?).bind (·.dst) = some t then (sb (m + 1)).s t else slotS l sb (fun j => decide (j = i) || s j) m t) = _
                    split
                    · rw [b1 (m + 1) hmi]; simp only [St.put]; rw [upd_other _ _ hd]; rfl
                    · exact ih (by omega)
                have hA0 : slotS l sa s (i + 1) t = (sa i).s t := by
                  show (if s i = true ∧ (l[i]?).bind (·.dst) = some t then (sa (i + 1)).s t else slotS l sa s i t) = _
                  rw [if_neg (by rw [hs]; simp)]
                  exact chA.slot_eq (i := i) (fun m hm _ => hdone m hm) i (Nat.le_refl _) (by omega)
                have hstep : ∀ m, i + 1 ≤ m → m ≤ n0 → slotS l sb (fun j => decide (j = i) || s j) m t = killA bi (slotS l sa s m t) := fun m him => by
                  induction him with
                  | refl => intro _; rw [hbase _ (Nat.le_refl _), hA0]
                  | @step m him ih =>
                    intro hmn
                    have hmi : ¬ m = i := by have : i + 1 ≤ m := him; omega
                    show (if (decide (m = i) || s m) = true ∧ (l[m]?).bind (·.dst) = some t then (sb (m + 1)).s t else slotS l sb (fun j => decide (j = i) || s j) m t) = killA bi (if s m = true ∧ (l[m]?).bind (·.dst) = some t then (sa (m + 1)).s t else slotS l sa s m t)
                    by_cases hc : s m = true ∧ (l[m]?).bind (·.dst) = some t
                    · rw [if_pos ⟨by simp [hc.1], hc.2⟩, if_pos hc]
                      have hml : m < l.length := by omega
                      have hom := List.getElem?_eq_getElem hml
                      have hdm : (l[m]).dst = some t := by have := hc.2; rw [hom] at this; exact this
                      have endA : (sa (m + 1)).s t = (sa n0).s t := by
                        have : ∀ q, m + 1 ≤ q → q ≤ n0 → (sa q).s t = (sa (m + 1)).s t := fun q hq => by
                          induction hq with
                          | refl => intro _; rfl
                          | @step q hq ih2 =>
                            intro hqn
                            have hq' : m + 1 ≤ q := hq
                            obtain ⟨oq, hoq, h1⟩ := chA.one (show q < n0 by omega)
                            rw [h1.slot.1 t (fun h => (midB_light hmid (show q < n0 by omega) (show i < q by have : i + 1 ≤ m := him; omega) hoq) m _ (show i < m from him) (by omega) hom t h hdm), ih2 (by omega)]
                        exact (this n0 hmn (Nat.le_refl _)).symm
                      have endB : (sb (m + 1)).s t = (sb n0).s t := by
                        have : ∀ q, m + 1 ≤ q → q ≤ n0 → (sb q).s t = (sb (m + 1)).s t := fun q hq => by
                          induction hq with
                          | refl => intro _; rfl
                          | @step q hq ih2 =>
                            intro hqn
                            have hq' : m + 1 ≤ q := hq
                            obtain ⟨oq, hoq, h1⟩ := chB.one (show q < n0 by omega)
                            rw [h1.slot.1 t (fun h => (midB_light hmid (show q < n0 by omega) (show i < q by have : i + 1 ≤ m := him; omega) hoq) m _ (show i < m from him) (by omega) hom t h hdm), ih2 (by omega)]
                        exact (this n0 hmn (Nat.le_refl _)).symm
                      rw [endA, endB]
                      have hmem : l[m] ∈ (l.take n0).drop (i + 1) := List.mem_of_getElem? (getm m _ him (by omega) hom)
                      have := dstsB_mem hds hmem hdm
                      rw [a2 n0 (by omega), b2 n0 (by omega) (Nat.le_refl _)]
                      exact this.symm
                    · rw [if_neg (fun h => hc ⟨by simpa [hmi] using h.1, h.2⟩), if_neg hc]
                      exact ih (by omega)
                rw [hstep n0 (by omega) (Nat.le_refl _)]
                show _ = (St.put (St.grow ⟨slotS l sa s n0, heapS sa s n0, 0⟩ bi BB) (some bd) (.ow bi)).s t
                simp only [St.put]; rw [upd_other _ _ hd]; rfl
            · show heapS sb (fun j => decide (j = i) || s j) n0 k = (St.put (St.grow ⟨slotS l sa s n0, heapS sa s n0, 0⟩ bi BB) (some bd) (.ow bi)).h k
              rw [hBheap _ n0 (Nat.le_refl _) k, b1 0 (by omega)]
              show (bif Nat.beq k bi then some BB else ((sa i).h k).map (killB bi)) = (bif Nat.beq k bi then some BB else (heapS sa s n0 k).map (killB bi))
              rw [hheap k]
          · refine chA.step hb hup (Nat.le_refl _) hap (ov := fun _ => none) (fun _ _ h => by cases h) hdc hi ho' hs hedge S (oneA i o hi hie ho') (fun a' w' S' => ?_)
            rw [hInvE]
            refine ⟨hdc', .inl ⟨fun j hj => by rw [hin j hj]; simp; omega, .inl ⟨by rw [hse]; simp; omega, S'⟩⟩⟩
        · have hei : e < i := by
            refine Nat.lt_of_not_le fun hle2 => ?_
            rcases Nat.lt_or_eq_of_le hle2 with h | h
            · have := early hdc (hdc e oo hoo hse) i h
              rw [hs] at this; cases this
            · subst h; rw [hs] at hse; cases hse
          refine chB.step hb hup (Nat.le_refl _) hap (ov := fun _ => none) (fun _ _ h => by cases h) hdc hi ho' hs hedge S (oneB i o hei hi ho') (fun a' w' S' => ?_)
          rw [hInvE]
          refine ⟨hdc', .inl ⟨fun j hj => by rw [hin j hj]; simp; omega, .inr ⟨by rw [hse]; simp, S'⟩⟩⟩
      · have hall : ∀ j, j < n0 → s j = true := fun j hj => tail hdc i o (by omega) ho' hedge j (by omega)
        rcases hAB with ⟨hse, S⟩ | ⟨hse, S⟩
        · rw [hall e hen] at hse; cases hse
        · refine late n0 (Nat.le_refl _) (fun j hj => ⟨fun h => ?_, fun h => hall j h⟩) hle' (full hall S) (by omega)
          refine Classical.byContradiction fun hc => ?_
          rw [hin j (by omega)] at h; cases h
    · refine late m hm hall hml S ?_
      refine Classical.byContradiction fun hc => ?_
      rw [(hall i hil).2 (by omega)] at hs; cases hs
  · rintro s a w hall ⟨_, hInv⟩
    rcases hInv with ⟨hin, hAB⟩ | ⟨m, hm, hiff, hml, S⟩
    · have hn : n0 = l.length := by
        refine Classical.byContradiction fun hc => ?_
        have := hall n0 (by omega)
        rw [hin n0 (Nat.le_refl _)] at this; cases this
      rcases hAB with ⟨hse, S⟩ | ⟨hse, S⟩
      · rw [hall e (by omega)] at hse; cases hse
      · refine hq (sb l.length) a w hend ?_
        rw [← hn]
        exact full (fun j hj => hall j (by omega)) S
    · have hmm : m = l.length := by
        refine Classical.byContradiction fun hc => ?_
        have := (hiff m (by omega)).1 (hall m (by omega))
        omega
      exact hq _ a w (hmm ▸ hend) (hmm ▸ S)
structure GD (C : Ctx) (N : Nat) (ops : Array Oper) (o : Oper) (mid : List Oper) (K : St → Prop) (st : St) : Prop where
  out : ∃ i B d, GroOp C N o st i B d ∧ Run C N ops true (fun st1 => Run C N ops true (fun st2 => (dstsB mid st1.s st2.s i ∧ st1.nx = st.nx ∧ st2.nx = st.nx) ∧ K st2) mid ((st.grow i B).put (some d) (.ow i))) mid st
structure KD (mid : List Oper) (i n : Nat) (K : St → Prop) (st1 st2 : St) : Prop where
  eqs : dstsB mid st1.s st2.s i
  nx1 : st1.nx = n
  nx2 : st2.nx = n
  out : K st2
theorem w_draw2 {Q : Exit → St → Prop} {id : Nat} {st : St} (e n0 : Nat) (hm : C.P.follows .mixedOrders = true) (hok : okReg l n0 = true) (hmid : (midB l (bitsOf l) e n0 && Nat.blt e n0) = true) {oo : Oper} (hoo : l[e]? = some oo) (h : R C N l.toArray true (GD C N l.toArray oo ((l.take n0).drop (e + 1)) (R C N l.toArray false (Q .normal) (l.drop n0))) (l.take e) st) : W C N (.region id l.toArray true) Q st := by
  rw [Bool.and_eq_true] at hmid
  exact ⟨fun _w0 _a _w _Qc S hq => draw_sound2 e hm hok hmid.1 (Nat.le_of_ble_eq_true hmid.2) hoo (Run.mono (fun _ g => let ⟨i, B, d, h1, h2⟩ := g.out; ⟨i, B, d, h1, Run.mono (fun _ h3 => Run.mono (fun _ h4 => ⟨h4.1, h4.2.out⟩) h3) h2⟩) h.out) S (fun _st' _a' _w' q S' => hq _ _ _ _ q S')⟩
theorem v_gro {o : Oper} {st : St} {T i n m e sz bs d : Nat} {x y : Operand} {cs ys : List FV} {zs : List Value} (ty : Ty C.P) (ho : o.op = .call { callee := .builtin .append, args := #[x, y], argTypes := #[T, T] }) (hg : o.guard = none) (hd : o.dst = some d) (hdN : dstB N o.dst = true) (hT : (ty.ty T).sl = some (e, sz, bs)) (hz : (ty.ty e).zero = some zs) (hzl : zs.length = sz) (hsz : Nat.blt 0 sz = true)
    (hx : st.ev C x = .ow i) (hi : st.h i = some (.row e sz n cs)) (hy : st.ev C y = .f (.sl m ys)) (hl : ys.length = m * sz) (h63 : n + m ≤ maxLen) (hbs : (n + m) * bs ≤ 140737488355328) : GroOp C N o st i (.row e sz (n + m) (cs ++ ys)) d :=
  ⟨hg, hd, fun w0 a w st' hA hh S K Q hK => e_append (st := st') ty ho hd hdN hT hz hzl (Nat.le_of_ble_eq_true hsz) ((hA.ev x (by simp [ho, Op.operands, Call.operands])).trans hx) ((hh i).trans hi) ((hA.ev y (by simp [ho, Op.operands, Call.operands])).trans hy) hl h63 hbs w0 a w S K Q hK⟩
theorem s_gro (ty : Ty C.P) {T0 : TypeId} {pos : String} {af : Array Edge} {K : St → Prop} {ops : Array Oper} {mid : List Oper} {st : St} {T i n m e sz bs d : Nat} {x y : Operand} {cs ys : List FV} {zs : List Value} (hdN : dstB N (some d) = true) (hT : (ty.ty T).sl = some (e, sz, bs)) (hz : (ty.ty e).zero = some zs) (hzl : zs.length = sz) (hsz : Nat.blt 0 sz = true)
    (hx : st.ev C x = .ow i) (hi : st.h i = some (.row e sz n cs)) (hy : st.ev C y = .f (.sl m ys)) (hl : ys.length = m * sz) (h63 : n + m ≤ maxLen) (hbs : (n + m) * bs ≤ 140737488355328)
    (h : R C N ops true (fun st1 => R C N ops true (KD mid i st.nx K st1) mid ((st.grow i (.row e sz (n + m) (cs ++ ys))).put (some d) (.ow i))) mid st) : GD C N ops ⟨some d, .call { callee := .builtin .append, args := #[x, y], argTypes := #[T, T] }, T0, pos, af, none⟩ mid K st :=
  ⟨i, _, d, v_gro ty rfl rfl rfl hdN hT hz hzl hsz hx hi hy hl h63 hbs, Run.mono (fun _ h1 => Run.mono (fun _ h2 => ⟨⟨h2.eqs, h2.nx1, h2.nx2⟩, h2.out⟩) h1.out) h.out⟩
end
end Go.Ab
namespace Go.Proofs.YtdmdpkoapllkkaaGreat
open Go Go.RowKit Go.Proofs Go.Shelf Go.Ab Go.Sort
theorem eq_hit {x y : Operand} {a b : Hit} {c : Bool} (h : decide (a = b) = c) : ∀ w, (do eqGuard .eql 29 x y (.agg #[.int .i64 a.tm, .int .i64 a.line, .int .i64 a.sensor]) (.agg #[.int .i64 b.tm, .int .i64 b.line, .int .i64 b.sensor]); binOp .eql 29 (.agg #[.int .i64 a.tm, .int .i64 a.line, .int .i64 a.sensor]) (.agg #[.int .i64 b.tm, .int .i64 b.line, .int .i64 b.sensor]) : Sem Value).run Tryz.prog w = .ok (.bool c) w := fun w => by
  have h1 := equalIn_hit 9998 a b w
  rw [h] at h1
  first
  | (simp [eqGuard, run_eql_struct, h1]; done)
  | simp [eqGuard, guard_hit, run_eql_struct, h1]
theorem isNaN_w (n : Int) (W : World) : Calls Tryz.prog 175 #[.int .i64 n] W fun e w' => e = .returned (.bool false) ∧ W = w' := by
  go_enter Tryz.func175, Tryz.ntmps175
  go_wp2
  go_ret
  exact ⟨rfl, rfl⟩
theorem Compare_w (a b : Int) (W : World) : Calls Tryz.prog 157 #[.int .i64 a, .int .i64 b] W fun e w' => e = .returned (.int .i64 (cmpI a b)) ∧ W = w' := by
  unfold cmpI
  by_cases h1 : a < b
  · rw [if_pos h1]
    go_enter Tryz.func157, Tryz.ntmps157
    go_wp2_with (go_at_call 175; refine (isNaN_w _ _).mono ?_; rintro e w' ⟨rfl, rfl⟩)
    go_ret
    exact ⟨rfl, rfl⟩
  · rw [if_neg h1]
    by_cases h2 : b < a
    · rw [if_pos h2]
      go_enter Tryz.func157, Tryz.ntmps157
      go_wp2_with (go_at_call 175; refine (isNaN_w _ _).mono ?_; rintro e w' ⟨rfl, rfl⟩)
      go_ret
      exact ⟨rfl, rfl⟩
    · rw [if_neg h2]
      go_enter Tryz.func157, Tryz.ntmps157
      go_wp2_with (go_at_call 175; refine (isNaN_w _ _).mono ?_; rintro e w' ⟨rfl, rfl⟩)
      go_ret
      exact ⟨rfl, rfl⟩
theorem Or3_w (B : Nat) (a b c : Int) (W : World) (h0 : W.cell? ⟨B, 0, none⟩ = some (.int .i64 a)) (h1 : W.cell? ⟨B, 1, none⟩ = some (.int .i64 b)) (h2 : W.cell? ⟨B, 2, none⟩ = some (.int .i64 c)) : Calls Tryz.prog 156 #[.slice (some ⟨B, 0, none⟩) 3 3] W fun e w' => e = .returned (.int .i64 (firstE [a, b, c])) ∧ W = w' := by
  go_enter Tryz.func156, Tryz.ntmps156
  go_wp2
  go_loopw [8] (fun i wr => wr = W ∧ ((i = .int .i64 0) ∨ (i = .int .i64 1 ∧ a = 0) ∨ (i = .int .i64 2 ∧ a = 0 ∧ b = 0) ∨ (i = .int .i64 3 ∧ a = 0 ∧ b = 0 ∧ c = 0))) (fun i _ => 3 - (intOf i).toNat)
  case atStart => exact ⟨rfl, .inl rfl⟩
  case round =>
    obtain ⟨rfl, hr⟩ := hrel
    rcases hr with rfl | ⟨rfl, rfl⟩ | ⟨rfl, rfl, rfl⟩ | ⟨rfl, rfl, rfl, rfl⟩
    · by_cases he : a = 0
      · subst he
        go_wp2
        go_roundw
        case rel => simp
        case measure => simp [intOf]
      · go_wp2
        go_ret
        exact ⟨by simp [firstE, he], rfl⟩
    · by_cases he : b = 0
      · subst he
        go_wp2
        go_roundw
        case rel => simp
        case measure => simp [intOf]
      · go_wp2
        go_ret
        exact ⟨by simp [firstE, he], rfl⟩
    · by_cases he : c = 0
      · subst he
        go_wp2
        go_roundw
        case rel => simp
        case measure => simp [intOf]
      · go_wp2
        go_ret
        exact ⟨by simp [firstE, he], rfl⟩
    · go_wp2
      go_ret
      exact ⟨by simp [firstE], rfl⟩
def encH (x : Hit) : List Value := [.int .i64 x.tm, .int .i64 x.line, .int .i64 x.sensor]
theorem cellN (W : World) (a b : Obj) (n : Nat) (cs : Array Value) (T : TypeId) (k : Nat) (v : Value) (h : cs[k]? = some v) : ((((W.alloc a).alloc b).drewN n).alloc (Obj.cells cs T)).cell? ⟨W.heap.size + 1 + 1, k, none⟩ = some v := by
  rw [← h]
  show (match ((((W.heap.push a).push b).push (Obj.cells cs T)))[W.heap.size + 1 + 1]? with
    | some (.cells c _ _) => if (none : Option Nat).isSome then none else c[k]?
    | _ => none) = cs[k]?
  have e : (((W.heap.push a).push b).push (Obj.cells cs T))[W.heap.size + 1 + 1]? = some (Obj.cells cs T) := by
    have h1 := Array.getElem?_push_size (xs := (W.heap.push a).push b) (x := Obj.cells cs T)
    rwa [show ((W.heap.push a).push b).size = W.heap.size + 1 + 1 by simp] at h1
  rw [e]; rfl
set_option maxHeartbeats 1600000 in
theorem compare_w (x y : Hit) (W : World) : Calls Tryz.prog 122 #[.agg (encH x).toArray, .agg (encH y).toArray] W fun e w' => e = .returned (.int .i64 (cmpHit x y)) ∧ ∃ q os', w' = grow (W.drewN q) os' := by
  unfold encH cmpHit
  obtain ⟨x0, x1, x2⟩ := x
  obtain ⟨y0, y1, y2⟩ := y
  go_enter Tryz.func122, Tryz.ntmps122
  go_wp2
  refine wp_region_quiet_tail (fun w' => ∃ n, w' = World.drewN _ n) 15 (by kernel_rfl) (by kernel_rfl) ⟨1, rfl⟩ ?_
  repeat (quiet_step ((go_at_call 157; exact Calls.quiet_of_same ((Compare_w _ _ _).mono fun _ _ ⟨h1, h2⟩ => ⟨h1, h2.symm⟩))))
  refine wpQuiet_nil ?_
  intro w' hw'
  obtain ⟨nq, rfl⟩ := hw'
  go_wp2_with (go_at_call 156; refine (Or3_w _ (cmpI x0 y0) (cmpI x1 y1) (cmpI x2 y2) _ (cellN _ _ _ _ _ _ 0 _ rfl) (cellN _ _ _ _ _ _ 1 _ rfl) (cellN _ _ _ _ _ _ 2 _ rfl)).mono ?_; rintro e w' ⟨rfl, rfl⟩)
  go_ret
  exact ⟨rfl, nq, _, by rw [alloc_eq_grow, alloc_eq_grow, alloc_eq_grow, grow_grow]; show grow (grow (W.drewN nq) _) _ = _; rw [grow_grow]⟩
theorem ltH (x y : Hit) : ltOf cmpHit x y = decide (before x y) := by
  unfold ltOf
  exact decide_eq_decide.2 (cmpHit_neg x y)
theorem swoH : SWO (ltOf cmpHit) where
  irrefl x := by rw [ltH]; exact decide_eq_false before_irr
  trans x y z h1 h2 := by
    rw [ltH] at *
    exact decide_eq_true (before_trans (of_decide_eq_true h1) (of_decide_eq_true h2))
  ntrans x y z h1 h2 := by
    rw [ltH] at *
    have a := of_decide_eq_false h1
    have b := of_decide_eq_false h2
    refine decide_eq_false fun h => ?_
    rcases before_tot (a := x) (b := y) with q | q | q
    · exact a q
    · subst q; exact b h
    · rcases before_tot (a := y) (b := z) with r | r | r
      · exact b r
      · subst r; exact a h
      · exact before_irr (before_trans (before_trans r q) h)
def sortHits (l : List Hit) : List Hit := sortL cmpHit l
theorem sortHits_perm (l : List Hit) : (sortHits l).Perm l := sortL_perm swoH l
theorem sortHits_len (l : List Hit) : (sortHits l).length = l.length := sortL_len swoH l
theorem sortHits_weak (l : List Hit) : Weak (sortHits l) := (sortL_pw swoH l).imp fun {x y} h => fun hb => h ((cmpHit_neg y x).2 hb)
theorem encH_F (l : List Hit) : (l.flatMap encH).map FV.v = hitsF l := by
  induction l with
  | nil => rfl
  | cons r l ih => rw [List.flatMap_cons, List.map_append, ih]; simp [hitsF, hitF, iv, encH]
theorem sortFuncH_s (l : List Hit) (h60 : l.length < 1000000) : SummG Tryz.prog GG 121 [.arr 29 3 l.length ((hitsF l).map .f)] [.ow 0, .f (.fn 122 [])] (.f (.tup [])) [.arr 29 3 l.length ((hitsF (sortHits l)).map .f)] :=
  sortG (ρ := sortH_ren) sortH Tryz.isAgg29 Tryz.sizeOf29 (enc := encH) (k := 3) (fun _ => rfl) (by decide) (fun x v hv => by simp [encH] at hv; rcases hv with rfl | rfl | rfl <;> rfl) cmpHit swoH 122 (enters_of Tryz.func122 (by kernel_rfl) rfl) compare_w
    (fun pp cap fv w => AnyF.slices_SortFunc_none (P := Tryz.prog) (ρ := sortH_ren) { sortH with } pp cap fv w) (enters_of Tryz.func121 (by kernel_rfl) rfl) l (by omega) 29 rfl (encH_F l) (encH_F _)
theorem setAt_mid {α : Type} : ∀ (r b a c : List α), b.length = r.length → setAt (a ++ b ++ c) a.length r = a ++ r ++ c
  | [], [], _, _, _ => rfl
  | x :: r, y :: b, a, c, h => by
    have e : (a ++ y :: b ++ c).set a.length x = (a ++ [x]) ++ b ++ c := by
      rw [List.append_assoc, List.set_append_right _ _ (Nat.le_refl _), Nat.sub_self]; simp
    have ih := setAt_mid r b (a ++ [x]) c (by simpa using h)
    rw [List.length_append] at ih
    rw [setAt, e]
    exact ih.trans (by simp)
theorem flat_setAt (pre post : List Hit) (y x : Hit) {o : Nat} (ho : o = pre.length) : setAt (hitsF (pre ++ y :: post)) (o * 3) (hitF x) = hitsF (pre ++ x :: post) := by
  subst ho
  rw [hitsF_app, hitsF_app, show hitsF (y :: post) = hitF y ++ hitsF post from rfl, show hitsF (x :: post) = hitF x ++ hitsF post from rfl]
  rw [← hitsF_len pre, ← List.append_assoc, ← List.append_assoc]
  exact setAt_mid (hitF x) (hitF y) _ _ rfl
end Go.Proofs.YtdmdpkoapllkkaaGreat
namespace Go.Proofs.YtdmdpkoapllkkaaGreat
open Go Go.RowKit Go.Proofs Go.Shelf Go.Ab
theorem keep_sub (s : List Hit) (n i : Nat) (hn : (keepK s n).length ≤ i) (hi : i < s.length) : ((hitsF (keepK s n ++ s.drop (keepK s n).length)).drop (i * 3)).take 3 = hitF s[i] := by
  have hl : i < (keepK s n ++ s.drop (keepK s n).length).length := by rw [List.length_append, List.length_drop]; omega
  rw [hitsF_sub hl]
  congr 1
  rw [List.getElem_append_right hn, List.getElem_drop]
  congr 1; omega
theorem keep_len (s : List Hit) (n : Nat) (hn : (keepK s n).length ≤ s.length) : (hitsF (keepK s n ++ s.drop (keepK s n).length)).length = s.length * 3 := by
  rw [hitsF_len, List.length_append, List.length_drop]; congr 1; omega
theorem keep_store (s : List Hit) (n : Nat) (hn : n < s.length) (hm : (keepK s n).length ≤ n) (hne : n = 0 ∨ s.getD n default ≠ s.getD (n - 1) default) : setAt (hitsF (keepK s n ++ s.drop (keepK s n).length)) ((keepK s n).length * 3) (hitF s[n]) = hitsF (keepK s (n + 1) ++ s.drop (keepK s (n + 1)).length) := by
  rw [keepK_succ, if_pos hne, getD_eq hn, List.drop_eq_getElem_cons (show (keepK s n).length < s.length by omega), flat_setAt _ _ _ _ rfl]
  rw [List.length_append, List.length_singleton, List.append_assoc]; rfl
theorem rowK {n : Nat} {cs cs' : List FV} (h : cs = cs') : some (Blk.row 29 3 n cs) = some (Blk.row 29 3 n cs') := by rw [h]
theorem rowK2 {n m : Nat} {cs cs' : List FV} (hn : n = m) (h : cs = cs') : some (Blk.row 29 3 n cs) = some (Blk.row 29 3 m cs') := by rw [h, hn]
set_option maxRecDepth 100000 in
set_option maxHeartbeats 3200000 in
theorem compact_g (s : List Hit) (h60 : s.length ≤ 1000000) : SummG Tryz.prog GG 123 [.row 29 3 s.length (hitsF s)] [.ow 0] (.ow 0) [.row 29 3 (keepK s s.length).length (hitsF (keepK s s.length))] := by
  have hsl := hitsF_len s
  by_cases h2 : s.length < 2
  · have hk : (keepK s s.length) = s := by rw [keepK_take (Nat.le_refl _) (fun i h0 hi => by omega), List.take_length]
    rw [hk]
    refine summG_of Tryz.func123 rfl rfl 61 rfl (by simp) (by simp) (fun i B B' h1 h2 => by
        match i, h1, h2 with
    | 0, h1, h2 => cases h1; cases h2; rfl
    | _ + 1, h1, _ => simp at h1) (fun M X J => ?_)
    repeat (first
    | (apply s_a TY; exact rfl)
    | (apply s_t; exact rfl; (first | assumption | omega))
    | apply w_seq
    | apply w_region
    | apply s_nil
    | apply t_norm
    | apply t_ret
    | apply w_ret
    | (apply w_condT; exact rfl; exact rfl))
    exact lvG_ret (gh_one 0 2 rfl rfl) (rg1 rfl (rv_tmp rfl))
  · refine summG_of Tryz.func123 rfl rfl 61 rfl (by simp) (by simp) (fun i B B' h1 h2 => by
        match i, h1, h2 with
    | 0, h1, h2 => cases h1; cases h2; rfl
    | _ + 1, h1, _ => simp at h1) (fun M X J => ?_)
    repeat (first
    | (apply s_a TY; exact rfl)
    | (apply s_f; exact rfl; (first | assumption | omega))
    | apply w_seq
    | apply w_region
    | apply s_nil
    | apply t_norm
    | apply w_block
    | apply w_skip
    | (apply w_condF; exact rfl; exact rfl))
    apply w_loop (fun k : Nat => ⟨(Ab.upd (Ab.upd (fun _ => .bot) 0 (.ow 0)) 3 (.f (iv ((k : Nat) : Int)))), (Ab.upd (fun _ => none) 0 (some (.row 29 3 s.length (hitsF s)))), 1⟩) (fun k => 1 ≤ k ∧ k ≤ s.length ∧ ∀ i, 0 < i → i < k → s.getD i default ≠ s.getD (i - 1) default) (fun k => s.length - k) 1 (⟨by omega, by omega, fun i h0 hi => by omega⟩) (gh_le ⟨le_upd rfl trivial (le_upd rfl rfl (le_nil _)), le_hupd rfl trivial (le_h0 _ _)⟩)
    intro k ⟨hk1, hk, hd⟩
    by_cases hc : k < s.length
    · have e1 : ((hitsF s).drop (((k : Nat) : Int).toNat * 3)).take 3 = hitF s[k] := hitsF_sub hc
      have e2 : ((hitsF s).drop ((((k : Nat) : Int) - 1).toNat * 3)).take 3 = hitF s[k - 1] := by
        rw [show (((k : Nat) : Int) - 1).toNat = k - 1 by omega]; exact hitsF_sub (show k - 1 < s.length by omega)
      by_cases he : s[k] = s[k - 1]
      · have hkk : keepK s (k + 1) = s.take k := by
          rw [keepK_succ, if_neg (by rw [getD_eq hc, getD_eq (show k - 1 < s.length by omega)]; exact fun h => h.elim (by omega) (fun h => h he)), List.append_nil, keepK_take (by omega) hd]
        have hkl : (keepK s (k + 1)).length = k := by rw [hkk, List.length_take]; omega
        repeat (first
    | (apply s_bind; exact rfl; exact rfl; exact rfl; exact rfl; exact rfl; exact rfl; exact eq_hit (c := true) (by simp [he]))
    | (apply s_ldrs TY; exact rfl; exact rfl; exact rfl; exact rfl; exact rfl; assumption; exact rfl)
    | (apply s_slice_ow TY; exact rfl; exact rfl; exact rfl; exact rfl; exact rfl; omega; omega)
    | (apply s_a TY; exact rfl)
    | (apply s_t; exact rfl; (first | assumption | omega))
    | apply w_seq
    | apply w_region
    | (apply w_draw (id := 6) 9 rfl (by kernel_rfl))
    | apply s_nil
    | apply t_norm
    | apply w_block
    | apply w_skip
    | (apply w_condT; exact rfl; exact rfl)
    | (apply s_c TY; exact rfl; (first | omega | exact ⟨by omega, by (first | with_reducible assumption | ((with_reducible apply hitsF_ne); omega) | assumption)⟩))
    | (apply s_z TY; exact rfl; (first | omega | exact ⟨by omega, by (first | with_reducible assumption | ((with_reducible apply hitsF_ne); omega) | assumption)⟩)))
        apply w_loop (fun j : Nat => ⟨(Ab.upd (Ab.upd (Ab.upd (Ab.upd (fun _ => .bot) 0 (.ow 0)) 3 (.f (iv (((keepK s (k + j)).length : Nat) : Int)))) 4 (.sv 0 (((k : Nat) : Int).toNat * 3) (s.length - ((k : Nat) : Int).toNat))) 5 (.f (iv ((j : Nat) : Int)))), (Ab.upd (fun _ => none) 0 (some (.row 29 3 s.length (hitsF ((keepK s (k + j)) ++ s.drop (keepK s (k + j)).length))))), 1⟩) (fun j => 1 ≤ j ∧ k + j ≤ s.length ∧ (keepK s (k + j)).length + 1 ≤ k + j) (fun j => s.length - (k + j)) 1 (⟨Nat.le_refl _, by omega, by omega⟩) (gh_le ⟨le_upd rfl trivial (le_upd rfl rfl (le_upd (by rw [hkl]; rfl) trivial (le_upd rfl rfl (le_nil _)))), le_hupd (rowK (by rw [hkl, hkk, List.take_append_drop])) trivial (le_h0 _ _)⟩)
        intro j ⟨hj1, hj, hm⟩
        by_cases hjc : k + j < s.length
        · have f1 : ((hitsF ((keepK s (k + j)) ++ s.drop (keepK s (k + j)).length)).drop (((k : Nat) : Int).toNat * 3 + ((j : Nat) : Int).toNat * 3)).take 3 = hitF s[k + j] := by
            rw [show ((k : Nat) : Int).toNat * 3 + ((j : Nat) : Int).toNat * 3 = (k + j) * 3 by omega]; exact keep_sub s (k + j) (k + j) (by omega) hjc
          have f2 : ((hitsF ((keepK s (k + j)) ++ s.drop (keepK s (k + j)).length)).drop (((k : Nat) : Int).toNat * 3 + (((j : Nat) : Int) - 1).toNat * 3)).take 3 = hitF s[k + j - 1] := by
            rw [show ((k : Nat) : Int).toNat * 3 + (((j : Nat) : Int) - 1).toNat * 3 = (k + j - 1) * 3 by omega]; exact keep_sub s (k + j) (k + j - 1) (by omega) (by omega)
          by_cases he : s[k + j] = s[k + j - 1]
          · have hs : keepK s (k + (j + 1)) = (keepK s (k + j)) := by
              rw [show k + (j + 1) = (k + j) + 1 by omega, keepK_succ, if_neg (by rw [getD_eq hjc, getD_eq (show k + j - 1 < s.length by omega)]; exact fun h => h.elim (by omega) (fun h => h he)), List.append_nil]
            repeat (first
    | (apply s_bind; exact rfl; exact rfl; exact rfl; exact rfl; exact rfl; exact rfl; exact ne_hit (c := false) (by simp [he]))
    | (apply s_ldrs TY; exact rfl; exact rfl; exact rfl; exact rfl; exact rfl; assumption; exact rfl)
    | (apply s_len_sv TY; exact rfl; exact rfl; exact rfl)
    | (apply s_idx_sv TY; exact rfl; exact rfl; exact rfl; exact rfl; omega; omega)
    | (apply s_a TY; exact rfl)
    | (apply s_t; exact rfl; (first | assumption | omega))
    | apply w_seq
    | apply w_region
    | (apply w_draw (id := 11) 9 rfl (by kernel_rfl))
    | apply s_nil
    | apply t_norm
    | apply k_norm
    | apply w_block
    | apply w_skip
    | (apply w_condT; exact rfl; exact rfl)
    | (apply w_condF; exact rfl; exact rfl)
    | (apply s_c TY; exact rfl; (first | omega | exact ⟨by omega, by (first | with_reducible assumption | ((with_reducible apply hitsF_ne); omega) | assumption)⟩)))
            exact ⟨j + 1, ⟨by omega, by omega, by rw [hs]; omega⟩, by omega, gh_le ⟨le_upd rfl trivial (le_upd rfl rfl (le_upd (by rw [hs]; rfl) trivial (le_upd rfl rfl (le_nil _)))), le_hupd (rowK (by rw [hs])) trivial (le_h0 _ _)⟩⟩
          · have hne : k + j = 0 ∨ s.getD (k + j) default ≠ s.getD (k + j - 1) default := by rw [getD_eq hjc, getD_eq (show k + j - 1 < s.length by omega)]; exact .inr he
            have hs : (keepK s (k + (j + 1))).length = (keepK s (k + j)).length + 1 := by
              rw [show k + (j + 1) = (k + j) + 1 by omega, keepK_succ, if_pos hne, List.length_append]; rfl
            have hX := keep_len s (k + j) (by omega)
            have hst : (((keepK s (k + j)).length : Nat) : Int).toNat * 3 + (hitF s[k + j]).length ≤ (hitsF ((keepK s (k + j)) ++ s.drop (keepK s (k + j)).length)).length := by rw [hX]; show _ + 3 ≤ _; omega
            have hset := keep_store s (k + j) hjc (by omega) hne
            repeat (first
    | (apply s_bind; exact rfl; exact rfl; exact rfl; exact rfl; exact rfl; exact rfl; exact ne_hit (c := true) (by simp [he]))
    | (apply s_ldrs TY; exact rfl; exact rfl; exact rfl; exact rfl; exact rfl; assumption; exact rfl)
    | (apply s_storeR TY; exact rfl; exact rfl; exact rfl; exact rfl; exact rfl; exact hst)
    | (apply s_len_sv TY; exact rfl; exact rfl; exact rfl)
    | (apply s_idx_sv TY; exact rfl; exact rfl; exact rfl; exact rfl; omega; omega)
    | (apply s_a TY; exact rfl)
    | (apply s_t; exact rfl; (first | assumption | omega))
    | apply w_seq
    | apply w_region
    | (apply w_draw (id := 11) 9 rfl (by kernel_rfl))
    | apply s_nil
    | apply t_norm
    | apply k_norm
    | apply w_block
    | apply w_skip
    | (apply w_condT; exact rfl; exact rfl)
    | (apply s_c TY; exact rfl; (first | omega | exact ⟨by omega, by (first | with_reducible assumption | ((with_reducible apply hitsF_ne); omega) | assumption)⟩)))
            exact ⟨j + 1, ⟨by omega, by omega, by rw [hs]; omega⟩, by omega, gh_le ⟨le_upd rfl trivial (le_upd rfl rfl (le_upd (by rw [hs]; rfl) trivial (le_upd rfl rfl (le_nil _)))), le_hupd (rowK hset) trivial (le_h0 _ _)⟩⟩
        · have hje : k + j = s.length := by omega
          rw [hje] at hm
          have hX := keep_len s (k + j) (by rw [hje]; omega)
          rw [show s.length = k + j by omega] at hm
          repeat (first
    | (apply s_slice_ow TY; exact rfl; exact rfl; exact rfl; exact rfl; exact rfl; omega; omega)
    | (apply s_len_sv TY; exact rfl; exact rfl; exact rfl)
    | (apply s_clear_sv TY; exact rfl; exact rfl; exact rfl; exact rfl; exact rfl; (show _ + _ * 3 ≤ _; omega))
    | (apply s_slice_head TY; exact rfl; exact rfl; exact rfl; exact rfl; exact rfl; omega; omega; omega; exact rfl)
    | (apply s_a TY; exact rfl)
    | (apply s_f; exact rfl; (first | assumption | omega))
    | apply w_seq
    | apply w_region
    | apply s_nil
    | apply t_norm
    | apply t_exit
    | apply t_ret
    | apply k_hit
    | apply k_ret
    | apply w_exit
    | apply w_ret
    | (apply w_condF; exact rfl; exact rfl))
          exact lvG_ret (gh_one 0 2 rfl (rowK2 (by rw [hje]; omega) (by rw [take_setAt_ge _ _ _ _ (Nat.le_refl _), show (((keepK s (k + j)).length : Nat) : Int).toNat = (keepK s (k + j)).length by omega, hitsF_take, List.take_left, hje]))) (rg1 rfl (rv_tmp rfl))
      · repeat (first
    | (apply s_bind; exact rfl; exact rfl; exact rfl; exact rfl; exact rfl; exact rfl; exact eq_hit (c := false) (by simp [he]))
    | (apply s_ldrs TY; exact rfl; exact rfl; exact rfl; exact rfl; exact rfl; assumption; exact rfl)
    | (apply s_a TY; exact rfl)
    | (apply s_t; exact rfl; (first | assumption | omega))
    | apply w_seq
    | apply w_region
    | (apply w_draw (id := 6) 9 rfl (by kernel_rfl))
    | apply s_nil
    | apply t_norm
    | apply k_norm
    | apply w_block
    | apply w_skip
    | (apply w_condT; exact rfl; exact rfl)
    | (apply w_condF; exact rfl; exact rfl)
    | (apply s_c TY; exact rfl; (first | omega | exact ⟨by omega, by (first | with_reducible assumption | ((with_reducible apply hitsF_ne); omega) | assumption)⟩))
    | (apply s_z TY; exact rfl; (first | omega | exact ⟨by omega, by (first | with_reducible assumption | ((with_reducible apply hitsF_ne); omega) | assumption)⟩)))
        exact ⟨k + 1, ⟨by omega, by omega, fun i h0 hi => by
          by_cases e : i = k
          · subst e; rw [getD_eq hc, getD_eq (show i - 1 < s.length by omega)]; exact he
          · exact hd i h0 (by omega)⟩, by omega, gh_le ⟨le_upd rfl trivial (le_upd rfl rfl (le_nil _)), le_hupd rfl trivial (le_h0 _ _)⟩⟩
    · have hke : k = s.length := by omega
      have hk : (keepK s s.length) = s := by rw [keepK_take (Nat.le_refl _) (fun i h0 hi => hd i h0 (by omega)), List.take_length]
      rw [hk]
      repeat (first
    | (apply s_a TY; exact rfl)
    | (apply s_f; exact rfl; (first | assumption | omega))
    | apply w_seq
    | apply w_region
    | apply s_nil
    | apply t_norm
    | apply t_exit
    | apply k_hit
    | apply w_exit
    | apply w_ret
    | (apply w_condF; exact rfl; exact rfl))
      exact lvG_ret (gh_one 0 2 rfl rfl) (rg1 rfl (rv_tmp rfl))
theorem allH_succ {l : List Stm} {k : Nat} (hk : k < l.length) : allH (l.take (k + 1)) = allH (l.take k) ++ l[k].hits := by
  unfold allH; rw [List.take_succ_eq_append_getElem hk, List.flatMap_append]; simp
theorem allH_le {l : List Stm} {n : Nat} (h : ∀ i (hi : i < l.length), l[i].hits.length ≤ n) : ∀ k, k ≤ l.length → (allH (l.take k)).length ≤ k * n
  | 0, _ => by simp [allH]
  | k + 1, hk => by
    have := allH_le h k (by omega)
    have h2 := h k hk
    rw [allH_succ hk, List.length_append, Nat.add_mul]; omega
theorem merge_sorted (L : List Hit) : keepK (sortHits L) (sortHits L).length = mergeH L := keepK_merge (sortHits_weak L) (sortHits_perm L)
set_option maxRecDepth 100000 in
set_option maxHeartbeats 3200000 in
theorem mergedH_s (l : List Stm) (hl : l.length ≤ 10) (hn : ∀ i (hi : i < l.length), l[i].hits.length ≤ 50) : Summ Tryz.prog GG 62 [.sl l.length (stmsF l)] (.sl (mergeH (allH l)).length (hitsF (mergeH (allH l)))) := by
  have hall : (allH l).length ≤ 500 := by
    have := allH_le hn l.length (Nat.le_refl _)
    rw [List.take_length] at this
    have : l.length * 50 ≤ 10 * 50 := Nat.mul_le_mul_right _ hl
    omega
  have hso := sortHits_len (allH l)
  have HS := sortFuncH_s (allH l) (by omega)
  have HC := compact_g (sortHits (allH l)) (by omega)
  rw [merge_sorted] at HC
  refine summW Tryz.func62 rfl rfl 21 rfl (by simp) (fun M0 => ?_)
  repeat (first
    | (apply s_a TY; exact rfl)
    | apply w_seq
    | apply w_region
    | apply s_nil
    | apply t_norm
    | apply w_block)
  apply w_gh (gh_own 3 29 3 rfl rfl)
  apply w_loop (fun k : Nat => ⟨(Ab.upd (Ab.upd (Ab.upd (Ab.upd (fun _ => .bot) 3 (.ow 0)) 6 (.f (.sl l.length (stmsF l)))) 7 (.f (iv l.length))) 8 (.f (iv ((k : Nat) : Int)))), (Ab.upd (fun _ => none) 0 (some (.row 29 3 (allH (l.take k)).length (hitsF (allH (l.take k)))))), 1⟩) (fun k => k ≤ l.length) (fun k => l.length - k) 0 (Nat.zero_le _) (gh_le ⟨le_upd rfl trivial (le_upd rfl trivial (le_upd rfl trivial (le_upd rfl rfl (le_nil _)))), le_hupd rfl trivial (le_h0 _ _)⟩)
  intro k hk
  have hak : (allH (l.take k)).length ≤ 500 := by
    have := allH_le hn k hk
    have : k * 50 ≤ 10 * 50 := Nat.mul_le_mul_right _ (by omega)
    omega
  by_cases hc : k < l.length
  · have hlen : (hitsF l[k].hits).length = l[k].hits.length * 3 := hitsF_len _
    have hnk := hn k hc
    repeat (first
    | (apply s_append TY; exact rfl; exact rfl; exact rfl; exact rfl; exact rfl; exact rfl; exact rfl; exact rfl; exact hlen; (unfold maxLen; omega); omega)
    | (apply s_a TY; exact rfl)
    | (apply s_t; exact rfl; (first | assumption | omega))
    | apply w_seq
    | apply w_region
    | apply s_nil
    | apply t_norm
    | apply k_norm
    | apply w_block
    | apply w_skip
    | (apply w_condT; exact rfl; exact rfl)
    | (apply s_c TY; exact rfl; (first | omega | exact ⟨by omega, by (first | with_reducible assumption | ((with_reducible apply stmsF_ne); omega) | assumption)⟩))
    | (apply s_m TY; exact rfl; (first | with_reducible assumption | ((with_reducible apply stmsF_sub); omega) | exact rfl); exact rfl)
    | (apply s_alloc TY; exact rfl; exact rfl; exact rfl)
    | (apply s_store TY; exact rfl; exact rfl; exact rfl; exact rfl; exact rfl; exact rfl))
    exact ⟨k + 1, by omega, by omega, gh_le ⟨le_upd rfl trivial (le_upd rfl trivial (le_upd rfl trivial (le_upd rfl rfl (le_nil _)))), le_hupd (rowK2 (by rw [allH_succ hc, List.length_append]) (by rw [allH_succ hc, hitsF_app])) trivial (le_h0 _ _)⟩⟩
  · have hke : k = l.length := by omega
    subst hke
    rw [List.take_length]
    repeat (first
    | (apply s_a TY; exact rfl)
    | (apply s_f; exact rfl; (first | assumption | omega))
    | apply w_seq
    | apply w_region
    | apply s_nil
    | apply t_norm
    | apply t_exit
    | apply k_hit
    | apply w_exit
    | (apply w_condF; exact rfl; exact rfl))
    refine s_ghost rfl (gh_arr 0 (cs := hitsF (allH l)) rfl rfl) ?_
    repeat (first
    | (apply s_callG [0] HS; exact rfl; exact rfl; exact rfl; exact ⟨congrArg some (arr_ren _ _ _ _ _).symm, trivial⟩; exact rfl; exact ⟨rfl, rfl⟩)
    | (apply s_a TY; exact rfl)
    | apply w_seq
    | apply w_region
    | apply s_nil
    | apply t_norm)
    refine s_ghost rfl (gh_unarr 0 (e := 29) (sz := 3) (n := (allH l).length) (cs := hitsF (sortHits (allH l))) (congrArg some (arr_ren _ _ _ _ _))) ?_
    rw [← hso]
    repeat (first
    | (apply s_a TY; exact rfl)
    | apply s_nil
    | apply t_norm
    | apply w_ret
    | (apply s_callG [0] (HC); exact rfl; exact rfl; exact rfl; exact ⟨rfl, trivial⟩; exact rfl; (first | exact ⟨rfl, rfl⟩ | exact ⟨⟨rfl, rfl⟩, ⟨rfl, rfl⟩⟩ | exact ⟨⟨rfl, rfl⟩, ⟨rfl, rfl⟩, ⟨rfl, rfl⟩⟩)))
    exact lv_ret (ret_gh (gh_row 0 rfl) (ret1 rfl (res_tmp rfl)))
end Go.Proofs.YtdmdpkoapllkkaaGreat
namespace Go.Proofs.YtdmdpkoapllkkaaGreat
open Go Go.RowKit Go.Proofs Go.Shelf Go.Ab
def stmE (l : List Site) (x : Stm) : Int := firstE [(hitsChk l x.hits).2, unlessE (withinB x.mark 0 1000000000000) 2]
def stmsChk (l : List Site) (c : List Stm) : Nat × Int := if c.length = 0 then (0, 10) else if 6 < c.length then (0, 8) else eachE c.length fun i => stmE l (c.getD i default)
theorem stmE_ok {l : List Site} {x : Stm} : stmE l x = 0 ↔ (hitsChk l x.hits).2 = 0 ∧ 0 ≤ x.mark ∧ x.mark ≤ 1000000000000 := by
  unfold stmE
  by_cases h1 : (hitsChk l x.hits).2 = 0
  · by_cases h2 : 0 ≤ x.mark ∧ x.mark ≤ 1000000000000
    · simp [firstE, unlessE, withinB, h1, h2]
    · have : withinB x.mark 0 1000000000000 = false := by simp [withinB]; omega
      simp [firstE, unlessE, h1, this]; omega
  · simp [firstE, h1]
theorem stmsChk_ok {l : List Site} {c : List Stm} (h : (stmsChk l c).2 = 0) : 1 ≤ c.length ∧ c.length ≤ 6 ∧ ∀ i (hi : i < c.length), (hitsChk l c[i].hits).2 = 0 ∧ 0 ≤ c[i].mark ∧ c[i].mark ≤ 1000000000000 := by
  unfold stmsChk at h
  by_cases h1 : c.length = 0
  · rw [if_pos h1] at h; cases h
  · rw [if_neg h1] at h
    by_cases h2 : 6 < c.length
    · rw [if_pos h2] at h; cases h
    · rw [if_neg h2] at h
      refine ⟨by omega, by omega, fun i hi => ?_⟩
      have := eachE_ok0.1 h i hi
      rw [getD_at hi] at this
      exact stmE_ok.1 this
theorem stmsChk_of {l : List Site} {c : List Stm} (h1 : 1 ≤ c.length) (h2 : c.length ≤ 6) (h : ∀ i (hi : i < c.length), stmE l c[i] = 0) : stmsChk l c = (0, 0) := by
  unfold stmsChk
  rw [if_neg (by omega), if_neg (by omega)]
  exact eachE_fst (eachE_ok0.2 fun i hi => by rw [getD_at hi]; exact h i hi)
theorem HitsOk.mem {l : List Site} {h : List Hit} (o : HitsOk l h) {x : Hit} (hx : x ∈ h) : HitOk l x := by
  obtain ⟨i, hi, rfl⟩ := List.getElem_of_mem hx
  exact o.hit i hi
set_option maxRecDepth 100000 in
theorem streamsErr1_s (l : List Site) (i : Int) (x : Stm) (hx : x.hits.length ≤ 1000000) : Summ Tryz.prog GG 142 [iv i, .agg (stmF x), .pt [.sl l.length (sitesF l), .mp (mapS l l.length)] 0] (iv (stmE l x)) := by
  have HH := hitsErr_s l x.hits hx
  unfold stmE
  refine summW Tryz.func142 rfl rfl 22 rfl (by simp) (fun M0 => ?_)
  repeat (first
    | (apply s_a TY; exact rfl)
    | apply w_seq
    | apply w_region
    | apply s_nil
    | apply t_norm
    | apply w_ret
    | (apply s_k (HH); exact rfl)
    | (apply s_k (first2_s _ _); exact rfl)
    | (apply s_k (unless_s _ _); exact rfl)
    | (apply s_k (isTick_s _); exact rfl))
  exact lv_ret (ret1 rfl (res_tmp rfl))
set_option maxRecDepth 100000 in
theorem streamsErr_s (l : List Site) (c : List Stm) (hn : c.length ≤ 1000000) (hh : ∀ i (hi : i < c.length), c[i].hits.length ≤ 1000000) : Summ Tryz.prog GG 103 [arrayV l, .sl c.length (stmsF c)] (.tup [iv (stmsChk l c).1, iv (stmsChk l c).2]) := by
  by_cases h0 : c.length = 0
  · rw [show stmsChk l c = (0, 10) by unfold stmsChk; rw [if_pos h0]]
    refine summW Tryz.func103 rfl rfl 25 rfl (by simp) (fun M0 => ?_)
    repeat (first
    | (apply s_a TY; exact rfl)
    | (apply s_t; exact rfl; (first | assumption | omega))
    | (apply s_f; exact rfl; (first | assumption | omega))
    | apply w_seq
    | apply w_region
    | apply s_nil
    | apply t_norm
    | apply t_ret
    | apply w_ret
    | (apply w_condT; exact rfl; exact rfl)
    | (apply s_k1 (first2_0 _ _); exact rfl; (first | assumption | omega | decide))
    | (apply s_k (unless_T _); exact rfl)
    | (apply s_k (unless_F _); exact rfl))
    exact lv_ret (ret2 rfl (res_tmp rfl) (res_tmp rfl))
  · by_cases h6 : 6 < c.length
    · rw [show stmsChk l c = (0, 8) by unfold stmsChk; rw [if_neg h0, if_pos h6]]
      refine summW Tryz.func103 rfl rfl 25 rfl (by simp) (fun M0 => ?_)
      repeat (first
    | (apply s_a TY; exact rfl)
    | (apply s_t; exact rfl; (first | assumption | omega))
    | (apply s_f; exact rfl; (first | assumption | omega))
    | apply w_seq
    | apply w_region
    | apply s_nil
    | apply t_norm
    | apply t_ret
    | apply w_ret
    | (apply w_condT; exact rfl; exact rfl)
    | (apply s_k1 (first2_1 _ _); exact rfl; (first | assumption | omega | decide))
    | (apply s_k (unless_T _); exact rfl)
    | (apply s_k (unless_F _); exact rfl))
      exact lv_ret (ret2 rfl (res_tmp rfl) (res_tmp rfl))
    · rw [show stmsChk l c = eachE c.length fun i => stmE l (c.getD i default) by unfold stmsChk; rw [if_neg h0, if_neg h6]]
      have HE := eachStm_s c 142 [.pt [.sl l.length (sitesF l), .mp (mapS l l.length)] 0] (fun i => stmE l (c.getD i default)) hn (fun i hi => by rw [getD_at hi]; exact streamsErr1_s l _ _ (hh i hi))
      refine summW Tryz.func103 rfl rfl 25 rfl (by simp) (fun M0 => ?_)
      repeat (first
    | (apply s_a TY; exact rfl)
    | (apply s_makefn; exact rfl; exact rfl)
    | (apply s_t; exact rfl; (first | assumption | omega))
    | apply w_seq
    | apply w_region
    | apply s_nil
    | apply t_norm
    | apply w_ret
    | apply w_skip
    | (apply w_condF; exact rfl; exact rfl)
    | (apply s_k (HE); exact rfl)
    | (apply s_k1 (first2_1 _ _); exact rfl; (first | assumption | omega | decide))
    | (apply s_k (unless_T _); exact rfl))
      exact lv_ret (ret2 rfl (res_tmp rfl) (res_tmp rfl))
set_option maxRecDepth 100000 in
theorem CheckStreams_err (l : List Site) (c : List Stm) (hl : l.length ≤ 1000000) (h1 : (arrChk l).2 ≠ 0) : Summ Tryz.prog GG 39 [arrF l, .sl c.length (stmsF c)] (.tup [iv 0, iv (arrChk l).2]) := by
  refine summW Tryz.func39 rfl rfl 23 rfl (by simp) (fun M0 => ?_)
  repeat (first
    | (apply s_a TY; exact rfl)
    | (apply s_f; exact rfl; (first | assumption | omega))
    | apply w_seq
    | apply w_region
    | apply s_nil
    | apply t_norm
    | apply t_ret
    | apply w_ret
    | (apply w_condT; exact rfl; exact rfl)
    | (apply s_k2 (openArray_err _); exact rfl; (first | assumption | omega | decide); (first | assumption | omega | decide))
    | (apply s_alloc TY; exact rfl; exact rfl; exact rfl)
    | (apply s_store TY; exact rfl; exact rfl; exact rfl; exact rfl; exact rfl; exact rfl))
  exact lv_ret (ret2 rfl (res_tmp rfl) (res_tmp rfl))
set_option maxRecDepth 100000 in
theorem CheckStreams_ok (l : List Site) (c : List Stm) (hl : l.length ≤ 1000000) (hn : c.length ≤ 1000000) (hh : ∀ i (hi : i < c.length), c[i].hits.length ≤ 1000000) (h1 : (arrChk l).2 = 0) : Summ Tryz.prog GG 39 [arrF l, .sl c.length (stmsF c)] (.tup [iv (stmsChk l c).1, iv (stmsChk l c).2]) := by
  have HH := streamsErr_s l c hn hh
  refine summW Tryz.func39 rfl rfl 23 rfl (by simp) (fun M0 => ?_)
  repeat (first
    | (apply s_a TY; exact rfl)
    | (apply s_t; exact rfl; (first | assumption | omega))
    | apply w_seq
    | apply w_region
    | apply s_nil
    | apply t_norm
    | apply w_ret
    | apply w_skip
    | (apply w_condF; exact rfl; exact rfl)
    | (apply s_k (HH); exact rfl)
    | (apply s_k2 (openArray_ok _); exact rfl; (first | assumption | omega | decide); (first | assumption | omega | decide))
    | (apply s_alloc TY; exact rfl; exact rfl; exact rfl)
    | (apply s_store TY; exact rfl; exact rfl; exact rfl; exact rfl; exact rfl; exact rfl))
  exact lv_ret (ret2 rfl (res_tmp rfl) (res_tmp rfl))
set_option maxRecDepth 100000 in
theorem Merged_errA (l : List Site) (c : List Stm) (hl : l.length ≤ 1000000) (h1 : (arrChk l).2 ≠ 0) : Summ Tryz.prog GG 18 [arrF l, .sl c.length (stmsF c)] (.tup [.v (.slice none 0 0), iv (arrChk l).2]) := by
  have HC := CheckStreams_err l c hl h1
  refine summW Tryz.func18 rfl rfl 24 rfl (by simp) (fun M0 => ?_)
  repeat (first
    | (apply s_a TY; exact rfl)
    | (apply s_f; exact rfl; (first | assumption | omega))
    | apply w_seq
    | apply w_region
    | apply s_nil
    | apply t_norm
    | apply t_ret
    | apply w_ret
    | (apply w_condT; exact rfl; exact rfl)
    | (apply s_k (HC); exact rfl))
  exact lv_ret (ret2 rfl (res_tmp rfl) (res_tmp rfl))
set_option maxRecDepth 100000 in
theorem Merged_errB (l : List Site) (c : List Stm) (hl : l.length ≤ 1000000) (hn : c.length ≤ 1000000) (hh : ∀ i (hi : i < c.length), c[i].hits.length ≤ 1000000) (h1 : (arrChk l).2 = 0) (h2 : (stmsChk l c).2 ≠ 0) : Summ Tryz.prog GG 18 [arrF l, .sl c.length (stmsF c)] (.tup [.v (.slice none 0 0), iv (stmsChk l c).2]) := by
  have HC := CheckStreams_ok l c hl hn hh h1
  refine summW Tryz.func18 rfl rfl 24 rfl (by simp) (fun M0 => ?_)
  repeat (first
    | (apply s_a TY; exact rfl)
    | (apply s_f; exact rfl; (first | assumption | omega))
    | apply w_seq
    | apply w_region
    | apply s_nil
    | apply t_norm
    | apply t_ret
    | apply w_ret
    | (apply w_condT; exact rfl; exact rfl)
    | (apply s_k (HC); exact rfl))
  exact lv_ret (ret2 rfl (res_tmp rfl) (res_tmp rfl))
theorem stms_hits {l : List Site} {c : List Stm} (h1 : (arrChk l).2 = 0) (h2 : (stmsChk l c).2 = 0) : ∀ i (hi : i < c.length), c[i].hits.length ≤ 50 := fun i hi => by
  have := (hitsOk_of (arrOk_of h1) ((stmsChk_ok h2).2.2 i hi).1).len
  omega
set_option maxRecDepth 100000 in
theorem Merged_large (l : List Site) (c : List Stm) (hl : l.length ≤ 1000000) (h1 : (arrChk l).2 = 0) (h2 : (stmsChk l c).2 = 0) (h40 : 40 < (mergeH (allH c)).length) : Summ Tryz.prog GG 18 [arrF l, .sl c.length (stmsF c)] (.tup [.v (.slice none 0 0), iv 8]) := by
  have hc := stmsChk_ok h2
  have hh := stms_hits h1 h2
  have HC := CheckStreams_ok l c hl (by omega) (fun i hi => by have := hh i hi; omega) h1
  have HM := mergedH_s c (by omega) hh
  refine summW Tryz.func18 rfl rfl 24 rfl (by simp) (fun M0 => ?_)
  repeat (first
    | (apply s_a TY; exact rfl)
    | (apply s_t; exact rfl; (first | assumption | omega))
    | apply w_seq
    | apply w_region
    | apply s_nil
    | apply t_norm
    | apply t_ret
    | apply w_ret
    | apply w_skip
    | (apply w_condT; exact rfl; exact rfl)
    | (apply w_condF; exact rfl; exact rfl)
    | (apply s_k (HC); exact rfl)
    | (apply s_k (HM); exact rfl))
  exact lv_ret (ret2 rfl (res_tmp rfl) (res_tmp rfl))
set_option maxRecDepth 100000 in
theorem Merged_ok (l : List Site) (c : List Stm) (hl : l.length ≤ 1000000) (h1 : (arrChk l).2 = 0) (h2 : (stmsChk l c).2 = 0) (h40 : (mergeH (allH c)).length ≤ 40) : Summ Tryz.prog GG 18 [arrF l, .sl c.length (stmsF c)] (.tup [.sl (mergeH (allH c)).length (hitsF (mergeH (allH c))), iv 0]) := by
  have hc := stmsChk_ok h2
  have hh := stms_hits h1 h2
  have HC := CheckStreams_ok l c hl (by omega) (fun i hi => by have := hh i hi; omega) h1
  have HM := mergedH_s c (by omega) hh
  refine summW Tryz.func18 rfl rfl 24 rfl (by simp) (fun M0 => ?_)
  repeat (first
    | (apply s_a TY; exact rfl)
    | (apply s_t; exact rfl; (first | assumption | omega))
    | (apply s_f; exact rfl; (first | assumption | omega))
    | apply w_seq
    | apply w_region
    | apply s_nil
    | apply t_norm
    | apply w_ret
    | apply w_skip
    | (apply w_condF; exact rfl; exact rfl)
    | (apply s_k (HC); exact rfl)
    | (apply s_k (HM); exact rfl))
  exact lv_ret (ret2 rfl (res_tmp rfl) (res_tmp rfl))
end Go.Proofs.YtdmdpkoapllkkaaGreat
namespace Go.Proofs.YtdmdpkoapllkkaaGreat
open Go Go.RowKit Go.Proofs Go.Shelf Go.Ab
end Go.Proofs.YtdmdpkoapllkkaaGreat
namespace Go.Proofs.YtdmdpkoapllkkaaGreat
open Go Go.RowKit Go.Proofs Go.Shelf Go.Ab
def minMk (l : List Stm) : Nat → Int
  | 0 => (l.getD 0 default).mark
  | k + 1 => min (minMk l k) (l.getD k default).mark
def maxLn (s : Setup) : Nat → Int
  | 0 => 0
  | k + 1 => max (maxLn s k) (lenR (s.rules.getD k default))
def settledT (s : Setup) (l : List Stm) : Int := minMk l l.length - maxLn s s.rules.length - s.before
theorem lenR_le {r : Rule} (hr : ruleErr r = 0) : 0 ≤ lenR r ∧ lenR r ≤ 39000000 := by
  refine ⟨lenR_pos hr, ?_⟩
  obtain ⟨_, h1, h2, _, _⟩ := ruleOk_of hr
  unfold lenR
  split
  · have : r.window * (r.count - 1) ≤ 1000000 * 39 := Int.mul_le_mul (by omega) (by omega) (by omega) (by omega)
    omega
  · omega
theorem minMk_bd {l : List Stm} (h0 : 1 ≤ l.length) (h : ∀ i (hi : i < l.length), 0 ≤ l[i].mark ∧ l[i].mark ≤ 1000000000000) : ∀ k, k ≤ l.length → 0 ≤ minMk l k ∧ minMk l k ≤ 1000000000000
  | 0, _ => by
    have := h 0 h0
    unfold minMk; rw [getD_at h0]; exact this
  | k + 1, hk => by
    have a := minMk_bd h0 h k (by omega)
    have b := h k hk
    unfold minMk; rw [getD_at hk]; omega
theorem maxLn_bd {s : Setup} (hs : SetOk s) : ∀ k, k ≤ s.rules.length → 0 ≤ maxLn s k ∧ maxLn s k ≤ 39000000
  | 0, _ => by unfold maxLn; omega
  | k + 1, hk => by
    have a := maxLn_bd hs k (by omega)
    have b := lenR_le (hs.rule k hk)
    unfold maxLn; rw [getD_at hk]; omega
theorem length_s (r : Rule) (hr : ruleErr r = 0) : Summ Tryz.prog GG 143 [.agg (ruleF r)] (iv (lenR r)) := by
  have hb := lenR_le hr
  obtain ⟨_, h1, h2, _, _⟩ := ruleOk_of hr
  unfold lenR at hb ⊢
  by_cases h3 : r.kind = 3
  · rw [if_pos h3] at hb ⊢
    refine summW Tryz.func143 rfl rfl 14 rfl (by simp) (fun M0 => ?_)
    repeat (first
    | (apply s_a TY; exact rfl)
    | (apply s_t; exact rfl; (first | assumption | omega))
    | apply w_seq
    | apply w_region
    | apply s_nil
    | apply t_norm
    | apply t_ret
    | apply w_ret
    | (apply w_condT; exact rfl; exact rfl)
    | (apply s_c TY; exact rfl; omega))
    exact lv_ret (ret1 rfl (res_tmp rfl))
  · rw [if_neg h3] at hb ⊢
    refine summW Tryz.func143 rfl rfl 14 rfl (by simp) (fun M0 => ?_)
    repeat (first
    | (apply s_a TY; exact rfl)
    | (apply s_f; exact rfl; (first | assumption | omega))
    | apply w_seq
    | apply w_region
    | apply s_nil
    | apply t_norm
    | apply w_ret
    | apply w_skip
    | (apply w_condF; exact rfl; exact rfl))
    exact lv_ret (ret1 rfl (res_tmp rfl))
theorem rLength_s (r : Rule) (hr : ruleErr r = 0) : Summ Tryz.prog GG 108 [.agg (ruleF r)] (iv (lenR r)) := by
  have hb := lenR_le hr
  obtain ⟨_, h1, h2, _, _⟩ := ruleOk_of hr
  unfold lenR at hb ⊢
  by_cases h3 : r.kind = 3
  · rw [if_pos h3] at hb ⊢
    refine summW Tryz.func108 rfl rfl 14 rfl (by simp) (fun M0 => ?_)
    repeat (first
    | (apply s_a TY; exact rfl)
    | (apply s_t; exact rfl; (first | assumption | omega))
    | apply w_seq
    | apply w_region
    | apply s_nil
    | apply t_norm
    | apply t_ret
    | apply w_ret
    | (apply w_condT; exact rfl; exact rfl)
    | (apply s_c TY; exact rfl; omega))
    exact lv_ret (ret1 rfl (res_tmp rfl))
  · rw [if_neg h3] at hb ⊢
    refine summW Tryz.func108 rfl rfl 14 rfl (by simp) (fun M0 => ?_)
    repeat (first
    | (apply s_a TY; exact rfl)
    | (apply s_f; exact rfl; (first | assumption | omega))
    | apply w_seq
    | apply w_region
    | apply s_nil
    | apply t_norm
    | apply w_ret
    | apply w_skip
    | (apply w_condF; exact rfl; exact rfl))
    exact lv_ret (ret1 rfl (res_tmp rfl))
set_option maxRecDepth 100000 in
set_option maxHeartbeats 1600000 in
theorem settled_s (l : List Site) (s : Setup) (c : List Stm) (hs : SetOk s) (h0 : 1 ≤ c.length) (h6 : c.length ≤ 6) (hm : ∀ i (hi : i < c.length), 0 ≤ c[i].mark ∧ c[i].mark ≤ 1000000000000) : Summ Tryz.prog GG 105 [readoutV l s, .sl c.length (stmsF c)] (iv (settledT s c)) := by
  have hmin := minMk_bd h0 hm
  have hmax := maxLn_bd hs
  have hbe := hs.before
  have hrl := hs.len
  have hg0 : c.getD 0 default = c[0] := getD_at h0
  have hne : stmsF c ≠ [] := stmsF_ne (k := 0) h0
  have hm0 := hm 0 h0
  have e0 : minMk c 0 = c[0].mark := by unfold minMk; rw [hg0]
  have hf1 : (stmsF c)[0 * 2 + 1]? = some (iv c[0].mark) := stmsF_f1 h0
  unfold settledT
  refine summW Tryz.func105 rfl rfl 46 rfl (by simp) (fun M0 => ?_)
  repeat (first
    | (apply s_a TY; exact rfl)
    | apply w_seq
    | apply w_region
    | apply s_nil
    | apply t_norm
    | apply w_block
    | (apply s_z TY; exact rfl; (first | omega | exact ⟨by omega, by (first | with_reducible assumption | ((with_reducible apply stmsF_ne); omega) | ((with_reducible apply rulesF_ne); omega) | assumption)⟩))
    | (apply s_l TY; exact rfl; (first | exact rfl | with_reducible assumption | ((with_reducible apply stmsF_f0); omega) | ((with_reducible apply stmsF_f1); omega) | ((with_reducible apply rulesF_f0); omega) | ((with_reducible apply rulesF_f1); omega) | ((with_reducible apply rulesF_f2); omega) | ((with_reducible apply rulesF_f3); omega) | ((with_reducible apply rulesF_f4); omega) | assumption)))
  apply w_loop (fun k : Nat => ⟨(Ab.upd (Ab.upd (Ab.upd (Ab.upd (Ab.upd (Ab.upd (fun _ => .bot) 2 (.f (.pt ([.sl l.length (sitesF l), .mp (mapS l l.length)] ++ setL s) 0))) 5 (.f (iv (minMk c k)))) 6 (.f (iv 0))) 15 (.f (.sl c.length (stmsF c)))) 16 (.f (iv c.length))) 17 (.f (iv ((k : Nat) : Int)))), (fun _ => none), 0⟩) (fun k => k ≤ c.length) (fun k => c.length - k) 0 (Nat.zero_le _) (gh_le ⟨le_upd rfl trivial (le_upd rfl trivial (le_upd rfl trivial (le_upd rfl trivial (le_upd (by rw [e0]; rfl) trivial (le_upd rfl trivial (le_nil _)))))), le_h0 _ _⟩)
  intro k hk
  have hmk := hmin k hk
  by_cases hc : k < c.length
  · have hmc := hm k hc
    have e1 : minMk c (k + 1) = min (minMk c k) c[k].mark := by rw [← getD_at hc]; rfl
    repeat (first
    | (apply s_a TY; exact rfl)
    | (apply s_t; exact rfl; (first | assumption | omega))
    | apply w_seq
    | apply w_region
    | apply s_nil
    | apply t_norm
    | apply k_norm
    | apply w_block
    | apply w_skip
    | (apply w_condT; exact rfl; exact rfl)
    | (apply s_c TY; exact rfl; (first | omega | exact ⟨by omega, by (first | with_reducible assumption | ((with_reducible apply stmsF_ne); omega) | ((with_reducible apply rulesF_ne); omega) | assumption)⟩))
    | (apply s_m TY; exact rfl; (first | with_reducible assumption | ((with_reducible apply stmsF_sub); omega) | ((with_reducible apply rulesF_sub); omega) | exact rfl); exact rfl)
    | (apply s_alloc TY; exact rfl; exact rfl; exact rfl)
    | (apply s_store TY; exact rfl; exact rfl; exact rfl; exact rfl; exact rfl; exact rfl))
    exact ⟨k + 1, by omega, by omega, gh_le ⟨le_upd rfl trivial (le_upd rfl trivial (le_upd rfl trivial (le_upd rfl trivial (le_upd (by rw [e1]; rfl) trivial (le_upd rfl trivial (le_nil _)))))), le_h0 _ _⟩⟩
  · have hke : k = c.length := by omega
    subst hke
    repeat (first
    | (apply s_a TY; exact rfl)
    | (apply s_f; exact rfl; (first | assumption | omega))
    | apply w_seq
    | apply w_region
    | apply s_nil
    | apply t_norm
    | apply t_exit
    | apply k_hit
    | apply w_block
    | apply w_exit
    | (apply w_condF; exact rfl; exact rfl))
    apply w_loop (fun k : Nat => ⟨(Ab.upd (Ab.upd (Ab.upd (Ab.upd (Ab.upd (Ab.upd (fun _ => .bot) 2 (.f (.pt ([.sl l.length (sitesF l), .mp (mapS l l.length)] ++ setL s) 0))) 5 (.f (iv (minMk c c.length)))) 6 (.f (iv (maxLn s k)))) 28 (.f (.sl s.rules.length (rulesF s.rules)))) 29 (.f (iv s.rules.length))) 30 (.f (iv ((k : Nat) : Int)))), (fun _ => none), 0⟩) (fun k => k ≤ s.rules.length) (fun k => s.rules.length - k) 0 (Nat.zero_le _) (gh_le ⟨le_upd rfl trivial (le_upd rfl trivial (le_upd rfl trivial (le_upd rfl trivial (le_upd rfl trivial (le_upd rfl trivial (le_nil _)))))), le_h0 _ _⟩)
    intro k hk
    have hxk := hmax k hk
    by_cases hc : k < s.rules.length
    · have HL := length_s s.rules[k] (hs.rule k hc)
      have hxl := lenR_le (hs.rule k hc)
      have e1 : maxLn s (k + 1) = max (maxLn s k) (lenR s.rules[k]) := by rw [← getD_at hc]; rfl
      repeat (first
    | (apply s_a TY; exact rfl)
    | (apply s_t; exact rfl; (first | assumption | omega))
    | apply w_seq
    | apply w_region
    | apply s_nil
    | apply t_norm
    | apply k_norm
    | apply w_block
    | apply w_skip
    | (apply w_condT; exact rfl; exact rfl)
    | (apply s_k (HL); exact rfl)
    | (apply s_c TY; exact rfl; (first | omega | exact ⟨by omega, by (first | with_reducible assumption | ((with_reducible apply stmsF_ne); omega) | ((with_reducible apply rulesF_ne); omega) | assumption)⟩))
    | (apply s_m TY; exact rfl; (first | with_reducible assumption | ((with_reducible apply stmsF_sub); omega) | ((with_reducible apply rulesF_sub); omega) | exact rfl); exact rfl)
    | (apply s_alloc TY; exact rfl; exact rfl; exact rfl)
    | (apply s_store TY; exact rfl; exact rfl; exact rfl; exact rfl; exact rfl; exact rfl))
      exact ⟨k + 1, by omega, by omega, gh_le ⟨le_upd rfl trivial (le_upd rfl trivial (le_upd rfl trivial (le_upd (by rw [e1]; rfl) trivial (le_upd rfl trivial (le_upd rfl trivial (le_nil _)))))), le_h0 _ _⟩⟩
    · have hke : k = s.rules.length := by omega
      subst hke
      repeat (first
    | (apply s_a TY; exact rfl)
    | (apply s_f; exact rfl; (first | assumption | omega))
    | apply w_seq
    | apply w_region
    | apply s_nil
    | apply t_norm
    | apply t_exit
    | apply k_hit
    | apply w_exit
    | apply w_ret
    | (apply w_condF; exact rfl; exact rfl)
    | (apply s_c TY; exact rfl; (first | omega | exact ⟨by omega, by (first | with_reducible assumption | ((with_reducible apply stmsF_ne); omega) | ((with_reducible apply rulesF_ne); omega) | assumption)⟩)))
      exact lv_ret (ret1 rfl (res_tmp rfl))
set_option maxRecDepth 100000 in
set_option maxHeartbeats 1600000 in
theorem rSettled_s (s : Setup) (c : List Stm) (hs : SetOk s) (h0 : 1 ≤ c.length) (h6 : c.length ≤ 6) (hm : ∀ i (hi : i < c.length), 0 ≤ c[i].mark ∧ c[i].mark ≤ 1000000000000) : Summ Tryz.prog GG 45 [setF s, .sl c.length (stmsF c)] (iv (settledT s c)) := by
  have hmin := minMk_bd h0 hm
  have hmax := maxLn_bd hs
  have hbe := hs.before
  have hrl := hs.len
  have hg0 : c.getD 0 default = c[0] := getD_at h0
  have hne : stmsF c ≠ [] := stmsF_ne (k := 0) h0
  have hm0 := hm 0 h0
  have e0 : minMk c 0 = c[0].mark := by unfold minMk; rw [hg0]
  have hf1 : (stmsF c)[0 * 2 + 1]? = some (iv c[0].mark) := stmsF_f1 h0
  unfold settledT
  refine summW Tryz.func45 rfl rfl 47 rfl (by simp) (fun M0 => ?_)
  repeat (first
    | (apply s_a TY; exact rfl)
    | apply w_seq
    | apply w_region
    | apply s_nil
    | apply t_norm
    | apply w_block
    | (apply s_z TY; exact rfl; (first | omega | exact ⟨by omega, by (first | with_reducible assumption | ((with_reducible apply stmsF_ne); omega) | ((with_reducible apply rulesF_ne); omega) | assumption)⟩))
    | (apply s_l TY; exact rfl; (first | exact rfl | with_reducible assumption | ((with_reducible apply stmsF_f0); omega) | ((with_reducible apply stmsF_f1); omega) | ((with_reducible apply rulesF_f0); omega) | ((with_reducible apply rulesF_f1); omega) | ((with_reducible apply rulesF_f2); omega) | ((with_reducible apply rulesF_f3); omega) | ((with_reducible apply rulesF_f4); omega) | assumption)))
  apply w_loop (fun k : Nat => ⟨(Ab.upd (Ab.upd (Ab.upd (Ab.upd (Ab.upd (fun _ => .bot) 1 (.f (.sl c.length (stmsF c)))) 2 (.f (.pt (setL s) 0))) 5 (.f (iv (minMk c k)))) 6 (.f (iv 0))) 7 (.f (iv ((k : Nat) : Int)))), (fun _ => none), 0⟩) (fun k => k ≤ c.length) (fun k => c.length - k) 0 (Nat.zero_le _) (gh_le ⟨le_upd rfl trivial (le_upd rfl trivial (le_upd (by rw [e0]; rfl) trivial (le_upd rfl trivial (le_upd rfl trivial (le_nil _))))), le_h0 _ _⟩)
  intro k hk
  have hmk := hmin k hk
  by_cases hc : k < c.length
  · have hmc := hm k hc
    have e1 : minMk c (k + 1) = min (minMk c k) c[k].mark := by rw [← getD_at hc]; rfl
    repeat (first
    | (apply s_a TY; exact rfl)
    | (apply s_t; exact rfl; (first | assumption | omega))
    | apply w_seq
    | apply w_region
    | apply s_nil
    | apply t_norm
    | apply k_norm
    | apply w_block
    | apply w_skip
    | (apply w_condT; exact rfl; exact rfl)
    | (apply s_c TY; exact rfl; (first | omega | exact ⟨by omega, by (first | with_reducible assumption | ((with_reducible apply stmsF_ne); omega) | ((with_reducible apply rulesF_ne); omega) | assumption)⟩))
    | (apply s_l TY; exact rfl; (first | exact rfl | with_reducible assumption | ((with_reducible apply stmsF_f0); omega) | ((with_reducible apply stmsF_f1); omega) | ((with_reducible apply rulesF_f0); omega) | ((with_reducible apply rulesF_f1); omega) | ((with_reducible apply rulesF_f2); omega) | ((with_reducible apply rulesF_f3); omega) | ((with_reducible apply rulesF_f4); omega) | assumption)))
    exact ⟨k + 1, by omega, by omega, gh_le ⟨le_upd rfl trivial (le_upd rfl trivial (le_upd (by rw [e1]; rfl) trivial (le_upd rfl trivial (le_upd rfl trivial (le_nil _))))), le_h0 _ _⟩⟩
  · have hke : k = c.length := by omega
    subst hke
    repeat (first
    | (apply s_a TY; exact rfl)
    | (apply s_f; exact rfl; (first | assumption | omega))
    | apply w_seq
    | apply w_region
    | apply s_nil
    | apply t_norm
    | apply t_exit
    | apply k_hit
    | apply w_block
    | apply w_exit
    | (apply w_condF; exact rfl; exact rfl))
    apply w_loop (fun k : Nat => ⟨(Ab.upd (Ab.upd (Ab.upd (Ab.upd (fun _ => .bot) 2 (.f (.pt (setL s) 0))) 5 (.f (iv (minMk c c.length)))) 6 (.f (iv (maxLn s k)))) 8 (.f (iv ((k : Nat) : Int)))), (fun _ => none), 0⟩) (fun k => k ≤ s.rules.length) (fun k => s.rules.length - k) 0 (Nat.zero_le _) (gh_le ⟨le_upd rfl trivial (le_upd rfl trivial (le_upd rfl trivial (le_upd rfl trivial (le_nil _)))), le_h0 _ _⟩)
    intro k hk
    have hxk := hmax k hk
    by_cases hc : k < s.rules.length
    · have HL := rLength_s s.rules[k] (hs.rule k hc)
      have hxl := lenR_le (hs.rule k hc)
      have e1 : maxLn s (k + 1) = max (maxLn s k) (lenR s.rules[k]) := by rw [← getD_at hc]; rfl
      repeat (first
    | (apply s_a TY; exact rfl)
    | (apply s_t; exact rfl; (first | assumption | omega))
    | apply w_seq
    | apply w_region
    | apply s_nil
    | apply t_norm
    | apply k_norm
    | apply w_block
    | apply w_skip
    | (apply w_condT; exact rfl; exact rfl)
    | (apply s_k (HL); exact rfl)
    | (apply s_c TY; exact rfl; (first | omega | exact ⟨by omega, by (first | with_reducible assumption | ((with_reducible apply stmsF_ne); omega) | ((with_reducible apply rulesF_ne); omega) | assumption)⟩))
    | (apply s_m TY; exact rfl; (first | with_reducible assumption | ((with_reducible apply stmsF_sub); omega) | ((with_reducible apply rulesF_sub); omega) | exact rfl); exact rfl))
      exact ⟨k + 1, by omega, by omega, gh_le ⟨le_upd rfl trivial (le_upd (by rw [e1]; rfl) trivial (le_upd rfl trivial (le_upd rfl trivial (le_nil _)))), le_h0 _ _⟩⟩
    · have hke : k = s.rules.length := by omega
      subst hke
      repeat (first
    | (apply s_a TY; exact rfl)
    | (apply s_f; exact rfl; (first | assumption | omega))
    | apply w_seq
    | apply w_region
    | apply s_nil
    | apply t_norm
    | apply t_exit
    | apply k_hit
    | apply w_exit
    | apply w_ret
    | (apply w_condF; exact rfl; exact rfl)
    | (apply s_c TY; exact rfl; (first | omega | exact ⟨by omega, by (first | with_reducible assumption | ((with_reducible apply stmsF_ne); omega) | ((with_reducible apply rulesF_ne); omega) | assumption)⟩)))
      exact lv_ret (ret1 rfl (res_tmp rfl))
theorem Summ.nil3 {P : Program} {G : Nat → Option (List FV)} {g : Nat} {a b r : FV} (K : Summ P G g [a, b, .sl 0 []] r) : Summ P G g [a, b, .v (.slice none 0 0)] r :=
  ⟨K.enters, fun w M us hM hG R => by
    obtain ⟨u1, us1, rfl, r1, R1⟩ := R.head
    obtain ⟨u2, us2, rfl, r2, R2⟩ := R1.head
    obtain ⟨u3, us3, rfl, r3, R3⟩ := R2.head
    have := repV r3
    subst this
    exact K.call w M _ hM hG (RepL.cons r1 (RepL.cons r2 (RepL.cons (RepF.sl none 0 0 [] [] (Nat.le_refl _) rfl (fun u hu => by simp at hu) (fun hn => absurd rfl hn) (fun k u x h => by simp at h)) R3)))⟩
theorem hitsChk_nil (l : List Site) : hitsChk l [] = (0, 0) := by
  unfold hitsChk; rw [if_neg (by simp)]; rfl
def optErr (l : List Site) (s : Setup) : Int := if (arrChk l).2 ≠ 0 then (arrChk l).2 else (setupChk s).2
theorem setErr_nil (l : List Site) (s : Setup) : setErr l s [] = optErr l s := by
  unfold setErr optErr
  rw [hitsChk_nil]
  by_cases h : (setupChk s).2 = 0
  · rw [if_neg (c := (setupChk s).2 ≠ 0) (by simpa using h), h]
  · rw [if_pos (c := (setupChk s).2 ≠ 0) h]
set_option maxRecDepth 100000 in
theorem openStreams_ok (l : List Site) (s : Setup) (c : List Stm) (hl : l.length ≤ 1000000) (hsl : s.rules.length ≤ 1000000) (hn : c.length ≤ 1000000) (hh : ∀ i (hi : i < c.length), c[i].hits.length ≤ 1000000) (he : optErr l s = 0) : Summ Tryz.prog GG 104 [arrF l, setF s, .sl c.length (stmsF c)] (.tup [readoutV l s, iv (stmsChk l c).2]) := by
  have HO := Summ.nil3 (openSetup_ok l s [] hl hsl (by simp) (by rw [setErr_nil]; exact he))
  have HH := streamsErr_s l c hn hh
  refine summW Tryz.func104 rfl rfl 27 rfl (by simp) (fun M0 => ?_)
  repeat (first
    | (apply s_a TY; exact rfl)
    | (apply s_t; exact rfl; (first | assumption | omega))
    | apply w_seq
    | apply w_region
    | apply s_nil
    | apply t_norm
    | apply w_ret
    | (apply w_condT; exact rfl; exact rfl)
    | (apply s_k (HO); exact rfl)
    | (apply s_k (HH); exact rfl)
    | (apply s_alloc TY; exact rfl; exact rfl; exact rfl)
    | (apply s_store TY; exact rfl; exact rfl; exact rfl; exact rfl; exact rfl; exact rfl))
  exact lv_ret (ret2 rfl (res_bxs (sub := [.sl l.length (sitesF l), .mp (mapS l l.length), .sl s.rules.length (rulesF s.rules), iv s.before, iv s.after, iv s.dead]) TY rfl rfl rfl rfl rfl) (res_tmp rfl))
set_option maxRecDepth 100000 in
theorem openStreams_errA (l : List Site) (s : Setup) (c : List Stm) (hl : l.length ≤ 1000000) (hsl : s.rules.length ≤ 1000000) (h1 : (arrChk l).2 ≠ 0) : Summ Tryz.prog GG 104 [arrF l, setF s, .sl c.length (stmsF c)] (.tup [readoutE l s, iv (optErr l s)]) := by
  have HO := Summ.nil3 (openSetup_errA l s [] hl hsl (by simp) h1)
  rw [setErr_nil] at HO
  have h2 : optErr l s ≠ 0 := by unfold optErr; rw [if_pos h1]; exact h1
  refine summW Tryz.func104 rfl rfl 27 rfl (by simp) (fun M0 => ?_)
  repeat (first
    | (apply s_a TY; exact rfl)
    | (apply s_f; exact rfl; (first | assumption | omega))
    | apply w_seq
    | apply w_region
    | apply s_nil
    | apply t_norm
    | apply w_ret
    | apply w_skip
    | (apply w_condF; exact rfl; exact rfl)
    | (apply s_k (HO); exact rfl)
    | (apply s_alloc TY; exact rfl; exact rfl; exact rfl)
    | (apply s_store TY; exact rfl; exact rfl; exact rfl; exact rfl; exact rfl; exact rfl))
  exact lv_ret (ret2 rfl (res_bxs (sub := [.sl l.length (sitesF l), .mp fun _ => True, .sl s.rules.length (rulesF s.rules), iv s.before, iv s.after, iv s.dead]) TY rfl rfl rfl rfl rfl) (res_tmp rfl))
set_option maxRecDepth 100000 in
theorem openStreams_errB (l : List Site) (s : Setup) (c : List Stm) (hl : l.length ≤ 1000000) (hsl : s.rules.length ≤ 1000000) (h1 : (arrChk l).2 = 0) (h2 : optErr l s ≠ 0) : Summ Tryz.prog GG 104 [arrF l, setF s, .sl c.length (stmsF c)] (.tup [readoutV l s, iv (optErr l s)]) := by
  have HO := Summ.nil3 (openSetup_errB l s [] hl hsl (by simp) h1 (by rw [setErr_nil]; exact h2))
  rw [setErr_nil] at HO
  refine summW Tryz.func104 rfl rfl 27 rfl (by simp) (fun M0 => ?_)
  repeat (first
    | (apply s_a TY; exact rfl)
    | (apply s_f; exact rfl; (first | assumption | omega))
    | apply w_seq
    | apply w_region
    | apply s_nil
    | apply t_norm
    | apply w_ret
    | apply w_skip
    | (apply w_condF; exact rfl; exact rfl)
    | (apply s_k (HO); exact rfl)
    | (apply s_alloc TY; exact rfl; exact rfl; exact rfl)
    | (apply s_store TY; exact rfl; exact rfl; exact rfl; exact rfl; exact rfl; exact rfl))
  exact lv_ret (ret2 rfl (res_bxs (sub := [.sl l.length (sitesF l), .mp (mapS l l.length), .sl s.rules.length (rulesF s.rules), iv s.before, iv s.after, iv s.dead]) TY rfl rfl rfl rfl rfl) (res_tmp rfl))
def sseErr (l : List Site) (s : Setup) (c : List Stm) : Int := if optErr l s ≠ 0 then optErr l s else (stmsChk l c).2
theorem optErr_parts {l : List Site} {s : Setup} (h : optErr l s = 0) : (arrChk l).2 = 0 ∧ (setupChk s).2 = 0 := by
  unfold optErr at h
  by_cases h1 : (arrChk l).2 = 0
  · rw [if_neg (by simpa using h1)] at h; exact ⟨h1, h⟩
  · rw [if_pos h1] at h; exact absurd h h1
theorem sse_parts {l : List Site} {s : Setup} {c : List Stm} (h : sseErr l s c = 0) : (arrChk l).2 = 0 ∧ (setupChk s).2 = 0 ∧ (stmsChk l c).2 = 0 := by
  unfold sseErr at h
  by_cases ho : optErr l s = 0
  · rw [if_neg (by simpa using ho)] at h
    exact ⟨(optErr_parts ho).1, (optErr_parts ho).2, h⟩
  · rw [if_pos ho] at h; exact absurd h ho
theorem sse_opt {l : List Site} {s : Setup} {c : List Stm} (h : sseErr l s c = 0) : optErr l s = 0 := by
  unfold sseErr at h
  by_cases ho : optErr l s = 0
  · exact ho
  · rw [if_pos ho] at h; exact absurd h ho
set_option maxRecDepth 100000 in
theorem SettledAt_err (l : List Site) (s : Setup) (c : List Stm) (hl : l.length ≤ 1000000) (hsl : s.rules.length ≤ 1000000) (hn : c.length ≤ 1000000) (hh : ∀ i (hi : i < c.length), c[i].hits.length ≤ 1000000) (he : sseErr l s c ≠ 0) : Summ Tryz.prog GG 41 [arrF l, setF s, .sl c.length (stmsF c)] (.tup [iv 0, iv (sseErr l s c)]) := by
  unfold sseErr at he ⊢
  by_cases ho : optErr l s = 0
  · rw [if_neg (by simpa using ho)] at he ⊢
    have HO := openStreams_ok l s c hl hsl hn hh ho
    refine summW Tryz.func41 rfl rfl 23 rfl (by simp) (fun M0 => ?_)
    repeat (first
    | (apply s_a TY; exact rfl)
    | (apply s_f; exact rfl; (first | assumption | omega))
    | apply w_seq
    | apply w_region
    | apply s_nil
    | apply t_norm
    | apply t_ret
    | apply w_ret
    | (apply w_condT; exact rfl; exact rfl)
    | (apply s_k (HO); exact rfl)
    | (apply s_alloc TY; exact rfl; exact rfl; exact rfl)
    | (apply s_store TY; exact rfl; exact rfl; exact rfl; exact rfl; exact rfl; exact rfl))
    exact lv_ret (ret2 rfl (res_tmp rfl) (res_tmp rfl))
  · rw [if_pos ho] at he ⊢
    by_cases h1 : (arrChk l).2 = 0
    · have HO := openStreams_errB l s c hl hsl h1 ho
      refine summW Tryz.func41 rfl rfl 23 rfl (by simp) (fun M0 => ?_)
      repeat (first
    | (apply s_a TY; exact rfl)
    | (apply s_f; exact rfl; (first | assumption | omega))
    | apply w_seq
    | apply w_region
    | apply s_nil
    | apply t_norm
    | apply t_ret
    | apply w_ret
    | (apply w_condT; exact rfl; exact rfl)
    | (apply s_k (HO); exact rfl)
    | (apply s_alloc TY; exact rfl; exact rfl; exact rfl)
    | (apply s_store TY; exact rfl; exact rfl; exact rfl; exact rfl; exact rfl; exact rfl))
      exact lv_ret (ret2 rfl (res_tmp rfl) (res_tmp rfl))
    · have HO := openStreams_errA l s c hl hsl h1
      refine summW Tryz.func41 rfl rfl 23 rfl (by simp) (fun M0 => ?_)
      repeat (first
    | (apply s_a TY; exact rfl)
    | (apply s_f; exact rfl; (first | assumption | omega))
    | apply w_seq
    | apply w_region
    | apply s_nil
    | apply t_norm
    | apply t_ret
    | apply w_ret
    | (apply w_condT; exact rfl; exact rfl)
    | (apply s_k (HO); exact rfl)
    | (apply s_alloc TY; exact rfl; exact rfl; exact rfl)
    | (apply s_store TY; exact rfl; exact rfl; exact rfl; exact rfl; exact rfl; exact rfl))
      exact lv_ret (ret2 rfl (res_tmp rfl) (res_tmp rfl))
set_option maxRecDepth 100000 in
theorem SettledAt_ok (l : List Site) (s : Setup) (c : List Stm) (hl : l.length ≤ 1000000) (hsl : s.rules.length ≤ 1000000) (hn : c.length ≤ 1000000) (hh : ∀ i (hi : i < c.length), c[i].hits.length ≤ 1000000) (he : sseErr l s c = 0) : Summ Tryz.prog GG 41 [arrF l, setF s, .sl c.length (stmsF c)] (.tup [iv (settledT s c), iv 0]) := by
  obtain ⟨e1, e2, e3⟩ := sse_parts he
  have hs := setOk_of e2
  have hl0 := arrOk_of e1
  obtain ⟨hc1, hc6, hci⟩ := stmsChk_ok e3
  have HO := openStreams_ok l s c hl hsl hn hh (sse_opt he)
  rw [e3] at HO
  have HS := settled_s l s c hs hc1 hc6 (fun i hi => (hci i hi).2)
  refine summW Tryz.func41 rfl rfl 23 rfl (by simp) (fun M0 => ?_)
  repeat (first
    | (apply s_a TY; exact rfl)
    | (apply s_t; exact rfl; (first | assumption | omega))
    | apply w_seq
    | apply w_region
    | apply s_nil
    | apply t_norm
    | apply w_ret
    | apply w_skip
    | (apply w_condF; exact rfl; exact rfl)
    | (apply s_k (HO); exact rfl)
    | (apply s_k (HS); exact rfl)
    | (apply s_alloc TY; exact rfl; exact rfl; exact rfl)
    | (apply s_store TY; exact rfl; exact rfl; exact rfl; exact rfl; exact rfl; exact rfl))
  exact lv_ret (ret2 rfl (res_tmp rfl) (res_tmp rfl))
end Go.Proofs.YtdmdpkoapllkkaaGreat
namespace Go.Proofs.YtdmdpkoapllkkaaGreat
open Go Go.RowKit Go.Proofs Go.Shelf Go.Ab
set_option maxRecDepth 100000 in
set_option maxHeartbeats 1600000 in
theorem rCheckStreams_s (l : List Site) (c : List Stm) (hl : l.length ≤ 1000000) (hn : c.length ≤ 1000000) (hh : ∀ i (hi : i < c.length), c[i].hits.length ≤ 1000000) : Summ Tryz.prog GG 43 [arrF l, .sl c.length (stmsF c)] (.tup [iv (stmsChk l c).1, iv (stmsChk l c).2]) := by
  by_cases h0 : c.length = 0
  · rw [show stmsChk l c = (0, 10) by unfold stmsChk; rw [if_pos h0]]
    refine summW Tryz.func43 rfl rfl 39 rfl (by simp) (fun M0 => ?_)
    repeat (first
    | (apply s_a TY; exact rfl)
    | (apply s_t; exact rfl; (first | assumption | omega))
    | apply w_seq
    | apply w_region
    | apply s_nil
    | apply t_norm
    | apply t_ret
    | apply w_ret
    | (apply w_condT; exact rfl; exact rfl))
    exact lv_ret (ret2 rfl (res_tmp rfl) (res_tmp rfl))
  by_cases h6 : 6 < c.length
  · rw [show stmsChk l c = (0, 8) by unfold stmsChk; rw [if_neg h0, if_pos h6]]
    refine summW Tryz.func43 rfl rfl 39 rfl (by simp) (fun M0 => ?_)
    repeat (first
    | (apply s_a TY; exact rfl)
    | (apply s_t; exact rfl; (first | assumption | omega))
    | (apply s_f; exact rfl; (first | assumption | omega))
    | apply w_seq
    | apply w_region
    | apply s_nil
    | apply t_norm
    | apply t_ret
    | apply w_ret
    | apply w_skip
    | (apply w_condT; exact rfl; exact rfl)
    | (apply w_condF; exact rfl; exact rfl))
    exact lv_ret (ret2 rfl (res_tmp rfl) (res_tmp rfl))
  have hE : stmsChk l c = eachE c.length fun i => stmE l (c.getD i default) := by unfold stmsChk; rw [if_neg h0, if_neg h6]
  refine summW Tryz.func43 rfl rfl 39 rfl (by simp) (fun M0 => ?_)
  repeat (first
    | (apply s_a TY; exact rfl)
    | (apply s_f; exact rfl; (first | assumption | omega))
    | apply w_seq
    | apply w_region
    | apply s_nil
    | apply t_norm
    | apply w_block
    | apply w_skip
    | (apply w_condF; exact rfl; exact rfl))
  apply w_loop (fun k : Nat => ⟨(Ab.upd (Ab.upd (Ab.upd (fun _ => .bot) 1 (.f (.sl c.length (stmsF c)))) 2 (.f (.pt [.sl l.length (sitesF l)] 0))) 6 (.f (iv ((k : Nat) : Int)))), (fun _ => none), 0⟩) (fun k => k ≤ c.length ∧ ∀ j, j < k → stmE l (c.getD j default) = 0) (fun k => c.length - k) 0 (⟨Nat.zero_le _, fun j h => absurd h (Nat.not_lt_zero j)⟩) (gh_le ⟨le_upd rfl trivial (le_upd rfl trivial (le_upd rfl trivial (le_nil _))), le_h0 _ _⟩)
  intro k ⟨hk, hz⟩
  by_cases hc : k < c.length
  · have HH := HitsErr_s l c[k].hits hl (hh k hc)
    by_cases he1 : (hitsChk l c[k].hits).2 = 0
    · rw [he1] at HH
      by_cases he2 : 0 ≤ c[k].mark ∧ c[k].mark ≤ 1000000000000
      · have hs : stmE l c[k] = 0 := stmE_ok.2 ⟨he1, he2⟩
        repeat (first
    | (apply s_a TY; exact rfl)
    | (apply s_t; exact rfl; (first | assumption | omega))
    | apply w_seq
    | apply w_region
    | (apply w_draw (id := 8) 6 rfl (by kernel_rfl))
    | apply s_nil
    | apply t_norm
    | apply k_norm
    | apply w_block
    | apply w_skip
    | (apply w_condT; exact rfl; exact rfl)
    | (apply w_condF; exact rfl; exact rfl)
    | (apply s_k (HH); exact rfl)
    | (apply s_k1 (bIsTick_T _); exact rfl; (first | assumption | omega | decide))
    | (apply s_c TY; exact rfl; (first | omega | exact ⟨by omega, by (first | with_reducible assumption | ((with_reducible apply stmsF_ne); omega) | assumption)⟩))
    | (apply s_l TY; exact rfl; (first | exact rfl | with_reducible assumption | ((with_reducible apply stmsF_f0); omega) | ((with_reducible apply stmsF_f1); omega) | assumption)))
        exact ⟨k + 1, ⟨by omega, fun j hj => by
          by_cases e : j = k
          · subst e; rw [getD_at hc]; exact hs
          · exact hz j (by omega)⟩, by omega, gh_le ⟨le_upd rfl trivial (le_upd rfl trivial (le_upd rfl trivial (le_nil _))), le_h0 _ _⟩⟩
      · have hs : stmE l c[k] = 2 := by
          have hw : withinB c[k].mark 0 1000000000000 = false := by simp [withinB]; omega
          unfold stmE; rw [he1, hw]; simp [firstE, unlessE]
        rw [hE, eachE_at hc hz (by rw [getD_at hc, hs]; decide), getD_at hc, hs]
        repeat (first
    | (apply s_a TY; exact rfl)
    | (apply s_t; exact rfl; (first | assumption | omega))
    | apply w_seq
    | apply w_region
    | (apply w_draw (id := 8) 6 rfl (by kernel_rfl))
    | apply s_nil
    | apply t_norm
    | apply t_ret
    | apply k_ret
    | apply w_block
    | apply w_ret
    | apply w_skip
    | (apply w_condT; exact rfl; exact rfl)
    | (apply w_condF; exact rfl; exact rfl)
    | (apply s_k (HH); exact rfl)
    | (apply s_k1 (bIsTick_F _); exact rfl; (first | assumption | omega | decide))
    | (apply s_c TY; exact rfl; (first | omega | exact ⟨by omega, by (first | with_reducible assumption | ((with_reducible apply stmsF_ne); omega) | assumption)⟩))
    | (apply s_l TY; exact rfl; (first | exact rfl | with_reducible assumption | ((with_reducible apply stmsF_f0); omega) | ((with_reducible apply stmsF_f1); omega) | assumption)))
        exact lv_ret (ret2 rfl (res_tmp rfl) (res_tmp rfl))
    · have hs : stmE l c[k] = (hitsChk l c[k].hits).2 := by unfold stmE; simp [firstE, he1]
      rw [hE, eachE_at hc hz (by rw [getD_at hc, hs]; exact he1), getD_at hc, hs]
      repeat (first
    | (apply s_a TY; exact rfl)
    | (apply s_t; exact rfl; (first | assumption | omega))
    | (apply s_f; exact rfl; (first | assumption | omega))
    | apply w_seq
    | apply w_region
    | (apply w_draw (id := 8) 6 rfl (by kernel_rfl))
    | apply s_nil
    | apply t_norm
    | apply t_ret
    | apply k_ret
    | apply w_block
    | apply w_ret
    | apply w_skip
    | (apply w_condT; exact rfl; exact rfl)
    | (apply s_k (HH); exact rfl)
    | (apply s_c TY; exact rfl; (first | omega | exact ⟨by omega, by (first | with_reducible assumption | ((with_reducible apply stmsF_ne); omega) | assumption)⟩))
    | (apply s_l TY; exact rfl; (first | exact rfl | with_reducible assumption | ((with_reducible apply stmsF_f0); omega) | ((with_reducible apply stmsF_f1); omega) | assumption)))
      exact lv_ret (ret2 rfl (res_tmp rfl) (res_tmp rfl))
  · rw [hE, eachE_ok (fun i hi => hz i (by omega))]
    repeat (first
    | (apply s_a TY; exact rfl)
    | (apply s_f; exact rfl; (first | assumption | omega))
    | apply w_seq
    | apply w_region
    | apply s_nil
    | apply t_norm
    | apply t_exit
    | apply k_hit
    | apply w_exit
    | apply w_ret
    | (apply w_condF; exact rfl; exact rfl))
    exact lv_ret (ret2 rfl (res_tmp rfl) (res_tmp rfl))
theorem row_tkS {L : List Stm} {k : Nat} (h : k < L.length) : some (Blk.row 46 2 ((L.take k).length + 1) (stmsF (L.take k) ++ [.sl L[k].hits.length (hitsF L[k].hits), iv L[k].mark])) = some (Blk.row 46 2 (L.take (k + 1)).length (stmsF (L.take (k + 1)))) := by
  rw [stmsF_tk h, List.take_succ_eq_append_getElem h, List.length_append]; rfl
set_option maxRecDepth 100000 in
set_option maxHeartbeats 1600000 in
theorem CopyStreams_s (c : List Stm) (hn : c.length ≤ 1000000) (hh : ∀ i (hi : i < c.length), c[i].hits.length ≤ 1000000) : Summ Tryz.prog GG 40 [.sl c.length (stmsF c)] (.sl c.length (stmsF c)) := by
  refine summW Tryz.func40 rfl rfl 27 rfl (by simp) (fun M0 => ?_)
  repeat (first
    | (apply s_a TY; exact rfl)
    | apply w_seq
    | apply w_region
    | apply s_nil
    | apply t_norm
    | apply w_block)
  apply w_gh (gh_own 3 46 2 rfl rfl)
  apply w_loop (fun k : Nat => ⟨(Ab.upd (Ab.upd (Ab.upd (fun _ => .bot) 0 (.f (.sl c.length (stmsF c)))) 3 (.ow 0)) 4 (.f (iv ((k : Nat) : Int)))), (Ab.upd (fun _ => none) 0 (some (.row 46 2 (c.take k).length (stmsF (c.take k))))), 1⟩) (fun k => k ≤ c.length) (fun k => c.length - k) 0 (Nat.zero_le _) (gh_le ⟨le_upd rfl trivial (le_upd rfl rfl (le_upd rfl trivial (le_nil _))), le_hupd rfl trivial (le_h0 _ _)⟩)
  intro k hk
  have hlk : (c.take k).length = k := by rw [List.length_take]; omega
  by_cases hc : k < c.length
  · have HC := CopyHits_s c[k].hits (hh k hc)
    repeat (first
    | (apply s_a TY; exact rfl)
    | (apply s_t; exact rfl; (first | assumption | omega))
    | apply w_seq
    | apply w_region
    | (apply w_draw (id := 5) 14 rfl (by kernel_rfl))
    | apply s_nil
    | apply t_norm
    | apply k_norm
    | apply w_block
    | apply w_skip
    | (apply w_condT; exact rfl; exact rfl)
    | (apply s_k (HC); exact rfl)
    | (apply s_c TY; exact rfl; (first | omega | exact ⟨by omega, by (first | with_reducible assumption | ((with_reducible apply stmsF_ne); omega) | assumption)⟩))
    | (apply s_l TY; exact rfl; (first | exact rfl | with_reducible assumption | ((with_reducible apply stmsF_f0); omega) | ((with_reducible apply stmsF_f1); omega) | assumption))
    | (apply s_append TY; exact rfl; exact rfl; exact rfl; exact rfl; exact rfl; exact rfl; exact rfl; exact rfl; exact rfl; (unfold maxLen; omega); omega))
    exact ⟨k + 1, by omega, by omega, gh_le ⟨le_upd rfl trivial (le_upd rfl rfl (le_upd rfl trivial (le_nil _))), le_hupd (row_tkS hc) trivial (le_h0 _ _)⟩⟩
  · have hke : k = c.length := by omega
    subst hke
    rw [List.take_length]
    repeat (first
    | (apply s_a TY; exact rfl)
    | (apply s_f; exact rfl; (first | assumption | omega))
    | apply w_seq
    | apply w_region
    | apply s_nil
    | apply t_norm
    | apply t_exit
    | apply k_hit
    | apply w_exit
    | apply w_ret
    | (apply w_condF; exact rfl; exact rfl))
    exact lv_ret (ret_gh (gh_row 0 rfl) (ret1 rfl (res_tmp rfl)))
end Go.Proofs.YtdmdpkoapllkkaaGreat
namespace Go.Proofs.YtdmdpkoapllkkaaGreat
open Go Go.RowKit Go.Proofs Go.Shelf Go.Ab
theorem gh_nil {C : Ctx} {N : Nat} {st : St} (t : Nat) (hs : st.s t = .f (.v (.slice none 0 0))) : Gh C N st { st with s := upd st.s t (.f (.sl 0 [])) } := fun w0 a w ⟨J, S⟩ => ⟨J, S.ext, S.size, S.defs, fun k => by
    show RepA C w st.h J _ (upd st.s t (.f (.sl 0 [])) k)
    by_cases e : k = t
    · subst e
      have h := S.slot k
      rw [hs] at h
      have h' : RepF w (Mb C st.h J) _ (.v (.slice none 0 0)) := h
      rw [upd_same, repV h']
      exact RepF.sl none 0 0 [] [] (Nat.le_refl _) rfl (fun u hu => by simp at hu) (fun hn => absurd rfl hn) (fun k u x h => by simp at h)
    · rw [upd_other _ _ e]; exact S.slot k, S.blk, S.apart, S.old, S.glob, S.fix⟩
theorem mergeO_succ {c : List Stm} {i : Nat} (hi : i < c.length) : (mergeH (allH (c.take (i + 1)))) = c[i].hits.foldl insH (mergeH (allH (c.take i))) := by
  unfold mergeH; rw [allH_succ hi, List.foldl_append]
theorem mergeK_succ {c : List Stm} {i k : Nat} (hi : i < c.length) (hk : k < c[i].hits.length) : ((c[i].hits.take (k + 1)).foldl insH (mergeH (allH (c.take i)))) = insH ((c[i].hits.take k).foldl insH (mergeH (allH (c.take i)))) c[i].hits[k] := by
  rw [List.take_succ_eq_append_getElem hk, List.foldl_append]; rfl
set_option maxRecDepth 100000 in
set_option maxHeartbeats 6400000 in
theorem rMerged_s (c : List Stm) (hl : c.length ≤ 10) (hn : ∀ i (hi : i < c.length), c[i].hits.length ≤ 50) : Summ Tryz.prog GG 46 [.sl c.length (stmsF c)] (.sl (mergeH (allH c)).length (hitsF (mergeH (allH c)))) := by
  refine summW Tryz.func46 rfl rfl 71 rfl (by simp) (fun M0 => ?_)
  repeat (first
    | (apply s_a TY; exact rfl)
    | apply w_seq
    | apply w_region
    | apply s_nil
    | apply t_norm
    | apply w_block)
  apply w_gh (gh_nil 3 rfl)
  apply w_loop (fun i : Nat => ⟨(Ab.upd (Ab.upd (Ab.upd (fun _ => .bot) 0 (.f (.sl c.length (stmsF c)))) 3 (.f (.sl (mergeH (allH (c.take i))).length (hitsF (mergeH (allH (c.take i))))))) 4 (.f (iv ((i : Nat) : Int)))), (fun _ => none), 0⟩) (fun i => i ≤ c.length) (fun i => c.length - i) 0 (Nat.zero_le _) (gh_le ⟨le_upd rfl trivial (le_upd rfl trivial (le_upd rfl trivial (le_nil _))), le_h0 _ _⟩)
  intro i hi
  have hoi : (mergeH (allH (c.take i))).length ≤ 500 := by
    have h1 := mergeH_len (allH (c.take i))
    have h2 := allH_le hn i hi
    have : i * 50 ≤ 10 * 50 := Nat.mul_le_mul_right _ (by omega)
    omega
  by_cases hc : i < c.length
  · have hni := hn i hc
    repeat (first
    | (apply s_a TY; exact rfl)
    | (apply s_t; exact rfl; (first | assumption | omega))
    | apply w_seq
    | apply w_region
    | apply s_nil
    | apply t_norm
    | apply w_block
    | apply w_skip
    | (apply w_condT; exact rfl; exact rfl))
    apply w_loop (fun k : Nat => ⟨(Ab.upd (Ab.upd (Ab.upd (Ab.upd (fun _ => .bot) 0 (.f (.sl c.length (stmsF c)))) 3 (.f (.sl ((c[i].hits.take k).foldl insH (mergeH (allH (c.take i)))).length (hitsF ((c[i].hits.take k).foldl insH (mergeH (allH (c.take i)))))))) 4 (.f (iv ((i : Nat) : Int)))) 5 (.f (iv ((k : Nat) : Int)))), (fun _ => none), 0⟩) (fun k => k ≤ c[i].hits.length) (fun k => c[i].hits.length - k) 0 (Nat.zero_le _) (gh_le ⟨le_upd rfl trivial (le_upd rfl trivial (le_upd rfl trivial (le_upd rfl trivial (le_nil _)))), le_h0 _ _⟩)
    intro k hk
    by_cases hkc : k < c[i].hits.length
    · have hsu := mergeK_succ hc hkc
      have hol : ((c[i].hits.take k).foldl insH (mergeH (allH (c.take i)))).length ≤ 550 := by
        have := foldl_insH_len (l := c[i].hits.take k) (o := (mergeH (allH (c.take i))))
        rw [List.length_take] at this; omega
      obtain ⟨x, hx⟩ : ∃ x, x = c[i].hits[k] := ⟨_, rfl⟩
      have hsub : ((hitsF c[i].hits).drop (k * 3)).take 3 = hitF x := by rw [hx]; exact hitsF_sub hkc
      have hhne : hitsF c[i].hits ≠ [] := hitsF_ne hkc
      rw [← hx] at hsu
      generalize ((c[i].hits.take k).foldl insH (mergeH (allH (c.take i)))) = o at hol hsu ⊢
      repeat (first
    | (apply s_m TY; exact rfl; exact hsub; exact rfl)
    | (apply s_a TY; exact rfl)
    | (apply s_t; exact rfl; (first | assumption | omega))
    | apply w_seq
    | apply w_region
    | apply s_nil
    | apply t_norm
    | apply w_block
    | apply w_skip
    | (apply w_condT; exact rfl; exact rfl)
    | (apply s_c TY; exact rfl; (first | omega | exact ⟨by omega, by (first | with_reducible assumption | ((with_reducible apply hitsF_ne); omega) | ((with_reducible apply stmsF_ne); omega) | assumption)⟩))
    | (apply s_l TY; exact rfl; (first | exact rfl | with_reducible assumption | ((with_reducible apply hitsF_f0); omega) | ((with_reducible apply hitsF_f1); omega) | ((with_reducible apply hitsF_f2); omega) | ((with_reducible apply stmsF_f0); omega) | ((with_reducible apply stmsF_f1); omega) | assumption))
    | (apply s_alloc TY; exact rfl; exact rfl; exact rfl)
    | (apply s_store TY; exact rfl; exact rfl; exact rfl; exact rfl; exact rfl; exact rfl))
      apply w_gh (gh_box 0 (cs := hitF x) rfl rfl)
      apply w_loop (fun a : Nat => ⟨(Ab.upd (Ab.upd (Ab.upd (Ab.upd (Ab.upd (Ab.upd (fun _ => .bot) 0 (.f (.sl c.length (stmsF c)))) 3 (.f (.sl o.length (hitsF o)))) 4 (.f (iv ((i : Nat) : Int)))) 5 (.f (iv ((k : Nat) : Int)))) 6 (.f (.pt (hitF x) 0))) 7 (.f (iv ((a : Nat) : Int)))), (fun _ => none), 0⟩) (fun a => a ≤ o.length ∧ ∀ j (hj : j < o.length), j < a → before o[j] x) (fun a => o.length - a) 0 (⟨Nat.zero_le _, fun j _ h => absurd h (Nat.not_lt_zero j)⟩) (gh_le ⟨le_upd rfl trivial (le_upd rfl trivial (le_upd rfl trivial (le_upd rfl trivial (le_upd rfl trivial (le_upd rfl trivial (le_nil _)))))), le_h0 _ _⟩)
      intro a ⟨ha, hb1⟩
      by_cases hac : a < o.length
      · have HB := isBefore_s o[a] x
        by_cases hba : before o[a] x
        · rw [decide_eq_true hba] at HB
          repeat (first
    | (apply s_a TY; exact rfl)
    | (apply s_t; exact rfl; (first | assumption | omega))
    | apply w_seq
    | apply w_region
    | (apply w_draw (id := 10) 10 rfl (by kernel_rfl))
    | apply s_nil
    | apply t_norm
    | apply k_norm
    | apply w_block
    | apply w_skip
    | (apply w_condT; exact rfl; exact rfl)
    | (apply s_k (HB); exact rfl)
    | (apply s_c TY; exact rfl; (first | omega | exact ⟨by omega, by (first | with_reducible assumption | ((with_reducible apply hitsF_ne); omega) | ((with_reducible apply stmsF_ne); omega) | assumption)⟩))
    | (apply s_m TY; exact rfl; (first | with_reducible assumption | ((with_reducible apply hitsF_sub); omega) | ((with_reducible apply stmsF_sub); omega) | exact rfl); exact rfl))
          exact ⟨a + 1, ⟨by omega, fun j hj hja => by
            by_cases e : j = a
            · subst e; exact hba
            · exact hb1 j hj (by omega)⟩, by omega, gh_le ⟨le_upd rfl trivial (le_upd rfl trivial (le_upd rfl trivial (le_upd rfl trivial (le_upd rfl trivial (le_upd rfl trivial (le_nil _)))))), le_h0 _ _⟩⟩
        · rw [decide_eq_false hba] at HB
          have hb2 : ∀ h : a < o.length, ¬ before o[a] x := fun _ => hba
          by_cases hne : o[a] = x
          · have hse := insH_same hac hb1 hne
            repeat (first
    | (apply s_bind; exact rfl; exact rfl; exact rfl; exact rfl; exact rfl; exact rfl; exact ne_hit (c := false) (by rw [decide_eq_true hne]; rfl))
    | (apply s_a TY; exact rfl)
    | (apply s_t; exact rfl; (first | assumption | omega))
    | (apply s_f; exact rfl; (first | assumption | omega))
    | apply w_seq
    | apply w_region
    | (apply w_draw (id := 10) 10 rfl (by kernel_rfl))
    | (apply w_draw (id := 12) 10 rfl (by kernel_rfl))
    | apply s_nil
    | apply t_norm
    | apply t_exit
    | apply k_hit
    | apply k_norm
    | apply w_exit
    | apply w_skip
    | (apply w_condF; exact rfl; exact rfl)
    | (apply s_k (HB); exact rfl)
    | (apply s_c TY; exact rfl; (first | omega | exact ⟨by omega, by (first | with_reducible assumption | ((with_reducible apply hitsF_ne); omega) | ((with_reducible apply stmsF_ne); omega) | assumption)⟩))
    | (apply s_m TY; exact rfl; (first | with_reducible assumption | ((with_reducible apply hitsF_sub); omega) | ((with_reducible apply stmsF_sub); omega) | exact rfl); exact rfl))
            exact ⟨k + 1, by omega, by omega, gh_le ⟨le_upd rfl trivial (le_upd rfl trivial (le_upd (slF_eq (by rw [hsu, hse]) (by rw [hsu, hse])) trivial (le_upd rfl trivial (le_nil _)))), le_h0 _ _⟩⟩
          · have hb3 : (if _ : a < o.length then o[a] ≠ x else True) := by rw [dif_pos hac]; exact hne
            have hins : insH o x = o.take a ++ [x] ++ o.drop a := insH_at ha hb1 hb2 hb3
            by_cases ha0 : a = 0
            · subst ha0
              have e2 : (((o.length : Nat) : Int).toNat - ((0 : Nat) : Int).toNat) = (o.drop 0).length := by rw [List.length_drop]; omega
              have e4 : (List.take ((((o.length : Nat) : Int).toNat - ((0 : Nat) : Int).toNat) * 3) (List.drop (((0 : Nat) : Int).toNat * 3) (hitsF o))) = hitsF (o.drop 0) := by rw [e2, show ((0 : Nat) : Int).toNat = 0 by omega, hitsF_drop, List.take_of_length_le (by rw [hitsF_len]; exact Nat.le_refl _)]
              have q2 : (List.take ((((o.length : Nat) : Int).toNat - ((0 : Nat) : Int).toNat) * 3) (List.drop (((0 : Nat) : Int).toNat * 3) (hitsF o))).length = (((o.length : Nat) : Int).toNat - ((0 : Nat) : Int).toNat) * 3 := by rw [e4, e2, hitsF_len]
              have hnn : (insH o x).length = 0 + 1 + (((o.length : Nat) : Int).toNat - ((0 : Nat) : Int).toNat) := by rw [hins, e2]; simp; omega
              have hnc : hitsF (insH o x) = [] ++ hitF x ++ (List.take ((((o.length : Nat) : Int).toNat - ((0 : Nat) : Int).toNat) * 3) (List.drop (((0 : Nat) : Int).toNat * 3) (hitsF o))) := by rw [hins, e4, List.take_zero, List.nil_append, hitsF_app, hitsF_one]; rfl
              clear e2 e4
              repeat (first
    | (apply s_bind; exact rfl; exact rfl; exact rfl; exact rfl; exact rfl; exact rfl; exact ne_hit (c := true) (by rw [decide_eq_false hne]; rfl))
    | (apply w_draw (id := 13) 11 rfl (by kernel_rfl))
    | (apply s_bslice_clip TY (len := 0); exact rfl; exact rfl; exact rfl; exact rfl; exact rfl; exact rfl)
    | (apply s_append_none TY; exact rfl; exact rfl; exact rfl; exact rfl)
    | (apply s_append_new TY; exact rfl; exact rfl; exact rfl; exact rfl; exact rfl; exact rfl; exact rfl; exact rfl; exact (by decide); exact rfl; exact rfl; (unfold maxLen; omega); omega)
    | (apply s_append TY; exact rfl; exact rfl; exact rfl; exact rfl; exact rfl; exact rfl; exact rfl; exact rfl; exact q2; (unfold maxLen; omega); omega)
    | (apply s_a TY; exact rfl)
    | (apply s_t; exact rfl; (first | assumption | omega))
    | (apply s_f; exact rfl; (first | assumption | omega))
    | apply w_seq
    | apply w_region
    | (apply w_draw (id := 10) 10 rfl (by kernel_rfl))
    | (apply w_draw (id := 12) 10 rfl (by kernel_rfl))
    | apply s_nil
    | apply t_norm
    | apply t_exit
    | apply k_hit
    | apply k_norm
    | apply w_exit
    | (apply w_condT; exact rfl; exact rfl)
    | (apply w_condF; exact rfl; exact rfl)
    | (apply s_k (HB); exact rfl)
    | (apply s_c TY; exact rfl; (first | omega | exact ⟨by omega, by (first | with_reducible assumption | ((with_reducible apply hitsF_ne); omega) | ((with_reducible apply stmsF_ne); omega) | assumption)⟩))
    | (apply s_m TY; exact rfl; (first | with_reducible assumption | ((with_reducible apply hitsF_sub); omega) | ((with_reducible apply stmsF_sub); omega) | exact rfl); exact rfl)
    | (apply s_slice TY; exact rfl; exact rfl; exact rfl; (first | exact rfl | exact ⟨_, rfl⟩); (first | exact rfl | exact ⟨_, rfl⟩); omega; omega; omega))
              exact ⟨k + 1, by omega, by omega, gh_trans (gh_row 0 rfl) (gh_le ⟨le_upd rfl trivial (le_upd rfl trivial (le_upd (slF_eq (by rw [hsu]; exact hnn) (by rw [hsu]; exact hnc)) trivial (le_upd rfl trivial (le_nil _)))), le_h0 _ _⟩)⟩
            · have hm0 : 0 < (((a : Nat) : Int).toNat - Int.toNat 0) := by omega
              have e1 : (((a : Nat) : Int).toNat - Int.toNat 0) = (o.take a).length := by rw [List.length_take]; omega
              have e3 : (List.take ((((a : Nat) : Int).toNat - Int.toNat 0) * 3) (List.drop (Int.toNat 0 * 3) (hitsF o))) = hitsF (o.take a) := by rw [e1, show Int.toNat 0 = 0 from rfl, Nat.zero_mul, List.drop_zero, hitsF_take, List.length_take, show min a o.length = a by omega]
              have q1 : (List.take ((((a : Nat) : Int).toNat - Int.toNat 0) * 3) (List.drop (Int.toNat 0 * 3) (hitsF o))).length = (((a : Nat) : Int).toNat - Int.toNat 0) * 3 := by rw [e3, e1, hitsF_len]
              have e2 : (((o.length : Nat) : Int).toNat - ((a : Nat) : Int).toNat) = (o.drop a).length := by rw [List.length_drop]; omega
              have e4 : (List.take ((((o.length : Nat) : Int).toNat - ((a : Nat) : Int).toNat) * 3) (List.drop (((a : Nat) : Int).toNat * 3) (hitsF o))) = hitsF (o.drop a) := by rw [e2, show ((a : Nat) : Int).toNat = a by omega, hitsF_drop, List.take_of_length_le (by rw [hitsF_len]; exact Nat.le_refl _)]
              have q2 : (List.take ((((o.length : Nat) : Int).toNat - ((a : Nat) : Int).toNat) * 3) (List.drop (((a : Nat) : Int).toNat * 3) (hitsF o))).length = (((o.length : Nat) : Int).toNat - ((a : Nat) : Int).toNat) * 3 := by rw [e4, e2, hitsF_len]
              have hnn : (insH o x).length = 0 + (((a : Nat) : Int).toNat - Int.toNat 0) + 1 + (((o.length : Nat) : Int).toNat - ((a : Nat) : Int).toNat) := by rw [hins, e1, e2]; simp only [List.length_append, List.length_singleton]; omega
              have hnc : hitsF (insH o x) = [] ++ (List.take ((((a : Nat) : Int).toNat - Int.toNat 0) * 3) (List.drop (Int.toNat 0 * 3) (hitsF o))) ++ hitF x ++ (List.take ((((o.length : Nat) : Int).toNat - ((a : Nat) : Int).toNat) * 3) (List.drop (((a : Nat) : Int).toNat * 3) (hitsF o))) := by rw [hins, e3, e4, List.nil_append, hitsF_app, hitsF_app, hitsF_one]
              clear e1 e2 e3 e4
              repeat (first
    | (apply s_bind; exact rfl; exact rfl; exact rfl; exact rfl; exact rfl; exact rfl; exact ne_hit (c := true) (by rw [decide_eq_false hne]; rfl))
    | (apply w_draw2 (id := 13) 7 11 rfl (by kernel_rfl) (by kernel_rfl); exact rfl)
    | (apply s_bslice_clip TY (len := 0); exact rfl; exact rfl; exact rfl; exact rfl; exact rfl; exact rfl)
    | (apply s_append_new TY; exact rfl; exact rfl; exact rfl; exact rfl; exact rfl; exact rfl; exact rfl; exact rfl; exact hm0; exact rfl; exact q1; (unfold maxLen; omega); omega)
    | (apply s_gro TY; exact rfl; exact rfl; exact rfl; exact rfl; exact rfl; exact rfl; exact rfl; exact rfl; exact rfl; (unfold maxLen; omega); omega)
    | (refine KD.mk ⟨rfl, rfl, rfl, trivial⟩ rfl rfl ?_)
    | (apply s_append TY; exact rfl; exact rfl; exact rfl; exact rfl; exact rfl; exact rfl; exact rfl; exact rfl; exact q2; (unfold maxLen; omega); omega)
    | (apply s_a TY; exact rfl)
    | (apply s_t; exact rfl; (first | assumption | omega))
    | (apply s_f; exact rfl; (first | assumption | omega))
    | apply w_seq
    | apply w_region
    | (apply w_draw (id := 10) 10 rfl (by kernel_rfl))
    | (apply w_draw (id := 12) 10 rfl (by kernel_rfl))
    | apply s_nil
    | apply t_norm
    | apply t_exit
    | apply k_hit
    | apply k_norm
    | apply w_exit
    | (apply w_condT; exact rfl; exact rfl)
    | (apply w_condF; exact rfl; exact rfl)
    | (apply s_k (HB); exact rfl)
    | (apply s_c TY; exact rfl; (first | omega | exact ⟨by omega, by (first | with_reducible assumption | ((with_reducible apply hitsF_ne); omega) | ((with_reducible apply stmsF_ne); omega) | assumption)⟩))
    | (apply s_m TY; exact rfl; (first | with_reducible assumption | ((with_reducible apply hitsF_sub); omega) | ((with_reducible apply stmsF_sub); omega) | exact rfl); exact rfl)
    | (apply s_slice TY; exact rfl; exact rfl; exact rfl; (first | exact rfl | exact ⟨_, rfl⟩); (first | exact rfl | exact ⟨_, rfl⟩); omega; omega; omega))
              exact ⟨k + 1, by omega, by omega, gh_trans (gh_row 0 rfl) (gh_le ⟨le_upd rfl trivial (le_upd rfl trivial (le_upd (slF_eq (by rw [hsu]; exact hnn) (by rw [hsu]; exact hnc)) trivial (le_upd rfl trivial (le_nil _)))), le_h0 _ _⟩)⟩
      · have hae : a = o.length := by omega
        have hb2 : ∀ h : a < o.length, ¬ before o[a] x := fun h => absurd h hac
        have hb3 : (if _ : a < o.length then o[a] ≠ x else True) := by rw [dif_neg hac]; trivial
        have hins : insH o x = o.take a ++ [x] ++ o.drop a := insH_at ha hb1 hb2 hb3
        by_cases ha0 : a = 0
        · subst ha0
          have e2 : (((o.length : Nat) : Int).toNat - ((0 : Nat) : Int).toNat) = (o.drop 0).length := by rw [List.length_drop]; omega
          have e4 : (List.take ((((o.length : Nat) : Int).toNat - ((0 : Nat) : Int).toNat) * 3) (List.drop (((0 : Nat) : Int).toNat * 3) (hitsF o))) = hitsF (o.drop 0) := by rw [e2, show ((0 : Nat) : Int).toNat = 0 by omega, hitsF_drop, List.take_of_length_le (by rw [hitsF_len]; exact Nat.le_refl _)]
          have q2 : (List.take ((((o.length : Nat) : Int).toNat - ((0 : Nat) : Int).toNat) * 3) (List.drop (((0 : Nat) : Int).toNat * 3) (hitsF o))).length = (((o.length : Nat) : Int).toNat - ((0 : Nat) : Int).toNat) * 3 := by rw [e4, e2, hitsF_len]
          have hnn : (insH o x).length = 0 + 1 + (((o.length : Nat) : Int).toNat - ((0 : Nat) : Int).toNat) := by rw [hins, e2]; simp; omega
          have hnc : hitsF (insH o x) = [] ++ hitF x ++ (List.take ((((o.length : Nat) : Int).toNat - ((0 : Nat) : Int).toNat) * 3) (List.drop (((0 : Nat) : Int).toNat * 3) (hitsF o))) := by rw [hins, e4, List.take_zero, List.nil_append, hitsF_app, hitsF_one]; rfl
          clear e2 e4
          repeat (first
    | (apply w_draw (id := 13) 11 rfl (by kernel_rfl))
    | (apply s_bslice_clip TY (len := 0); exact rfl; exact rfl; exact rfl; exact rfl; exact rfl; exact rfl)
    | (apply s_append_none TY; exact rfl; exact rfl; exact rfl; exact rfl)
    | (apply s_append_new TY; exact rfl; exact rfl; exact rfl; exact rfl; exact rfl; exact rfl; exact rfl; exact rfl; exact (by decide); exact rfl; exact rfl; (unfold maxLen; omega); omega)
    | (apply s_append TY; exact rfl; exact rfl; exact rfl; exact rfl; exact rfl; exact rfl; exact rfl; exact rfl; exact q2; (unfold maxLen; omega); omega)
    | (apply s_a TY; exact rfl)
    | (apply s_t; exact rfl; (first | assumption | omega))
    | (apply s_f; exact rfl; (first | assumption | omega))
    | apply w_seq
    | apply w_region
    | (apply w_draw (id := 10) 10 rfl (by kernel_rfl))
    | (apply w_draw (id := 12) 10 rfl (by kernel_rfl))
    | apply s_nil
    | apply t_norm
    | apply t_exit
    | apply k_hit
    | apply k_norm
    | apply w_exit
    | (apply w_condT; exact rfl; exact rfl)
    | (apply w_condF; exact rfl; exact rfl)
    | (apply s_s; exact rfl)
    | (apply s_c TY; exact rfl; (first | omega | exact ⟨by omega, by (first | with_reducible assumption | ((with_reducible apply hitsF_ne); omega) | ((with_reducible apply stmsF_ne); omega) | assumption)⟩))
    | (apply s_slice TY; exact rfl; exact rfl; exact rfl; (first | exact rfl | exact ⟨_, rfl⟩); (first | exact rfl | exact ⟨_, rfl⟩); omega; omega; omega))
          exact ⟨k + 1, by omega, by omega, gh_trans (gh_row 0 rfl) (gh_le ⟨le_upd rfl trivial (le_upd rfl trivial (le_upd (slF_eq (by rw [hsu]; exact hnn) (by rw [hsu]; exact hnc)) trivial (le_upd rfl trivial (le_nil _)))), le_h0 _ _⟩)⟩
        · have hm0 : 0 < (((a : Nat) : Int).toNat - Int.toNat 0) := by omega
          have e1 : (((a : Nat) : Int).toNat - Int.toNat 0) = (o.take a).length := by rw [List.length_take]; omega
          have e3 : (List.take ((((a : Nat) : Int).toNat - Int.toNat 0) * 3) (List.drop (Int.toNat 0 * 3) (hitsF o))) = hitsF (o.take a) := by rw [e1, show Int.toNat 0 = 0 from rfl, Nat.zero_mul, List.drop_zero, hitsF_take, List.length_take, show min a o.length = a by omega]
          have q1 : (List.take ((((a : Nat) : Int).toNat - Int.toNat 0) * 3) (List.drop (Int.toNat 0 * 3) (hitsF o))).length = (((a : Nat) : Int).toNat - Int.toNat 0) * 3 := by rw [e3, e1, hitsF_len]
          have e2 : (((o.length : Nat) : Int).toNat - ((a : Nat) : Int).toNat) = (o.drop a).length := by rw [List.length_drop]; omega
          have e4 : (List.take ((((o.length : Nat) : Int).toNat - ((a : Nat) : Int).toNat) * 3) (List.drop (((a : Nat) : Int).toNat * 3) (hitsF o))) = hitsF (o.drop a) := by rw [e2, show ((a : Nat) : Int).toNat = a by omega, hitsF_drop, List.take_of_length_le (by rw [hitsF_len]; exact Nat.le_refl _)]
          have q2 : (List.take ((((o.length : Nat) : Int).toNat - ((a : Nat) : Int).toNat) * 3) (List.drop (((a : Nat) : Int).toNat * 3) (hitsF o))).length = (((o.length : Nat) : Int).toNat - ((a : Nat) : Int).toNat) * 3 := by rw [e4, e2, hitsF_len]
          have hnn : (insH o x).length = 0 + (((a : Nat) : Int).toNat - Int.toNat 0) + 1 + (((o.length : Nat) : Int).toNat - ((a : Nat) : Int).toNat) := by rw [hins, e1, e2]; simp only [List.length_append, List.length_singleton]; omega
          have hnc : hitsF (insH o x) = [] ++ (List.take ((((a : Nat) : Int).toNat - Int.toNat 0) * 3) (List.drop (Int.toNat 0 * 3) (hitsF o))) ++ hitF x ++ (List.take ((((o.length : Nat) : Int).toNat - ((a : Nat) : Int).toNat) * 3) (List.drop (((a : Nat) : Int).toNat * 3) (hitsF o))) := by rw [hins, e3, e4, List.nil_append, hitsF_app, hitsF_app, hitsF_one]
          clear e1 e2 e3 e4
          repeat (first
    | (apply w_draw2 (id := 13) 7 11 rfl (by kernel_rfl) (by kernel_rfl); exact rfl)
    | (apply s_bslice_clip TY (len := 0); exact rfl; exact rfl; exact rfl; exact rfl; exact rfl; exact rfl)
    | (apply s_append_new TY; exact rfl; exact rfl; exact rfl; exact rfl; exact rfl; exact rfl; exact rfl; exact rfl; exact hm0; exact rfl; exact q1; (unfold maxLen; omega); omega)
    | (apply s_gro TY; exact rfl; exact rfl; exact rfl; exact rfl; exact rfl; exact rfl; exact rfl; exact rfl; exact rfl; (unfold maxLen; omega); omega)
    | (refine KD.mk ⟨rfl, rfl, rfl, trivial⟩ rfl rfl ?_)
    | (apply s_append TY; exact rfl; exact rfl; exact rfl; exact rfl; exact rfl; exact rfl; exact rfl; exact rfl; exact q2; (unfold maxLen; omega); omega)
    | (apply s_a TY; exact rfl)
    | (apply s_t; exact rfl; (first | assumption | omega))
    | (apply s_f; exact rfl; (first | assumption | omega))
    | apply w_seq
    | apply w_region
    | (apply w_draw (id := 10) 10 rfl (by kernel_rfl))
    | (apply w_draw (id := 12) 10 rfl (by kernel_rfl))
    | apply s_nil
    | apply t_norm
    | apply t_exit
    | apply k_hit
    | apply k_norm
    | apply w_exit
    | (apply w_condT; exact rfl; exact rfl)
    | (apply w_condF; exact rfl; exact rfl)
    | (apply s_s; exact rfl)
    | (apply s_c TY; exact rfl; (first | omega | exact ⟨by omega, by (first | with_reducible assumption | ((with_reducible apply hitsF_ne); omega) | ((with_reducible apply stmsF_ne); omega) | assumption)⟩))
    | (apply s_slice TY; exact rfl; exact rfl; exact rfl; (first | exact rfl | exact ⟨_, rfl⟩); (first | exact rfl | exact ⟨_, rfl⟩); omega; omega; omega))
          exact ⟨k + 1, by omega, by omega, gh_trans (gh_row 0 rfl) (gh_le ⟨le_upd rfl trivial (le_upd rfl trivial (le_upd (slF_eq (by rw [hsu]; exact hnn) (by rw [hsu]; exact hnc)) trivial (le_upd rfl trivial (le_nil _)))), le_h0 _ _⟩)⟩
    · have hke : k = c[i].hits.length := by omega
      subst hke
      have hsu := mergeO_succ hc
      rw [List.take_length, ← hsu]
      repeat (first
    | (apply s_a TY; exact rfl)
    | (apply s_f; exact rfl; (first | assumption | omega))
    | apply w_seq
    | apply w_region
    | apply s_nil
    | apply t_norm
    | apply t_exit
    | apply k_hit
    | apply k_norm
    | apply w_exit
    | (apply w_condF; exact rfl; exact rfl)
    | (apply s_c TY; exact rfl; (first | omega | exact ⟨by omega, by (first | with_reducible assumption | ((with_reducible apply hitsF_ne); omega) | ((with_reducible apply stmsF_ne); omega) | assumption)⟩))
    | (apply s_l TY; exact rfl; (first | exact rfl | with_reducible assumption | ((with_reducible apply hitsF_f0); omega) | ((with_reducible apply hitsF_f1); omega) | ((with_reducible apply hitsF_f2); omega) | ((with_reducible apply stmsF_f0); omega) | ((with_reducible apply stmsF_f1); omega) | assumption)))
      exact ⟨i + 1, by omega, by omega, gh_le ⟨le_upd rfl trivial (le_upd rfl trivial (le_upd rfl trivial (le_nil _))), le_h0 _ _⟩⟩
  · have hie : i = c.length := by omega
    subst hie
    rw [List.take_length]
    repeat (first
    | (apply s_a TY; exact rfl)
    | (apply s_f; exact rfl; (first | assumption | omega))
    | apply w_seq
    | apply w_region
    | apply s_nil
    | apply t_norm
    | apply t_exit
    | apply k_hit
    | apply w_exit
    | apply w_ret
    | (apply w_condF; exact rfl; exact rfl))
    exact lv_ret (ret1 rfl (res_tmp rfl))
end Go.Proofs.YtdmdpkoapllkkaaGreat
namespace Go.Proofs.YtdmdpkoapllkkaaGreat
open Go Go.RowKit Go.Proofs Go.Shelf Go.Ab
theorem sse_arr {l : List Site} {s : Setup} {c : List Stm} (h1 : (arrChk l).2 ≠ 0) : sseErr l s c = (arrChk l).2 := by simp [sseErr, optErr, h1]
theorem sse_set {l : List Site} {s : Setup} {c : List Stm} (h1 : (arrChk l).2 = 0) (h2 : (setupChk s).2 ≠ 0) : sseErr l s c = (setupChk s).2 := by simp [sseErr, optErr, h1, h2]
theorem sse_stm {l : List Site} {s : Setup} {c : List Stm} (h1 : (arrChk l).2 = 0) (h2 : (setupChk s).2 = 0) : sseErr l s c = (stmsChk l c).2 := by simp [sseErr, optErr, h1, h2]
theorem Summ.nil1 {P : Program} {G : Nat → Option (List FV)} {g : Nat} {a r : FV} (K : Summ P G g [a, .sl 0 []] r) : Summ P G g [a, .v (.slice none 0 0)] r :=
  ⟨K.enters, fun w M us hM hG R => by
    obtain ⟨u1, us1, rfl, r1, R1⟩ := R.head
    obtain ⟨u2, us2, rfl, r2, R2⟩ := R1.head
    have := repV r2
    subst this
    exact K.call w M _ hM hG (RepL.cons r1 (RepL.cons (RepF.sl none 0 0 [] [] (Nat.le_refl _) rfl (fun u hu => by simp at hu) (fun hn => absurd rfl hn) (fun k u x h => by simp at h)) R2))⟩
set_option maxRecDepth 100000 in
set_option maxHeartbeats 12800000 in
theorem TriggerStreams_s (l : List Site) (s : Setup) (c : List Stm) : Summ Tryz.prog GG 7 [arrF l, setF s, .sl c.length (stmsF c)] (bv true) := by
  have HA := awake_s
  have HF := FewRules_s s
  have HFw := Summ.nil1 (Few_s l [])
  by_cases h8 : 8 < c.length
  · refine summW Tryz.func7 rfl rfl 154 rfl (by simp) (fun M0 => ?_)
    repeat (first
    | (apply s_assign_f; exact rfl; exact rfl)
    | (apply s_move_f; exact rfl; exact rfl)
    | (apply s_a TY; exact rfl)
    | (apply s_t; exact rfl; (first | assumption | omega))
    | apply w_seq
    | apply w_region
    | apply s_nil
    | apply t_norm
    | apply t_ret
    | apply w_ret
    | apply w_skip
    | (apply w_condT; exact rfl; exact rfl)
    | (apply w_condF; exact rfl; exact rfl)
    | (apply s_k (HA); exact rfl)
    | (apply s_s; exact rfl))
    exact lv_ret (ret1 rfl (res_tmp rfl))
  cases hf : fewRulesB s with
  | false =>
    rw [hf] at HF
    refine summW Tryz.func7 rfl rfl 154 rfl (by simp) (fun M0 => ?_)
    repeat (first
    | (apply s_assign_f; exact rfl; exact rfl)
    | (apply s_move_f; exact rfl; exact rfl)
    | (apply s_a TY; exact rfl)
    | (apply s_f; exact rfl; (first | assumption | omega))
    | apply w_seq
    | apply w_region
    | apply s_nil
    | apply t_norm
    | apply t_ret
    | apply w_ret
    | apply w_skip
    | (apply w_condT; exact rfl; exact rfl)
    | (apply w_condF; exact rfl; exact rfl)
    | (apply s_k (HA); exact rfl)
    | (apply s_k (HF); exact rfl)
    | (apply s_s; exact rfl))
    exact lv_ret (ret1 rfl (res_tmp rfl))
  | true =>
  rw [hf] at HF
  cases hfw : FewB l [] with
  | false =>
    rw [hfw] at HFw
    refine summW Tryz.func7 rfl rfl 154 rfl (by simp) (fun M0 => ?_)
    repeat (first
    | (apply s_assign_f; exact rfl; exact rfl)
    | (apply s_move_f; exact rfl; exact rfl)
    | (apply s_a TY; exact rfl)
    | (apply s_f; exact rfl; (first | assumption | omega))
    | apply w_seq
    | apply w_region
    | apply s_nil
    | apply t_norm
    | apply t_ret
    | apply w_ret
    | apply w_skip
    | (apply w_condT; exact rfl; exact rfl)
    | (apply w_condF; exact rfl; exact rfl)
    | (apply s_k (HA); exact rfl)
    | (apply s_k (HF); exact rfl)
    | (apply s_k (HFw); exact rfl))
    exact lv_ret (ret1 rfl (res_tmp rfl))
  | true =>
  rw [hfw] at HFw
  have hl32 : l.length ≤ 32 := by
    unfold FewB at hfw
    rw [Bool.and_eq_true, decide_eq_true_eq] at hfw
    exact hfw.1
  have hr6 : s.rules.length ≤ 6 := by
    unfold fewRulesB at hf
    rw [Bool.and_eq_true, decide_eq_true_eq] at hf
    exact hf.1
  refine summW Tryz.func7 rfl rfl 154 rfl (by simp) (fun M0 => ?_)
  repeat (first
    | (apply s_assign_f; exact rfl; exact rfl)
    | (apply s_move_f; exact rfl; exact rfl)
    | (apply s_a TY; exact rfl)
    | (apply s_f; exact rfl; (first | assumption | omega))
    | apply w_seq
    | apply w_region
    | apply s_nil
    | apply t_norm
    | apply w_block
    | apply w_skip
    | (apply w_condF; exact rfl; exact rfl)
    | (apply s_k (HA); exact rfl)
    | (apply s_k (HF); exact rfl)
    | (apply s_k (HFw); exact rfl))
  apply w_loop (fun k : Nat => ⟨(Ab.upd (Ab.upd (Ab.upd (Ab.upd (fun _ => .bot) 2 (.f (.sl c.length (stmsF c)))) 3 (.f (.pt [.sl l.length (sitesF l)] 0))) 4 (.f (.pt (setL s) 0))) 7 (.f (iv ((k : Nat) : Int)))), (fun _ => none), 0⟩) (fun k => k ≤ c.length ∧ ∀ j (hj : j < c.length), j < k → c[j].hits.length ≤ 42) (fun k => c.length - k) 0 (⟨Nat.zero_le _, fun j _ h => absurd h (Nat.not_lt_zero j)⟩) (gh_le ⟨le_upd rfl trivial (le_upd rfl trivial (le_upd rfl trivial (le_upd rfl trivial (le_nil _)))), le_h0 _ _⟩)
  intro k ⟨hk, hz⟩
  by_cases hck : k < c.length
  · have HW := few_s (c[k].hits.length : Nat)
    cases hw : fewB (c[k].hits.length : Nat) with
    | false =>
      rw [hw] at HW
      repeat (first
    | (apply s_assign_f; exact rfl; exact rfl)
    | (apply s_move_f; exact rfl; exact rfl)
    | (apply s_a TY; exact rfl)
    | (apply s_t; exact rfl; (first | assumption | omega))
    | apply w_seq
    | apply w_region
    | apply s_nil
    | apply t_norm
    | apply t_ret
    | apply k_ret
    | apply w_block
    | apply w_ret
    | apply w_skip
    | (apply w_condT; exact rfl; exact rfl)
    | (apply s_k (HW); exact rfl)
    | (apply s_c TY; exact rfl; (first | omega | exact ⟨by omega, by (first | with_reducible assumption | ((with_reducible apply stmsF_ne); omega) | assumption)⟩))
    | (apply s_l TY; exact rfl; (first | exact rfl | with_reducible assumption | ((with_reducible apply stmsF_f0); omega) | ((with_reducible apply stmsF_f1); omega) | assumption)))
      exact lv_ret (ret1 rfl (res_tmp rfl))
    | true =>
      rw [hw] at HW
      have h42 := fewB_le hw
      repeat (first
    | (apply s_assign_f; exact rfl; exact rfl)
    | (apply s_move_f; exact rfl; exact rfl)
    | (apply s_a TY; exact rfl)
    | (apply s_t; exact rfl; (first | assumption | omega))
    | apply w_seq
    | apply w_region
    | apply s_nil
    | apply t_norm
    | apply k_norm
    | apply w_block
    | apply w_skip
    | (apply w_condT; exact rfl; exact rfl)
    | (apply w_condF; exact rfl; exact rfl)
    | (apply s_k (HW); exact rfl)
    | (apply s_c TY; exact rfl; (first | omega | exact ⟨by omega, by (first | with_reducible assumption | ((with_reducible apply stmsF_ne); omega) | assumption)⟩))
    | (apply s_l TY; exact rfl; (first | exact rfl | with_reducible assumption | ((with_reducible apply stmsF_f0); omega) | ((with_reducible apply stmsF_f1); omega) | assumption)))
      exact ⟨k + 1, ⟨by omega, fun j hj hjk => by
        by_cases e : j = k
        · subst e; exact h42
        · exact hz j hj (by omega)⟩, by omega, gh_le ⟨le_upd rfl trivial (le_upd rfl trivial (le_upd rfl trivial (le_upd rfl trivial (le_nil _)))), le_h0 _ _⟩⟩
  have hh : ∀ i (hi : i < c.length), c[i].hits.length ≤ 1000000 := fun i hi => by have := hz i hi (by omega); omega
  have hl6 : l.length ≤ 1000000 := by omega
  have hs6 : s.rules.length ≤ 1000000 := by omega
  have hn6 : c.length ≤ 1000000 := by omega
  have HC1 := CopyArray_s l hl6
  have HC2 := CopySetup_s s hs6
  have HC4 := CopyStreams_s c hn6 hh
  have HAE := ArrayErr_s l hl6
  have HSE := SetupErr_s s hs6
  by_cases h1 : (arrChk l).2 = 0
  · rw [h1] at HAE
    have HCS := CheckStreams_ok l c hl6 hn6 hh h1
    have HRC := rCheckStreams_s l c hl6 hn6 hh
    by_cases h3 : (stmsChk l c).2 = 0
    · obtain ⟨hc1, hc6, hci⟩ := stmsChk_ok h3
      have h31 : (stmsChk l c).1 = 0 := by rw [stmsChk_of hc1 hc6 (fun i hi => stmE_ok.2 (hci i hi))]
      rw [h3, h31] at HCS HRC
      have HrM := rMerged_s c (by omega) (stms_hits h1 h3)
      by_cases h40 : 40 < (mergeH (allH c)).length
      · have HM := Merged_large l c hl6 h1 h3 h40
        by_cases h2 : (setupChk s).2 = 0
        · rw [h2] at HSE
          have hss : sseErr l s c = 0 := by rw [sse_stm h1 h2, h3]
          have HT := SettledAt_ok l s c hl6 hs6 hn6 hh hss
          have HrT := rSettled_s s c (setOk_of h2) hc1 hc6 (fun i hi => (hci i hi).2)
          repeat (first
    | (apply s_assign_f; exact rfl; exact rfl)
    | (apply s_move_f; exact rfl; exact rfl)
    | (apply g_move_f; exact rfl; exact rfl; exact rfl; exact rfl)
    | (apply s_a TY; exact rfl)
    | (apply s_t; exact rfl; (first | assumption | omega))
    | (apply s_f; exact rfl; (first | assumption | omega))
    | apply w_seq
    | apply w_region
    | (apply w_draw (id := 12) 11 rfl (by kernel_rfl))
    | apply s_nil
    | apply t_norm
    | apply t_exit
    | apply t_ret
    | apply k_hit
    | apply w_exit
    | apply w_ret
    | apply w_skip
    | (apply w_condT; exact rfl; exact rfl)
    | (apply w_condF; exact rfl; exact rfl)
    | (apply s_k (HC1); exact rfl)
    | (apply s_k (HC2); exact rfl)
    | (apply s_k (HC4); exact rfl)
    | (apply s_k (HAE); exact rfl)
    | (apply s_k (HSE); exact rfl)
    | (apply s_k (HCS); exact rfl)
    | (apply s_k (HRC); exact rfl)
    | (apply s_k (HM); exact rfl)
    | (apply s_k (HrM); exact rfl)
    | (apply s_k (HT); exact rfl)
    | (apply s_k (HrT); exact rfl)
    | (apply s_s; exact rfl))
          exact lv_ret (ret1 rfl (res_tmp rfl))
        · have hss : sseErr l s c = (setupChk s).2 := sse_set h1 h2
          have HT := SettledAt_err l s c hl6 hs6 hn6 hh (by rw [hss]; exact h2)
          rw [hss] at HT
          repeat (first
    | (apply s_assign_f; exact rfl; exact rfl)
    | (apply s_move_f; exact rfl; exact rfl)
    | (apply g_move_f; exact rfl; exact rfl; exact rfl; exact rfl)
    | (apply s_a TY; exact rfl)
    | (apply s_t; exact rfl; (first | assumption | omega))
    | (apply s_f; exact rfl; (first | assumption | omega))
    | apply w_seq
    | apply w_region
    | (apply w_draw (id := 12) 11 rfl (by kernel_rfl))
    | apply s_nil
    | apply t_norm
    | apply t_exit
    | apply t_ret
    | apply k_hit
    | apply w_exit
    | apply w_ret
    | apply w_skip
    | (apply w_condT; exact rfl; exact rfl)
    | (apply w_condF; exact rfl; exact rfl)
    | (apply s_k (HC1); exact rfl)
    | (apply s_k (HC2); exact rfl)
    | (apply s_k (HC4); exact rfl)
    | (apply s_k (HAE); exact rfl)
    | (apply s_k (HSE); exact rfl)
    | (apply s_k (HCS); exact rfl)
    | (apply s_k (HRC); exact rfl)
    | (apply s_k (HM); exact rfl)
    | (apply s_k (HrM); exact rfl)
    | (apply s_k (HT); exact rfl)
    | (apply s_s; exact rfl))
          exact lv_ret (ret1 rfl (res_tmp rfl))
      · have HM := Merged_ok l c hl6 h1 h3 (by omega)
        have HSH := SameHits_s (mergeH (allH c)) (mergeH (allH c)) (by omega) (by omega)
        rw [decide_eq_true rfl] at HSH
        by_cases h2 : (setupChk s).2 = 0
        · rw [h2] at HSE
          have hss : sseErr l s c = 0 := by rw [sse_stm h1 h2, h3]
          have HT := SettledAt_ok l s c hl6 hs6 hn6 hh hss
          have HrT := rSettled_s s c (setOk_of h2) hc1 hc6 (fun i hi => (hci i hi).2)
          repeat (first
    | (apply s_assign_f; exact rfl; exact rfl)
    | (apply s_move_f; exact rfl; exact rfl)
    | (apply g_move_f; exact rfl; exact rfl; exact rfl; exact rfl)
    | (apply s_a TY; exact rfl)
    | (apply s_t; exact rfl; (first | assumption | omega))
    | (apply s_f; exact rfl; (first | assumption | omega))
    | apply w_seq
    | apply w_region
    | (apply w_draw (id := 12) 11 rfl (by kernel_rfl))
    | apply s_nil
    | apply t_norm
    | apply t_exit
    | apply k_hit
    | apply w_exit
    | apply w_ret
    | apply w_skip
    | (apply w_condT; exact rfl; exact rfl)
    | (apply w_condF; exact rfl; exact rfl)
    | (apply s_k (HC1); exact rfl)
    | (apply s_k (HC2); exact rfl)
    | (apply s_k (HC4); exact rfl)
    | (apply s_k (HAE); exact rfl)
    | (apply s_k (HSE); exact rfl)
    | (apply s_k (HCS); exact rfl)
    | (apply s_k (HRC); exact rfl)
    | (apply s_k (HM); exact rfl)
    | (apply s_k (HrM); exact rfl)
    | (apply s_k (HT); exact rfl)
    | (apply s_k (HrT); exact rfl)
    | (apply s_k (HSH); exact rfl)
    | (apply s_s; exact rfl))
          exact lv_ret (ret1 rfl (res_tmp rfl))
        · have hss : sseErr l s c = (setupChk s).2 := sse_set h1 h2
          have HT := SettledAt_err l s c hl6 hs6 hn6 hh (by rw [hss]; exact h2)
          rw [hss] at HT
          repeat (first
    | (apply s_assign_f; exact rfl; exact rfl)
    | (apply s_move_f; exact rfl; exact rfl)
    | (apply g_move_f; exact rfl; exact rfl; exact rfl; exact rfl)
    | (apply s_a TY; exact rfl)
    | (apply s_t; exact rfl; (first | assumption | omega))
    | (apply s_f; exact rfl; (first | assumption | omega))
    | apply w_seq
    | apply w_region
    | (apply w_draw (id := 12) 11 rfl (by kernel_rfl))
    | apply s_nil
    | apply t_norm
    | apply t_exit
    | apply k_hit
    | apply w_exit
    | apply w_ret
    | apply w_skip
    | (apply w_condT; exact rfl; exact rfl)
    | (apply w_condF; exact rfl; exact rfl)
    | (apply s_k (HC1); exact rfl)
    | (apply s_k (HC2); exact rfl)
    | (apply s_k (HC4); exact rfl)
    | (apply s_k (HAE); exact rfl)
    | (apply s_k (HSE); exact rfl)
    | (apply s_k (HCS); exact rfl)
    | (apply s_k (HRC); exact rfl)
    | (apply s_k (HM); exact rfl)
    | (apply s_k (HrM); exact rfl)
    | (apply s_k (HT); exact rfl)
    | (apply s_k (HSH); exact rfl)
    | (apply s_s; exact rfl))
          exact lv_ret (ret1 rfl (res_tmp rfl))
    · have HM := Merged_errB l c hl6 hn6 hh h1 h3
      by_cases h2 : (setupChk s).2 = 0
      · rw [h2] at HSE
        have hss : sseErr l s c = (stmsChk l c).2 := sse_stm h1 h2
        have HT := SettledAt_err l s c hl6 hs6 hn6 hh (by rw [hss]; exact h3)
        rw [hss] at HT
        repeat (first
    | (apply s_assign_f; exact rfl; exact rfl)
    | (apply s_move_f; exact rfl; exact rfl)
    | (apply g_move_f; exact rfl; exact rfl; exact rfl; exact rfl)
    | (apply s_a TY; exact rfl)
    | (apply s_t; exact rfl; (first | assumption | omega))
    | (apply s_f; exact rfl; (first | assumption | omega))
    | apply w_seq
    | apply w_region
    | (apply w_draw (id := 12) 11 rfl (by kernel_rfl))
    | apply s_nil
    | apply t_norm
    | apply t_exit
    | apply t_ret
    | apply k_hit
    | apply w_exit
    | apply w_ret
    | apply w_skip
    | (apply w_condT; exact rfl; exact rfl)
    | (apply w_condF; exact rfl; exact rfl)
    | (apply s_k (HC1); exact rfl)
    | (apply s_k (HC2); exact rfl)
    | (apply s_k (HC4); exact rfl)
    | (apply s_k (HAE); exact rfl)
    | (apply s_k (HSE); exact rfl)
    | (apply s_k (HCS); exact rfl)
    | (apply s_k (HRC); exact rfl)
    | (apply s_k (HM); exact rfl)
    | (apply s_k (HT); exact rfl)
    | (apply s_s; exact rfl))
        exact lv_ret (ret1 rfl (res_tmp rfl))
      · have hss : sseErr l s c = (setupChk s).2 := sse_set h1 h2
        have HT := SettledAt_err l s c hl6 hs6 hn6 hh (by rw [hss]; exact h2)
        rw [hss] at HT
        repeat (first
    | (apply s_assign_f; exact rfl; exact rfl)
    | (apply s_move_f; exact rfl; exact rfl)
    | (apply g_move_f; exact rfl; exact rfl; exact rfl; exact rfl)
    | (apply s_a TY; exact rfl)
    | (apply s_t; exact rfl; (first | assumption | omega))
    | (apply s_f; exact rfl; (first | assumption | omega))
    | apply w_seq
    | apply w_region
    | (apply w_draw (id := 12) 11 rfl (by kernel_rfl))
    | apply s_nil
    | apply t_norm
    | apply t_exit
    | apply t_ret
    | apply k_hit
    | apply w_exit
    | apply w_ret
    | apply w_skip
    | (apply w_condT; exact rfl; exact rfl)
    | (apply w_condF; exact rfl; exact rfl)
    | (apply s_k (HC1); exact rfl)
    | (apply s_k (HC2); exact rfl)
    | (apply s_k (HC4); exact rfl)
    | (apply s_k (HAE); exact rfl)
    | (apply s_k (HSE); exact rfl)
    | (apply s_k (HCS); exact rfl)
    | (apply s_k (HRC); exact rfl)
    | (apply s_k (HM); exact rfl)
    | (apply s_k (HT); exact rfl)
    | (apply s_s; exact rfl))
        exact lv_ret (ret1 rfl (res_tmp rfl))
  · have HCS := CheckStreams_err l c hl6 h1
    have HM := Merged_errA l c hl6 h1
    have hss : sseErr l s c = (arrChk l).2 := sse_arr h1
    have HT := SettledAt_err l s c hl6 hs6 hn6 hh (by rw [hss]; exact h1)
    rw [hss] at HT
    repeat (first
    | (apply s_assign_f; exact rfl; exact rfl)
    | (apply s_move_f; exact rfl; exact rfl)
    | (apply g_move_f; exact rfl; exact rfl; exact rfl; exact rfl)
    | (apply s_a TY; exact rfl)
    | (apply s_t; exact rfl; (first | assumption | omega))
    | (apply s_f; exact rfl; (first | assumption | omega))
    | apply w_seq
    | apply w_region
    | (apply w_draw (id := 12) 11 rfl (by kernel_rfl))
    | apply s_nil
    | apply t_norm
    | apply t_exit
    | apply t_ret
    | apply k_hit
    | apply w_exit
    | apply w_ret
    | apply w_skip
    | (apply w_condT; exact rfl; exact rfl)
    | (apply w_condF; exact rfl; exact rfl)
    | (apply s_k (HC1); exact rfl)
    | (apply s_k (HC2); exact rfl)
    | (apply s_k (HC4); exact rfl)
    | (apply s_k (HAE); exact rfl)
    | (apply s_k (HCS); exact rfl)
    | (apply s_k (HM); exact rfl)
    | (apply s_k (HT); exact rfl)
    | (apply s_s; exact rfl))
    exact lv_ret (ret1 rfl (res_tmp rfl))
end Go.Proofs.YtdmdpkoapllkkaaGreat
namespace Go.Ab
open Go Go.RowKit Go.Shelf Go.Proofs
def OpensFs (P : Program) (w : World) (fs : List Field) (off tot : Nat) {α : Type} (k : α → List FV) : Prop :=
  ∀ (H : Type) (enc : TypeId × Value → H) (base : Nat) (sp : Nat → Bool) (hd : Bool) (n : Nat) (cs : List Value), cs.length = off + tot → (∀ (i : Nat) (f : Field), fs[i]? = some f → ∃ x, DataW.trod enc P w base sp hd n f.type ((cs.drop f.offset).take (P.cellsOf f.type)) = some x) → ∃ a : α, RepL w (fun _ => False) (cs.drop off) (k a) ∧ ∀ u ∈ cs.drop off, u.oneCell'
section
variable {P : Program} {w : World}
theorem ofs_nil {off : Nat} : OpensFs P w [] off 0 (fun _ : Unit => []) := fun H enc base sp hd n cs hl _ => by
  rw [List.drop_eq_nil_of_le (by omega)]
  exact ⟨(), RepL.nil _ _, by simp⟩
theorem ofs_cons {f : Field} {fs : List Field} {off s tot : Nat} {α β : Type} {g : α → List FV} {k : β → List FV} (hc : P.cellsOf f.type = s) (ho : f.offset = off) (h : Opens P w f.type g) (hr : OpensFs P w fs (off + s) tot k) : OpensFs P w (f :: fs) off (s + tot) (fun p : α × β => g p.1 ++ k p.2) := fun H enc base sp hd n cs hl hx => by
  obtain ⟨x, hx0⟩ := hx 0 f rfl
  obtain ⟨a, r0, q0⟩ := h H enc base sp hd n _ _ hx0
  obtain ⟨b, r1, q1⟩ := hr H enc base sp hd n cs (by omega) (fun i f' hf => hx (i + 1) f' hf)
  rw [ho, hc] at r0 q0
  have hs : cs.drop off = (cs.drop off).take s ++ cs.drop (off + s) := by rw [← List.drop_drop, List.take_append_drop]
  refine ⟨(a, b), ?_, fun u hu => ?_⟩
  · rw [hs]; exact RepL.append r0 r1
  · rw [hs] at hu
    rcases List.mem_append.1 hu with h | h
    · exact q0 u h
    · exact q1 u h
theorem opens_st {T : TypeId} {fs : Array Field} {tot : Nat} {α : Type} {k : α → List FV} (ht : P.underlying T = some (.struct fs)) (ct : P.cellsOf T = tot) (h : OpensFs P w fs.toList 0 tot k) : Opens P w T k := fun H enc base sp hd fuel cs x hx => by
  obtain ⟨xs, n, _, _, hlen, hxl, hf⟩ := DataW.trod_struct ht hx
  have := h H enc base sp hd n cs (by rw [hlen, ct]; omega) (fun i f hi => by
    have hi' : fs[i]? = some f := by rw [← hi]; simp
    have e := hf i f hi'
    have hlt : i < xs.length := by
      rw [hxl]
      exact (Array.getElem?_eq_some_iff.1 hi').1
    rw [List.getElem?_eq_getElem hlt] at e
    exact ⟨_, e⟩)
  rwa [List.drop_zero] at this
end
end Go.Ab
namespace Go.Proofs.YtdmdpkoapllkkaaGreat
open Go Go.Ab Go.ChangeShapes Go.WideShapes Go.ChangeAt Go.RowKit
theorem ownKnobT : ownKnob Tryz.prog.godebug = none := by kernel_rfl
theorem laidOutT : laidOutB Tryz.prog = true := by kernel_rfl
theorem trodAll_stays {H : Type} {enc : TypeId × Value → H} {W W' : World} {sp : Nat → Bool} (hb : Below W.heap.size W W') : ∀ {ts : List TypeId} {vs : List Value} {ds : List (DataW H)} {ps : List MemPlace}, (∀ t ∈ ts, Tryz.prog.readableRec t = true ∧ t < Tryz.prog.types.size) → DataW.TrodAll enc Tryz.prog W 0 (fun _ => true) true ts vs ds ps → (∀ p ∈ ps, p.block < W.heap.size) → (∀ p ∈ ps, sp p.block = true) → DataW.TrodAll enc Tryz.prog W' 0 sp true ts vs ds ps
  | [], [], [], _, _, h, _, _ => h
  | t :: ts, v :: vs, d :: ds, ps, ht, ⟨p, q, h1, h2, e⟩, hlt, hsp => by
    have hp : ∀ x ∈ p, x ∈ ps := fun x hx => by rw [e]; exact List.mem_append_left _ hx
    have hq : ∀ x ∈ q, x ∈ ps := fun x hx => by rw [e]; exact List.mem_append_right _ hx
    exact ⟨p, q, WideElems.Trod_stays laidOutT (ht t (by simp)).1 (ht t (by simp)).2 h1 (fun x hx => hb.same (hlt x (hp x hx))) (fun x hx => hsp x (hp x hx)),
      trodAll_stays hb (fun u hu => ht u (by simp [hu])) h2 (fun x hx => hlt x (hq x hx)) (fun x hx => hsp x (hq x hx)), e⟩
theorem post_law {H : Type} {enc : TypeId × Value → H} {f : Func} {s : ChangeSpec} {W W' : World} {args : Array Value} {ds gs : List (DataW H)} {before : List MemPlace}
    (hW : DataW.Whole enc Tryz.prog f.params.toList s.vars false W args.toList ds gs before) (hv : s.vars = []) (hr : f.resultTypes = #[4])
    (ht : ∀ t ∈ f.params.toList, Tryz.prog.readableRec t = true ∧ t < Tryz.prog.types.size)
    (hres : (s.fn H (ds ++ gs)).results = [.lit (.bool true)]) (hargs : (s.fn H (ds ++ gs)).args = ds) (hvs : (s.fn H (ds ++ gs)).vars = [])
    (hb : Below W.heap.size W W') : s.post enc Tryz.prog f false true false false W args (.bool true) W' := by
  have hlt := hW.lt
  have hW0 := hW
  obtain ⟨p, q, h1, h2, e, hz, hn⟩ := hW
  have h2' := h2
  rw [hv] at h2'
  have hq : gs = [] ∧ q = [] := by
    cases gs with
    | nil => exact ⟨rfl, h2'⟩
    | cons g r => exact absurd h2' (by intro h; cases h)
  obtain ⟨rfl, rfl⟩ := hq
  rw [List.append_nil] at e
  subst e
  refine ⟨ds, [], before, [], before, [], hW0, ?_, ?_, ?_, Below.frame hb _, fun h => by cases h⟩
  · rw [hr, hres]; exact trodAll_mk1 (shut_bool Tryz.underlying4 true)
  · rw [hargs]
    exact trodAll_stays hb ht h1 hlt (fun x hx => by simpa using hlt x hx)
  · rw [hv, hvs]; rfl
section
variable {W : World}
theorem opens_i : Opens Tryz.prog W 3 (fun z : Int => [iv z]) := opens_int Tryz.underlying3
theorem opens_site : Opens Tryz.prog W 121 siteF := (opens_st Tryz.underlying121 (by kernel_rfl) (ofs_cons (s := 1) (by kernel_rfl) rfl opens_i (ofs_cons (s := 1) (by kernel_rfl) rfl opens_i (ofs_cons (s := 1) (by kernel_rfl) rfl opens_i (ofs_cons (s := 1) (by kernel_rfl) rfl opens_i (ofs_cons (s := 1) (by kernel_rfl) rfl opens_i (ofs_nil))))))).map (fun p => ⟨p.1, p.2.1, p.2.2.1, p.2.2.2.1, p.2.2.2.2.1⟩) fun _ => rfl
theorem opens_sites : Opens Tryz.prog W 22 (fun l : List Site => [.sl l.length (sitesF l)]) := opens_sl (s := 5) Tryz.underlying22 (by kernel_rfl) (by decide) opens_site
theorem opens_arr : Opens Tryz.prog W 24 (fun l : List Site => [.sl l.length (sitesF l)]) := (opens_st Tryz.underlying24 (by kernel_rfl) (ofs_cons (s := 1) (by kernel_rfl) rfl opens_sites (ofs_nil))).map (fun p => p.1) fun _ => rfl
theorem opens_hit : Opens Tryz.prog W 29 hitF := (opens_st Tryz.underlying29 (by kernel_rfl) (ofs_cons (s := 1) (by kernel_rfl) rfl opens_i (ofs_cons (s := 1) (by kernel_rfl) rfl opens_i (ofs_cons (s := 1) (by kernel_rfl) rfl opens_i (ofs_nil))))).map (fun p => ⟨p.1, p.2.1, p.2.2.1⟩) fun _ => rfl
theorem opens_hits : Opens Tryz.prog W 27 (fun l : List Hit => [.sl l.length (hitsF l)]) := opens_sl (s := 3) Tryz.underlying27 (by kernel_rfl) (by decide) opens_hit
theorem opens_rule : Opens Tryz.prog W 26 ruleF := (opens_st Tryz.underlying26 (by kernel_rfl) (ofs_cons (s := 1) (by kernel_rfl) rfl opens_i (ofs_cons (s := 1) (by kernel_rfl) rfl opens_i (ofs_cons (s := 1) (by kernel_rfl) rfl opens_i (ofs_cons (s := 1) (by kernel_rfl) rfl opens_i (ofs_cons (s := 1) (by kernel_rfl) rfl opens_i (ofs_nil))))))).map (fun p => ⟨p.1, p.2.1, p.2.2.1, p.2.2.2.1, p.2.2.2.2.1⟩) fun _ => rfl
theorem opens_rules : Opens Tryz.prog W 57 (fun l : List Rule => [.sl l.length (rulesF l)]) := opens_sl (s := 5) Tryz.underlying57 (by kernel_rfl) (by decide) opens_rule
theorem opens_setup : Opens Tryz.prog W 59 setL := (opens_st Tryz.underlying59 (by kernel_rfl) (ofs_cons (s := 1) (by kernel_rfl) rfl opens_rules (ofs_cons (s := 1) (by kernel_rfl) rfl opens_i (ofs_cons (s := 1) (by kernel_rfl) rfl opens_i (ofs_cons (s := 1) (by kernel_rfl) rfl opens_i (ofs_nil)))))).map (fun p => ⟨p.1, p.2.1, p.2.2.1, p.2.2.2.1⟩) fun _ => rfl
theorem opens_stm : Opens Tryz.prog W 46 stmF := (opens_st Tryz.underlying46 (by kernel_rfl) (ofs_cons (s := 1) (by kernel_rfl) rfl opens_hits (ofs_cons (s := 1) (by kernel_rfl) rfl opens_i (ofs_nil)))).map (fun p => ⟨p.1, p.2.1⟩) fun _ => rfl
theorem opens_stms : Opens Tryz.prog W 47 (fun l : List Stm => [.sl l.length (stmsF l)]) := opens_sl (s := 2) Tryz.underlying47 (by kernel_rfl) (by decide) opens_stm
end
set_option maxRecDepth 100000 in
theorem arg_st {H : Type} {enc : TypeId × Value → H} {W : World} {base : Nat} {T : TypeId} {fs : Array Field} {α : Type} {f : α → List FV} {v : Value} {d : DataW H} {ps : List MemPlace} (h : Opens Tryz.prog W T f) (ht : Tryz.prog.underlying T = some (.struct fs)) (hv : Value.okWide Tryz.prog W .any base T v) (hd : DataW.Trod enc Tryz.prog W 0 (fun _ => true) true T v d ps) : ∃ a, RepF W (fun _ => False) v (.agg (f a)) := by
  obtain ⟨cs, e, _⟩ := okWide_struct ht hv
  exact arg_agg h e hd
set_option maxRecDepth 100000 in
theorem arg_sl {H : Type} {enc : TypeId × Value → H} {W : World} {base : Nat} {T E : TypeId} {α : Type} {f : α → FV} {v : Value} {d : DataW H} {ps : List MemPlace} (h : Opens Tryz.prog W T (fun a => [f a])) (ht : Tryz.prog.underlying T = some (.slice E)) (hv : Value.okWide Tryz.prog W .any base T v) (hd : DataW.Trod enc Tryz.prog W 0 (fun _ => true) true T v d ps) : ∃ a, RepF W (fun _ => False) v (f a) := by
  obtain ⟨a, n, c, rfl⟩ := okWide_slice ht hv
  exact arg_one h rfl hd
theorem law_calls {f : Nat} {xs : List FV} (S : Summ Tryz.prog GG f xs (.v (.bool true))) {W : World} {args : Array Value} (R : RepL W (fun _ => False) args.toList xs) : Calls Tryz.prog f args W fun e W' => e = .returned (.bool true) ∧ Below W.heap.size W W' := by
  have := S.call W (fun _ => False) args.toList (fun _ h => h.elim) (fun g cs h => by cases h) R
  simp only [Array.toArray_toList] at this
  refine this.mono fun e w' ⟨v, h1, h2, h3⟩ => ⟨?_, h3⟩
  rw [h1, repV h2]
end Go.Proofs.YtdmdpkoapllkkaaGreat
