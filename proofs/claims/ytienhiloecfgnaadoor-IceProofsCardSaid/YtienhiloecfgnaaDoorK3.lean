/- Laws on which the proofs of this seat stand. No condition. -/
import Derived.Test.YtienhiloecfgnaaDoorK2
import Derived.IntWalk
import Derived.Test.YtienhiloecfgnaaDoorProg
import Derived.ArgAppend
namespace Go.Ab
open Go Go.RowKit Go.Shelf Go.Proofs
section
variable {C : Ctx} {N : Nat}
def yl (st : St) (ops : Array Oper) (j : Nat) : Option Bool := match ops[j]? with
  | some o => match o.dst with
    | some d => match st.s d with
      | .f (.v (.bool b)) => some b
      | _ => none
    | none => none
  | none => none
def yu (st : St) (ops : Array Oper) (j : Nat) : Bool := match ops[j]? with
  | some o => match o.dst with
    | some d => match st.s d with
      | .f (.v (.tuple _)) => true
      | _ => false
    | none => false
  | none => false
def wantB (st : St) (ops : Array Oper) (o : Oper) : Option Bool := match o.guard with
  | none => some true
  | some (j, want) => match yl st ops j with
    | some b => some (b == want)
    | none => bif yu st ops j then some false else none
theorem want_sim {w0 : World} {a : Act} {w : World} {st : St} {ops : Array Oper} {o : Oper} {b : Bool} (S : SimE C w0 N st a w) (h : wantB st ops o = some b) : Region.wanted o (yielded ops a.tmps) = b := by
  obtain ⟨J, S⟩ := S
  unfold wantB at h
  unfold Region.wanted
  cases hg : o.guard with
  | none => simp [hg] at h; subst h; rfl
  | some p =>
    obtain ⟨j, want⟩ := p
    simp only [hg] at h ⊢
    cases hy : yl st ops j with
    | none =>
      simp only [hy] at h
      cases hu : yu st ops j with
      | false => rw [hu] at h; cases h
      | true =>
        rw [hu] at h
        have hb : b = false := (Option.some.inj h).symm
        subst hb
        unfold yu at hu
        cases hj : ops[j]? with
        | none => simp [hj] at hu
        | some oj =>
          simp only [hj] at hu
          cases hdj : oj.dst with
          | none => simp [hdj] at hu
          | some d =>
            simp only [hdj] at hu
            have hs := S.slot d
            split at hu
            · rename_i b2 hb2
              rw [hb2] at hs
              have hr := repV hs
              have e : yielded ops a.tmps j = none := by
                simp only [Array.getD_eq_getD_getElem?] at hr
                cases ht : a.tmps[d]? with
                | none => simp [yielded, hj, hdj, ht]
                | some y =>
                  rw [ht] at hr
                  have hy2 : y = .tuple b2 := by simpa using hr
                  simp [yielded, hj, hdj, ht, hy2]
              rw [e]; rfl
            · cases hu
    | some b' =>
      simp [hy] at h
      unfold yl at hy
      cases hj : ops[j]? with
      | none => simp [hj] at hy
      | some oj =>
        simp only [hj] at hy
        cases hdj : oj.dst with
        | none => simp [hdj] at hy
        | some d =>
          simp only [hdj] at hy
          have hs := S.slot d
          split at hy
          · rename_i b2 hb2
            rw [hb2] at hs
            have := repV hs
            have e : yielded ops a.tmps j = some b' := by
              simp at hy; subst hy
              simp only [Array.getD_eq_getD_getElem?] at this
              have hlt : a.tmps[d]? = some (Value.bool b2) := by
                cases ht : a.tmps[d]? with
                | none => rw [ht] at this; simp [undef] at this
                | some y => rw [ht] at this; simpa using this
              simp [yielded, hj, hdj, hlt]
            rw [e]
            subst h
            cases b' <;> cases want <;> rfl
          · cases hy
def light (o : Oper) : Bool := match o.op with
  | .load .. => true
  | .binOp .. => true
  | .store .. => true
  | .move .. => true
  | .assign .. => true
  | .indexAddr .. => true
  | .fieldAddr .. => true
  | .extract .. => true
  | .pick .. => true
  | .call c => match c.callee with
    | .builtin .len => true
    | _ => false
  | _ => false
def madeB (ops : Array Oper) (o : Oper) : Bool := (List.range ops.size).all fun j => match ops[j]? with
  | some oj => light oj || o.after.toList.any fun e => Region.binds .any e && Nat.beq e.on j
  | none => true
def saidB : Blk → Bool
  | .box cs => cs.any fun x => match x with
    | .bot => false
    | _ => true
  | _ => true
def StayOp (C : Ctx) (N : Nat) (o : Oper) (st : St) (k : Nat) (B : Blk) : Prop := o.dst = none ∧
  ∀ w0 a w st', Agree C o st st' → st'.h k = some B → SimE C w0 N st' a w → ∀ K Q, (∀ v w', SimE C w0 N st' (a.put o.dst v) w' → K (a.put o.dst v) w') → o.wpIn (Fence.wr C.ro) 7 C.P a w K Q
inductive One (C : Ctx) (N : Nat) (ops : Array Oper) (pr : Bool) (o : Oper) (st : St) : St → Prop
  | val (r : AV) : wantB st ops o = some true → ValOp C N o st r → One C N ops pr o st (st.put o.dst r)
  | all (r : AV) (B : Blk) : wantB st ops o = some true → light o = false → AllOp C N o st r B → st.h st.nx = none → One C N ops pr o st { s := (st.put o.dst r).s, h := upd st.h st.nx (some B), nx := st.nx + 1 }
  | skip : wantB st ops o = some false → dstB N o.dst = true → One C N ops pr o st (st.put o.dst (.f (.v undef)))
  | stay (k : Nat) (B : Blk) : wantB st ops o = some true → StayOp C N o st k B → st.h k = some B → madeB ops o = true ∧ saidB B = true → One C N ops pr o st st
  | eff (st1 : St) : pr = false → wantB st ops o = some true → EffOp C N o st st1 → One C N ops pr o st st1
def Run (C : Ctx) (N : Nat) (ops : Array Oper) (pr : Bool) (Q : St → Prop) : List Oper → St → Prop
  | [], st => Q st
  | o :: rest, st => ∃ st', One C N ops pr o st st' ∧ Run C N ops pr Q rest st'
theorem agree_refl (o : Oper) (st : St) : Agree C o st st := ⟨fun _ _ => rfl, fun _ B h => .inr ⟨B, h, .inl rfl⟩⟩
theorem SimE.nx {w0 : World} {a : Act} {w : World} {s : Nat → AV} {h : Nat → Option Blk} {n m : Nat} (S : SimE C w0 N ⟨s, h, n⟩ a w) : SimE C w0 N ⟨s, h, m⟩ a w := by
  obtain ⟨J, S⟩ := S
  exact ⟨J, S.ext, S.size, S.defs, S.slot, S.blk, S.apart, S.old, S.glob, S.fix⟩
theorem SimE.cast {w0 : World} {a : Act} {w : World} {st st' : St} (S : SimE C w0 N st a w) (hs : ∀ t, st'.s t = st.s t) (hh : ∀ k, st'.h k = st.h k) : SimE C w0 N st' a w := by
  have e1 : st'.s = st.s := funext hs
  have e2 : st'.h = st.h := funext hh
  obtain ⟨s, h, n⟩ := st
  obtain ⟨s', h', n'⟩ := st'
  simp only at e1 e2
  subst e1; subst e2
  exact S.nx
theorem put_undef {w0 : World} {a : Act} {w : World} {st : St} (S : SimE C w0 N st a w) {d : Option Tmp} (hd : dstB N d = true) : SimE C w0 N (st.put d (.f (.v undef))) (a.put d undef) w := by
  obtain ⟨J, S⟩ := S
  exact ⟨J, S.put hd (RepF.v undef)⟩
theorem One.wp {ops : Array Oper} {pr : Bool} {o : Oper} {st st' : St} (h : One C N ops pr o st st') {w0 : World} {a : Act} {w : World} (S : SimE C w0 N st a w) {K : Act → World → Prop} {Q : Exit → Act → World → Prop} (hK : ∀ a' w', SimE C w0 N st' a' w' → K a' w') :
    if Region.wanted o (yielded ops a.tmps) then o.wpIn (Fence.wr C.ro) 7 C.P a w K Q else K (a.put o.dst undef) w := by
  cases h with
  | val r hw hv => rw [want_sim S hw, if_pos rfl]; exact hv w0 a w st (agree_refl o st) S K Q (fun v w' h => hK _ _ h)
  | all r B hw _ hv hn => rw [want_sim S hw, if_pos rfl]; exact hv w0 a w st (agree_refl o st) hn S K Q (fun v w' h => hK _ _ h.nx)
  | skip hw hd => rw [want_sim S hw]; simp only [Bool.false_eq_true, if_false]; exact hK _ _ (put_undef S hd)
  | stay k B hw hv hk _ => rw [want_sim S hw, if_pos rfl]; exact hv.2 w0 a w st (agree_refl o st) hk S K Q (fun v w' h => hK _ _ h)
  | eff st1 _ hw hv => rw [want_sim S hw, if_pos rfl]; exact hv w0 a w S K Q (fun v w' h => hK _ _ h)
theorem both_in {p : Prop} [Decidable p] {X Y Z : Prop} (hz : Z) (h : if p then X else Y) : if p then X else Z ∧ Y := by
  split
  · rename_i hp; rwa [if_pos hp] at h
  · rename_i hp; rw [if_neg hp] at h; exact ⟨hz, h⟩
theorem Run.wpList {ops : Array Oper} {pr : Bool} {Q : St → Prop} {w0 : World} {Qc : Exit → Act → World → Prop} : ∀ {l : List Oper} {st : St} {a : Act} {w : World}, Run C N ops pr Q l st → SimE C w0 N st a w →
    (∀ st' a' w', Q st' → SimE C w0 N st' a' w' → Qc .normal a' w') → Go.wpListIn (Fence.wr C.ro) 7 C.P ops Qc l a w
  | [], st, a, w, h, S, hq => hq st a w h S
  | _o :: _rest, _st, _a, _w, ⟨_st', h1, h2⟩, S, hq => wpListIn_step fun _K hK => both_in (fun _ _ => trivial) (h1.wp S (fun a' w' S' => hK a' w' (Run.wpList h2 S' hq)))
theorem Run.states {ops : Array Oper} {pr : Bool} {Q : St → Prop} : ∀ {l : List Oper} {st : St}, Run C N ops pr Q l st → ∃ sts : Nat → St, sts 0 = st ∧ (∀ i o, l[i]? = some o → One C N ops pr o (sts i) (sts (i + 1))) ∧ Q (sts l.length)
  | [], st, h => ⟨fun _ => st, rfl, fun i o h => by simp at h, h⟩
  | o :: rest, st, ⟨st', h1, h2⟩ => by
    obtain ⟨sts, e0, h3, h4⟩ := Run.states h2
    refine ⟨fun i => match i with | 0 => st | i + 1 => sts i, rfl, fun i o' hi => ?_, h4⟩
    cases i with
    | zero => simp at hi; subst hi; rw [← e0] at h1; exact h1
    | succ i => exact h3 i o' (by simpa using hi)
def bitsB (l : List Oper) (bf : Nat → Nat) : Bool := (List.range l.length).all fun j => match l[j]? with
  | some o => (List.range j).all fun i => !(bf j).testBit i || o.after.toList.any fun e => Region.binds .any e && (Nat.beq e.on i || (Nat.blt i e.on && (bf e.on).testBit i))
  | none => true
def apartB (l : List Oper) (bf : Nat → Nat) (n0 : Nat) : Bool := (List.range n0).all fun j => (List.range j).all fun i => (bf j).testBit i || match l[i]?, l[j]? with
  | some oi, some oj => oi.apart l.toArray oj
  | _, _ => true
def tailB (l : List Oper) (bf : Nat → Nat) (n0 : Nat) : Bool := (List.range l.length).all fun j => Nat.blt j n0 || (List.range j).all fun i => (bf j).testBit i
def bitsOf (l : List Oper) : Nat → Nat := fun j => (Region.before l.toArray).getD j 0
def okReg (l : List Oper) (n0 : Nat) : Bool := Region.upB l.toArray && bitsB l (bitsOf l) && apartB l (bitsOf l) n0 && tailB l (bitsOf l) n0 && Nat.ble n0 l.length
theorem bits_done {l : List Oper} {bf : Nat → Nat} (hb : bitsB l bf = true) (hup : Region.upB l.toArray = true) {s : Nat → Bool} (hdc : ∀ i o, l[i]? = some o → s i = true → ∀ e ∈ o.after, Region.binds .any e = true → s e.on = true) :
    ∀ (j : Nat) (o : Oper), l[j]? = some o → (∀ e ∈ o.after, Region.binds .any e = true → s e.on = true) → ∀ i, i < j → (bf j).testBit i = true → s i = true := by
  intro j
  induction j using Nat.strongRecOn with
  | _ j ih =>
    intro o ho hall i hij hbit
    have hj : j < l.length := (List.getElem?_eq_some_iff.1 ho).1
    have h1 := List.all_eq_true.1 hb j (List.mem_range.2 hj)
    rw [ho] at h1
    have h2 := List.all_eq_true.1 h1 i (List.mem_range.2 hij)
    rw [hbit] at h2
    simp only [Bool.not_true, Bool.false_or, List.any_eq_true, Bool.and_eq_true, Bool.or_eq_true] at h2
    obtain ⟨e, he, hbe, h3⟩ := h2
    have he' : e ∈ o.after := by simpa using he
    have hs := hall e he' hbe
    have hlt := Region.upB_spec hup (i := j) (o := o) (by simpa using ho) e he' hbe
    rcases h3 with h3 | h3
    · rw [← Nat.eq_of_beq_eq_true h3]; exact hs
    · have hel : e.on < l.length := by omega
      exact ih e.on hlt l[e.on] (List.getElem?_eq_getElem hel) (hdc e.on l[e.on] (List.getElem?_eq_getElem hel) hs) i (Nat.le_of_ble_eq_true h3.1) h3.2
def slotS (l : List Oper) (sts : Nat → St) (s : Nat → Bool) : Nat → Nat → AV
  | 0, t => (sts 0).s t
  | m + 1, t => if s m = true ∧ (l[m]?).bind (·.dst) = some t then (sts (m + 1)).s t else slotS l sts s m t
def heapS (sts : Nat → St) (s : Nat → Bool) : Nat → Nat → Option Blk
  | 0, k => (sts 0).h k
  | m + 1, k => if s m = true ∧ (sts m).nx < (sts (m + 1)).nx ∧ k = (sts m).nx then (sts (m + 1)).h k else heapS sts s m k
theorem One.slot {ops : Array Oper} {o : Oper} {st st' : St} (h : One C N ops true o st st') : (∀ t, o.dst ≠ some t → st'.s t = st.s t) ∧ ((st'.nx = st.nx ∧ st'.h = st.h) ∨ (st'.nx = st.nx + 1 ∧ st.h st.nx = none ∧ ∃ B, st'.h = upd st.h st.nx (some B))) := by
  have hp : ∀ (r : AV) (t : Nat), o.dst ≠ some t → (st.put o.dst r).s t = st.s t := fun r t ht => by
    cases hd : o.dst with
    | none => rfl
    | some d => simp only [St.put]; rw [upd_other]; intro e; subst e; exact ht hd
  have hh : ∀ r : AV, (st.put o.dst r).h = st.h ∧ (st.put o.dst r).nx = st.nx := fun r => by cases o.dst <;> exact ⟨rfl, rfl⟩
  cases h with
  | val r _ _ => exact ⟨hp r, .inl ⟨(hh r).2, (hh r).1⟩⟩
  | all r B _ _ _ hn => exact ⟨hp r, .inr ⟨rfl, hn, B, rfl⟩⟩
  | skip _ _ => exact ⟨hp _, .inl ⟨(hh _).2, (hh _).1⟩⟩
  | stay _ _ _ _ _ _ => exact ⟨fun _ _ => rfl, .inl ⟨rfl, rfl⟩⟩
  | eff _ h0 => cases h0
theorem One.heavy {ops : Array Oper} {o : Oper} {st st' : St} (h : One C N ops true o st st') (hx : st.nx < st'.nx) : light o = false := by
  have hh : ∀ r : AV, (st.put o.dst r).nx = st.nx := fun r => by cases o.dst <;> rfl
  cases h with
  | val r _ _ => rw [hh r] at hx; omega
  | all r B _ hl _ _ => exact hl
  | skip _ _ => rw [hh] at hx; omega
  | stay _ _ _ _ _ _ => omega
  | eff _ h0 => cases h0
structure Chain (C : Ctx) (N : Nat) (l : List Oper) (n0 : Nat) (sts : Nat → St) : Prop where
  pre : ∀ i o, i < n0 → l[i]? = some o → One C N l.toArray true o (sts i) (sts (i + 1))
  le : n0 ≤ l.length
variable {l : List Oper} {n0 : Nat} {sts : Nat → St}
theorem Chain.one (h : Chain C N l n0 sts) {i : Nat} (hi : i < n0) : ∃ o, l[i]? = some o ∧ One C N l.toArray true o (sts i) (sts (i + 1)) := by
  have hl : i < l.length := Nat.lt_of_lt_of_le hi h.le
  exact ⟨l[i], List.getElem?_eq_getElem hl, h.pre i _ hi (List.getElem?_eq_getElem hl)⟩
theorem Chain.nx_mono (h : Chain C N l n0 sts) {i : Nat} : ∀ {j : Nat}, i ≤ j → j ≤ n0 → (sts i).nx ≤ (sts j).nx := by
  intro j hij
  induction hij with
  | refl => intro _; exact Nat.le_refl _
  | @step m _ ih =>
    intro hj
    obtain ⟨o, _, h1⟩ := h.one (i := m) hj
    have := ih (by omega)
    show (sts i).nx ≤ (sts (m + 1)).nx
    rcases h1.slot.2 with h2 | h2 <;> omega
theorem Chain.h_mono (h : Chain C N l n0 sts) {i : Nat} {k : Nat} {B : Blk} (hB : (sts i).h k = some B) : ∀ {j : Nat}, i ≤ j → j ≤ n0 → (sts j).h k = some B := by
  intro j hij
  induction hij with
  | refl => intro _; exact hB
  | step _ ih =>
    intro hj
    obtain ⟨o, _, h1⟩ := h.one (i := _) hj
    have h0 := ih (by omega)
    rcases h1.slot.2 with ⟨_, e⟩ | ⟨_, hn, B', e⟩
    · rw [e]; exact h0
    · rw [e, upd_other]
      · exact h0
      · intro ek; subst ek; rw [hn] at h0; cases h0
theorem Chain.slot_eq (h : Chain C N l n0 sts) {s : Nat → Bool} {t : Nat} {i : Nat} (hpre : ∀ m, m < i → (l[m]?).bind (·.dst) = some t → s m = true) : ∀ m, m ≤ i → m ≤ n0 → slotS l sts s m t = (sts m).s t
  | 0, _, _ => rfl
  | m + 1, hm, hn => by
    obtain ⟨o, ho, h1⟩ := h.one (i := m) hn
    unfold slotS
    split
    · rfl
    · rename_i hc
      rw [Chain.slot_eq h hpre m (by omega) (by omega)]
      refine (h1.slot.1 t (fun e => hc ⟨hpre m (by omega) (by rw [ho]; exact e), by rw [ho]; exact e⟩)).symm
theorem slot_more {s : Nat → Bool} {t i n : Nat} (hno : ∀ m, i ≤ m → m < n → s m = true → (l[m]?).bind (·.dst) ≠ some t) (hin : i ≤ n) : slotS l sts s n t = slotS l sts s i t := by
  induction n with
  | zero => rw [show i = 0 by omega]
  | succ m ih =>
    by_cases e : i = m + 1
    · rw [e]
    rw [show slotS l sts s (m + 1) t = if s m = true ∧ (l[m]?).bind (·.dst) = some t then (sts (m + 1)).s t else slotS l sts s m t from rfl, if_neg (fun hc => hno m (by omega) (by omega) hc.1 hc.2)]
    exact ih (fun k h1 h2 => hno k h1 (by omega)) (by omega)
theorem slot_congr {s s' : Nat → Bool} {t : Nat} : ∀ m, (∀ k, k < m → (l[k]?).bind (·.dst) = some t → s k = s' k) → slotS l sts s m t = slotS l sts s' m t
  | 0, _ => rfl
  | m + 1, h => by
    unfold slotS
    rw [slot_congr m (fun k hk => h k (by omega))]
    by_cases e : (l[m]?).bind (·.dst) = some t
    · rw [h m (by omega) e]
    · rw [if_neg (fun hc => e hc.2), if_neg (fun hc => e hc.2)]
theorem heap_congr {s s' : Nat → Bool} {k : Nat} : ∀ m, (∀ j, j < m → (sts j).nx < (sts (j + 1)).nx → k = (sts j).nx → s j = s' j) → heapS sts s m k = heapS sts s' m k
  | 0, _ => rfl
  | m + 1, h => by
    unfold heapS
    rw [heap_congr m (fun j hj => h j (by omega))]
    by_cases e : (sts m).nx < (sts (m + 1)).nx ∧ k = (sts m).nx
    · rw [h m (by omega) e.1 e.2]
    · rw [if_neg (fun hc => e hc.2), if_neg (fun hc => e hc.2)]
theorem Chain.heap_agree (h : Chain C N l n0 sts) {s : Nat → Bool} {i k : Nat} (hi : i < n0) (hs : s i = false) (hk : ((sts i).h k).isSome = true) : ∀ m, m ≤ n0 → heapS sts s m k = (sts i).h k ∨ heapS sts s m k = none
  | 0, _ => by
    cases h0 : (sts 0).h k with
    | none => exact .inr h0
    | some B => exact .inl (by unfold heapS; rw [h0, h.h_mono h0 (Nat.zero_le i) (by omega)])
  | m + 1, hm => by
    unfold heapS
    split
    · rename_i hc
      obtain ⟨hsm, hlt, rfl⟩ := hc
      obtain ⟨o, _, h1⟩ := h.one (i := m) hm
      rcases h1.slot.2 with ⟨e, _⟩ | ⟨_, hn, B, e⟩
      · omega
      · by_cases hmi : m < i
        · left
          have hB : (sts (m + 1)).h (sts m).nx = some B := by rw [e, upd_same]
          rw [hB, h.h_mono hB hmi (by omega)]
        · exfalso
          have hmi' : i ≤ m := by omega
          obtain ⟨B', hB'⟩ := Option.isSome_iff_exists.1 hk
          have := h.h_mono hB' hmi' (by omega)
          rw [hn] at this; cases this
    · exact Chain.heap_agree h hi hs hk m (by omega)
theorem Chain.heap_free (h : Chain C N l n0 sts) {s : Nat → Bool} {i : Nat} (hi : i < n0) (hs : s i = false) (hnew : (sts i).nx < (sts (i + 1)).nx) (hn : (sts i).h (sts i).nx = none) : ∀ m, m ≤ n0 → heapS sts s m (sts i).nx = none
  | 0, _ => by
    cases h0 : (sts 0).h (sts i).nx with
    | none => exact h0
    | some B => have := h.h_mono h0 (Nat.zero_le i) (by omega); rw [hn] at this; cases this
  | m + 1, hm => by
    unfold heapS
    rw [if_neg]
    · exact Chain.heap_free h hi hs hnew hn m (by omega)
    · rintro ⟨hsm, hlt, e⟩
      by_cases h1 : m < i
      · have := h.nx_mono (i := m + 1) (j := i) h1 (by omega); omega
      · by_cases h2 : m = i
        · subst h2; rw [hs] at hsm; cases hsm
        · have := h.nx_mono (i := i + 1) (j := m) (by omega) (by omega); omega
theorem Chain.heap_at (h : Chain C N l n0 sts) {s : Nat → Bool} {i : Nat} (_hi : i < n0) (hs : s i = true) (hnew : (sts i).nx < (sts (i + 1)).nx) : ∀ m, i < m → m ≤ n0 → heapS sts s m (sts i).nx = (sts (i + 1)).h (sts i).nx := by
  intro m hm
  induction hm with
  | refl =>
    intro _
    show heapS sts s (i + 1) _ = _
    unfold heapS; rw [if_pos ⟨hs, hnew, rfl⟩]
  | step hm ih =>
    intro hn
    rename_i m
    show heapS sts s (m + 1) _ = _
    unfold heapS
    rw [if_neg]
    · exact ih (by omega)
    · rintro ⟨_, hlt, e⟩
      have := h.nx_mono (i := i + 1) (j := m) hm (by omega); omega
theorem Chain.heap_full (h : Chain C N l n0 sts) {s : Nat → Bool} {k : Nat} (hall : ∀ i, i < n0 → s i = true) : ∀ m, m ≤ n0 → heapS sts s m k = (sts m).h k
  | 0, _ => rfl
  | m + 1, hm => by
    obtain ⟨o, _, h1⟩ := h.one (i := m) hm
    unfold heapS
    split
    · rfl
    · rename_i hc
      rw [Chain.heap_full h hall m (by omega)]
      rcases h1.slot.2 with ⟨_, e⟩ | ⟨hx, hn, B, e⟩
      · rw [e]
      · rw [e, upd_other]; intro ek; exact hc ⟨hall m hm, by omega, ek⟩
theorem Chain.heap_here (h : Chain C N l n0 sts) {s : Nat → Bool} {k : Nat} : ∀ m, m ≤ n0 → (∀ j, j < m → (sts j).nx < (sts (j + 1)).nx → s j = true) → heapS sts s m k = (sts m).h k
  | 0, _, _ => rfl
  | m + 1, hm, ha => by
    obtain ⟨o, _, h1⟩ := h.one (i := m) hm
    unfold heapS
    split
    · rfl
    · rename_i hc
      rw [Chain.heap_here h m (by omega) (fun j hj => ha j (by omega))]
      rcases h1.slot.2 with ⟨_, e⟩ | ⟨hx, hn, B, e⟩
      · rw [e]
      · rw [e, upd_other]; intro ek; exact hc ⟨ha m (by omega) (by omega), by omega, ek⟩
theorem Chain.made (h : Chain C N l n0 sts) {s : Nat → Bool} {o : Oper} (hm : madeB l.toArray o = true) (hedge : ∀ e ∈ o.after, Region.binds .any e = true → s e.on = true) {j : Nat} (hj : j < n0) (hx : (sts j).nx < (sts (j + 1)).nx) : s j = true := by
  obtain ⟨oj, hoj, h1⟩ := h.one (i := j) hj
  have hl := h1.heavy hx
  have h2 := List.all_eq_true.1 hm j (List.mem_range.2 (by simpa using (List.getElem?_eq_some_iff.1 hoj).1))
  have e : l.toArray[j]? = some oj := by simpa using hoj
  rw [e] at h2
  simp only [hl, Bool.false_or, List.any_eq_true, Bool.and_eq_true] at h2
  obtain ⟨e, he, hb, hq⟩ := h2
  rw [← Nat.eq_of_beq_eq_true hq]
  exact hedge e (by simpa using he) hb
def ovr (ov h : Nat → Option Blk) (k : Nat) : Option Blk := match ov k with
  | some B => some B
  | none => h k
theorem ovr_none {ov h : Nat → Option Blk} {k : Nat} (e : ov k = none) : ovr ov h k = h k := by unfold ovr; rw [e]
theorem ovr_some {ov h : Nat → Option Blk} {k : Nat} {B : Blk} (e : ov k = some B) : ovr ov h k = some B := by unfold ovr; rw [e]
theorem Chain.step (h : Chain C N l n0 sts) {bf : Nat → Nat} (hb : bitsB l bf = true) (hup : Region.upB l.toArray = true) {nA : Nat} (hA : n0 ≤ nA) (hap : apartB l bf nA = true) {s : Nat → Bool}
    {ov : Nat → Option Blk} (hov : ∀ k B', ov k = some B' → (∃ B0, (sts n0).h k = some B0 ∧ saidB B0 = false ∧ More B0 B') ∧ ∀ j, j < n0 → (sts j).nx < (sts (j + 1)).nx → s j = true)
    (hdc : ∀ i o, l[i]? = some o → s i = true → ∀ e ∈ o.after, Region.binds .any e = true → s e.on = true) {i : Nat} {o : Oper} (hi : i < n0) (ho : l[i]? = some o) (hs : s i = false)
    (hedge : ∀ e ∈ o.after, Region.binds .any e = true → s e.on = true) {w0 : World} {a : Act} {w : World} (S : SimE C w0 N ⟨slotS l sts s n0, ovr ov (heapS sts s n0), 0⟩ a w) {K : Act → World → Prop} {Q : Exit → Act → World → Prop}
    (hK : ∀ a' w', SimE C w0 N ⟨slotS l sts (fun j => decide (j = i) || s j) n0, ovr ov (heapS sts (fun j => decide (j = i) || s j) n0), 0⟩ a' w' → K a' w') :
    if Region.wanted o (yielded l.toArray a.tmps) then o.wpIn (Fence.wr C.ro) 7 C.P a w K Q else K (a.put o.dst undef) w := by
  have conf : ∀ m om, m < n0 → l[m]? = some om → m < i → om.apart l.toArray o = false → s m = true := fun m om hm hom hmi hc => by
    have h1 := List.all_eq_true.1 hap i (List.mem_range.2 (Nat.lt_of_lt_of_le hi hA))
    have h2 := List.all_eq_true.1 h1 m (List.mem_range.2 hmi)
    rw [hom, ho] at h2
    simp only [hc, Bool.or_false] at h2
    exact bits_done hb hup hdc i o ho hedge m hmi h2
  have conf2 : ∀ m om, m < n0 → l[m]? = some om → i < m → o.apart l.toArray om = false → s m = false := fun m om hm hom hmi hc => by
    cases hsm : s m with
    | false => rfl
    | true =>
      have h1 := List.all_eq_true.1 hap m (List.mem_range.2 (Nat.lt_of_lt_of_le hm hA))
      have h2 := List.all_eq_true.1 h1 i (List.mem_range.2 hmi)
      rw [hom, ho] at h2
      simp only [hc, Bool.or_false] at h2
      have := bits_done hb hup hdc m om hom (hdc m om hom hsm) i hmi h2
      rw [hs] at this; cases this
  have read : ∀ t, t ∈ o.looksAt l.toArray → slotS l sts s n0 t = (sts i).s t := fun t ht => by
    have e1 : slotS l sts s i t = (sts i).s t := h.slot_eq (i := i) (fun m hm hd => by
      have hml : m < l.length := Nat.lt_of_lt_of_le (Nat.lt_trans hm hi) h.le
      have hom := List.getElem?_eq_getElem hml
      rw [hom] at hd
      refine conf m _ (Nat.lt_trans hm hi) hom hm ?_
      cases hc : (l[m]).apart l.toArray o with
      | false => rfl
      | true => exact absurd ht ((Oper.apart_spec hc).1 t hd)) i (Nat.le_refl _) (Nat.le_of_lt hi)
    rw [← e1]
    refine slot_more (fun m hm hmn hsm hd => ?_) (Nat.le_of_lt hi)
    by_cases hmi : m = i
    · subst hmi; rw [hs] at hsm; cases hsm
    · have hml : m < l.length := Nat.lt_of_lt_of_le hmn h.le
      have hom := List.getElem?_eq_getElem hml
      rw [hom] at hd
      have := conf2 m _ hmn hom (by omega) (by
        cases hc : o.apart l.toArray l[m] with
        | false => rfl
        | true => exact absurd ht ((Oper.apart_spec hc).2.2 t hd))
      rw [this] at hsm; cases hsm
  have others : ∀ t, o.dst ≠ some t → slotS l sts (fun j => decide (j = i) || s j) n0 t = slotS l sts s n0 t := fun t ht => slot_congr n0 (fun k hk hd => by
    by_cases e : k = i
    · subst e; rw [ho] at hd; exact absurd hd ht
    · simp [e])
  have own : ∀ t, o.dst = some t → slotS l sts (fun j => decide (j = i) || s j) n0 t = (sts (i + 1)).s t := fun t ht => by
    have e1 : slotS l sts (fun j => decide (j = i) || s j) (i + 1) t = (sts (i + 1)).s t := by
      rw [show slotS l sts (fun j => decide (j = i) || s j) (i + 1) t = if (decide (i = i) || s i) = true ∧ (l[i]?).bind (·.dst) = some t then (sts (i + 1)).s t else slotS l sts (fun j => decide (j = i) || s j) i t from rfl]
      rw [if_pos ⟨by simp, by rw [ho]; exact ht⟩]
    rw [← e1]
    refine slot_more (fun m hm hmn hsm hd => ?_) hi
    have hmi : ¬ m = i := by omega
    have hsm' : s m = true := by simpa [hmi] using hsm
    have hml : m < l.length := Nat.lt_of_lt_of_le hmn h.le
    have hom := List.getElem?_eq_getElem hml
    rw [hom] at hd
    have := conf2 m _ hmn hom (by omega) (by
      cases hc : o.apart l.toArray l[m] with
      | false => rfl
      | true => exact absurd hd ((Oper.apart_spec hc).2.1 t ht))
    rw [this] at hsm'; cases hsm'
  have oth : ∀ (r : AV), (sts (i + 1)).s = ((sts i).put o.dst r).s → ∀ t, slotS l sts (fun j => decide (j = i) || s j) n0 t = ((St.mk (slotS l sts s n0) (ovr ov (heapS sts s n0)) 0).put o.dst r).s t := fun r hr t => by
    by_cases hd : o.dst = some t
    · rw [own t hd, hr, hd]; simp only [St.put, upd_same]
    · rw [others t hd]
      cases hdd : o.dst with
      | none => rfl
      | some d => simp only [St.put]; rw [upd_other]; intro e; subst e; exact hd hdd
  have wnt : ∀ b, wantB (sts i) l.toArray o = some b → wantB ⟨slotS l sts s n0, ovr ov (heapS sts s n0), 0⟩ l.toArray o = some b := fun b hw => by
    unfold wantB at hw ⊢
    cases hg : o.guard with
    | none => simpa [hg] using hw
    | some p =>
      obtain ⟨j, want⟩ := p
      simp only [hg] at hw ⊢
      have e : yl ⟨slotS l sts s n0, ovr ov (heapS sts s n0), 0⟩ l.toArray j = yl (sts i) l.toArray j := by
        unfold yl
        cases hj : l.toArray[j]? with
        | none => rfl
        | some oj =>
          simp only
          cases hdj : oj.dst with
          | none => rfl
          | some d =>
            simp only
            rw [read d (by unfold Oper.looksAt; simp [hg, hj, hdj])]
      have e2 : yu ⟨slotS l sts s n0, ovr ov (heapS sts s n0), 0⟩ l.toArray j = yu (sts i) l.toArray j := by
        unfold yu
        cases hj : l.toArray[j]? with
        | none => rfl
        | some oj =>
          simp only
          cases hdj : oj.dst with
          | none => rfl
          | some d =>
            simp only
            rw [read d (by unfold Oper.looksAt; simp [hg, hj, hdj])]
      rw [e, e2]; exact hw
  have agr : Agree C o (sts i) ⟨slotS l sts s n0, ovr ov (heapS sts s n0), 0⟩ := ⟨fun x hx => by
    cases x with
    | tmp t => exact read t (by unfold Oper.looksAt; simp only [List.mem_append, List.mem_filterMap]; exact .inl ⟨.tmp t, hx, rfl⟩)
    | _ => rfl, fun k B hB => by
      cases ho : ov k with
      | some B' =>
        obtain ⟨⟨B0, q1, q2, q3⟩, _⟩ := hov k B' ho
        rw [h.h_mono hB (Nat.le_of_lt hi) (Nat.le_refl _)] at q1
        cases q1
        exact .inr ⟨B', ovr_some ho, q3⟩
      | none =>
        show ovr ov (heapS sts s n0) k = none ∨ ∃ B', ovr ov (heapS sts s n0) k = some B' ∧ More B B'
        rw [ovr_none ho]
        rcases h.heap_agree hi hs (by rw [hB]; rfl) n0 (Nat.le_refl _) with e | e
        · exact .inr ⟨B, e.trans hB, .inl rfl⟩
        · exact .inl e⟩
  have hsame : ∀ k, ((sts (i + 1)).nx = (sts i).nx) → ovr ov (heapS sts (fun j => decide (j = i) || s j) n0) k = ovr ov (heapS sts s n0) k := fun k hx => by
    unfold ovr
    rw [heap_congr (s := fun j => decide (j = i) || s j) (s' := s) (k := k) n0 (fun j hj hlt hk => by
      by_cases e : j = i
      · subst e; omega
      · simp [e])]
  have h1 := h.pre i o hi ho
  generalize hst : sts (i + 1) = st' at h1
  cases h1 with
  | val r hw hv =>
    rw [want_sim S (wnt _ hw), if_pos rfl]
    refine hv w0 a w _ agr S K Q (fun v w' h' => hK _ _ (h'.cast (oth r (by rw [hst])) (fun k => ?_)))
    exact (hsame k (by rw [hst]; cases o.dst <;> rfl)).trans (by cases o.dst <;> rfl)
  | skip hw hd =>
    rw [want_sim S (wnt _ hw)]
    simp only [Bool.false_eq_true, if_false]
    refine hK _ _ ((put_undef S hd).cast (oth (.f (.v undef)) (by rw [hst])) (fun k => ?_))
    exact (hsame k (by rw [hst]; cases o.dst <;> rfl)).trans (by cases o.dst <;> rfl)
  | stay k B hw hv hk hm =>
    rw [want_sim S (wnt _ hw), if_pos rfl]
    have hk2 := h.h_mono hk (Nat.le_of_lt hi) (Nat.le_refl _)
    have hh : ovr ov (heapS sts s n0) k = some B := by
      rw [ovr_none]
      · rw [h.heap_here n0 (Nat.le_refl _) (fun j hj hx => h.made hm.1 hedge hj hx)]
        exact hk2
      · cases ho : ov k with
        | none => rfl
        | some B' =>
          obtain ⟨⟨B0, q1, q2, q3⟩, _⟩ := hov k B' ho
          rw [hk2] at q1; cases q1
          rw [hm.2] at q2; cases q2
    exact hv.2 w0 a w _ agr hh S K Q (fun v w' h' => hK _ _ (h'.cast (fun t => others t (by rw [hv.1]; intro e; cases e)) (fun k => hsame k (by rw [hst]))))
  | all r B hw _ hv hn =>
    have hnew : (sts i).nx < (sts (i + 1)).nx := by rw [hst]; simp
    rw [want_sim S (wnt _ hw), if_pos rfl]
    have hno : ∀ k, ov k = none := fun k => by
      cases ho : ov k with
      | none => rfl
      | some B' => have := (hov k B' ho).2 i hi hnew; rw [hs] at this; cases this
    have hov2 : ∀ hh : Nat → Option Blk, ovr ov hh = hh := fun hh => funext fun k => ovr_none (hno k)
    rw [hov2] at agr S
    simp only [hov2] at hK oth
    refine hv w0 a w _ agr (h.heap_free hi hs hnew hn n0 (Nat.le_refl _)) S K Q (fun v w' h' => hK _ _ (h'.cast (oth r (by rw [hst])) (fun k => ?_)))
    show heapS sts (fun j => decide (j = i) || s j) n0 k = upd (heapS sts s n0) (sts i).nx (some B) k
    by_cases ek : k = (sts i).nx
    · subst ek
      rw [upd_same, h.heap_at hi (s := fun j => decide (j = i) || s j) (by simp) hnew n0 hi (Nat.le_refl _), hst]
      exact upd_same _ _ _
    · rw [upd_other _ _ ek]
      refine heap_congr n0 (fun j hj hlt hk => ?_)
      by_cases e : j = i
      · subst e; exact absurd hk ek
      · simp [e]
  | eff _ h0 => cases h0
theorem draw_sound {id : Nat} {Q : St → Prop} {st : St} {Qc : Exit → Act → World → Prop} (hm : C.P.follows .mixedOrders = true) (hok : okReg l n0 = true) (hrun : Run C N l.toArray true (fun st' => Run C N l.toArray false Q (l.drop n0) st') (l.take n0) st)
    {w0 : World} {a : Act} {w : World} (S : SimE C w0 N st a w) (hq : ∀ st' a' w', Q st' → SimE C w0 N st' a' w' → Qc .normal a' w') : (Code.region id l.toArray true).wpIn (Fence.wr C.ro) 7 C.P Qc a w := by
  simp only [okReg, Bool.and_eq_true] at hok
  obtain ⟨⟨⟨⟨hup, hb⟩, hap⟩, htl⟩, hle⟩ := hok
  have hle' : n0 ≤ l.length := Nat.le_of_ble_eq_true hle
  obtain ⟨s1, e1, r1, q1⟩ := hrun.states
  obtain ⟨s2, e2, r2, q2⟩ := q1.states
  have htk : (l.take n0).length = n0 := by simp; omega
  rw [htk] at e2
  obtain ⟨sts, hsts⟩ : ∃ sts : Nat → St, sts = fun i => if i ≤ n0 then s1 i else s2 (i - n0) := ⟨_, rfl⟩
  have a1 : ∀ i, i ≤ n0 → sts i = s1 i := fun i hi => by rw [hsts]; simp [hi]
  have a2 : ∀ i, n0 ≤ i → sts i = s2 (i - n0) := fun i hi => by
    by_cases e : i = n0
    · subst e; rw [a1 i (Nat.le_refl _), ← e2]; simp
    · rw [hsts]; simp [show ¬ i ≤ n0 by omega]
  have ch : Chain C N l n0 sts := ⟨fun i o hi ho => by
      rw [a1 i (by omega), a1 (i + 1) hi]
      exact r1 i o (by rw [List.getElem?_take, if_pos hi]; exact ho), hle'⟩
  have post : ∀ i o, n0 ≤ i → l[i]? = some o → One C N l.toArray false o (sts i) (sts (i + 1)) := fun i o hi ho => by
      rw [a2 i hi, a2 (i + 1) (by omega), show i + 1 - n0 = (i - n0) + 1 by omega]
      exact r2 (i - n0) o (by rw [List.getElem?_drop, show n0 + (i - n0) = i by omega]; exact ho)
  have hend : Q (sts l.length) := by
    rw [a2 _ hle']; simpa using q2
  have tail : ∀ {s : Nat → Bool}, (∀ i o, l[i]? = some o → s i = true → ∀ e ∈ o.after, Region.binds .any e = true → s e.on = true) → ∀ (i : Nat) (o : Oper), n0 ≤ i → l[i]? = some o → (∀ e ∈ o.after, Region.binds .any e = true → s e.on = true) → ∀ j, j < i → s j = true := fun hdc i o hi ho he j hj => by
    have h1 := List.all_eq_true.1 htl i (List.mem_range.2 (List.getElem?_eq_some_iff.1 ho).1)
    have : Nat.blt i n0 = false := by cases e : Nat.blt i n0; rfl; have := Nat.le_of_ble_eq_true e; omega
    rw [this, Bool.false_or] at h1
    exact bits_done hb hup hdc i o ho he j hj (List.all_eq_true.1 h1 j (List.mem_range.2 hj))
  refine wpIn_region_inv hm hup (fun s a w => (∀ i o, l[i]? = some o → s i = true → ∀ e ∈ o.after, Region.binds .any e = true → s e.on = true) ∧
    (((∀ i, n0 ≤ i → s i = false) ∧ SimE C w0 N ⟨slotS l sts s n0, heapS sts s n0, 0⟩ a w) ∨ ∃ m, n0 ≤ m ∧ (∀ i, i < l.length → (s i = true ↔ i < m)) ∧ m ≤ l.length ∧ SimE C w0 N (sts m) a w)) ?_ ?_ ?_
  · refine ⟨fun i o _ h => (by cases h), .inl ⟨fun _ _ => rfl, ?_⟩⟩
    have S' : SimE C w0 N st a w.drew := let ⟨J, S⟩ := S; ⟨J, S.toExt (Ext.drew w)⟩
    rw [← e1, ← a1 0 (Nat.zero_le _)] at S'
    refine S'.cast (fun t => ?_) (fun k => ?_)
    · exact slot_more (l := l) (i := 0) (fun m _ _ h => by cases h) (Nat.zero_le _)
    · have : ∀ m, heapS sts (fun _ => false) m k = (sts 0).h k := fun m => by
        induction m with
        | zero => rfl
        | succ m ih => unfold heapS; rw [if_neg (by simp)]; exact ih
      exact this n0
  · rintro s a w i o ho hs hedge ⟨hdc, hInv⟩
    have ho' : l[i]? = some o := by simpa using ho
    have hil : i < l.length := (List.getElem?_eq_some_iff.1 ho').1
    have hdc' : ∀ j oj, l[j]? = some oj → (decide (j = i) || s j) = true → ∀ e ∈ oj.after, Region.binds .any e = true → (decide (e.on = i) || s e.on) = true := fun j oj hj hsj e he hbe => by
      by_cases ej : j = i
      · subst ej; rw [ho'] at hj; cases hj; rw [hedge e he hbe]; simp
      · rw [hdc j oj hj (by simpa [ej] using hsj) e he hbe]; simp
    unfold wpOpIn
    simp only [ho]
    have late : ∀ m, n0 ≤ m → (∀ i, i < l.length → (s i = true ↔ i < m)) → m ≤ l.length → SimE C w0 N (sts m) a w → n0 ≤ i →
        if Region.wanted o (yielded l.toArray a.tmps) then o.wpIn (Fence.wr C.ro) 7 C.P a w (fun a' w' => (∀ j oj, l[j]? = some oj → (decide (j = i) || s j) = true → ∀ e ∈ oj.after, Region.binds .any e = true → (decide (e.on = i) || s e.on) = true) ∧
          (((∀ j, n0 ≤ j → (decide (j = i) || s j) = false) ∧ SimE C w0 N ⟨slotS l sts (fun j => decide (j = i) || s j) n0, heapS sts (fun j => decide (j = i) || s j) n0, 0⟩ a' w') ∨ ∃ m, n0 ≤ m ∧ (∀ j, j < l.length → ((decide (j = i) || s j) = true ↔ j < m)) ∧ m ≤ l.length ∧ SimE C w0 N (sts m) a' w')) Qc
        else (fun a' w' => (∀ j oj, l[j]? = some oj → (decide (j = i) || s j) = true → ∀ e ∈ oj.after, Region.binds .any e = true → (decide (e.on = i) || s e.on) = true) ∧
          (((∀ j, n0 ≤ j → (decide (j = i) || s j) = false) ∧ SimE C w0 N ⟨slotS l sts (fun j => decide (j = i) || s j) n0, heapS sts (fun j => decide (j = i) || s j) n0, 0⟩ a' w') ∨ ∃ m, n0 ≤ m ∧ (∀ j, j < l.length → ((decide (j = i) || s j) = true ↔ j < m)) ∧ m ≤ l.length ∧ SimE C w0 N (sts m) a' w')) (a.put o.dst undef) w := by
      intro m hm hall hml S hin
      have him : i = m := by
        have h1 : ¬ i < m := fun h => by rw [(hall i hil).2 h] at hs; cases hs
        refine Classical.byContradiction fun hc => ?_
        have h2 := tail hdc i o hin ho' hedge m (by omega)
        have := (hall m (by omega)).1 h2
        omega
      subst him
      refine (post i o hin ho').wp S (fun a' w' S' => ⟨hdc', .inr ⟨i + 1, by omega, fun j hj => ?_, hil, S'⟩⟩)
      have := hall j hj
      by_cases ej : j = i
      · subst ej; simp
      · simp only [show decide (j = i) = false by simp [ej], Bool.false_or, this]; omega
    refine both_in (fun _ _ => trivial) ?_
    rcases hInv with ⟨hin, S⟩ | ⟨m, hm, hall, hml, S⟩
    · by_cases hi : i < n0
      · exact ch.step hb hup (Nat.le_refl _) hap (ov := fun _ => none) (fun _ _ h => by cases h) hdc hi ho' hs hedge S (fun a' w' S' => ⟨hdc', .inl ⟨fun j hj => by rw [hin j hj]; simp; omega, S'⟩⟩)
      · have hall : ∀ j, j < n0 → s j = true := fun j hj => tail hdc i o (by omega) ho' hedge j (by omega)
        refine late n0 (Nat.le_refl _) (fun j hj => ⟨fun h => ?_, fun h => hall j h⟩) hle' ?_ (by omega)
        · refine Classical.byContradiction fun hc => ?_
          rw [hin j (by omega)] at h; cases h
        · refine S.cast (fun t => ?_) (fun k => ?_)
          · exact (ch.slot_eq (i := n0) (fun m hm _ => hall m hm) n0 (Nat.le_refl _) (Nat.le_refl _)).symm
          · exact (ch.heap_full hall n0 (Nat.le_refl _)).symm
    · refine late m hm hall hml S ?_
      refine Classical.byContradiction fun hc => ?_
      rw [(hall i hil).2 (by omega)] at hs; cases hs
  · rintro s a w hall ⟨_, hInv⟩
    rcases hInv with ⟨hin, S⟩ | ⟨m, hm, hiff, hml, S⟩
    · have hn : n0 = l.length := by
        refine Classical.byContradiction fun hc => ?_
        have := hall n0 (by omega)
        rw [hin n0 (Nat.le_refl _)] at this; cases this
      refine hq (sts l.length) a w hend ?_
      rw [← hn]
      refine S.cast (fun t => ?_) (fun k => ?_)
      · exact (ch.slot_eq (i := n0) (fun m hm _ => hall m (by omega)) n0 (Nat.le_refl _) (Nat.le_refl _)).symm
      · exact (ch.heap_full (fun i hi => hall i (by omega)) n0 (Nat.le_refl _)).symm
    · have hmm : m = l.length := by
        refine Classical.byContradiction fun hc => ?_
        have := (hiff m (by omega)).1 (hall m (by omega))
        omega
      exact hq _ a w (hmm ▸ hend) (hmm ▸ S)
def StoOp (C : Ctx) (N : Nat) (o : Oper) (st : St) (k : Nat) (B : Blk) : Prop := o.dst = none ∧ o.guard = none ∧ (∃ B0, st.h k = some B0 ∧ saidB B0 = false ∧ More B0 B) ∧
  ∀ w0 a w st', Agree C o st st' → st'.h k = st.h k → SimE C w0 N st' a w → ∀ K Q, (∀ v w', SimE C w0 N { st' with h := upd st'.h k (some B) } (a.put o.dst v) w' → K (a.put o.dst v) w') → o.wpIn (Fence.wr C.ro) 7 C.P a w K Q
end
end Go.Ab
namespace Go.Ab
open Go Go.RowKit Go.Shelf Go.Proofs
section
variable {C : Ctx} {N : Nat}
def Gh (C : Ctx) (N : Nat) (st st' : St) : Prop := ∀ w0 a w, SimE C w0 N st a w → SimE C w0 N st' a w
theorem gh_refl (st : St) : Gh C N st st := fun _ _ _ h => h
theorem gh_trans {a b c : St} (h : Gh C N a b) (k : Gh C N b c) : Gh C N a c := fun w0 x w S => k w0 x w (h w0 x w S)
theorem gh_le {st st' : St} (L : Le st st') : Gh C N st st' := fun _ _ _ ⟨J, S⟩ => ⟨J, S.weaken L⟩
theorem gh_own {st : St} (t e sz : Nat) (ht : st.s t = .f (.v (.slice none 0 0))) (hn : st.h st.nx = none) : Gh C N st { s := upd st.s t (.ow st.nx), h := upd st.h st.nx (some (.row e sz 0 [])), nx := st.nx + 1 } :=
  fun _ _ _ ⟨_, S⟩ => ⟨_, S.own t e sz ht hn⟩
theorem gh_row {st : St} (i : Nat) {e sz n : Nat} {cs : List FV} (hi : st.h i = some (.row e sz n cs)) : Gh C N st (st.frz i (some (.sl n cs)) cs) := fun _ _ _ ⟨J, S⟩ => ⟨J, S.frz_row hi⟩
theorem gh_box {st : St} (i : Nat) {l : List AV} {cs : List FV} (hi : st.h i = some (.box l)) (hc : l = cs.map AV.f) : Gh C N st (st.frz i none cs) := fun _ _ _ ⟨J, S⟩ => ⟨J, S.frz_box hi hc⟩
def cW (C : Ctx) (N : Nat) (c : Code) (Q : Exit → St → Prop) (st : St) : Prop :=
  ∀ w0 a w Qc, SimE C w0 N st a w → (∀ e st' a' w', Q e st' → SimE C w0 N st' a' w' → Qc e a' w') → c.wpIn (Fence.wr C.ro) 7 C.P Qc a w
def AThen (K : St → Prop) (Q : Exit → St → Prop) : Exit → St → Prop
  | .normal, st => K st
  | e, st => Q e st
def ABlock (id : Nat) (Q : Exit → St → Prop) : Exit → St → Prop
  | .exit j, st => bif Nat.beq j id then Q .normal st else Q (.exit j) st
  | e, st => Q e st
variable {Q : Exit → St → Prop} {st : St}
theorem c_gh {c : Code} {st' : St} (g : Gh C N st st') (h : cW C N c Q st') : cW C N c Q st := fun w0 a w Qc S hq => h w0 a w Qc (g w0 a w S) hq
theorem c_mono {c : Code} {Q' : Exit → St → Prop} (h : cW C N c Q st) (k : ∀ e st', Q e st' → Q' e st') : cW C N c Q' st := fun w0 a w Qc S hq => h w0 a w Qc S (fun e st' a' w' q => hq e st' a' w' (k e st' q))
theorem c_skip (h : Q .normal st) : cW C N .skip Q st := fun _ a w _ S hq => wpIn_skip (hq _ _ a w h S)
theorem c_exit {id : Nat} (h : Q (.exit id) st) : cW C N (.exit id) Q st := fun _ a w _ S hq => wpIn_exit (hq _ _ a w h S)
theorem c_ret (h : Q .ret st) : cW C N .ret Q st := fun _ a w _ S hq => wpIn_ret (hq _ _ a w h S)
theorem c_seq {x y : Code} (h : cW C N x (AThen (cW C N y Q) Q) st) : cW C N (.seq x y) Q st := fun w0 a w Qc S hq =>
  wpIn_seq (h w0 a w _ S (fun e st' a' w' q S' => by
    cases e with
    | normal => exact q w0 a' w' Qc S' hq
    | _ => exact hq _ _ _ _ q S'))
theorem c_cond {c : Operand} {x y : Code} {t : Bool} (hc : st.ev C c = .f (.v (.bool t))) (h1 : t = true → cW C N x Q st) (h2 : t = false → cW C N y Q st) : cW C N (.cond c x y) Q st := fun w0 a w Qc S hq => by
  have e : a.eval c = .bool t := let ⟨J, S'⟩ := S; evV S' hc
  refine wpIn_cond e ?_
  cases t with
  | true => exact h1 rfl w0 a w Qc S hq
  | false => exact h2 rfl w0 a w Qc S hq
theorem c_block {id : Nat} {c : Code} (h : cW C N c (ABlock id Q) st) : cW C N (.block id c) Q st := fun w0 a w Qc S hq =>
  wpIn_block (h w0 a w _ S (fun e st' a' w' q S' => by
    cases e with
    | exit j =>
      show if j = id then _ else _
      by_cases e : j = id
      · subst e
        rw [if_pos rfl]
        have : Q .normal st' := by simpa [ABlock] using q
        exact hq _ _ _ _ this S'
      · rw [if_neg e]
        have : Q (.exit j) st' := by simpa [ABlock, killA_ne e] using q
        exact hq _ _ _ _ this S'
    | _ => exact hq _ _ _ _ q S'))
theorem c_region {id : Nat} {l : List Oper} (h : Run C N l.toArray false (Q .normal) l st) : cW C N (.region id l.toArray false) Q st := fun _w0 _a _w _Qc S hq =>
  wpIn_region_lit (Run.wpList h S (fun _st' _a' _w' q S' => hq _ _ _ _ q S'))
theorem c_draw {id : Nat} {l : List Oper} (n0 : Nat) (hm : C.P.follows .mixedOrders = true) (hok : okReg l n0 = true) (h : Run C N l.toArray true (fun st' => Run C N l.toArray false (Q .normal) (l.drop n0) st') (l.take n0) st) : cW C N (.region id l.toArray true) Q st := fun _w0 _a _w _Qc S hq =>
  draw_sound hm hok h S (fun _st' _a' _w' q S' => hq _ _ _ _ q S')
theorem exists_least {p : Nat → Prop} (h : ∃ n, p n) : ∃ n, p n ∧ ∀ m, p m → n ≤ m := by
  obtain ⟨n, hn⟩ := h
  induction n using Nat.strongRecOn with
  | _ n ih =>
    by_cases hm : ∃ m, m < n ∧ p m
    · obtain ⟨m, h1, h2⟩ := hm; exact ih m h1 h2
    · exact ⟨n, hn, fun m hpm => Nat.le_of_not_lt fun h => hm ⟨m, h, hpm⟩⟩
open Classical in
noncomputable def least (p : Nat → Prop) : Nat := if h : ∃ n, p n then (exists_least h).choose else 0
theorem least_spec {p : Nat → Prop} (h : ∃ n, p n) : p (least p) ∧ ∀ m, p m → least p ≤ m := by
  unfold least
  rw [dif_pos h]
  exact (exists_least h).choose_spec
theorem c_loop {σ : Type} {c : Code} (F : σ → St) (Pr : σ → Prop) (μ : σ → Nat) (s0 : σ) (h0 : Pr s0) (hg : Gh C N st (F s0))
    (hstep : ∀ s, Pr s → cW C N c (AThen (fun st' => ∃ s', Pr s' ∧ μ s' < μ s ∧ Gh C N st' (F s')) Q) (F s)) : cW C N (.loop c) Q st := fun w0 a w Qc S hq => by
  refine wpIn_loop (fun a w => ∃ s, Pr s ∧ SimE C w0 N (F s) a w) (fun a w => least fun n => ∃ s, Pr s ∧ SimE C w0 N (F s) a w ∧ μ s = n) ⟨s0, h0, hg w0 a w S⟩ ?_
  rintro a w ⟨s, hs, Ss⟩
  obtain ⟨⟨s1, h1, S1, e1⟩, hmin⟩ := least_spec (p := fun n => ∃ s, Pr s ∧ SimE C w0 N (F s) a w ∧ μ s = n) ⟨_, s, hs, Ss, rfl⟩
  refine hstep s1 h1 w0 a w _ S1 (fun e st' a' w' q S' => ?_)
  cases e with
  | normal =>
    obtain ⟨s2, h2, hlt, g⟩ := q
    have S2 := g w0 a' w' S'
    refine ⟨⟨s2, h2, S2⟩, ?_⟩
    have := (least_spec (p := fun n => ∃ s, Pr s ∧ SimE C w0 N (F s) a' w' ∧ μ s = n) ⟨_, s2, h2, S2, rfl⟩).2 _ ⟨s2, h2, S2, rfl⟩
    omega
  | _ => exact hq _ _ _ _ q S'
def rvS (tmps : Array Value) : ResultVar → Sem Value
  | .tmp t => pure (tmps.getD t undef)
  | .cell a t => do loadVar t (← asAddr (tmps.getD a undef))
def ResOk (C : Ctx) (N : Nat) (st : St) (rv : ResultVar) (x : FV) : Prop := ∀ w0 a w, SimE C w0 N st a w → ∃ v, (rvS a.tmps rv).run C.P w = .ok v w ∧ RepF w C.M0 v x
theorem toM0 {w : World} {st : St} {J : Nat → Value} {v : Value} {x : FV} (h : RepF w (Mb C st.h J) v x) : RepF w C.M0 v x := h.ext (Ext.refl _) (fun _ _ h => .inl h)
theorem res_tmp {t : Nat} {x : FV} (h : st.s t = .f x) : ResOk C N st (.tmp t) x := fun w0 a w ⟨J, S⟩ => by
  have := S.slot t
  rw [h] at this
  exact ⟨_, rfl, toM0 this⟩
theorem cell_run {P : Program} {T b off : Nat} {w : World} {tmps : Array Value} {t : Nat} {v : Value} (hv : tmps.getD t undef = .pointer (some ⟨b, off, none⟩)) (h : (Instr.loadAt T (.pointer (some ⟨b, off, none⟩))).run P w = .ok v w) : (rvS tmps (.cell t T)).run P w = .ok v w := by
  simp only [Instr.loadAt, Instr.sureAddr, Sem.run_bind, Sem.run_pure, Result.andThen_ok] at h
  simp only [rvS, hv, asAddr, Sem.run_bind, Sem.run_pure, Result.andThen_ok, h]
theorem res_bxs {t T n i off : Nat} {cs : List AV} {sub : List FV} (ty : Ty C.P) (hT : (ty.ty T).agg = some n) (hx : st.s t = .bx i off) (hi : st.h i = some (.box cs)) (hc : (cs.drop off).take n = sub.map AV.f) (hn : sub.length = n) : ResOk C N st (.cell t T) (.agg sub) := fun w0 a w ⟨J, S⟩ => by
  have e1 := S.slot t
  rw [hx] at e1
  obtain ⟨hl, b, hb, hv⟩ := e1
  obtain ⟨b', T', us, q1, q2, q3, q4, q5, q6⟩ := S.blk i _ hi
  rw [q1] at hb; simp [bk] at hb; subst hb
  have hlen : ((us.toList.drop off).take n).length = n := by
    have := congrArg List.length hc
    simp [List.length_take, List.length_drop] at this ⊢
    omega
  have R : RepL w (Mb C st.h J) ((us.toList.drop off).take n) sub := repA_f (fun k u x h1 h2 => by
    rw [← hc, List.getElem?_take] at h2
    rw [List.getElem?_take] at h1
    split at h1
    · rename_i hk
      rw [if_pos hk, List.getElem?_drop] at h2
      rw [List.getElem?_drop] at h1
      exact q6 _ u x (by simpa using h1) h2
    · cases h1) (hlen.trans hn.symm)
  refine ⟨.agg ((us.toList.drop off).take n).toArray, cell_run hv (run_load_agg ((ty.ok T).agg n hT) ((us.toList.drop off).take n) hlen (fun k hk => ?_)), toM0 (RepF.agg _ _ R.1 (fun u hu => q5 u (List.mem_of_mem_drop (List.mem_of_mem_take hu))) R.2)⟩
  rw [hlen] at hk
  rw [List.getElem?_take, if_pos hk, List.getElem?_drop]
  simp [World.cell?, q3]
theorem results_eq (fn : Func) (tmps : Array Value) : results fn tmps = (fn.results.mapM (rvS tmps) >>= fun vs => pure (if h : vs.size = 1 then vs[0] else .tuple vs)) := by
  unfold results
  congr
def RetOk (C : Ctx) (N : Nat) (fn : Func) (r : FV) (st : St) : Prop := ∀ w0 a w, SimE C w0 N st a w → ∃ v, (results fn a.tmps).run C.P w = .ok v w ∧ RepF w C.M0 v r
theorem ret1 {fn : Func} {r1 : ResultVar} {x : FV} (h : fn.results = #[r1]) (h1 : ResOk C N st r1 x) : RetOk C N fn x st := fun w0 a w S => by
  obtain ⟨v, q1, q2⟩ := h1 w0 a w S
  refine ⟨v, ?_, q2⟩
  rw [results_eq, h]; simp [q1]
theorem ret2 {fn : Func} {r1 r2 : ResultVar} {x y : FV} (h : fn.results = #[r1, r2]) (h1 : ResOk C N st r1 x) (h2 : ResOk C N st r2 y) : RetOk C N fn (.tup [x, y]) st := fun w0 a w S => by
  obtain ⟨v, q1, q2⟩ := h1 w0 a w S
  obtain ⟨u, p1, p2⟩ := h2 w0 a w S
  refine ⟨.tuple #[v, u], ?_, ?_⟩
  · rw [results_eq, h]; simp [q1, p1]
  · have R := RepL.cons q2 (RepL.cons p2 (RepL.nil _ _))
    exact RepF.tup _ _ R.1 R.2
def Leaves (C : Ctx) (N : Nat) (fn : Func) (r : FV) : Exit → St → Prop
  | .normal, st => RetOk C N fn r st
  | .ret, st => RetOk C N fn r st
  | _, _ => False
def st0 (args : List FV) : St := ⟨fun t => match args[t]? with | some x => .f x | none => .bot, fun _ => none, 0⟩
theorem summ_of {P : Program} {G : Nat → Option (List FV)} {f : Nat} {fn : Func} {c : Code} {args : List FV} {r : FV} (hf : P.funcs[f]? = some fn) (hb : fn.body = some c) (hname : (fn.name == "runtime.NumGoroutine") = false) (n : Nat) (hn : fn.ntmps = n) (hl : args.length ≤ n)
    (h : ∀ M0 : Nat → Prop, cW ⟨P, G, M0, fun _ => False, none, fun _ => none⟩ n c (Leaves ⟨P, G, M0, fun _ => False, none, fun _ => none⟩ n fn r) (st0 args)) : Summ P G f args r := by
  refine ⟨enters_of hf hname hb, fun w M us hM hG R => ?_⟩
  refine calls_of_wp_marks hf hb (wpIn_wide.1 (h M w _ w _ ⟨fun _ => undef, Grew.refl _ _, ?_, ⟨trivial, fun _ => rfl⟩, fun t => ?_, fun i B hB => (by cases hB), fun i j b hi => (by cases hi), fun b hb => ⟨hM b hb, id⟩, fun g cs hg => (hG g cs hg).ext (Ext.refl _) (fun b _ (h : Mb ⟨P, G, M, fun _ => False, none, fun _ => none⟩ (fun _ => none) (fun _ => undef) b) => h.elim id (fun ⟨_, hi, _⟩ => by cases hi)), fun _ _ _ h => (by cases h)⟩ ?_))
  · have := R.1; simp [hn]; omega
  · have hMM : ∀ b, b < w.heap.size → Mb ⟨P, G, M, fun _ => False, none, fun _ => none⟩ (fun _ => none) (fun _ => undef) b → M b := fun b _ h => h.elim id (fun ⟨_, hi, _⟩ => by cases hi)
    show RepA _ w _ _ ((us.toArray ++ Array.replicate (fn.ntmps - us.toArray.size) undef).getD t undef) (match args[t]? with | some x => .f x | none => .bot)
    cases ha : args[t]? with
    | none => trivial
    | some x =>
      obtain ⟨u, hu, hr⟩ := R.get ha
      have hlt : t < us.length := (List.getElem?_eq_some_iff.1 hu).1
      have : (us.toArray ++ Array.replicate (fn.ntmps - us.toArray.size) undef).getD t undef = u := by
        rw [Array.getD_eq_getD_getElem?, Array.getElem?_append_left (by simpa using hlt)]
        simp [hu]
      rw [this]
      exact hr.ext (Ext.refl _) hMM
  · intro e st' a' w' q S'
    have fin : RetOk ⟨P, G, M, fun _ => False, none, fun _ => none⟩ n fn r st' → ∀ W', KeepsP Obj.stays w.heap.size w' W' → ∃ v, (results fn a'.tmps).run P W' = .ok v W' ∧ ∃ v', Ending.returned v = .returned v' ∧ RepF W' M v' r ∧ Ext w W' := fun q W' hk => by
      obtain ⟨J, S2⟩ := S'
      have S3 := S2.keeps0 hk (Nat.le_refl _) (ds := []) ⟨trivial, fun _ => rfl⟩
      obtain ⟨v, h1, h2⟩ := q w { a' with defers := [] } W' ⟨J, S3⟩
      exact ⟨v, h1, v, rfl, h2, S3.ext.toExt⟩
    have hm : Marks w.heap.size w' a'.defers := let ⟨_, S2⟩ := S'; S2.defs.1
    cases e with
    | normal => exact bodyPostM_marksP (s := Obj.stays) (fun _ => rfl) _ hm (fin q)
    | ret => exact bodyPostM_marksP (s := Obj.stays) (fun _ => rfl) _ hm (fin q)
    | _ => exact q.elim
theorem r_val {ops : Array Oper} {pr : Bool} {K : St → Prop} {o : Oper} {rest : List Oper} {r : AV} (hw : wantB st ops o = some true) (hv : ValOp C N o st r) (h : Run C N ops pr K rest (st.put o.dst r)) : Run C N ops pr K (o :: rest) st := ⟨_, .val r hw hv, h⟩
theorem r_all {ops : Array Oper} {pr : Bool} {K : St → Prop} {o : Oper} {rest : List Oper} {r : AV} {B : Blk} (hw : wantB st ops o = some true) (hl : light o = false) (hn : st.h st.nx = none) (hv : AllOp C N o st r B) (h : Run C N ops pr K rest { s := (st.put o.dst r).s, h := upd st.h st.nx (some B), nx := st.nx + 1 }) : Run C N ops pr K (o :: rest) st := ⟨_, .all r B hw hl hv hn, h⟩
theorem r_eff {ops : Array Oper} {K : St → Prop} {o : Oper} {rest : List Oper} {st1 : St} (hw : wantB st ops o = some true) (hv : EffOp C N o st st1) (h : Run C N ops false K rest st1) : Run C N ops false K (o :: rest) st := ⟨_, .eff st1 rfl hw hv, h⟩
theorem r_skip {ops : Array Oper} {pr : Bool} {K : St → Prop} {o : Oper} {rest : List Oper} (hw : wantB st ops o = some false) (hd : dstB N o.dst = true) (h : Run C N ops pr K rest (st.put o.dst (.f (.v undef)))) : Run C N ops pr K (o :: rest) st := ⟨_, .skip hw hd, h⟩
theorem ab_hit {i : Nat} (h : Q .normal st) : ABlock i Q (.exit i) st := by simpa [ABlock] using h
theorem lv_ret {fn : Func} {r : FV} (h : RetOk C N fn r st) : Leaves C N fn r .ret st := h
theorem c_if {c : Operand} {x y : Code} {t : Bool} (hc : st.ev C c = .f (.v (.bool t))) (h : cW C N (bif t then x else y) Q st) : cW C N (.cond c x y) Q st :=
  c_cond hc (fun e => by subst e; exact h) (fun e => by subst e; exact h)
theorem b_add {P : Program} {T : TypeId} {x y : Operand} {a b : Int} (h : -9223372036854775808 ≤ a + b ∧ a + b ≤ 9223372036854775807) (w : World) : (do eqGuard .add T x y (.int .i64 a) (.int .i64 b); binOp .add T (.int .i64 a) (.int .i64 b) : Sem Value).run P w = .ok (.int .i64 (a + b)) w := by
  simp [eqGuard, binOp, Op.intArith, IntWalk.i64_in _ h]
theorem b_sub {P : Program} {T : TypeId} {x y : Operand} {a b : Int} (h : -9223372036854775808 ≤ a - b ∧ a - b ≤ 9223372036854775807) (w : World) : (do eqGuard .sub T x y (.int .i64 a) (.int .i64 b); binOp .sub T (.int .i64 a) (.int .i64 b) : Sem Value).run P w = .ok (.int .i64 (a - b)) w := by
  simp [eqGuard, binOp, Op.intArith, IntWalk.i64_in _ h]
theorem b_mul {P : Program} {T : TypeId} {x y : Operand} {a b : Int} (h : -9223372036854775808 ≤ a * b ∧ a * b ≤ 9223372036854775807) (w : World) : (do eqGuard .mul T x y (.int .i64 a) (.int .i64 b); binOp .mul T (.int .i64 a) (.int .i64 b) : Sem Value).run P w = .ok (.int .i64 (a * b)) w := by
  simp [eqGuard, binOp, Op.intArith, IntWalk.i64_in _ h]
theorem b_quo {P : Program} {T : TypeId} {x y : Operand} {a b : Int} (h : 0 ≤ a ∧ a ≤ 9223372036854775807 ∧ 1 ≤ b) (w : World) : (do eqGuard .quo T x y (.int .i64 a) (.int .i64 b); binOp .quo T (.int .i64 a) (.int .i64 b) : Sem Value).run P w = .ok (.int .i64 (a / b)) w := by
  have hb : ¬ b = 0 := by omega
  simp [eqGuard, binOp, Op.intDiv, hb, IntWalk.i64_quo _ _ h]
theorem b_rem {P : Program} {T : TypeId} {x y : Operand} {a b : Int} (h : 0 ≤ a ∧ 1 ≤ b) (w : World) : (do eqGuard .rem T x y (.int .i64 a) (.int .i64 b); binOp .rem T (.int .i64 a) (.int .i64 b) : Sem Value).run P w = .ok (.int .i64 (a % b)) w := by
  have hb : ¬ b = 0 := by omega
  simp [eqGuard, binOp, Op.intDiv, hb, IntWalk.rem_in _ _ h.1]
theorem b_lss {P : Program} {T : TypeId} {x y : Operand} {k : IntKind} {a b : Int} (w : World) : (do eqGuard .lss T x y (.int k a) (.int k b); binOp .lss T (.int k a) (.int k b) : Sem Value).run P w = .ok (.bool (decide (a < b))) w := by simp [eqGuard, binOp, Op.intCmp]
theorem b_leq {P : Program} {T : TypeId} {x y : Operand} {k : IntKind} {a b : Int} (w : World) : (do eqGuard .leq T x y (.int k a) (.int k b); binOp .leq T (.int k a) (.int k b) : Sem Value).run P w = .ok (.bool (decide (a ≤ b))) w := by simp [eqGuard, binOp, Op.intCmp]
theorem b_gtr {P : Program} {T : TypeId} {x y : Operand} {k : IntKind} {a b : Int} (w : World) : (do eqGuard .gtr T x y (.int k a) (.int k b); binOp .gtr T (.int k a) (.int k b) : Sem Value).run P w = .ok (.bool (decide (b < a))) w := by simp [eqGuard, binOp, Op.intCmp]
theorem b_geq {P : Program} {T : TypeId} {x y : Operand} {k : IntKind} {a b : Int} (w : World) : (do eqGuard .geq T x y (.int k a) (.int k b); binOp .geq T (.int k a) (.int k b) : Sem Value).run P w = .ok (.bool (decide (b ≤ a))) w := by simp [eqGuard, binOp, Op.intCmp]
theorem b_eql {P : Program} {T : TypeId} {x y : Operand} {k : IntKind} {a b : Int} (w : World) : (do eqGuard .eql T x y (.int k a) (.int k b); binOp .eql T (.int k a) (.int k b) : Sem Value).run P w = .ok (.bool (decide (a = b))) w := by
  simp [eqGuard, binOp, Op.intCmp]
  rfl
theorem b_neq {P : Program} {T : TypeId} {x y : Operand} {k : IntKind} {a b : Int} (w : World) : (do eqGuard .neq T x y (.int k a) (.int k b); binOp .neq T (.int k a) (.int k b) : Sem Value).run P w = .ok (.bool (!decide (a = b))) w := by
  simp [eqGuard, binOp, Op.intCmp]
  rfl
theorem u_not {P : Program} {b : Bool} (w : World) : (Op.unary .not (.bool b)).run P w = .ok (.bool (!b)) w := rfl
theorem u_neg {P : Program} {a : Int} (h : -9223372036854775807 ≤ a ∧ a ≤ 9223372036854775807) (w : World) : (Op.unary .neg (.int .i64 a)).run P w = .ok (.int .i64 (-a)) w := by
  simp [Op.unary, Op.intArith, IntWalk.i64_in _ (show -9223372036854775808 ≤ -a ∧ -a ≤ 9223372036854775807 by omega)]
theorem want_eq {ops : Array Oper} {o : Oper} {j : Nat} {want bb : Bool} (hg : o.guard = some (j, want)) (hy : yl st ops j = some bb) (hb : bb = want) : wantB st ops o = some true := by
  unfold wantB
  simp [hg, hy, hb]
theorem want_ne {ops : Array Oper} {o : Oper} {j : Nat} {want bb : Bool} (hg : o.guard = some (j, want)) (hy : yl st ops j = some bb) (hb : bb = !want) : wantB st ops o = some false := by
  unfold wantB
  simp [hg, hy, hb]
theorem v_pickT {o : Oper} {c x y : Operand} {t : Bool} (ho : o.op = .pick c x y) (hd : dstB N o.dst = true) (hc : st.ev C c = .f (.v (.bool t))) (ht : t = true) : ValOp C N o st (st.ev C x) := by
  subst ht; exact v_pick ho hd hc
theorem v_pickF {o : Oper} {c x y : Operand} {t : Bool} (ho : o.op = .pick c x y) (hd : dstB N o.dst = true) (hc : st.ev C c = .f (.v (.bool t))) (ht : t = false) : ValOp C N o st (st.ev C y) := by
  subst ht; exact v_pick ho hd hc
theorem c_condT {c : Operand} {x y : Code} {t : Bool} (hc : st.ev C c = .f (.v (.bool t))) (ht : t = true) (h : cW C N x Q st) : cW C N (.cond c x y) Q st := by
  subst ht; exact c_if hc h
theorem c_condF {c : Operand} {x y : Code} {t : Bool} (hc : st.ev C c = .f (.v (.bool t))) (ht : t = false) (h : cW C N y Q st) : cW C N (.cond c x y) Q st := by
  subst ht; exact c_if hc h
end
end Go.Ab
namespace Go.Proofs.YtienhiloecfgnaaDoor
open Go Go.Ab Go.Proofs
def td3 : TyD := { scal := true, zero := some [.int .i64 0] }
theorem tdok3 : TyOk Tryd.prog 3 td3 := ⟨(fun _ => by kernel_rfl), (fun n h => by cases h), (fun f o h => by simp [td3] at h), (fun x h => by cases h), (fun z h => by cases h; kernel_rfl), (fun z h u hu => by cases h; simp at hu; rcases hu with rfl <;> rfl), (fun x h => by cases h), (by intro h; cases h)⟩
def td4 : TyD := { scal := true, zero := some [.bool false] }
theorem tdok4 : TyOk Tryd.prog 4 td4 := ⟨(fun _ => by kernel_rfl), (fun n h => by cases h), (fun f o h => by simp [td4] at h), (fun x h => by cases h), (fun z h => by cases h; kernel_rfl), (fun z h u hu => by cases h; simp at hu; rcases hu with rfl <;> rfl), (fun x h => by cases h), (by intro h; cases h)⟩
def td5 : TyD := { scal := true, zero := some [.int .u8 0] }
theorem tdok5 : TyOk Tryd.prog 5 td5 := ⟨(fun _ => by kernel_rfl), (fun n h => by cases h), (fun f o h => by simp [td5] at h), (fun x h => by cases h), (fun z h => by cases h; kernel_rfl), (fun z h u hu => by cases h; simp at hu; rcases hu with rfl <;> rfl), (fun x h => by cases h), (by intro h; cases h)⟩
def td9 : TyD := { scal := true, str := true, zero := some [.string ByteArray.empty] }
theorem tdok9 : TyOk Tryd.prog 9 td9 := ⟨(fun _ => by kernel_rfl), (fun n h => by cases h), (fun f o h => by simp [td9] at h), (fun x h => by cases h), (fun z h => by cases h; kernel_rfl), (fun z h u hu => by cases h; simp at hu; rcases hu with rfl <;> rfl), (fun x h => by cases h), (fun _ => by kernel_rfl)⟩
def td22 : TyD := { scal := true, sl := some (33, 3, 24), zero := some [.slice none 0 0] }
theorem tdok22 : TyOk Tryd.prog 22 td22 := ⟨(fun _ => by kernel_rfl), (fun n h => by cases h), (fun f o h => by simp [td22] at h), (fun x h => by cases h; kernel_rfl), (fun z h => by cases h; kernel_rfl), (fun z h u hu => by cases h; simp at hu; rcases hu with rfl <;> rfl), (fun x h => by cases h), (by intro h; cases h)⟩
def td23 : TyD := { scal := true, sl := some (3, 1, 8), zero := some [.slice none 0 0] }
theorem tdok23 : TyOk Tryd.prog 23 td23 := ⟨(fun _ => by kernel_rfl), (fun n h => by cases h), (fun f o h => by simp [td23] at h), (fun x h => by cases h; kernel_rfl), (fun z h => by cases h; kernel_rfl), (fun z h u hu => by cases h; simp at hu; rcases hu with rfl <;> rfl), (fun x h => by cases h), (by intro h; cases h)⟩
def td25 : TyD := { agg := some 3, fld := [0, 1, 2], pl := some [(0, 1), (1, 1), (2, 1)], zero := some [.slice none 0 0, .int .i64 0, .slice none 0 0] }
theorem tdok25 : TyOk Tryd.prog 25 td25 := ⟨(by intro h; cases h), (fun n h => by cases h; kernel_rfl), (fun f o h => by
    match f, h with
    | 0, h => exact (show fldO Tryd.prog 25 0 = some 0 by kernel_rfl).trans h
    | 1, h => exact (show fldO Tryd.prog 25 1 = some 1 by kernel_rfl).trans h
    | 2, h => exact (show fldO Tryd.prog 25 2 = some 2 by kernel_rfl).trans h
    | f + 3, h => simp [td25] at h), (fun x h => by cases h), (fun z h => by cases h; kernel_rfl), (fun z h u hu => by cases h; simp at hu; rcases hu with rfl | rfl | rfl <;> rfl), (fun x h => by cases h; kernel_rfl), (by intro h; cases h)⟩
def td27 : TyD := { agg := some 2, fld := [0, 1], pl := some [(0, 1), (1, 1)], zero := some [.int .i64 0, .int .i64 0] }
theorem tdok27 : TyOk Tryd.prog 27 td27 := ⟨(by intro h; cases h), (fun n h => by cases h; kernel_rfl), (fun f o h => by
    match f, h with
    | 0, h => exact (show fldO Tryd.prog 27 0 = some 0 by kernel_rfl).trans h
    | 1, h => exact (show fldO Tryd.prog 27 1 = some 1 by kernel_rfl).trans h
    | f + 2, h => simp [td27] at h), (fun x h => by cases h), (fun z h => by cases h; kernel_rfl), (fun z h u hu => by cases h; simp at hu; rcases hu with rfl | rfl <;> rfl), (fun x h => by cases h; kernel_rfl), (by intro h; cases h)⟩
def td33 : TyD := { agg := some 3, fld := [0, 1, 2], pl := some [(0, 1), (1, 1), (2, 1)], zero := some [.int .i64 0, .int .i64 0, .int .i64 0] }
theorem tdok33 : TyOk Tryd.prog 33 td33 := ⟨(by intro h; cases h), (fun n h => by cases h; kernel_rfl), (fun f o h => by
    match f, h with
    | 0, h => exact (show fldO Tryd.prog 33 0 = some 0 by kernel_rfl).trans h
    | 1, h => exact (show fldO Tryd.prog 33 1 = some 1 by kernel_rfl).trans h
    | 2, h => exact (show fldO Tryd.prog 33 2 = some 2 by kernel_rfl).trans h
    | f + 3, h => simp [td33] at h), (fun x h => by cases h), (fun z h => by cases h; kernel_rfl), (fun z h u hu => by cases h; simp at hu; rcases hu with rfl | rfl | rfl <;> rfl), (fun x h => by cases h; kernel_rfl), (by intro h; cases h)⟩
def td34 : TyD := { scal := true, sl := some (23, 1, 24), zero := some [.slice none 0 0] }
theorem tdok34 : TyOk Tryd.prog 34 td34 := ⟨(fun _ => by kernel_rfl), (fun n h => by cases h), (fun f o h => by simp [td34] at h), (fun x h => by cases h; kernel_rfl), (fun z h => by cases h; kernel_rfl), (fun z h u hu => by cases h; simp at hu; rcases hu with rfl <;> rfl), (fun x h => by cases h), (by intro h; cases h)⟩
def td35 : TyD := { scal := true, zero := some [.int .i64 0] }
theorem tdok35 : TyOk Tryd.prog 35 td35 := ⟨(fun _ => by kernel_rfl), (fun n h => by cases h), (fun f o h => by simp [td35] at h), (fun x h => by cases h), (fun z h => by cases h; kernel_rfl), (fun z h u hu => by cases h; simp at hu; rcases hu with rfl <;> rfl), (fun x h => by cases h), (by intro h; cases h)⟩
def td42 : TyD := { scal := true, sl := some (101, 2, 16), zero := some [.slice none 0 0] }
theorem tdok42 : TyOk Tryd.prog 42 td42 := ⟨(fun _ => by kernel_rfl), (fun n h => by cases h), (fun f o h => by simp [td42] at h), (fun x h => by cases h; kernel_rfl), (fun z h => by cases h; kernel_rfl), (fun z h u hu => by cases h; simp at hu; rcases hu with rfl <;> rfl), (fun x h => by cases h), (by intro h; cases h)⟩
def td44 : TyD := { agg := some 4, fld := [0, 3], pl := some [(0, 3), (3, 1)], zero := some [.slice none 0 0, .int .i64 0, .slice none 0 0, .slice none 0 0] }
theorem tdok44 : TyOk Tryd.prog 44 td44 := ⟨(by intro h; cases h), (fun n h => by cases h; kernel_rfl), (fun f o h => by
    match f, h with
    | 0, h => exact (show fldO Tryd.prog 44 0 = some 0 by kernel_rfl).trans h
    | 1, h => exact (show fldO Tryd.prog 44 1 = some 3 by kernel_rfl).trans h
    | f + 2, h => simp [td44] at h), (fun x h => by cases h), (fun z h => by cases h; kernel_rfl), (fun z h u hu => by cases h; simp at hu; rcases hu with rfl | rfl | rfl | rfl <;> rfl), (fun x h => by cases h; kernel_rfl), (by intro h; cases h)⟩
def td45 : TyD := { scal := true, sl := some (108, 7, 64), zero := some [.slice none 0 0] }
theorem tdok45 : TyOk Tryd.prog 45 td45 := ⟨(fun _ => by kernel_rfl), (fun n h => by cases h), (fun f o h => by simp [td45] at h), (fun x h => by cases h; kernel_rfl), (fun z h => by cases h; kernel_rfl), (fun z h u hu => by cases h; simp at hu; rcases hu with rfl <;> rfl), (fun x h => by cases h), (by intro h; cases h)⟩
def td74 : TyD := { agg := some 3, fld := [0, 1, 2], pl := some [(0, 1), (1, 1), (2, 1)], zero := some [.slice none 0 0, .slice none 0 0, .int .i64 0] }
theorem tdok74 : TyOk Tryd.prog 74 td74 := ⟨(by intro h; cases h), (fun n h => by cases h; kernel_rfl), (fun f o h => by
    match f, h with
    | 0, h => exact (show fldO Tryd.prog 74 0 = some 0 by kernel_rfl).trans h
    | 1, h => exact (show fldO Tryd.prog 74 1 = some 1 by kernel_rfl).trans h
    | 2, h => exact (show fldO Tryd.prog 74 2 = some 2 by kernel_rfl).trans h
    | f + 3, h => simp [td74] at h), (fun x h => by cases h), (fun z h => by cases h; kernel_rfl), (fun z h u hu => by cases h; simp at hu; rcases hu with rfl | rfl | rfl <;> rfl), (fun x h => by cases h; kernel_rfl), (by intro h; cases h)⟩
def td75 : TyD := { agg := some 2, zero := some [.int .i64 0, .int .i64 0] }
theorem tdok75 : TyOk Tryd.prog 75 td75 := ⟨(by intro h; cases h), (fun n h => by cases h; kernel_rfl), (fun f o h => by simp [td75] at h), (fun x h => by cases h), (fun z h => by cases h; kernel_rfl), (fun z h u hu => by cases h; simp at hu; rcases hu with rfl | rfl <;> rfl), (fun x h => by cases h), (by intro h; cases h)⟩
def td85 : TyD := { agg := some 4, zero := some [.int .i64 0, .int .i64 0, .int .i64 0, .int .i64 0] }
theorem tdok85 : TyOk Tryd.prog 85 td85 := ⟨(by intro h; cases h), (fun n h => by cases h; kernel_rfl), (fun f o h => by simp [td85] at h), (fun x h => by cases h), (fun z h => by cases h; kernel_rfl), (fun z h u hu => by cases h; simp at hu; rcases hu with rfl | rfl | rfl | rfl <;> rfl), (fun x h => by cases h), (by intro h; cases h)⟩
def td89 : TyD := { scal := true, sl := some (27, 2, 16), zero := some [.slice none 0 0] }
theorem tdok89 : TyOk Tryd.prog 89 td89 := ⟨(fun _ => by kernel_rfl), (fun n h => by cases h), (fun f o h => by simp [td89] at h), (fun x h => by cases h; kernel_rfl), (fun z h => by cases h; kernel_rfl), (fun z h u hu => by cases h; simp at hu; rcases hu with rfl <;> rfl), (fun x h => by cases h), (by intro h; cases h)⟩
def td101 : TyD := { agg := some 2, fld := [0, 1], pl := some [(0, 1), (1, 1)], zero := some [.int .i64 0, .int .i64 0] }
theorem tdok101 : TyOk Tryd.prog 101 td101 := ⟨(by intro h; cases h), (fun n h => by cases h; kernel_rfl), (fun f o h => by
    match f, h with
    | 0, h => exact (show fldO Tryd.prog 101 0 = some 0 by kernel_rfl).trans h
    | 1, h => exact (show fldO Tryd.prog 101 1 = some 1 by kernel_rfl).trans h
    | f + 2, h => simp [td101] at h), (fun x h => by cases h), (fun z h => by cases h; kernel_rfl), (fun z h u hu => by cases h; simp at hu; rcases hu with rfl | rfl <;> rfl), (fun x h => by cases h; kernel_rfl), (by intro h; cases h)⟩
def td108 : TyD := { agg := some 7, fld := [0, 1, 3, 5], pl := some [(0, 1), (1, 2), (3, 2), (5, 2)], zero := some [.string ByteArray.empty, .int .i64 0, .int .i64 0, .int .i64 0, .int .i64 0, .int .i64 0, .int .i64 0] }
theorem tdok108 : TyOk Tryd.prog 108 td108 := ⟨(by intro h; cases h), (fun n h => by cases h; kernel_rfl), (fun f o h => by
    match f, h with
    | 0, h => exact (show fldO Tryd.prog 108 0 = some 0 by kernel_rfl).trans h
    | 1, h => exact (show fldO Tryd.prog 108 1 = some 1 by kernel_rfl).trans h
    | 2, h => exact (show fldO Tryd.prog 108 2 = some 3 by kernel_rfl).trans h
    | 3, h => exact (show fldO Tryd.prog 108 3 = some 5 by kernel_rfl).trans h
    | f + 4, h => simp [td108] at h), (fun x h => by cases h), (fun z h => by cases h; kernel_rfl), (fun z h u hu => by cases h; simp at hu; rcases hu with rfl | rfl | rfl | rfl | rfl | rfl | rfl <;> rfl), (fun x h => by cases h; kernel_rfl), (by intro h; cases h)⟩
def td113 : TyD := { agg := some 2, fld := [0, 1], pl := some [(0, 1), (1, 1)], zero := some [.int .i64 0, .slice none 0 0] }
theorem tdok113 : TyOk Tryd.prog 113 td113 := ⟨(by intro h; cases h), (fun n h => by cases h; kernel_rfl), (fun f o h => by
    match f, h with
    | 0, h => exact (show fldO Tryd.prog 113 0 = some 0 by kernel_rfl).trans h
    | 1, h => exact (show fldO Tryd.prog 113 1 = some 1 by kernel_rfl).trans h
    | f + 2, h => simp [td113] at h), (fun x h => by cases h), (fun z h => by cases h; kernel_rfl), (fun z h u hu => by cases h; simp at hu; rcases hu with rfl | rfl <;> rfl), (fun x h => by cases h; kernel_rfl), (by intro h; cases h)⟩
def td119 : TyD := { agg := some 2, zero := some [.slice none 0 0, .slice none 0 0] }
theorem tdok119 : TyOk Tryd.prog 119 td119 := ⟨(by intro h; cases h), (fun n h => by cases h; kernel_rfl), (fun f o h => by simp [td119] at h), (fun x h => by cases h), (fun z h => by cases h; kernel_rfl), (fun z h u hu => by cases h; simp at hu; rcases hu with rfl | rfl <;> rfl), (fun x h => by cases h), (by intro h; cases h)⟩
def td132 : TyD := { scal := true, zero := some [.map none] }
theorem tdok132 : TyOk Tryd.prog 132 td132 := ⟨(fun _ => by kernel_rfl), (fun n h => by cases h), (fun f o h => by simp [td132] at h), (fun x h => by cases h), (fun z h => by cases h; kernel_rfl), (fun z h u hu => by cases h; simp at hu; rcases hu with rfl <;> rfl), (fun x h => by cases h), (by intro h; cases h)⟩
def td142 : TyD := { scal := true, sl := some (147, 2, 48), zero := some [.slice none 0 0] }
theorem tdok142 : TyOk Tryd.prog 142 td142 := ⟨(fun _ => by kernel_rfl), (fun n h => by cases h), (fun f o h => by simp [td142] at h), (fun x h => by cases h; kernel_rfl), (fun z h => by cases h; kernel_rfl), (fun z h u hu => by cases h; simp at hu; rcases hu with rfl <;> rfl), (fun x h => by cases h), (by intro h; cases h)⟩
def td145 : TyD := { scal := true, sl := some (4, 1, 1), zero := some [.slice none 0 0] }
theorem tdok145 : TyOk Tryd.prog 145 td145 := ⟨(fun _ => by kernel_rfl), (fun n h => by cases h), (fun f o h => by simp [td145] at h), (fun x h => by cases h; kernel_rfl), (fun z h => by cases h; kernel_rfl), (fun z h u hu => by cases h; simp at hu; rcases hu with rfl <;> rfl), (fun x h => by cases h), (by intro h; cases h)⟩
def td147 : TyD := { agg := some 2, fld := [0, 1], pl := some [(0, 1), (1, 1)], zero := some [.slice none 0 0, .slice none 0 0] }
theorem tdok147 : TyOk Tryd.prog 147 td147 := ⟨(by intro h; cases h), (fun n h => by cases h; kernel_rfl), (fun f o h => by
    match f, h with
    | 0, h => exact (show fldO Tryd.prog 147 0 = some 0 by kernel_rfl).trans h
    | 1, h => exact (show fldO Tryd.prog 147 1 = some 1 by kernel_rfl).trans h
    | f + 2, h => simp [td147] at h), (fun x h => by cases h), (fun z h => by cases h; kernel_rfl), (fun z h u hu => by cases h; simp at hu; rcases hu with rfl | rfl <;> rfl), (fun x h => by cases h; kernel_rfl), (by intro h; cases h)⟩
def td172 : TyD := { scal := true, sl := some (35, 1, 8), zero := some [.slice none 0 0] }
theorem tdok172 : TyOk Tryd.prog 172 td172 := ⟨(fun _ => by kernel_rfl), (fun n h => by cases h), (fun f o h => by simp [td172] at h), (fun x h => by cases h; kernel_rfl), (fun z h => by cases h; kernel_rfl), (fun z h u hu => by cases h; simp at hu; rcases hu with rfl <;> rfl), (fun x h => by cases h), (by intro h; cases h)⟩
def td181 : TyD := { agg := some 8, zero := some [.int .i64 0, .int .i64 0, .int .i64 0, .int .i64 0, .int .i64 0, .int .i64 0, .int .i64 0, .int .i64 0] }
theorem tdok181 : TyOk Tryd.prog 181 td181 := ⟨(by intro h; cases h), (fun n h => by cases h; kernel_rfl), (fun f o h => by simp [td181] at h), (fun x h => by cases h), (fun z h => by cases h; kernel_rfl), (fun z h u hu => by cases h; simp at hu; rcases hu with rfl | rfl | rfl | rfl | rfl | rfl | rfl | rfl <;> rfl), (fun x h => by cases h), (by intro h; cases h)⟩
theorem tdok_none (T : Nat) : TyOk Tryd.prog T {} := ⟨(by intro h; cases h), (fun n h => by cases h), (fun f o h => by simp at h), (fun x h => by cases h), (fun z h => by cases h), (fun z h => by cases h), (fun x h => by cases h), (by intro h; cases h)⟩
def tyT : Nat → TyD
  | 3 => td3
  | 4 => td4
  | 5 => td5
  | 9 => td9
  | 22 => td22
  | 23 => td23
  | 25 => td25
  | 27 => td27
  | 33 => td33
  | 34 => td34
  | 35 => td35
  | 42 => td42
  | 44 => td44
  | 45 => td45
  | 74 => td74
  | 75 => td75
  | 85 => td85
  | 89 => td89
  | 101 => td101
  | 108 => td108
  | 113 => td113
  | 119 => td119
  | 132 => td132
  | 142 => td142
  | 145 => td145
  | 147 => td147
  | 172 => td172
  | 181 => td181
  | _ => {}
theorem tyT_ok (T : Nat) : TyOk Tryd.prog T (tyT T) := by
  unfold tyT
  split
  · exact tdok3
  · exact tdok4
  · exact tdok5
  · exact tdok9
  · exact tdok22
  · exact tdok23
  · exact tdok25
  · exact tdok27
  · exact tdok33
  · exact tdok34
  · exact tdok35
  · exact tdok42
  · exact tdok44
  · exact tdok45
  · exact tdok74
  · exact tdok75
  · exact tdok85
  · exact tdok89
  · exact tdok101
  · exact tdok108
  · exact tdok113
  · exact tdok119
  · exact tdok132
  · exact tdok142
  · exact tdok145
  · exact tdok147
  · exact tdok172
  · exact tdok181
  · exact tdok_none _
def TY : Ty Tryd.prog := ⟨tyT, tyT_ok⟩
end Go.Proofs.YtienhiloecfgnaaDoor
namespace Go.Ab
open Go Go.RowKit Go.Shelf Go.Proofs
structure R (C : Ctx) (N : Nat) (ops : Array Oper) (pr : Bool) (K : St → Prop) (l : List Oper) (st : St) : Prop where
  out : Run C N ops pr K l st
structure W (C : Ctx) (N : Nat) (c : Code) (Q : Exit → St → Prop) (st : St) : Prop where
  out : cW C N c Q st
structure AT (K : St → Prop) (Q : Exit → St → Prop) (e : Exit) (st : St) : Prop where
  out : AThen K Q e st
structure AB (id : Nat) (Q : Exit → St → Prop) (e : Exit) (st : St) : Prop where
  out : ABlock id Q e st
section
variable {C : Ctx} {N : Nat} {Q : Exit → St → Prop} {st : St} {ops : Array Oper} {pr : Bool} {K : St → Prop} {rest : List Oper}
def unL : List AV → Option (List FV)
  | [] => some []
  | .f x :: r => match unL r with
    | some l => some (x :: l)
    | none => none
  | _ :: _ => none
theorem unL_spec : ∀ {l : List AV} {m : List FV}, unL l = some m → l = m.map AV.f
  | [], m, h => by simp [unL] at h; subst h; rfl
  | .f x :: r, m, h => by
    cases hr : unL r with
    | none => simp [unL, hr] at h
    | some l => simp [unL, hr] at h; subst h; rw [unL_spec hr]; rfl
  | .bx _ _ :: _, _, h => by simp [unL] at h
  | .ow _ :: _, _, h => by simp [unL] at h
  | .ag _ _ :: _, _, h => by simp [unL] at h
  | .fb _ _ _ :: _, _, h => by simp [unL] at h
  | .bot :: _, _, h => by simp [unL] at h
theorem R.run {l : List Oper} (h : Run C N ops pr K l st) : R C N ops pr K l st := ⟨h⟩
theorem Run.mono {K' : St → Prop} (k : ∀ st, K st → K' st) : ∀ {l : List Oper} {st : St}, Run C N ops pr K l st → Run C N ops pr K' l st
  | [], st, h => k st h
  | _ :: _, _, ⟨st', h1, h2⟩ => ⟨st', h1, Run.mono k h2⟩
theorem cW.mono {c : Code} {Q' : Exit → St → Prop} (h : cW C N c Q st) (k : ∀ e st', Q e st' → Q' e st') : cW C N c Q' st := c_mono h k
theorem w_seq {x y : Code} (h : W C N x (AT (W C N y Q) Q) st) : W C N (.seq x y) Q st := ⟨c_seq (h.out.mono fun e st' q => by cases e <;> first | exact q.out | exact W.out q.out)⟩
theorem w_region {id : Nat} {l : List Oper} (h : R C N l.toArray false (Q .normal) l st) : W C N (.region id l.toArray false) Q st := ⟨c_region h.out⟩
theorem w_draw {id : Nat} {l : List Oper} (n0 : Nat) (hm : C.P.follows .mixedOrders = true) (hok : okReg l n0 = true) (h : R C N l.toArray true (R C N l.toArray false (Q .normal) (l.drop n0)) (l.take n0) st) : W C N (.region id l.toArray true) Q st := ⟨c_draw n0 hm hok (Run.mono (fun _ h => h.out) h.out)⟩
theorem w_block {id : Nat} {c : Code} (h : W C N c (AB id Q) st) : W C N (.block id c) Q st := ⟨c_block (h.out.mono fun _ _ q => q.out)⟩
theorem w_exit {id : Nat} (h : Q (.exit id) st) : W C N (.exit id) Q st := ⟨c_exit h⟩
theorem w_ret (h : Q .ret st) : W C N .ret Q st := ⟨c_ret h⟩
theorem w_skip (h : Q .normal st) : W C N .skip Q st := ⟨c_skip h⟩
theorem w_condT {c : Operand} {x y : Code} {t : Bool} (hc : st.ev C c = .f (.v (.bool t))) (ht : t = true) (h : W C N x Q st) : W C N (.cond c x y) Q st := ⟨c_condT hc ht h.out⟩
theorem w_condF {c : Operand} {x y : Code} {t : Bool} (hc : st.ev C c = .f (.v (.bool t))) (ht : t = false) (h : W C N y Q st) : W C N (.cond c x y) Q st := ⟨c_condF hc ht h.out⟩
theorem w_gh {c : Code} {st' : St} (g : Gh C N st st') (h : W C N c Q st') : W C N c Q st := ⟨c_gh g h.out⟩
theorem w_loop {σ : Type} {c : Code} (F : σ → St) (Pr : σ → Prop) (μ : σ → Nat) (s0 : σ) (h0 : Pr s0) (hg : Gh C N st (F s0))
    (hstep : ∀ s, Pr s → W C N c (AT (fun st' => ∃ s', Pr s' ∧ μ s' < μ s ∧ Gh C N st' (F s')) Q) (F s)) : W C N (.loop c) Q st := ⟨c_loop F Pr μ s0 h0 hg (fun s h => (hstep s h).out.mono fun _ _ q => q.out)⟩
theorem summW {P : Program} {G : Nat → Option (List FV)} {f : Nat} {fn : Func} {c : Code} {args : List FV} {r : FV} (hf : P.funcs[f]? = some fn) (hb : fn.body = some c) (hname : (fn.name == "runtime.NumGoroutine") = false) (n : Nat) (hn : fn.ntmps = n) (hl : args.length ≤ n)
    (h : ∀ M0 : Nat → Prop, W ⟨P, G, M0, fun _ => False, none, fun _ => none⟩ n c (Leaves ⟨P, G, M0, fun _ => False, none, fun _ => none⟩ n fn r) (st0 args)) : Summ P G f args r := summ_of hf hb hname n hn hl (fun M0 => (h M0).out)
theorem t_norm {K : St → Prop} (h : K st) : AT K Q .normal st := ⟨h⟩
theorem t_exit {K : St → Prop} {i : Nat} (h : Q (.exit i) st) : AT K Q (.exit i) st := ⟨h⟩
theorem t_ret {K : St → Prop} (h : Q .ret st) : AT K Q .ret st := ⟨h⟩
theorem k_hit {i : Nat} (h : Q .normal st) : AB i Q (.exit i) st := ⟨ab_hit h⟩
theorem k_norm {i : Nat} (h : Q .normal st) : AB i Q .normal st := ⟨h⟩
theorem k_ret {i : Nat} (h : Q .ret st) : AB i Q .ret st := ⟨h⟩
def St.frB (C : Ctx) (st : St) : Bool := match st.h st.nx with
  | none => match C.J0 st.nx with
    | none => true
    | some _ => false
  | some _ => false
theorem frB_spec (h : st.frB C = true) : st.h st.nx = none ∧ C.J0 st.nx = none := by
  unfold St.frB at h
  split at h
  · rename_i h1
    split at h
    · rename_i h2; exact ⟨h1, h2⟩
    · cases h
  · cases h
theorem s_nil (h : K st) : R C N ops pr K [] st := ⟨h⟩
theorem g_skip {d : Option Tmp} {op : Op} {T : TypeId} {pos : String} {af : Array Edge} {j : Nat} {want bb : Bool} (hy : yl st ops j = some bb) (hb : bb = !want) (hd : dstB N d = true) (h : R C N ops pr K rest (st.put d (.f (.v undef)))) : R C N ops pr K (⟨d, op, T, pos, af, some (j, want)⟩ :: rest) st := ⟨r_skip (want_ne rfl hy hb) hd h.out⟩
theorem s_move_f {d : Option Tmp} {T0 : TypeId} {pos : String} {af : Array Edge} {x : Operand} {y : FV} (hd : dstB N d = true) (hx : st.ev C x = (.f y)) (h : R C N ops pr K rest (st.put d (.f y))) : R C N ops pr K (⟨d, .move x, T0, pos, af, none⟩ :: rest) st := ⟨r_val rfl (hx ▸ v_move rfl hd) h.out⟩
theorem g_move_f {d : Option Tmp} {T0 : TypeId} {pos : String} {af : Array Edge} {x : Operand} {y : FV} {j : Nat} {want bb : Bool} (hy : yl st ops j = some bb) (hb : bb = want) (hd : dstB N d = true) (hx : st.ev C x = (.f y)) (h : R C N ops pr K rest (st.put d (.f y))) : R C N ops pr K (⟨d, .move x, T0, pos, af, some (j, want)⟩ :: rest) st := ⟨r_val (want_eq rfl hy hb) (hx ▸ v_move rfl hd) h.out⟩
theorem s_assign_f {d : Option Tmp} {T0 : TypeId} {pos : String} {af : Array Edge} {x : Operand} {y : FV} (hd : dstB N d = true) (hx : st.ev C x = (.f y)) (h : R C N ops pr K rest (st.put d (.f y))) : R C N ops pr K (⟨d, .assign x, T0, pos, af, none⟩ :: rest) st := ⟨r_val rfl (hx ▸ v_assign rfl hd) h.out⟩
theorem s_move_o {d : Option Tmp} {T0 : TypeId} {pos : String} {af : Array Edge} {x : Operand} {i : Nat} (hd : dstB N d = true) (hx : st.ev C x = (.ow i)) (h : R C N ops pr K rest (st.put d (.ow i))) : R C N ops pr K (⟨d, .move x, T0, pos, af, none⟩ :: rest) st := ⟨r_val rfl (hx ▸ v_move rfl hd) h.out⟩
theorem s_assign_o {d : Option Tmp} {T0 : TypeId} {pos : String} {af : Array Edge} {x : Operand} {i : Nat} (hd : dstB N d = true) (hx : st.ev C x = (.ow i)) (h : R C N ops pr K rest (st.put d (.ow i))) : R C N ops pr K (⟨d, .assign x, T0, pos, af, none⟩ :: rest) st := ⟨r_val rfl (hx ▸ v_assign rfl hd) h.out⟩
theorem s_pickT {d : Option Tmp} {T0 : TypeId} {pos : String} {af : Array Edge} {c x y : Operand} {t : Bool} {z : FV} (hd : dstB N d = true) (hc : st.ev C c = .f (.v (.bool t))) (ht : t = true) (hx : st.ev C x = .f z) (h : R C N ops pr K rest (st.put d (.f z))) : R C N ops pr K (⟨d, .pick c x y, T0, pos, af, none⟩ :: rest) st := ⟨r_val rfl (hx ▸ v_pickT rfl hd hc ht) h.out⟩
theorem s_pickF {d : Option Tmp} {T0 : TypeId} {pos : String} {af : Array Edge} {c x y : Operand} {t : Bool} {z : FV} (hd : dstB N d = true) (hc : st.ev C c = .f (.v (.bool t))) (ht : t = false) (hx : st.ev C y = .f z) (h : R C N ops pr K rest (st.put d (.f z))) : R C N ops pr K (⟨d, .pick c x y, T0, pos, af, none⟩ :: rest) st := ⟨r_val rfl (hx ▸ v_pickF rfl hd hc ht) h.out⟩
theorem s_lss {d : Option Tmp} {T0 : TypeId} {pos : String} {af : Array Edge} {T T' : TypeId} {x y : Operand} {k : IntKind} {p q : Int} (hd : dstB N d = true) (hx : st.ev C x = .f (.v (.int k p))) (hy' : st.ev C y = .f (.v (.int k q))) (h : R C N ops pr K rest (st.put d (.f (.v (.bool (decide (p < q))))))) : R C N ops pr K (⟨d, .binOp .lss T x y T', T0, pos, af, none⟩ :: rest) st := ⟨r_val rfl (v_bin rfl hd hx hy' b_lss) h.out⟩
theorem s_leq {d : Option Tmp} {T0 : TypeId} {pos : String} {af : Array Edge} {T T' : TypeId} {x y : Operand} {k : IntKind} {p q : Int} (hd : dstB N d = true) (hx : st.ev C x = .f (.v (.int k p))) (hy' : st.ev C y = .f (.v (.int k q))) (h : R C N ops pr K rest (st.put d (.f (.v (.bool (decide (p ≤ q))))))) : R C N ops pr K (⟨d, .binOp .leq T x y T', T0, pos, af, none⟩ :: rest) st := ⟨r_val rfl (v_bin rfl hd hx hy' b_leq) h.out⟩
theorem g_leq {d : Option Tmp} {T0 : TypeId} {pos : String} {af : Array Edge} {T T' : TypeId} {x y : Operand} {k : IntKind} {p q : Int} {j : Nat} {want bb : Bool} (hy : yl st ops j = some bb) (hb : bb = want) (hd : dstB N d = true) (hx : st.ev C x = .f (.v (.int k p))) (hy' : st.ev C y = .f (.v (.int k q))) (h : R C N ops pr K rest (st.put d (.f (.v (.bool (decide (p ≤ q))))))) : R C N ops pr K (⟨d, .binOp .leq T x y T', T0, pos, af, some (j, want)⟩ :: rest) st := ⟨r_val (want_eq rfl hy hb) (v_bin rfl hd hx hy' b_leq) h.out⟩
theorem s_gtr {d : Option Tmp} {T0 : TypeId} {pos : String} {af : Array Edge} {T T' : TypeId} {x y : Operand} {k : IntKind} {p q : Int} (hd : dstB N d = true) (hx : st.ev C x = .f (.v (.int k p))) (hy' : st.ev C y = .f (.v (.int k q))) (h : R C N ops pr K rest (st.put d (.f (.v (.bool (decide (q < p))))))) : R C N ops pr K (⟨d, .binOp .gtr T x y T', T0, pos, af, none⟩ :: rest) st := ⟨r_val rfl (v_bin rfl hd hx hy' b_gtr) h.out⟩
theorem s_eql {d : Option Tmp} {T0 : TypeId} {pos : String} {af : Array Edge} {T T' : TypeId} {x y : Operand} {k : IntKind} {p q : Int} (hd : dstB N d = true) (hx : st.ev C x = .f (.v (.int k p))) (hy' : st.ev C y = .f (.v (.int k q))) (h : R C N ops pr K rest (st.put d (.f (.v (.bool (decide (p = q))))))) : R C N ops pr K (⟨d, .binOp .eql T x y T', T0, pos, af, none⟩ :: rest) st := ⟨r_val rfl (v_bin rfl hd hx hy' b_eql) h.out⟩
theorem g_eql {d : Option Tmp} {T0 : TypeId} {pos : String} {af : Array Edge} {T T' : TypeId} {x y : Operand} {k : IntKind} {p q : Int} {j : Nat} {want bb : Bool} (hy : yl st ops j = some bb) (hb : bb = want) (hd : dstB N d = true) (hx : st.ev C x = .f (.v (.int k p))) (hy' : st.ev C y = .f (.v (.int k q))) (h : R C N ops pr K rest (st.put d (.f (.v (.bool (decide (p = q))))))) : R C N ops pr K (⟨d, .binOp .eql T x y T', T0, pos, af, some (j, want)⟩ :: rest) st := ⟨r_val (want_eq rfl hy hb) (v_bin rfl hd hx hy' b_eql) h.out⟩
theorem s_neq {d : Option Tmp} {T0 : TypeId} {pos : String} {af : Array Edge} {T T' : TypeId} {x y : Operand} {k : IntKind} {p q : Int} (hd : dstB N d = true) (hx : st.ev C x = .f (.v (.int k p))) (hy' : st.ev C y = .f (.v (.int k q))) (h : R C N ops pr K rest (st.put d (.f (.v (.bool (!decide (p = q))))))) : R C N ops pr K (⟨d, .binOp .neq T x y T', T0, pos, af, none⟩ :: rest) st := ⟨r_val rfl (v_bin rfl hd hx hy' b_neq) h.out⟩
theorem s_add {d : Option Tmp} {T0 : TypeId} {pos : String} {af : Array Edge} {T T' : TypeId} {x y : Operand} {p q : Int} (hd : dstB N d = true) (hx : st.ev C x = .f (.v (.int .i64 p))) (hy' : st.ev C y = .f (.v (.int .i64 q))) (hr : -9223372036854775808 ≤ p + q ∧ p + q ≤ 9223372036854775807) (h : R C N ops pr K rest (st.put d (.f (.v (.int .i64 (p + q)))))) : R C N ops pr K (⟨d, .binOp .add T x y T', T0, pos, af, none⟩ :: rest) st := ⟨r_val rfl (v_bin rfl hd hx hy' (b_add hr)) h.out⟩
theorem s_sub {d : Option Tmp} {T0 : TypeId} {pos : String} {af : Array Edge} {T T' : TypeId} {x y : Operand} {p q : Int} (hd : dstB N d = true) (hx : st.ev C x = .f (.v (.int .i64 p))) (hy' : st.ev C y = .f (.v (.int .i64 q))) (hr : -9223372036854775808 ≤ p - q ∧ p - q ≤ 9223372036854775807) (h : R C N ops pr K rest (st.put d (.f (.v (.int .i64 (p - q)))))) : R C N ops pr K (⟨d, .binOp .sub T x y T', T0, pos, af, none⟩ :: rest) st := ⟨r_val rfl (v_bin rfl hd hx hy' (b_sub hr)) h.out⟩
theorem g_sub {d : Option Tmp} {T0 : TypeId} {pos : String} {af : Array Edge} {T T' : TypeId} {x y : Operand} {p q : Int} {j : Nat} {want bb : Bool} (hy : yl st ops j = some bb) (hb : bb = want) (hd : dstB N d = true) (hx : st.ev C x = .f (.v (.int .i64 p))) (hy' : st.ev C y = .f (.v (.int .i64 q))) (hr : -9223372036854775808 ≤ p - q ∧ p - q ≤ 9223372036854775807) (h : R C N ops pr K rest (st.put d (.f (.v (.int .i64 (p - q)))))) : R C N ops pr K (⟨d, .binOp .sub T x y T', T0, pos, af, some (j, want)⟩ :: rest) st := ⟨r_val (want_eq rfl hy hb) (v_bin rfl hd hx hy' (b_sub hr)) h.out⟩
theorem s_not {d : Option Tmp} {T0 : TypeId} {pos : String} {af : Array Edge} {T : TypeId} {x : Operand} {t : Bool} (hd : dstB N d = true) (hx : st.ev C x = .f (.v (.bool t))) (h : R C N ops pr K rest (st.put d (.f (.v (.bool (!t)))))) : R C N ops pr K (⟨d, .unOp .not T x, T0, pos, af, none⟩ :: rest) st := ⟨r_val rfl (v_un rfl hd hx u_not) h.out⟩
theorem g_not {d : Option Tmp} {T0 : TypeId} {pos : String} {af : Array Edge} {T : TypeId} {x : Operand} {t : Bool} {j : Nat} {want bb : Bool} (hy : yl st ops j = some bb) (hb : bb = want) (hd : dstB N d = true) (hx : st.ev C x = .f (.v (.bool t))) (h : R C N ops pr K rest (st.put d (.f (.v (.bool (!t)))))) : R C N ops pr K (⟨d, .unOp .not T x, T0, pos, af, some (j, want)⟩ :: rest) st := ⟨r_val (want_eq rfl hy hb) (v_un rfl hd hx u_not) h.out⟩
theorem s_extract {d : Option Tmp} {T0 : TypeId} {pos : String} {af : Array Edge} {x : Operand} {i : Nat} {l : List FV} {y : FV} (hd : dstB N d = true) (hx : st.ev C x = .f (.tup l)) (hi : l[i]? = some y) (h : R C N ops pr K rest (st.put d (.f y))) : R C N ops pr K (⟨d, .extract x i, T0, pos, af, none⟩ :: rest) st := ⟨r_val rfl (v_extract rfl hd hx hi) h.out⟩
theorem s_load_pt (ty : Ty C.P) {d : Option Tmp} {T0 : TypeId} {pos : String} {af : Array Edge} {T : TypeId} {x : Operand} {cs : List FV} {off : Nat} {c : FV} (hd : dstB N d = true) (hT : (ty.ty T).scal = true) (hx : st.ev C x = .f (.pt cs off)) (hc : cs[off]? = some c) (h : R C N ops pr K rest (st.put d (.f c))) : R C N ops pr K (⟨d, .load T x, T0, pos, af, none⟩ :: rest) st := ⟨r_val rfl (v_load_pt ty rfl hd hT hx hc) h.out⟩
theorem g_load_pt (ty : Ty C.P) {d : Option Tmp} {T0 : TypeId} {pos : String} {af : Array Edge} {T : TypeId} {x : Operand} {cs : List FV} {off : Nat} {c : FV} {j : Nat} {want bb : Bool} (hy : yl st ops j = some bb) (hb : bb = want) (hd : dstB N d = true) (hT : (ty.ty T).scal = true) (hx : st.ev C x = .f (.pt cs off)) (hc : cs[off]? = some c) (h : R C N ops pr K rest (st.put d (.f c))) : R C N ops pr K (⟨d, .load T x, T0, pos, af, some (j, want)⟩ :: rest) st := ⟨r_val (want_eq rfl hy hb) (v_load_pt ty rfl hd hT hx hc) h.out⟩
theorem s_load_pts (ty : Ty C.P) {d : Option Tmp} {T0 : TypeId} {pos : String} {af : Array Edge} {T : TypeId} {x : Operand} {cs sub : List FV} {off n : Nat} (hd : dstB N d = true) (hT : (ty.ty T).agg = some n) (hx : st.ev C x = .f (.pt cs off)) (hc : (cs.drop off).take n = sub) (hl : sub.length = n) (h : R C N ops pr K rest (st.put d (.f (.agg sub)))) : R C N ops pr K (⟨d, .load T x, T0, pos, af, none⟩ :: rest) st := ⟨r_val rfl (v_load_pts ty rfl hd hT hx hc hl) h.out⟩
theorem s_load_bx_f (ty : Ty C.P) {d : Option Tmp} {T0 : TypeId} {pos : String} {af : Array Edge} {T : TypeId} {x : Operand} {cs : List AV} {i off : Nat} {y : FV} (hd : dstB N d = true) (hT : (ty.ty T).scal = true) (hx : st.ev C x = .bx i off) (hi : st.h i = some (.box cs)) (hc : cs[off]? = some (.f y)) (h : R C N ops pr K rest (st.put d (.f y))) : R C N ops pr K (⟨d, .load T x, T0, pos, af, none⟩ :: rest) st := ⟨r_val rfl (v_load_bx ty rfl hd hT hx hi hc) h.out⟩
theorem g_load_bx_f (ty : Ty C.P) {d : Option Tmp} {T0 : TypeId} {pos : String} {af : Array Edge} {T : TypeId} {x : Operand} {cs : List AV} {i off : Nat} {y : FV} {j : Nat} {want bb : Bool} (hy : yl st ops j = some bb) (hb : bb = want) (hd : dstB N d = true) (hT : (ty.ty T).scal = true) (hx : st.ev C x = .bx i off) (hi : st.h i = some (.box cs)) (hc : cs[off]? = some (.f y)) (h : R C N ops pr K rest (st.put d (.f y))) : R C N ops pr K (⟨d, .load T x, T0, pos, af, some (j, want)⟩ :: rest) st := ⟨r_val (want_eq rfl hy hb) (v_load_bx ty rfl hd hT hx hi hc) h.out⟩
theorem s_load_bx_o (ty : Ty C.P) {d : Option Tmp} {T0 : TypeId} {pos : String} {af : Array Edge} {T : TypeId} {x : Operand} {cs : List AV} {i off : Nat} {k : Nat} (hd : dstB N d = true) (hT : (ty.ty T).scal = true) (hx : st.ev C x = .bx i off) (hi : st.h i = some (.box cs)) (hc : cs[off]? = some (.ow k)) (h : R C N ops pr K rest (st.put d (.ow k))) : R C N ops pr K (⟨d, .load T x, T0, pos, af, none⟩ :: rest) st := ⟨r_val rfl (v_load_bx ty rfl hd hT hx hi hc) h.out⟩
theorem s_load_bxs (ty : Ty C.P) {d : Option Tmp} {T0 : TypeId} {pos : String} {af : Array Edge} {T : TypeId} {x : Operand} {cs : List AV} {i off n : Nat} {sub : List FV} (hd : dstB N d = true) (hT : (ty.ty T).agg = some n) (hx : st.ev C x = .bx i off) (hi : st.h i = some (.box cs)) (hc : unL ((cs.drop off).take n) = some sub) (hn : sub.length = n) (h : R C N ops pr K rest (st.put d (.f (.agg sub)))) : R C N ops pr K (⟨d, .load T x, T0, pos, af, none⟩ :: rest) st := ⟨r_val rfl (v_load_bxs ty rfl hd hT hx hi (unL_spec hc) hn) h.out⟩
theorem s_fld_pt (ty : Ty C.P) {d : Option Tmp} {T0 : TypeId} {pos : String} {af : Array Edge} {T f : Nat} {x : Operand} {cs : List FV} {off fo : Nat} (hd : dstB N d = true) (hT : (ty.ty T).fld[f]? = some fo) (hx : st.ev C x = .f (.pt cs off)) (h : R C N ops pr K rest (st.put d (.f (.pt cs (off + fo))))) : R C N ops pr K (⟨d, .fieldAddr T x f, T0, pos, af, none⟩ :: rest) st := ⟨r_val rfl (v_fld_pt ty rfl hd hT hx) h.out⟩
theorem g_fld_pt (ty : Ty C.P) {d : Option Tmp} {T0 : TypeId} {pos : String} {af : Array Edge} {T f : Nat} {x : Operand} {cs : List FV} {off fo : Nat} {j : Nat} {want bb : Bool} (hy : yl st ops j = some bb) (hb : bb = want) (hd : dstB N d = true) (hT : (ty.ty T).fld[f]? = some fo) (hx : st.ev C x = .f (.pt cs off)) (h : R C N ops pr K rest (st.put d (.f (.pt cs (off + fo))))) : R C N ops pr K (⟨d, .fieldAddr T x f, T0, pos, af, some (j, want)⟩ :: rest) st := ⟨r_val (want_eq rfl hy hb) (v_fld_pt ty rfl hd hT hx) h.out⟩
theorem s_fld_bx (ty : Ty C.P) {d : Option Tmp} {T0 : TypeId} {pos : String} {af : Array Edge} {T f : Nat} {x : Operand} {i off fo : Nat} (hd : dstB N d = true) (hT : (ty.ty T).fld[f]? = some fo) (hx : st.ev C x = .bx i off) (h : R C N ops pr K rest (st.put d (.bx i (off + fo)))) : R C N ops pr K (⟨d, .fieldAddr T x f, T0, pos, af, none⟩ :: rest) st := ⟨r_val rfl (v_fld_bx ty rfl hd hT hx) h.out⟩
theorem g_fld_bx (ty : Ty C.P) {d : Option Tmp} {T0 : TypeId} {pos : String} {af : Array Edge} {T f : Nat} {x : Operand} {i off fo : Nat} {j : Nat} {want bb : Bool} (hy : yl st ops j = some bb) (hb : bb = want) (hd : dstB N d = true) (hT : (ty.ty T).fld[f]? = some fo) (hx : st.ev C x = .bx i off) (h : R C N ops pr K rest (st.put d (.bx i (off + fo)))) : R C N ops pr K (⟨d, .fieldAddr T x f, T0, pos, af, some (j, want)⟩ :: rest) st := ⟨r_val (want_eq rfl hy hb) (v_fld_bx ty rfl hd hT hx) h.out⟩
theorem s_idx (ty : Ty C.P) {d : Option Tmp} {T0 : TypeId} {pos : String} {af : Array Edge} {T : TypeId} {x y : Operand} {cs : List FV} {n E s bs : Nat} {k : IntKind} {z : Int} (hd : dstB N d = true) (hT : (ty.ty T).sl = some (E, s, bs)) (hx : st.ev C x = .f (.sl n cs)) (hy' : st.ev C y = .f (.v (.int k z))) (h0 : 0 ≤ z) (hn : z < n) (hc : cs ≠ []) (h : R C N ops pr K rest (st.put d (.f (.pt cs (z.toNat * s))))) : R C N ops pr K (⟨d, .indexAddr T x y, T0, pos, af, none⟩ :: rest) st := ⟨r_val rfl (v_idx ty rfl hd hT hx hy' h0 hn hc) h.out⟩
theorem s_idx_ow (ty : Ty C.P) {d : Option Tmp} {T0 : TypeId} {pos : String} {af : Array Edge} {T : TypeId} {x y : Operand} {cs : List FV} {i n e sz E s bs : Nat} {k : IntKind} {z : Int} (hd : dstB N d = true) (hT : (ty.ty T).sl = some (E, s, bs)) (hx : st.ev C x = .ow i) (hi : st.h i = some (.row e sz n cs)) (hy' : st.ev C y = .f (.v (.int k z))) (h0 : 0 ≤ z) (hn : z < n) (h : R C N ops pr K rest (st.put d (.bx i (z.toNat * s)))) : R C N ops pr K (⟨d, .indexAddr T x y, T0, pos, af, none⟩ :: rest) st := ⟨r_val rfl (v_idx_ow ty rfl hd hT hx hi hy' h0 hn) h.out⟩
theorem s_len (ty : Ty C.P) {d : Option Tmp} {T0 : TypeId} {pos : String} {af : Array Edge} {T : TypeId} {x : Operand} {cs : List FV} {n E s bs : Nat} (hd : dstB N d = true) (hT : (ty.ty T).sl = some (E, s, bs)) (hx : st.ev C x = .f (.sl n cs)) (h : R C N ops pr K rest (st.put d (.f (.v (.int .i64 n))))) : R C N ops pr K (⟨d, .call { callee := .builtin .len, args := #[x], argTypes := #[T] }, T0, pos, af, none⟩ :: rest) st := ⟨r_val rfl (v_len ty rfl hd hT hx) h.out⟩
theorem g_len (ty : Ty C.P) {d : Option Tmp} {T0 : TypeId} {pos : String} {af : Array Edge} {T : TypeId} {x : Operand} {cs : List FV} {n E s bs : Nat} {j : Nat} {want bb : Bool} (hy : yl st ops j = some bb) (hb : bb = want) (hd : dstB N d = true) (hT : (ty.ty T).sl = some (E, s, bs)) (hx : st.ev C x = .f (.sl n cs)) (h : R C N ops pr K rest (st.put d (.f (.v (.int .i64 n))))) : R C N ops pr K (⟨d, .call { callee := .builtin .len, args := #[x], argTypes := #[T] }, T0, pos, af, some (j, want)⟩ :: rest) st := ⟨r_val (want_eq rfl hy hb) (v_len ty rfl hd hT hx) h.out⟩
theorem s_len_nil (ty : Ty C.P) {d : Option Tmp} {T0 : TypeId} {pos : String} {af : Array Edge} {T : TypeId} {x : Operand} {ad : Option Addr} {n c E s bs : Nat} (hd : dstB N d = true) (hT : (ty.ty T).sl = some (E, s, bs)) (hx : st.ev C x = .f (.v (.slice ad n c))) (h : R C N ops pr K rest (st.put d (.f (.v (.int .i64 n))))) : R C N ops pr K (⟨d, .call { callee := .builtin .len, args := #[x], argTypes := #[T] }, T0, pos, af, none⟩ :: rest) st := ⟨r_val rfl (v_len_nil ty rfl hd hT hx) h.out⟩
theorem s_index_str (ty : Ty C.P) {d : Option Tmp} {T0 : TypeId} {pos : String} {af : Array Edge} {T : TypeId} {x y : Operand} {s : ByteArray} {k : IntKind} {z : Int} {b : UInt8} (hd : dstB N d = true) (hT : (ty.ty T).str = true) (hx : st.ev C x = .f (.v (.string s))) (hy' : st.ev C y = .f (.v (.int k z))) (h0 : 0 ≤ z) (hb' : s[z.toNat]? = some b) (h : R C N ops pr K rest (st.put d (.f (.v (.int .u8 b.toNat))))) : R C N ops pr K (⟨d, .index T x y, T0, pos, af, none⟩ :: rest) st := ⟨r_val rfl (v_index_str ty hT rfl hd hx hy' h0 hb') h.out⟩
theorem s_min {d : Option Tmp} {T0 : TypeId} {pos : String} {af : Array Edge} {T T' : TypeId} {x y : Operand} {p q : Int} {k k' : IntKind} (hd : dstB N d = true) (hx : st.ev C x = .f (.v (.int k p))) (hy' : st.ev C y = .f (.v (.int k' q))) (h : R C N ops pr K rest (st.put d (.f (.v (.int k (min p q)))))) : R C N ops pr K (⟨d, .call { callee := .builtin .min, args := #[x, y], argTypes := #[T, T'] }, T0, pos, af, none⟩ :: rest) st := ⟨r_val rfl (v_min2 rfl hd hx hy') h.out⟩
theorem s_max {d : Option Tmp} {T0 : TypeId} {pos : String} {af : Array Edge} {T T' : TypeId} {x y : Operand} {p q : Int} {k k' : IntKind} (hd : dstB N d = true) (hx : st.ev C x = .f (.v (.int k p))) (hy' : st.ev C y = .f (.v (.int k' q))) (h : R C N ops pr K rest (st.put d (.f (.v (.int k (max p q)))))) : R C N ops pr K (⟨d, .call { callee := .builtin .max, args := #[x, y], argTypes := #[T, T'] }, T0, pos, af, none⟩ :: rest) st := ⟨r_val rfl (v_max2 rfl hd hx hy') h.out⟩
theorem s_build (ty : Ty C.P) {d : Option Tmp} {T0 : TypeId} {pos : String} {af : Array Edge} {T : TypeId} {parts : Array (Nat × Operand)} {pl : List (Nat × Nat)} {zs : List Value} {xs : List (Nat × FV)} {cs : List FV} (hd : dstB N d = true) (hpl : (ty.ty T).pl = some pl) (hz : (ty.ty T).zero = some zs) (hp : st.evP C parts.toList = some xs) (hf : fillF (fun i => pl[i]?) (zs.map .v) xs = some cs) (h : R C N ops pr K rest (st.put d (.f (.agg cs)))) : R C N ops pr K (⟨d, .build T parts, T0, pos, af, none⟩ :: rest) st := ⟨r_val rfl (v_build ty rfl hd hpl hz hp hf) h.out⟩
theorem g_build (ty : Ty C.P) {d : Option Tmp} {T0 : TypeId} {pos : String} {af : Array Edge} {T : TypeId} {parts : Array (Nat × Operand)} {pl : List (Nat × Nat)} {zs : List Value} {xs : List (Nat × FV)} {cs : List FV} {j : Nat} {want bb : Bool} (hy : yl st ops j = some bb) (hb : bb = want) (hd : dstB N d = true) (hpl : (ty.ty T).pl = some pl) (hz : (ty.ty T).zero = some zs) (hp : st.evP C parts.toList = some xs) (hf : fillF (fun i => pl[i]?) (zs.map .v) xs = some cs) (h : R C N ops pr K rest (st.put d (.f (.agg cs)))) : R C N ops pr K (⟨d, .build T parts, T0, pos, af, some (j, want)⟩ :: rest) st := ⟨r_val (want_eq rfl hy hb) (v_build ty rfl hd hpl hz hp hf) h.out⟩
theorem s_bslice (ty : Ty C.P) {d : Option Tmp} {T0 : TypeId} {pos : String} {af : Array Edge} {T len E s bs : Nat} {parts : Array (Nat × Operand)} {zs : List Value} {xs : List (Nat × FV)} {cs : List FV} (hd : dstB N d = true) (hT : (ty.ty T).sl = some (E, s, bs)) (hz : (ty.ty E).zero = some zs) (hs : Nat.ble (len * s) 16777216 = true) (hp : st.evP C parts.toList = some xs) (hf : fillF (fun i => some (i * s, s)) (initF zs (len * s)) xs = some cs) (h : R C N ops pr K rest (st.put d (.f (.sl len cs)))) : R C N ops pr K (⟨d, .buildSlice T len parts, T0, pos, af, none⟩ :: rest) st := ⟨r_val rfl (v_bslice ty rfl hd hT hz (Nat.le_of_ble_eq_true hs) hp hf) h.out⟩
theorem g_bslice (ty : Ty C.P) {d : Option Tmp} {T0 : TypeId} {pos : String} {af : Array Edge} {T len E s bs : Nat} {parts : Array (Nat × Operand)} {zs : List Value} {xs : List (Nat × FV)} {cs : List FV} {j : Nat} {want bb : Bool} (hy : yl st ops j = some bb) (hb : bb = want) (hd : dstB N d = true) (hT : (ty.ty T).sl = some (E, s, bs)) (hz : (ty.ty E).zero = some zs) (hs : Nat.ble (len * s) 16777216 = true) (hp : st.evP C parts.toList = some xs) (hf : fillF (fun i => some (i * s, s)) (initF zs (len * s)) xs = some cs) (h : R C N ops pr K rest (st.put d (.f (.sl len cs)))) : R C N ops pr K (⟨d, .buildSlice T len parts, T0, pos, af, some (j, want)⟩ :: rest) st := ⟨r_val (want_eq rfl hy hb) (v_bslice ty rfl hd hT hz (Nat.le_of_ble_eq_true hs) hp hf) h.out⟩
theorem s_box {d : Option Tmp} {T0 : TypeId} {pos : String} {af : Array Edge} {T : TypeId} {x : Operand} {y : FV} {cs : List FV} (hd : dstB N d = true) (hx : st.ev C x = .f y) (hc : cellsF y = some cs) (h : R C N ops pr K rest (st.put d (.f (.pt cs 0)))) : R C N ops pr K (⟨d, .box T x, T0, pos, af, none⟩ :: rest) st := ⟨r_val rfl (v_box rfl hd hx hc) h.out⟩
theorem s_makefn {d : Option Tmp} {T0 : TypeId} {pos : String} {af : Array Edge} {gf : Nat} {caps : Array Operand} {xs : List FV} (hd : dstB N d = true) (hp : st.evL C caps.toList = some xs) (h : R C N ops pr K rest (st.put d (.f (.fn gf xs)))) : R C N ops pr K (⟨d, .makeFunc (.func gf) #[] caps, T0, pos, af, none⟩ :: rest) st := ⟨r_val rfl (v_makefn rfl hd hp) h.out⟩
theorem s_call {d : Option Tmp} {T0 : TypeId} {pos : String} {af : Array Edge} {f : Operand} {args : Array Operand} {ts : Array TypeId} {gf : Nat} {caps xs ys : List FV} {r : FV} (S : Summ C.P C.G gf ys r) (hd : dstB N d = true) (hf : st.ev C f = .f (.fn gf caps)) (hxs : st.evL C args.toList = some xs) (hys : xs ++ caps = ys) (h : R C N ops pr K rest (st.put d (.f r))) : R C N ops pr K (⟨d, .call { callee := .value f, args := args, argTypes := ts }, T0, pos, af, none⟩ :: rest) st := ⟨r_val rfl (v_call S rfl hd hf hxs hys) h.out⟩
theorem g_call {d : Option Tmp} {T0 : TypeId} {pos : String} {af : Array Edge} {f : Operand} {args : Array Operand} {ts : Array TypeId} {gf : Nat} {caps xs ys : List FV} {r : FV} (S : Summ C.P C.G gf ys r) {j : Nat} {want bb : Bool} (hy : yl st ops j = some bb) (hb : bb = want) (hd : dstB N d = true) (hf : st.ev C f = .f (.fn gf caps)) (hxs : st.evL C args.toList = some xs) (hys : xs ++ caps = ys) (h : R C N ops pr K rest (st.put d (.f r))) : R C N ops pr K (⟨d, .call { callee := .value f, args := args, argTypes := ts }, T0, pos, af, some (j, want)⟩ :: rest) st := ⟨r_val (want_eq rfl hy hb) (v_call S rfl hd hf hxs hys) h.out⟩
theorem s_alloc (ty : Ty C.P) {d : Option Tmp} {T0 : TypeId} {pos : String} {af : Array Edge} {T : TypeId} {zs : List Value} (hd : dstB N d = true) (hn : st.frB C = true) (hz : (ty.ty T).zero = some zs) (h : R C N ops pr K rest ⟨(st.put d (.bx st.nx 0)).s, upd st.h st.nx (some (.box (zs.map fun z => .f (.v z)))), st.nx + 1⟩) : R C N ops pr K (⟨d, .alloc T, T0, pos, af, none⟩ :: rest) st := ⟨r_all rfl rfl (frB_spec hn).1 (a_alloc ty rfl hd hz (frB_spec hn).2) h.out⟩
theorem s_boxw {d : Option Tmp} {T0 : TypeId} {pos : String} {af : Array Edge} {T : TypeId} {x : Operand} {y : FV} {cs : List FV} (hd : dstB N d = true) (hn : st.frB C = true) (hx : st.ev C x = .f y) (hc : cellsF y = some cs) (h : R C N ops pr K rest ⟨(st.put d (.bx st.nx 0)).s, upd st.h st.nx (some (.box (cs.map .f))), st.nx + 1⟩) : R C N ops pr K (⟨d, .box T x, T0, pos, af, none⟩ :: rest) st := ⟨r_all rfl rfl (frB_spec hn).1 (a_box rfl hd hx hc (frB_spec hn).2) h.out⟩
theorem s_bslicew (ty : Ty C.P) {d : Option Tmp} {T0 : TypeId} {pos : String} {af : Array Edge} {T len E s bs : Nat} {parts : Array (Nat × Operand)} {zs : List Value} {xs : List (Nat × FV)} {cs : List FV} (hd : dstB N d = true) (hn : st.h st.nx = none) (hT : (ty.ty T).sl = some (E, s, bs)) (hz : (ty.ty E).zero = some zs) (hs : Nat.ble (len * s) 16777216 = true) (hs0 : Nat.blt 0 s = true) (hp : st.evP C parts.toList = some xs) (hf : fillF (fun i => some (i * s, s)) (initF zs (len * s)) xs = some cs) (hl : cs.length = len * s) (h : R C N ops pr K rest ⟨(st.put d (.ow st.nx)).s, upd st.h st.nx (some (.row E s len cs)), st.nx + 1⟩) : R C N ops pr K (⟨d, .buildSlice T len parts, T0, pos, af, none⟩ :: rest) st := ⟨r_all rfl rfl hn (a_bslice ty rfl hd hT hz (Nat.le_of_ble_eq_true hs) (Nat.le_of_ble_eq_true hs0) hp hf hl) h.out⟩
theorem s_store (ty : Ty C.P) {T0 : TypeId} {pos : String} {af : Array Edge} {T i off : Nat} {x y : Operand} {cs ys : List AV} {av : AV} (hx : st.ev C x = .bx i off) (hi : st.h i = some (.box cs)) (hy : st.ev C y = av) (hc : cellsA av = some ys) (hT : sizeB (ty.ty T) ys.length = true) (hl : Nat.ble (off + ys.length) cs.length = true) (h : R C N ops false K rest { st with h := upd st.h i (some (.box (setAt cs off ys))) }) : R C N ops false K (⟨none, .store T x y, T0, pos, af, none⟩ :: rest) st := ⟨r_eff rfl (e_store ty rfl rfl hx hi hy hc hT (Nat.le_of_ble_eq_true hl)) h.out⟩
theorem s_append (ty : Ty C.P) {T0 : TypeId} {pos : String} {af : Array Edge} {T i n m e sz bs d : Nat} {x y : Operand} {cs ys : List FV} {zs : List Value} (hdN : dstB N (some d) = true) (hT : (ty.ty T).sl = some (e, sz, bs)) (hz : (ty.ty e).zero = some zs) (hzl : zs.length = sz) (hsz : Nat.blt 0 sz = true) (hx : st.ev C x = .ow i) (hi : st.h i = some (.row e sz n cs)) (hy : st.ev C y = .f (.sl m ys)) (hl : ys.length = m * sz) (h63 : n + m ≤ maxLen) (hbs : (n + m) * bs ≤ 140737488355328) (h : R C N ops false K rest ((st.grow i (.row e sz (n + m) (cs ++ ys))).put (some d) (.ow i))) : R C N ops false K (⟨some d, .call { callee := .builtin .append, args := #[x, y], argTypes := #[T, T] }, T0, pos, af, none⟩ :: rest) st := ⟨r_eff rfl (e_append ty rfl rfl hdN hT hz hzl (Nat.le_of_ble_eq_true hsz) hx hi hy hl h63 hbs) h.out⟩
end
end Go.Ab
namespace Go.Ab
open Go Go.RowKit Go.Shelf Go.Proofs
section
variable {C : Ctx} {N : Nat}
theorem take_setAt {α : Type} : ∀ (r cs : List α) (o k : Nat), o + r.length ≤ k → (setAt cs o r).take k = setAt (cs.take k) o r
  | [], _, _, _, _ => rfl
  | x :: r, cs, o, k, h => by
    simp only [List.length_cons] at h
    rw [setAt, setAt, take_setAt r _ _ _ (by omega), List.take_set]
theorem e_storeR {o : Oper} {st : St} {T i off e sz n : Nat} {x y : Operand} {cs ys : List FV} {z : FV} (ty : Ty C.P) (ho : o.op = .store T x y) (hd : o.dst = none) (hx : st.ev C x = .bx i off) (hi : st.h i = some (.row e sz n cs)) (hy : st.ev C y = .f z) (hc : cellsF z = some ys) (hT : sizeB (ty.ty T) ys.length = true) (hl : off + ys.length ≤ cs.length) :
    EffOp C N o st { st with h := upd st.h i (some (.row e sz n (setAt cs off ys))) } :=
  effop_run fun w0 a w J S => by
    have e1 := S.eval x
    rw [hx] at e1
    obtain ⟨hlv, b, hb, hv⟩ := e1
    have e2 := evF S hy
    obtain ⟨R, r2⟩ := repCells e2 hc
    obtain ⟨xs, q1, q0, q2, q3⟩ := S.blk i _ hi
    obtain ⟨it, hi1, hi2⟩ := sizeB_spec (ty.ok T) hT
    have r1 : (a.eval y).cells.size = ys.length := by have := R.1; simpa using this
    rcases q1.2 with ⟨hj, _⟩ | ⟨g, cap, cur, hj, h1, h2, h3, h4, h5, h6⟩
    · rw [hj] at hb; simp [bk] at hb
    have hbg : b = g := by rw [hj] at hb; simpa [bk] using hb.symm
    subst hbg
    have hxl : xs.length ≤ cur.size := by rw [← h6]; simp [List.length_take]; omega
    have hst := run_storeCells_cells (P := C.P) b off (a.eval y).cells.toList 0 w (fun j hj => by
      have : off + 0 + j < cur.size := by have := q3.1; simp at hj; omega
      simp [World.cell?, h2]; omega) (fun j hj => by simp [World.frozen?, h2]) r2
    have hrun : (execOp a.eval o).run C.P w = .ok .skip (w.setCells b off (a.eval y).cells.toList) := by
      simp only [execOp, ho, Sem.run_bind, hv, Instr.storeAt, Instr.sureAddr, Sem.run_pure, Result.andThen_ok, storeVar, sizeOf, typeInfo, run_program, hi1, hi2, r1]
      simp only [Nat.add_zero] at hst
      simp [hst]
    refine ⟨.skip, undef, _, hrun, .inr ⟨rfl, rfl⟩, J, ?_⟩
    rw [hd]
    obtain ⟨us', g1, g2⟩ := setCells_heap (vs := (a.eval y).cells.toList) (o := off) h2
    have gr : w.grownBy (w.setCells b off (a.eval y).cells.toList) (some b) := setCells_grown _ _ _
    have r1' : (a.eval y).cells.toList.length = ys.length := by simpa using r1
    have us_len : us'.size = cur.size := by
      have := congrArg List.length g2
      rw [setAt_length] at this
      simpa using this
    have live : ∀ j, (upd st.h i (some (.row e sz n (setAt cs off ys))) j).isSome = (st.h j).isSome := fun j => by
      by_cases e : j = i
      · subst e; rw [upd_same, hlv]; rfl
      · rw [upd_other _ _ e]
    refine S.write (B := .row e sz n (setAt cs off ys)) hlv hb gr ⟨setAt xs off (a.eval y).cells.toList, ⟨by rw [setAt_length]; exact q1.1, .inr ⟨b, cap, us', hj, h1, g1, h3, h4, by rw [us_len, h5], ?_⟩⟩, q0, setAt_mem q2 r2, ?_⟩ (fun _ e => by cases e)
    · rw [g2, take_setAt _ _ _ _ (by rw [r1', ← q1.1, q3.1]; exact hl), h6]
    · refine RepL.setAt off ?_ ?_
      · exact q3.mono (fun c hcl hm => gr.block c hcl (fun e => by cases e; exact hm (.inr ⟨i, hlv, hb⟩))) gr.size (fun c _ h => h.imp id fun ⟨j, hj, hjb⟩ => ⟨j, by rw [← live]; exact hj, hjb⟩)
      · exact R.mono (fun c hcl hm => gr.block c hcl (fun e => by cases e; exact hm (.inr ⟨i, hlv, hb⟩))) gr.size (fun c _ h => h.imp id fun ⟨j, hj, hjb⟩ => ⟨j, by rw [← live]; exact hj, hjb⟩)
theorem v_append_clip {o : Oper} {st : St} {T n m e sz bs : Nat} {x y : Operand} {cs ys : List FV} {zs : List Value} (ty : Ty C.P) (ho : o.op = .call { callee := .builtin .append, args := #[x, y], argTypes := #[T, T] }) (hd : dstB N o.dst = true)
    (hT : (ty.ty T).sl = some (e, sz, bs)) (hz : (ty.ty e).zero = some zs) (hzl : zs.length = sz) (hsz : 0 < sz) (hx : st.ev C x = .f (.slc n cs)) (hy : st.ev C y = .f (.sl m ys)) (hm : 0 < m) (hln : cs.length = n * sz) (hl : ys.length = m * sz)
    (h63 : n + m ≤ maxLen) (hbs : (n + m) * bs ≤ 140737488355328) : ValOp C N o st (.f (.sl (n + m) (cs ++ ys))) :=
  valop_run hd fun w0 a w J st' hA S => by
    have e1 := evF S ((hA.ev x (by simp [ho, Op.operands, Call.operands])).trans hx)
    have e2 := evF S ((hA.ev y (by simp [ho, Op.operands, Call.operands])).trans hy)
    obtain ⟨hu, it, hi1, hi2, hi3⟩ := slE_spec ((ty.ok T).sl _ hT)
    obtain ⟨it', z, hi4, hzz, hzl'⟩ := zero_spec ((ty.ok e).zero zs hz)
    rw [hi1] at hi4; cases hi4
    have hzs : z.cells.size = sz := by rw [← hzl, ← hzl']; simp
    generalize hxv : a.eval x = xv at e1
    generalize hyv : a.eval y = yv at e2
    cases e1 with
    | slc ad1 _ _ vs o1 o1' o2 o3 o4 =>
    cases e2 with
    | sl ad _ c _ us p0 p1 p2 p3 p4 =>
      have hul : us.length = m * sz := p1.trans hl
      have hus : us ≠ [] := fun e => by
        have hp : 0 < m * sz := Nat.mul_pos hm hsz
        rw [e] at hul; simp at hul; omega
      obtain ⟨b, off, rfl, hlies⟩ := p3 hus
      have hnews : ∀ j u, us[j]? = some u → w.cell? ((⟨b, off, none⟩ : Addr).add j) = some u := fun j u hj => by
        rw [addr_add, hlies.at_ j (List.getElem?_eq_some_iff.1 hj).1]; exact hj
      have hvl : vs.length = n * sz := o1.trans hln
      obtain ⟨v', w', hrun, r1, r2⟩ : ∃ v' w', (Builtin.append_ #[T, T] o.type #[.slice ad1 n n, .slice (some ⟨b, off, none⟩) m c]).run C.P w = .ok v' w' ∧ w'.ownsRow w.heap.size e sz v' (n + m) (vs ++ us) ∧ w.grownBy w' none := by
        cases ad1 with
        | some ad1 =>
          refine run_append_arg_grows (P := C.P) w T o.type e it z sz bs hu hi1 hzz hi2 hi3 hzs hsz ad1 n n vs hvl (fun j u hj => ?_) ⟨b, off, none⟩ m c us hul hnews (by omega) h63 hbs
          obtain ⟨b1, off1, e1, l1⟩ := o3 (fun e => by rw [e] at hj; simp at hj)
          cases e1
          rw [addr_add, l1.at_ j (List.getElem?_eq_some_iff.1 hj).1]; exact hj
        | none =>
          have hn0 := o1' rfl
          subst hn0
          have hv0 : vs = [] := List.eq_nil_of_length_eq_zero (by simpa using hvl)
          subst hv0
          obtain ⟨v', w', h1, h2, h3, _⟩ := run_append_own (P := C.P) w w.heap.size T o.type e it z sz bs hu hi1 hzz hi2 hi3 hzs hsz (.slice none 0 0) 0 [] (World.ownsRow_nil w _ e sz) ⟨b, off, none⟩ m c us hul hnews p2 h63 hbs (Nat.le_refl _)
          exact ⟨v', w', h1, h2, h3⟩
      have hex : Ext w w' := Ext.of_grown r2
      refine ⟨v', w', ?_, hex, ?_⟩
      · simp only [execOp, ho, resolve, invoke, builtin, Sem.run_bind, Sem.run_pure, Result.andThen_ok, List.map_toArray, List.map_cons, List.map_nil, hxv, hyv, hrun]
      · have R : RepL w (Mb C st'.h J) (vs ++ us) (cs ++ ys) := RepL.append ⟨o1, o4⟩ ⟨p1, p4⟩
        have R' := R.ext hex (M' := Mb C st'.h J) (fun _ _ h => h)
        rcases r1.2 with ⟨_, h0⟩ | ⟨g, cap, cur, e1, h1, h2, h3, h4, h5, h6⟩
        · omega
        · subst e1
          refine RepF.sl _ _ cap _ (vs ++ us) h3 R'.1 (fun u hu => by
            rcases List.mem_append.1 hu with h | h
            · exact o2 u h
            · exact p2 u h) (fun _ => ⟨g, 0, rfl, (Array.getElem?_eq_some_iff.1 h2).1, fun hm => by have := S.mb hm; omega, fun k hk => ?_⟩) R'.2
          have := r1.cells (g := g) rfl k _ (List.getElem?_eq_getElem hk)
          rw [addr_add, Nat.zero_add] at this
          rw [Nat.zero_add, this, List.getElem?_eq_getElem hk]
theorem Sim.ownB {w0 : World} {a : Act} {w : World} {J : Nat → Value} {st : St} (S : Sim C w0 N st a w J) (i off e sz : Nat) {cells : List AV} (hi : st.h i = some (.box cells)) (hc : cells[off]? = some (.f (.v (.slice none 0 0)))) (hn : st.h st.nx = none) :
    Sim C w0 N { s := st.s, h := upd (upd st.h i (some (.box (cells.set off (.ow st.nx))))) st.nx (some (.row e sz 0 [])), nx := st.nx + 1 } a w (upd J st.nx (.slice none 0 0)) := by
  obtain ⟨H, hH⟩ : ∃ H, H = upd (upd st.h i (some (.box (cells.set off (.ow st.nx))))) st.nx (some (.row e sz 0 [])) := ⟨_, rfl⟩
  rw [← hH]
  have hne : ∀ j, (st.h j).isSome = true → j ≠ st.nx := fun j h e => by subst e; rw [hn] at h; cases h
  have hin : i ≠ st.nx := hne i (by rw [hi]; rfl)
  have hnx : H st.nx = some (.row e sz 0 []) := by rw [hH, upd_same]
  have hii : H i = some (.box (cells.set off (.ow st.nx))) := by rw [hH, upd_other _ _ hin, upd_same]
  have hoth : ∀ j, j ≠ i → j ≠ st.nx → H j = st.h j := fun j h1 h2 => by rw [hH, upd_other _ _ h2, upd_other _ _ h1]
  have live : ∀ j, j ≠ st.nx → (H j).isSome = (st.h j).isSome := fun j h => by
    by_cases e : j = i
    · subst e; rw [hii, hi]; rfl
    · rw [hoth j e h]
  have hM : ∀ b, b < w.heap.size → Mb C H (upd J st.nx (.slice none 0 0)) b → Mb C st.h J b := by
    rintro b _ (h0 | ⟨j, hj, hb⟩)
    · exact .inl h0
    by_cases ej : j = st.nx
    · subst ej; rw [upd_same] at hb; simp [bk] at hb
    · rw [upd_other _ _ ej] at hb; exact .inr ⟨j, by rw [← live j ej]; exact hj, hb⟩
  have conv : ∀ {v : Value} {x : AV}, RepA C w st.h J v x → RepA C w H (upd J st.nx (.slice none 0 0)) v x := by
    intro v x h
    cases x with
    | f x => exact RepF.ext h (Ext.refl _) hM
    | bx j off => exact ⟨by rw [live j (hne j h.1)]; exact h.1, by rw [upd_other _ _ (hne j h.1)]; exact h.2⟩
    | ow j => exact ⟨by rw [live j (hne j h.1)]; exact h.1, by rw [upd_other _ _ (hne j h.1)]; exact h.2⟩
    | bot => trivial
    | ag j cs => obtain ⟨hs, us, hv, ho, R⟩ := h; exact ⟨by rw [live j (hne j hs)]; exact hs, us, by rw [upd_other _ _ (hne j hs)]; exact hv, ho, R.conv fun _ _ q => RepF.ext q (Ext.refl _) hM⟩
    | fb f cs j => obtain ⟨hs, us, b, hv, hb, R⟩ := h; exact ⟨by rw [live j (hne j hs)]; exact hs, us, b, hv, by rw [upd_other _ _ (hne j hs)]; exact hb, R.conv fun _ _ q => RepF.ext q (Ext.refl _) hM⟩
  refine ⟨S.ext, S.size, S.defs, fun u => conv (S.slot u), fun j B hB => ?_, fun j k b hj hk hjb hkb => ?_, S.old, fun g cs hg => RepF.ext (S.glob g cs hg) (Ext.refl _) hM, fun j p cs' hp hc => ?_⟩
  · show RepB C w w0.heap.size H (upd J st.nx (.slice none 0 0)) _ B
    have hB' : H j = some B := hB
    by_cases ej : j = st.nx
    · subst ej
      rw [hnx] at hB'; cases hB'
      rw [upd_same]
      exact ⟨[], World.ownsRow_nil _ _ _ _, fun b hb => by simp [bk] at hb, by simp, RepL.nil _ _⟩
    rw [upd_other _ _ ej]
    by_cases ei : j = i
    · subst ei
      rw [hii] at hB'; cases hB'
      obtain ⟨c, T, us, q1, q2, q3, q4, q5, q6⟩ := S.blk j _ hi
      refine ⟨c, T, us, q1, q2, q3, by simpa using q4, q5, fun k u x h1 h2 => ?_⟩
      rw [List.getElem?_set] at h2
      split at h2
      · rename_i ek
        subst ek
        split at h2
        · cases h2
          have := repV (q6 off u _ h1 hc)
          exact ⟨by rw [hnx]; rfl, by rw [upd_same]; exact this⟩
        · cases h2
      · exact conv (q6 k u x h1 h2)
    · rw [hoth j ei ej] at hB'
      exact (S.blk j B hB').conv0 (fun _ _ => rfl) (fun _ _ h => h) (fun _ _ => conv) (fun _ _ h => RepF.ext h (Ext.refl _) hM)
  · have nn : ∀ j, bk (upd J st.nx (.slice none 0 0) j) = some b → j ≠ st.nx := fun j h e => by subst e; rw [upd_same] at h; simp [bk] at h
    have h1 := nn j hjb
    have h2 := nn k hkb
    rw [upd_other _ _ h1] at hjb
    rw [upd_other _ _ h2] at hkb
    exact S.apart j k b (by rw [← live j h1]; exact hj) (by rw [← live k h2]; exact hk) hjb hkb
  · have hc' : H j = some (.box cs') := hc
    by_cases ej : j = st.nx
    · subst ej; rw [hnx] at hc'; cases hc'
    rw [upd_other _ _ ej]
    by_cases ei : j = i
    · subst ei; exact S.fix j p cells hp hi
    · rw [hoth j ei ej] at hc'; exact S.fix j p cs' hp hc'
theorem gh_ownB {st : St} (i off e sz : Nat) {cells : List AV} (hi : st.h i = some (.box cells)) (hc : cells[off]? = some (.f (.v (.slice none 0 0)))) (hn : st.h st.nx = none) : Gh C N st { s := st.s, h := upd (upd st.h i (some (.box (cells.set off (.ow st.nx))))) st.nx (some (.row e sz 0 [])), nx := st.nx + 1 } :=
  fun _ _ _ ⟨_, S⟩ => ⟨_, S.ownB i off e sz hi hc hn⟩
theorem v_clip {o : Oper} {st : St} {T E s bs : Nat} {x y z : Operand} {cs : List FV} {n : Nat} {k k' : IntKind} (ty : Ty C.P) (ho : o.op = .slice T x none (some y) (some z)) (hd : dstB N o.dst = true) (hT : (ty.ty T).sl = some (E, s, bs)) (hx : st.ev C x = .f (.sl n cs))
    (hy : st.ev C y = .f (.v (.int k n))) (hz : st.ev C z = .f (.v (.int k' n))) (hs : 0 < s) (hl : cs.length = n * s) : ValOp C N o st (.f (.slc n cs)) :=
  valop_run hd fun w0 a w J st' hA S => by
    have e1 := evF S ((hA.ev x (by simp [ho, Op.operands])).trans hx)
    have e2 := evV S ((hA.ev y (by simp [ho, Op.operands])).trans hy)
    have e3 := evV S ((hA.ev z (by simp [ho, Op.operands])).trans hz)
    obtain ⟨hu, it, hi1, rfl, _⟩ := slE_spec ((ty.ok T).sl _ hT)
    generalize hv : a.eval x = v at e1
    cases e1 with
    | sl ad _ c _ us p0 p1 p2 p3 p4 =>
      have hnc : (n : Int) ≤ c := by omega
      refine ⟨.slice ad n n, w, ?_, Ext.refl _, RepF.slc ad n cs us p1 (fun ha => ?_) p2 p3 p4⟩
      · have hadd : (ad.map fun x : Addr => x.add 0) = ad := by cases ad <;> simp [Addr.add]
        have h0n : (0 : Int) ≤ n := by omega
        simp [execOp, ho, hv, e2, e3, Instr.sliceAt, Instr.slice, run_underlying hu, Instr.sliceBounds, Instr.sliceBound, asIntOf, sizeOf, typeInfo, hi1, h0n, hadd]
        intro hlt; exact absurd hlt (by omega)
      · refine Classical.byContradiction fun h0 => ?_
        have hp : 0 < n * it.size := Nat.mul_pos (by omega) hs
        obtain ⟨b, off, e, _⟩ := p3 (fun e => by rw [e] at p1; simp at p1; omega)
        rw [ha] at e; cases e
def detC : List FV → Option (List Value)
  | [] => some []
  | .v x :: r => match detC r with
    | some l => some (x :: l)
    | none => none
  | _ :: _ => none
def detF : FV → Option Value
  | .v x => some x
  | .agg cs => match detC cs with
    | some l => some (.agg l.toArray)
    | none => none
  | _ => none
theorem detC_spec {w : World} {M : Nat → Prop} : ∀ {cs : List FV} {us l : List Value}, RepL w M us cs → detC cs = some l → us = l
  | [], us, l, R, h => by simp [detC] at h; subst h; exact R.end
  | .v x :: r, us, l, R, h => by
    obtain ⟨u, us', rfl, hu, R'⟩ := R.head
    have := repV hu
    subst this
    cases hr : detC r with
    | none => simp [detC, hr] at h
    | some l' => simp [detC, hr] at h; subst h; rw [detC_spec R' hr]
  | .sl _ _ :: _, _, _, _, h => by simp [detC] at h
  | .agg _ :: _, _, _, _, h => by simp [detC] at h
  | .tup _ :: _, _, _, _, h => by simp [detC] at h
  | .pt _ _ :: _, _, _, _, h => by simp [detC] at h
  | .fn _ _ :: _, _, _, _, h => by simp [detC] at h
  | .slc _ _ :: _, _, _, _, h => by simp [detC] at h
  | .mp _ :: _, _, _, _, h => by simp [detC] at h
theorem detF_spec {w : World} {M : Nat → Prop} {x : FV} {u v : Value} (h : RepF w M u x) (hd : detF x = some v) : u = v := by
  cases h with
  | v _ => simp [detF] at hd; exact hd
  | agg cs us h1 h2 h3 =>
    cases hr : detC cs with
    | none => simp [detF, hr] at hd
    | some l => simp [detF, hr] at hd; subst hd; rw [detC_spec ⟨h1, h3⟩ hr]
  | _ => simp [detF] at hd
theorem v_lookup {o : Oper} {st : St} {T : TypeId} {x y : Operand} {ok : Bool} {G : Obj → Prop} {kf r : FV} {kv rv : Value} (ho : o.op = .lookup T x y ok) (hd : dstB N o.dst = true) (hx : st.ev C x = .f (.mp G)) (hy : st.ev C y = .f kf) (hk : detF kf = some kv)
    (hrun : ∀ ob r w, G ob → w.heap[r]? = some ob → (Instr.lookup T (.map (some r)) kv ok).run C.P w = .ok rv w) (hr : ∀ w M, RepF w M rv r) : ValOp C N o st (.f r) :=
  valop_run hd fun w0 a w J st' hA S => by
    have e1 := evF S ((hA.ev x (by simp [ho, Op.operands])).trans hx)
    have e2 := detF_spec (evF S ((hA.ev y (by simp [ho, Op.operands])).trans hy)) hk
    generalize hv : a.eval x = v at e1
    cases e1 with
    | mp r G L =>
      obtain ⟨ob, h1, h2, _⟩ := L.at_
      exact ⟨rv, w, by simp [execOp, ho, hv, e2, hrun ob r w h2 h1], Ext.refl _, hr _ _⟩
structure SummN (P : Program) (G : Nat → Option (List FV)) (g : Nat) (args : List FV) (e sz n : Nat) (cs : List FV) : Prop where
  enters : Enters P g
  call : ∀ (w : World) (M : Nat → Prop) (us : List Value), (∀ b, M b → b < w.heap.size) → (∀ g cs, G g = some cs → RepF w M (.pointer (some ⟨g, 0, none⟩)) (.pt cs 0)) → RepL w M us args →
    Calls P g us.toArray w fun en w' => ∃ v xs, en = .returned v ∧ w'.ownsRow w.heap.size e sz v n xs ∧ (∀ u ∈ xs, u.oneCell' = true) ∧ RepL w' (fun b => M b ∨ bk v = some b) xs cs ∧ Ext w w'
theorem callEnter {a : Act} {w : World} {o : Oper} {f : Operand} {args : Array Operand} {ts : Array TypeId} {g : Nat} {us : List Value} {P : Program} (he : Enters P g) (ho : o.op = .call { callee := .value f, args := args, argTypes := ts }) (hv : a.eval f = .func (.func g) #[] us.toArray) :
    (execOp a.eval o).run P w = .ok (.enter g (args.toList.map a.eval ++ us).toArray) w := by
  have e2 : (args.map a.eval ++ us.toArray) = (args.toList.map a.eval ++ us).toArray := by
    apply Array.ext'; simp
  simp only [execOp, ho, resolve, hv, Deferred.ofValue, Sem.run_bind, Sem.run_pure, Result.andThen_ok, invoke]
  rw [show (#[] : Array Value) ++ args.map a.eval = args.map a.eval by simp, e2]
  exact he _ _
theorem a_callN {o : Oper} {st : St} {f : Operand} {args : Array Operand} {ts : Array TypeId} {g e sz n : Nat} {caps xs ys cs : List FV} (K : SummN C.P C.G g ys e sz n cs) (ho : o.op = .call { callee := .value f, args := args, argTypes := ts }) (hd : dstB N o.dst = true) (hf : st.ev C f = .f (.fn g caps)) (hxs : st.evL C args.toList = some xs) (hys : xs ++ caps = ys) : AllOp C N o st (.ow st.nx) (.row e sz n cs) := by
  intro w0 a w st' hA hn ⟨J, S⟩ K1 Q hK
  have e1 := evF S ((hA.ev f (by simp [ho, Op.operands, Call.operands])).trans hf)
  have R := evL_rep (st := st) S (fun x hx => hA.ev x (by simp [ho, Op.operands, Call.operands]; exact .inr (by simpa using hx))) hxs
  generalize hv : a.eval f = v at e1
  cases e1 with
  | fn _ _ us h1 h2 =>
    subst hys
    refine op_enter (callEnter K.enters ho hv) ?_
    refine Calls.mono (K.call w (Mb C st'.h J) _ (mb_lt S) S.glob (RepL.append R ⟨h1, h2⟩)) ?_
    rintro en w' ⟨v', zs, rfl, hown, hone, hr, he⟩
    have hlt : ∀ c, bk v' = some c → w.heap.size ≤ c := fun c hc => (hown.lt c (by rw [← own_bk hown]; exact hc)).1
    refine hK v' w' ⟨upd J st.nx v', S.al hn hd he hlt ⟨zs, hown.below (Nat.zero_le _), fun b hb => .inl (Nat.le_trans S.ext.le (hlt b hb)), hone, hr.mono (fun _ _ _ => rfl) (Nat.le_refl _) (fun b hb hm => ?_)⟩ ⟨by rw [upd_same]; rfl, by rw [upd_same]⟩ (fun _ e => by cases e)⟩
    rcases hm with h0 | ⟨i, hi, hbi⟩
    · exact .inl (.inl h0)
    by_cases e : i = st.nx
    · subst e; rw [upd_same] at hbi; exact .inr hbi
    · rw [upd_other _ _ e] at hi hbi; exact .inl (.inr ⟨i, hi, hbi⟩)
structure SummM (P : Program) (G : Nat → Option (List FV)) (g e sz n : Nat) (cs : List FV) (args : List FV) (n' : Nat) (cs' : List FV) : Prop where
  enters : Enters P g
  call : ∀ (w : World) (M : Nat → Prop) (us : List Value) (v : Value) (xs : List Value), (∀ b, M b → b < w.heap.size) → (∀ b, bk v = some b → ¬ M b) → (∀ g cs, G g = some cs → RepF w (fun b => M b ∨ bk v = some b) (.pointer (some ⟨g, 0, none⟩)) (.pt cs 0)) →
    RepL w (fun b => M b ∨ bk v = some b) us args → w.ownsRow 0 e sz v n xs → (∀ u ∈ xs, u.oneCell' = true) → RepL w (fun b => M b ∨ bk v = some b) xs cs →
    Calls P g (v :: us).toArray w fun en w' => ∃ v' xs', en = .returned v' ∧ w'.ownsRow 0 e sz v' n' xs' ∧ (∀ u ∈ xs', u.oneCell' = true) ∧ RepL w' (fun b => M b ∨ bk v' = some b) xs' cs' ∧ w.grownBy w' (bk v) ∧ ∀ c, bk v' = some c → bk v = some c ∨ w.heap.size ≤ c
theorem e_callM {o : Oper} {st : St} {f x0 : Operand} {args : Array Operand} {ars : List Operand} {ts : Array TypeId} {g i e sz n n' d : Nat} {cs cs' ys : List FV} (K : SummM C.P C.G g e sz n cs ys n' cs') (ho : o.op = .call { callee := .value f, args := args, argTypes := ts }) (hd : o.dst = some d) (hdN : dstB N o.dst = true) (hf : st.ev C f = .f (.fn g [])) (ha : args.toList = x0 :: ars) (hx : st.ev C x0 = .ow i) (hi : st.h i = some (.row e sz n cs)) (hxs : st.evL C ars = some ys) :
    EffOp C N o st ((st.grow i (.row e sz n' cs')).put (some d) (.ow i)) := by
  intro w0 a w ⟨J, S⟩ K1 Q hK
  have e1 := evF S hf
  have e2 := S.eval x0
  rw [hx] at e2
  obtain ⟨hlv, hv0⟩ := e2
  have R := evL_rep (st := st) (st' := st) S (fun x _ => rfl) hxs
  generalize hv : a.eval f = v at e1
  cases e1 with
  | fn _ _ us h1 h2 =>
    have hus : us = [] := List.eq_nil_of_length_eq_zero h1
    subst hus
    obtain ⟨xs, q1, q0, q2, q3⟩ := S.blk i _ hi
    have hrun := callEnter (w := w) K.enters ho hv
    rw [ha, List.append_nil, List.map_cons, hv0] at hrun
    have hMle : ∀ b, b < w.heap.size → ((Mb C st.h J b ∧ bk (J i) ≠ some b) ∨ bk (J i) = some b) → Mb C st.h J b := fun b _ h => h.elim (fun h => h.1) (fun h => .inr ⟨i, hlv, h⟩)
    have hM0 : ∀ b, C.M0 b → bk (J i) ≠ some b := fun b h0 hb => by
      have h1 := S.old b h0
      rcases (S.own_at hlv hb).1 with h2 | h2
      · omega
      · exact h1.2 h2
    refine op_enter hrun ?_
    refine Calls.mono (K.call w (fun b => Mb C st.h J b ∧ bk (J i) ≠ some b) _ (J i) xs (fun b h => S.mb h.1) (fun b hb h => h.2 hb) (fun g cs hg => (S.glob g cs hg).ext (Ext.refl _) hMle) (R.ext (Ext.refl _) hMle) q1 q2 (q3.ext (Ext.refl _) hMle)) ?_
    rintro en w' ⟨v', xs', rfl, r1, r2, r3, r4, r5⟩
    refine hK v' w' ⟨upd J i v', ?_⟩
    rw [hd] at hdN ⊢
    refine Sim.put (S.regrow (B := .row e sz n' cs') hlv r4 r5 ⟨xs', r1, fun b hb => ?_, r2, r3.mono (fun _ _ _ => rfl) (Nat.le_refl _) (fun b hb hm => ?_)⟩ (fun _ e => by cases e)) hdN ⟨by simp [St.grow], by rw [upd_same]⟩
    · rcases r5 b hb with h | h
      · exact q0 b h
      · exact .inl (Nat.le_trans S.ext.le h)
    · rcases hm with h0 | ⟨j, hj, hjb⟩
      · exact .inl ⟨.inl h0, hM0 b h0⟩
      by_cases ej : j = i
      · subst ej; rw [upd_same] at hjb; exact .inr hjb
      · rw [upd_other _ _ ej] at hjb
        have hj' : (st.h j).isSome = true := by simpa [St.grow, killA_ne ej] using hj
        exact .inl ⟨.inr ⟨j, hj', hjb⟩, fun h => ej (S.apart j i b hj' hlv hjb h)⟩
def stM (e sz n : Nat) (cs args : List FV) : St := ⟨fun t => match t with | 0 => .ow 0 | t + 1 => (match args[t]? with | some x => .f x | none => .bot), fun i => match i with | 0 => some (.row e sz n cs) | _ => none, 1⟩
def RetM (_C : Ctx) (_N : Nat) (fn : Func) (e sz n : Nat) (cs : List FV) (st : St) : Prop := ∃ t, fn.results = #[.tmp t] ∧ st.s t = .ow 0 ∧ st.h 0 = some (.row e sz n cs)
def LeavesM (C : Ctx) (N : Nat) (fn : Func) (e sz n : Nat) (cs : List FV) : Exit → St → Prop
  | .normal, st => RetM C N fn e sz n cs st
  | .ret, st => RetM C N fn e sz n cs st
  | _, _ => False
theorem summM_of {P : Program} {G : Nat → Option (List FV)} {f : Nat} {fn : Func} {c : Code} {e sz n n' : Nat} {cs cs' args : List FV} (hf : P.funcs[f]? = some fn) (hb : fn.body = some c) (hname : (fn.name == "runtime.NumGoroutine") = false) (N : Nat) (hn : fn.ntmps = N) (hl : args.length + 1 ≤ N)
    (h : ∀ M0 X : Nat → Prop, W ⟨P, G, M0, X, none, fun _ => none⟩ N c (LeavesM ⟨P, G, M0, X, none, fun _ => none⟩ N fn e sz n' cs') (stM e sz n cs args)) : SummM P G f e sz n cs args n' cs' := by
  refine ⟨enters_of hf hname hb, fun w M us v xs hM hMv hG R own one Rx => ?_⟩
  obtain ⟨X, hX⟩ : ∃ X : Nat → Prop, X = fun b => bk v = some b := ⟨_, rfl⟩
  have hMM : ∀ b, b < w.heap.size → Mb ⟨P, G, M, X, none, fun _ => none⟩ (stM e sz n cs args).h (fun _ => v) b → (M b ∨ bk v = some b) := fun b _ h => h.imp id (fun ⟨_, _, h⟩ => h)
  have hlive : ∀ i, ((stM e sz n cs args).h i).isSome = true → i = 0 := fun i hi => by
    cases i with
    | zero => rfl
    | succ i => simp [stM] at hi
  refine calls_of_wp_marks hf hb (wpIn_wide.1 ((h M X).out w _ w _ ⟨fun _ => v, Grew.refl _ _, ?_, ⟨trivial, fun _ => rfl⟩, fun t => ?_, fun i B hB => ?_, fun i j b hi hj _ _ => by rw [hlive i hi, hlive j hj], fun b hb => ⟨hM b hb, by rw [hX]; exact fun h => hMv b h hb⟩, fun g cs hg => (hG g cs hg).ext (Ext.refl _) hMM, fun _ _ _ h => (by cases h)⟩ ?_))
  · have := R.1; simp [hn]; omega
  · show RepA _ w _ _ (((v :: us).toArray ++ Array.replicate (fn.ntmps - (v :: us).toArray.size) undef).getD t undef) _
    cases t with
    | zero =>
      refine ⟨rfl, ?_⟩
      rw [Array.getD_eq_getD_getElem?, Array.getElem?_append_left (by simp)]
      simp
    | succ t =>
      show RepA _ w _ _ _ (match args[t]? with | some x => .f x | none => .bot)
      cases ha : args[t]? with
      | none => trivial
      | some x =>
        obtain ⟨u, hu, hr⟩ := R.get ha
        have hlt : t < us.length := (List.getElem?_eq_some_iff.1 hu).1
        have : ((v :: us).toArray ++ Array.replicate (fn.ntmps - (v :: us).toArray.size) undef).getD (t + 1) undef = u := by
          rw [Array.getD_eq_getD_getElem?, Array.getElem?_append_left (by simpa using hlt)]
          simp [hu]
        rw [this]
        exact hr.ext (Ext.refl _) hMM
  · have h0 : i = 0 := hlive i (by rw [hB]; rfl)
    subst h0
    have : B = .row e sz n cs := by simpa [stM] using hB.symm
    subst this
    exact ⟨xs, own, fun b hb => .inr (by rw [hX]; exact hb), one, Rx.ext (Ext.refl _) hMM⟩
  · intro en st' a' w' q S'
    have fin : RetM ⟨P, G, M, X, none, fun _ => none⟩ N fn e sz n' cs' st' → ∀ W', KeepsP Obj.stays w.heap.size w' W' → ∃ v1, (results fn a'.tmps).run P W' = .ok v1 W' ∧ ∃ v' xs', Ending.returned v1 = .returned v' ∧ W'.ownsRow 0 e sz v' n' xs' ∧ (∀ u ∈ xs', u.oneCell' = true) ∧ RepL W' (fun b => M b ∨ bk v' = some b) xs' cs' ∧ w.grownBy W' (bk v) ∧ ∀ c, bk v' = some c → bk v = some c ∨ w.heap.size ≤ c := fun ⟨t, q1, q2, q3⟩ W' hk => by
      obtain ⟨J, S1⟩ := S'
      have S2 := S1.keeps0 hk (Nat.le_refl _) (ds := []) ⟨trivial, fun _ => rfl⟩
      have hs := S2.slot t
      rw [q2] at hs
      obtain ⟨xs', p1, p0, p2, p3⟩ := S2.blk 0 _ q3
      refine ⟨a'.tmps.getD t undef, by rw [results_eq, q1]; simp [rvS], J 0, xs', by rw [← hs.2], p1, p2, p3.mono (fun _ _ _ => rfl) (Nat.le_refl _) (fun b _ h => h.imp id (fun h => ⟨0, by rw [q3]; rfl, h⟩)), ⟨S2.ext.os, S2.ext.tape, S2.ext.output, S2.ext.le, fun k hk hne => S2.ext.block k hk (by show ¬ X k; rw [hX]; exact fun h => hne h.symm)⟩, fun c hc => ?_⟩
      have := p0 c hc
      rw [show (Ctx.X ⟨P, G, M, X, none, fun _ => none⟩) = X from rfl, hX] at this
      exact this.symm
    have hm : Marks w.heap.size w' a'.defers := let ⟨_, S2⟩ := S'; S2.defs.1
    cases en with
    | normal => exact bodyPostM_marksP (s := Obj.stays) (fun _ => rfl) _ hm (fin q)
    | ret => exact bodyPostM_marksP (s := Obj.stays) (fun _ => rfl) _ hm (fin q)
    | _ => exact q.elim
def RetN (_C : Ctx) (_N : Nat) (fn : Func) (e sz n : Nat) (cs : List FV) (st : St) : Prop := ∃ t i, fn.results = #[.tmp t] ∧ st.s t = .ow i ∧ st.h i = some (.row e sz n cs)
def LeavesN (C : Ctx) (N : Nat) (fn : Func) (e sz n : Nat) (cs : List FV) : Exit → St → Prop
  | .normal, st => RetN C N fn e sz n cs st
  | .ret, st => RetN C N fn e sz n cs st
  | _, _ => False
theorem summN_of {P : Program} {G : Nat → Option (List FV)} {f : Nat} {fn : Func} {c : Code} {args cs : List FV} {e sz m : Nat} (hf : P.funcs[f]? = some fn) (hb : fn.body = some c) (hname : (fn.name == "runtime.NumGoroutine") = false) (n : Nat) (hn : fn.ntmps = n) (hl : args.length ≤ n)
    (h : ∀ M0 : Nat → Prop, W ⟨P, G, M0, fun _ => False, none, fun _ => none⟩ n c (LeavesN ⟨P, G, M0, fun _ => False, none, fun _ => none⟩ n fn e sz m cs) (st0 args)) : SummN P G f args e sz m cs := by
  refine ⟨enters_of hf hname hb, fun w M us hM hG R => ?_⟩
  refine calls_of_wp_marks hf hb (wpIn_wide.1 ((h M).out w _ w _ ⟨fun _ => undef, Grew.refl _ _, ?_, ⟨trivial, fun _ => rfl⟩, fun t => ?_, fun i B hB => (by cases hB), fun i j b hi => (by cases hi), fun b hb => ⟨hM b hb, id⟩, fun g cs hg => (hG g cs hg).ext (Ext.refl _) (fun b _ (h : Mb ⟨P, G, M, fun _ => False, none, fun _ => none⟩ (fun _ => none) (fun _ => undef) b) => h.elim id (fun ⟨_, hi, _⟩ => by cases hi)), fun _ _ _ h => (by cases h)⟩ ?_))
  · have := R.1; simp [hn]; omega
  · have hMM : ∀ b, b < w.heap.size → Mb ⟨P, G, M, fun _ => False, none, fun _ => none⟩ (fun _ => none) (fun _ => undef) b → M b := fun b _ h => h.elim id (fun ⟨_, hi, _⟩ => by cases hi)
    show RepA _ w _ _ ((us.toArray ++ Array.replicate (fn.ntmps - us.toArray.size) undef).getD t undef) (match args[t]? with | some x => .f x | none => .bot)
    cases ha : args[t]? with
    | none => trivial
    | some x =>
      obtain ⟨u, hu, hr⟩ := R.get ha
      have hlt : t < us.length := (List.getElem?_eq_some_iff.1 hu).1
      have : (us.toArray ++ Array.replicate (fn.ntmps - us.toArray.size) undef).getD t undef = u := by
        rw [Array.getD_eq_getD_getElem?, Array.getElem?_append_left (by simpa using hlt)]
        simp [hu]
      rw [this]
      exact hr.ext (Ext.refl _) hMM
  · intro en st' a' w' q S'
    have fin : RetN ⟨P, G, M, fun _ => False, none, fun _ => none⟩ n fn e sz m cs st' → ∀ W', KeepsP Obj.stays w.heap.size w' W' → ∃ v1, (results fn a'.tmps).run P W' = .ok v1 W' ∧ ∃ v xs, Ending.returned v1 = .returned v ∧ W'.ownsRow w.heap.size e sz v m xs ∧ (∀ u ∈ xs, u.oneCell' = true) ∧ RepL W' (fun b => M b ∨ bk v = some b) xs cs ∧ Ext w W' := fun ⟨t, i, q1, q2, q3⟩ W' hk => by
      obtain ⟨J, S1⟩ := S'
      have S2 := S1.keeps0 hk (Nat.le_refl _) (ds := []) ⟨trivial, fun _ => rfl⟩
      have hs := S2.slot t
      rw [q2] at hs
      obtain ⟨xs', p1, p0, p2, p3⟩ := S2.blk i _ q3
      refine ⟨a'.tmps.getD t undef, by rw [results_eq, q1]; simp [rvS], J i, xs', by rw [← hs.2], ⟨p1.1, ?_⟩, p2, p3.mono (fun _ _ _ => rfl) (Nat.le_refl _) (fun b _ h => h.imp id (fun h => ⟨i, by rw [q3]; rfl, h⟩)), S2.ext.toExt⟩
      rcases p1.2 with h | ⟨g, cap, cur, h1, h2, h3⟩
      · exact .inl h
      · refine .inr ⟨g, cap, cur, h1, ?_, h3⟩
        rcases p0 g (by rw [h1]; rfl) with h | h
        · exact h
        · exact h.elim
    have hm : Marks w.heap.size w' a'.defers := let ⟨_, S2⟩ := S'; S2.defs.1
    cases en with
    | normal => exact bodyPostM_marksP (s := Obj.stays) (fun _ => rfl) _ hm (fin q)
    | ret => exact bodyPostM_marksP (s := Obj.stays) (fun _ => rfl) _ hm (fin q)
    | _ => exact q.elim
variable {Q : Exit → St → Prop} {st : St} {ops : Array Oper} {pr : Bool} {K : St → Prop} {rest : List Oper}
theorem s_append_clip (ty : Ty C.P) {d : Option Tmp} {T0 : TypeId} {pos : String} {af : Array Edge} {T n m e sz bs : Nat} {x y : Operand} {cs ys : List FV} {zs : List Value} (hd : dstB N d = true) (hT : (ty.ty T).sl = some (e, sz, bs)) (hz : (ty.ty e).zero = some zs) (hzl : zs.length = sz) (hsz : Nat.blt 0 sz = true) (hx : st.ev C x = .f (.slc n cs)) (hy : st.ev C y = .f (.sl m ys)) (hm : Nat.blt 0 m = true) (hln : cs.length = n * sz) (hl : ys.length = m * sz) (h63 : n + m ≤ maxLen) (hbs : (n + m) * bs ≤ 140737488355328) (h : R C N ops pr K rest (st.put d (.f (.sl (n + m) (cs ++ ys))))) : R C N ops pr K (⟨d, .call { callee := .builtin .append, args := #[x, y], argTypes := #[T, T] }, T0, pos, af, none⟩ :: rest) st := ⟨r_val rfl (v_append_clip ty rfl hd hT hz hzl (Nat.le_of_ble_eq_true hsz) hx hy (Nat.le_of_ble_eq_true hm) hln hl h63 hbs) h.out⟩
theorem s_lookup {d : Option Tmp} {T0 : TypeId} {pos : String} {af : Array Edge} {T : TypeId} {x y : Operand} {ok : Bool} {G : Obj → Prop} {kf r : FV} {kv rv : Value} (hd : dstB N d = true) (hx : st.ev C x = .f (.mp G)) (hy : st.ev C y = .f kf) (hk : detF kf = some kv) (hrun : ∀ ob r w, G ob → w.heap[r]? = some ob → (Instr.lookup T (.map (some r)) kv ok).run C.P w = .ok rv w) (hr : ∀ w M, RepF w M rv r) (h : R C N ops pr K rest (st.put d (.f r))) : R C N ops pr K (⟨d, .lookup T x y ok, T0, pos, af, none⟩ :: rest) st := ⟨r_val rfl (v_lookup rfl hd hx hy hk hrun hr) h.out⟩
theorem s_storeR (ty : Ty C.P) {T0 : TypeId} {pos : String} {af : Array Edge} {T i off e sz n : Nat} {x y : Operand} {cs ys : List FV} {z : FV} (hx : st.ev C x = .bx i off) (hi : st.h i = some (.row e sz n cs)) (hy : st.ev C y = .f z) (hc : cellsF z = some ys) (hT : sizeB (ty.ty T) ys.length = true) (hl : off + ys.length ≤ cs.length) (h : R C N ops false K rest { st with h := upd st.h i (some (.row e sz n (setAt cs off ys))) }) : R C N ops false K (⟨none, .store T x y, T0, pos, af, none⟩ :: rest) st := ⟨r_eff rfl (e_storeR ty rfl rfl hx hi hy hc hT hl) h.out⟩
theorem s_callN {d : Option Tmp} {T0 : TypeId} {pos : String} {af : Array Edge} {f : Operand} {args : Array Operand} {ts : Array TypeId} {gf e sz n : Nat} {caps xs ys cs : List FV} (S : SummN C.P C.G gf ys e sz n cs) (hd : dstB N d = true) (hn : st.h st.nx = none) (hf : st.ev C f = .f (.fn gf caps)) (hxs : st.evL C args.toList = some xs) (hys : xs ++ caps = ys) (h : R C N ops pr K rest ⟨(st.put d (.ow st.nx)).s, upd st.h st.nx (some (.row e sz n cs)), st.nx + 1⟩) : R C N ops pr K (⟨d, .call { callee := .value f, args := args, argTypes := ts }, T0, pos, af, none⟩ :: rest) st := ⟨r_all rfl rfl hn (a_callN S rfl hd hf hxs hys) h.out⟩
theorem s_callM {d : Nat} {T0 : TypeId} {pos : String} {af : Array Edge} {f x0 : Operand} {args : Array Operand} {ars : List Operand} {ts : Array TypeId} {g i e sz n n' : Nat} {cs cs' ys : List FV} (S : SummM C.P C.G g e sz n cs ys n' cs') (hd : dstB N (some d) = true) (hf : st.ev C f = .f (.fn g [])) (ha : args.toList = x0 :: ars) (hx : st.ev C x0 = .ow i) (hi : st.h i = some (.row e sz n cs)) (hxs : st.evL C ars = some ys) (h : R C N ops false K rest ((st.grow i (.row e sz n' cs')).put (some d) (.ow i))) : R C N ops false K (⟨some d, .call { callee := .value f, args := args, argTypes := ts }, T0, pos, af, none⟩ :: rest) st := ⟨r_eff rfl (e_callM S rfl rfl hd hf ha hx hi hxs) h.out⟩
theorem s_clip (ty : Ty C.P) {d : Option Tmp} {T0 : TypeId} {pos : String} {af : Array Edge} {T E s bs : Nat} {x y z : Operand} {cs : List FV} {n : Nat} {k k' : IntKind} (hd : dstB N d = true) (hT : (ty.ty T).sl = some (E, s, bs)) (hx : st.ev C x = .f (.sl n cs)) (hy : st.ev C y = .f (.v (.int k n))) (hz : st.ev C z = .f (.v (.int k' n))) (hs : Nat.blt 0 s = true) (hl : cs.length = n * s) (h : R C N ops pr K rest (st.put d (.f (.slc n cs)))) : R C N ops pr K (⟨d, .slice T x none (some y) (some z), T0, pos, af, none⟩ :: rest) st := ⟨r_val rfl (v_clip ty rfl hd hT hx hy hz (Nat.le_of_ble_eq_true hs) hl) h.out⟩
theorem s_ghost {o : Oper} {st' : St} (hg : o.guard = none) (g : Gh C N st st') (h : R C N ops false K (o :: rest) st') : R C N ops false K (o :: rest) st := by
  refine ⟨?_⟩
  obtain ⟨st2, h1, h2⟩ := h.out
  have hw1 : wantB st ops o = some true := by unfold wantB; simp [hg]
  cases h1 with
  | val r hw hv => exact ⟨_, .eff _ rfl hw1 (fun w0 a w S K1 Q hK => hv w0 a w st' (agree_refl o st') (g w0 a w S) K1 Q hK), h2⟩
  | all r B hw _ hv hn => exact ⟨_, .eff _ rfl hw1 (fun w0 a w S K1 Q hK => hv w0 a w st' (agree_refl o st') hn (g w0 a w S) K1 Q (fun v w' h => hK v w' h.nx)), h2⟩
  | skip hw hd => unfold wantB at hw; simp [hg] at hw
  | stay k B hw hv hk _ => exact ⟨_, .eff _ rfl hw1 (fun w0 a w S K1 Q hK => hv.2 w0 a w st' (agree_refl o st') hk (g w0 a w S) K1 Q hK), h2⟩
  | eff st1 _ hw hv => exact ⟨_, .eff _ rfl hw1 (fun w0 a w S K1 Q hK => hv w0 a w (g w0 a w S) K1 Q hK), h2⟩
theorem ret_gh {fn : Func} {r : FV} {st' : St} (g : Gh C N st st') (h : RetOk C N fn r st') : RetOk C N fn r st := fun w0 a w S => h w0 a w (g w0 a w S)
theorem le_nil {h : Nat → Option Blk} (s : Nat → AV) : ∀ t, (fun _ : Nat => AV.bot) t = .bot ∨ ((fun _ : Nat => AV.bot) t = s t ∧ closedA h ((fun _ : Nat => AV.bot) t)) := fun _ => .inl rfl
theorem le_upd {h : Nat → Option Blk} {s s' : Nat → AV} {k : Nat} {a : AV} (ha : a = s k) (hc : closedA h a) (hr : ∀ t, s' t = .bot ∨ (s' t = s t ∧ closedA h (s' t))) : ∀ t, upd s' k a t = .bot ∨ (upd s' k a t = s t ∧ closedA h (upd s' k a t)) := fun t => by
  by_cases e : t = k
  · subst e; rw [upd_same]; exact .inr ⟨ha, hc⟩
  · rw [upd_other _ _ e]; exact hr t
theorem le_h0 (h : Nat → Option Blk) (hc : Nat → Option Blk) : ∀ i, (fun _ : Nat => (none : Option Blk)) i = none ∨ (∃ B, (fun _ : Nat => (none : Option Blk)) i = some B ∧ h i = some B ∧ closedB hc B) := fun _ => .inl rfl
theorem le_hupd {h h' hc : Nat → Option Blk} {k : Nat} {B : Blk} (hB : h k = some B) (hcl : closedB hc B) (hr : ∀ i, h' i = none ∨ (∃ B, h' i = some B ∧ h i = some B ∧ closedB hc B)) : ∀ i, upd h' k (some B) i = none ∨ (∃ B', upd h' k (some B) i = some B' ∧ h i = some B' ∧ closedB hc B') := fun i => by
  by_cases e : i = k
  · subst e; rw [upd_same]; exact .inr ⟨B, rfl, hB, hcl⟩
  · rw [upd_other _ _ e]; exact hr i
theorem flat_ne {α : Type} {f : α → List FV} {s : Nat} (hs : ∀ x, (f x).length = s) (h0 : 0 < s) {l : List α} {k : Nat} (hk : k < l.length) : l.flatMap f ≠ [] := fun e => by
  have := flatMap_length hs l
  rw [e] at this
  have hp : 0 < l.length * s := Nat.mul_pos (by omega) h0
  simp at this; omega
theorem flat_at {α : Type} {f : α → List FV} {s : Nat} (hs : ∀ x, (f x).length = s) {l : List α} {k j : Nat} (hk : k < l.length) (hj : j < s) : (l.flatMap f)[k * s + j]? = (f l[k])[j]? := flatMap_getElem? hs l k j hk hj
theorem flat_sub {α : Type} {f : α → List FV} {s : Nat} (hs : ∀ x, (f x).length = s) {l : List α} {k : Nat} (hk : k < l.length) : ((l.flatMap f).drop (k * s)).take s = f l[k] := by
  refine List.ext_getElem? fun j => ?_
  rw [List.getElem?_take]
  split
  · rename_i hj; rw [List.getElem?_drop, flat_at hs hk hj]
  · rename_i hj; rw [List.getElem?_eq_none (by rw [hs]; omega)]
theorem map_ne {α : Type} {f : α → FV} {l : List α} {k : Nat} (hk : k < l.length) : l.map f ≠ [] := fun e => by
  have := congrArg List.length e
  simp at this; rw [this] at hk; simp at hk
theorem map_at {α : Type} {f : α → FV} {l : List α} {k : Nat} (hk : k < l.length) : (l.map f)[k * 1]? = some (f l[k]) := by rw [Nat.mul_one]; simp [hk]
theorem s_idxN (ty : Ty C.P) {d : Option Tmp} {T0 : TypeId} {pos : String} {af : Array Edge} {T : TypeId} {x y : Operand} {cs : List FV} {n E s bs m : Nat} {k : IntKind} (hd : dstB N d = true) (hT : (ty.ty T).sl = some (E, s, bs)) (hx : st.ev C x = .f (.sl n cs)) (hy : st.ev C y = .f (.v (.int k (m : Int)))) (hn : m < n) (hc : cs ≠ []) (h : R C N ops pr K rest (st.put d (.f (.pt cs (m * s))))) : R C N ops pr K (⟨d, .indexAddr T x y, T0, pos, af, none⟩ :: rest) st := s_idx ty hd hT hx hy (by omega) (by omega) hc (by simpa using h)
theorem s_idxN_ow (ty : Ty C.P) {d : Option Tmp} {T0 : TypeId} {pos : String} {af : Array Edge} {T : TypeId} {x y : Operand} {cs : List FV} {i n e sz E s bs m : Nat} {k : IntKind} (hd : dstB N d = true) (hT : (ty.ty T).sl = some (E, s, bs)) (hx : st.ev C x = .ow i) (hi : st.h i = some (.row e sz n cs)) (hy : st.ev C y = .f (.v (.int k (m : Int)))) (hn : m < n) (h : R C N ops pr K rest (st.put d (.bx i (m * s)))) : R C N ops pr K (⟨d, .indexAddr T x y, T0, pos, af, none⟩ :: rest) st := s_idx_ow ty hd hT hx hi hy (by omega) (by omega) (by simpa using h)
end
end Go.Ab
namespace Go.Proofs.YtienhiloecfgnaaDoor
open Go Go.RowKit Go.Proofs Go.Shelf Go.Ab
def iv (z : Int) : FV := .v (.int .i64 z)
def intsF (l : List Int) : List FV := l.map iv
def layF (y : Layer) : List FV := [iv y.delay, iv y.loss, iv y.scatter]
def celF (c : Cel) : List FV := [iv c.col, iv c.row]
def rngF (r : Rng) : List FV := [iv r.lo, iv r.hi]
def flaF (f : Flash) : List FV := [.v (.string f.name), iv f.frm.col, iv f.frm.row, iv f.to.col, iv f.to.row, iv f.time.lo, iv f.time.hi]
def laysF (l : List Layer) : List FV := l.flatMap layF
def celsF (l : List Cel) : List FV := l.flatMap celF
def rngsF (l : List Rng) : List FV := l.flatMap rngF
def flasF (l : List Flash) : List FV := l.flatMap flaF
def boolsF (l : List Bool) : List FV := l.map fun b => .v (.bool b)
def gridL (x : Grid) : List FV := [.sl x.layers.length (laysF x.layers), iv x.rows, .sl x.tilt.length (intsF x.tilt)]
def gridF (x : Grid) : FV := .agg (gridL x)
def classL (x : Grid) (rs : List Rng) : List FV := gridL x ++ [.sl rs.length (rngsF rs)]
def classF (x : Grid) (rs : List Rng) : FV := .agg (classL x rs)
def holeL (h : Hole) : List FV := [.sl h.widths.length (intsF h.widths), .sl h.shrinks.length (intsF h.shrinks), iv h.need]
def holeF (h : Hole) : FV := .agg (holeL h)
def sidesF : List FV := [iv (-1), iv 0, iv 0, iv (-1), iv 0, iv 1, iv 1, iv 0]
def GG : Nat → Option (List FV) := fun g => bif Nat.beq g 0 then some sidesF else none
theorem detC_append : ∀ {a b : List FV} {p q : List Value}, detC a = some p → detC b = some q → detC (a ++ b) = some (p ++ q)
  | [], b, p, q, h, h' => by simp [detC] at h; subst h; simpa using h'
  | .v x :: a, b, p, q, h, h' => by
    cases hr : detC a with
    | none => simp [detC, hr] at h
    | some l => simp [detC, hr] at h; subst h; simp [detC, detC_append hr h']
  | .sl _ _ :: _, _, _, _, h, _ => by simp [detC] at h
  | .agg _ :: _, _, _, _, h, _ => by simp [detC] at h
  | .tup _ :: _, _, _, _, h, _ => by simp [detC] at h
  | .pt _ _ :: _, _, _, _, h, _ => by simp [detC] at h
  | .fn _ _ :: _, _, _, _, h, _ => by simp [detC] at h
  | .slc _ _ :: _, _, _, _, h, _ => by simp [detC] at h
  | .mp _ :: _, _, _, _, h, _ => by simp [detC] at h
theorem detC_flat {α : Type} {f : α → List FV} {e : α → List Value} (h : ∀ x, detC (f x) = some (e x)) : ∀ l : List α, detC (l.flatMap f) = some (l.flatMap e)
  | [] => rfl
  | x :: l => by rw [List.flatMap_cons, List.flatMap_cons]; exact detC_append (h x) (detC_flat h l)
theorem map_flat {α β : Type} (f : α → β) : ∀ l : List α, l.flatMap (fun x => [f x]) = l.map f
  | [] => rfl
  | x :: l => by rw [List.flatMap_cons, map_flat f l]; rfl
theorem detC_ints (l : List Int) : detC (intsF l) = some (l.flatMap encI) := by
  have := detC_flat (f := fun z => [iv z]) (e := encI) (fun _ => rfl) l
  rw [map_flat] at this
  exact this
theorem detC_lays (l : List Layer) : detC (laysF l) = some (l.flatMap Layer.enc) := detC_flat (fun _ => rfl) l
theorem detC_cels (l : List Cel) : detC (celsF l) = some (l.flatMap Cel.enc) := detC_flat (fun _ => rfl) l
theorem detC_rngs (l : List Rng) : detC (rngsF l) = some (l.flatMap Rng.enc) := detC_flat (fun _ => rfl) l
theorem detC_flas (l : List Flash) : detC (flasF l) = some (l.flatMap Flash.enc) := detC_flat (fun _ => rfl) l
theorem detC_bools (l : List Bool) : detC (boolsF l) = some (l.flatMap encB) := by
  have := detC_flat (f := fun b => [FV.v (.bool b)]) (e := encB) (fun _ => rfl) l
  rw [map_flat] at this
  exact this
theorem rep_row {w : World} {M : Nat → Prop} {v : Value} {n : Nat} {cs : List FV} {us : List Value} (h : RepF w M v (.sl n cs)) (hd : detC cs = some us) : ∃ a c, v = .slice a n c ∧ n ≤ c ∧ Row w a us := by
  cases h with
  | sl a _ c _ vs h1 h2 h3 h4 h5 =>
    have := detC_spec ⟨h2, h5⟩ hd
    subst this
    refine ⟨a, c, rfl, h1, ⟨fun hn => ?_⟩⟩
    obtain ⟨b, off, e, L⟩ := h4 hn
    exact ⟨b, off, e, L.lt, L.at_⟩
theorem rep_int {w : World} {M : Nat → Prop} {v : Value} {z : Int} (h : RepF w M v (iv z)) : v = .int .i64 z := repV h
theorem repL_det {w : World} {M : Nat → Prop} {us : List Value} : ∀ {cs : List FV}, detC cs = some us → RepL w M us cs
  | [], h => by simp [detC] at h; subst h; exact RepL.nil _ _
  | .v x :: r, h => by
    cases hr : detC r with
    | none => simp [detC, hr] at h
    | some l => simp [detC, hr] at h; subst h; exact RepL.cons (RepF.v x) (repL_det hr)
  | .sl _ _ :: _, h => by simp [detC] at h
  | .agg _ :: _, h => by simp [detC] at h
  | .tup _ :: _, h => by simp [detC] at h
  | .pt _ _ :: _, h => by simp [detC] at h
  | .fn _ _ :: _, h => by simp [detC] at h
  | .slc _ _ :: _, h => by simp [detC] at h
  | .mp _ :: _, h => by simp [detC] at h
theorem rep_grid {w : World} {M : Nat → Prop} {us : List Value} {x : Grid} (h : RepL w M us (gridL x)) (hl : x.layers.length ≤ 140737488355328) (ht : x.tilt.length ≤ 140737488355328) :
    ∃ la ta lc tc, us = [.slice la x.layers.length lc, .int .i64 x.rows, .slice ta x.tilt.length tc] ∧ GridAt w la ta x := by
  obtain ⟨u1, us1, rfl, h1, R1⟩ := h.head
  obtain ⟨u2, us2, rfl, h2, R2⟩ := R1.head
  obtain ⟨u3, us3, rfl, h3, R3⟩ := R2.head
  have := R3.end; subst this
  obtain ⟨la, lc, rfl, _, r1⟩ := rep_row h1 (detC_lays _)
  have := rep_int h2; subst this
  obtain ⟨ta, tc, rfl, _, r3⟩ := rep_row h3 (detC_ints _)
  exact ⟨la, ta, lc, tc, rfl, r1, r3, hl, ht⟩
theorem rep_gridF {w : World} {M : Nat → Prop} {v : Value} {x : Grid} (h : RepF w M v (gridF x)) (hl : x.layers.length ≤ 140737488355328) (ht : x.tilt.length ≤ 140737488355328) :
    ∃ la ta lc tc, v = .agg #[.slice la x.layers.length lc, .int .i64 x.rows, .slice ta x.tilt.length tc] ∧ GridAt w la ta x := by
  cases h with
  | agg _ us h1 h2 h3 =>
    obtain ⟨la, ta, lc, tc, rfl, g⟩ := rep_grid ⟨h1, h3⟩ hl ht
    exact ⟨la, ta, lc, tc, rfl, g⟩
theorem rep_classF {w : World} {M : Nat → Prop} {v : Value} {x : Grid} {rs : List Rng} (h : RepF w M v (classF x rs)) (hl : x.layers.length ≤ 140737488355328) (ht : x.tilt.length ≤ 140737488355328) :
    ∃ la ta ra lc tc rc, v = .agg #[.slice la x.layers.length lc, .int .i64 x.rows, .slice ta x.tilt.length tc, .slice ra rs.length rc] ∧ GridAt w la ta x ∧ RowS Rng.enc w ra rs := by
  cases h with
  | agg _ us h1 h2 h3 =>
    have R : RepL w M us (classL x rs) := ⟨h1, h3⟩
    obtain ⟨u1, us1, rfl, r1, R1⟩ := R.head
    obtain ⟨u2, us2, rfl, r2, R2⟩ := RepL.head R1
    obtain ⟨u3, us3, rfl, r3, R3⟩ := RepL.head R2
    obtain ⟨u4, us4, rfl, r4, R4⟩ := RepL.head R3
    have := R4.end; subst this
    obtain ⟨la, lc, rfl, _, p1⟩ := rep_row r1 (detC_lays _)
    have := rep_int r2; subst this
    obtain ⟨ta, tc, rfl, _, p3⟩ := rep_row r3 (detC_ints _)
    obtain ⟨ra, rc, rfl, _, p4⟩ := rep_row r4 (detC_rngs _)
    exact ⟨la, ta, ra, lc, tc, rc, rfl, ⟨p1, p3, hl, ht⟩, p4⟩
theorem rep_cel {w : World} {M : Nat → Prop} {v : Value} {c : Cel} (h : RepF w M v (.agg (celF c))) : v = .agg #[.int .i64 c.col, .int .i64 c.row] := by
  have := detF_spec h (v := .agg #[.int .i64 c.col, .int .i64 c.row]) rfl
  exact this
theorem rep_sides {w : World} {M : Nat → Prop} (h : ∀ g cs, GG g = some cs → RepF w M (.pointer (some ⟨g, 0, none⟩)) (.pt cs 0)) : Sides w := by
  have h0 := h 0 sidesF rfl
  generalize hv : (Value.pointer (some (⟨0, 0, none⟩ : Addr))) = v at h0
  cases h0 with
  | pt b off _ _ us h1 h2 h3 h4 =>
    simp only [Value.pointer.injEq, Option.some.injEq, Addr.mk.injEq] at hv
    obtain ⟨hb, ho, _⟩ := hv
    have hoff : off = 0 := by omega
    subst hb; subst hoff
    have e := detC_spec ⟨h1, h4⟩ (l := [.int .i64 (-1), .int .i64 0, .int .i64 0, .int .i64 (-1), .int .i64 0, .int .i64 1, .int .i64 1, .int .i64 0]) rfl
    subst e
    have at_ : ∀ k, k < 8 → w.cell? ⟨0, k, none⟩ = [Value.int .i64 (-1), .int .i64 0, .int .i64 0, .int .i64 (-1), .int .i64 0, .int .i64 1, .int .i64 1, .int .i64 0][k]? := fun k hk => by
      have := h3.at_ k hk
      rwa [Nat.zero_add] at this
    exact ⟨at_ 0 (by omega), at_ 1 (by omega), at_ 2 (by omega), at_ 3 (by omega), at_ 4 (by omega), at_ 5 (by omega), at_ 6 (by omega), at_ 7 (by omega)⟩
theorem own_sl {w w' : World} {M : Nat → Prop} {e sz n : Nat} {v : Value} {us : List Value} {cs : List FV} (own : w'.ownsRow w.heap.size e sz v n us) (one : ∀ u ∈ us, u.oneCell' = true) (hM : ∀ b, M b → b < w.heap.size) (R : RepL w' M us cs) : RepF w' M v (.sl n cs) := by
  rcases own.2 with ⟨h1, h2⟩ | ⟨g, cap, cur, h1, h2, h3, h4, h5, h6, h7⟩
  · subst h1; subst h2
    have hx : us = [] := List.eq_nil_of_length_eq_zero (by rw [own.1]; simp)
    subst hx
    exact RepF.sl none 0 0 cs [] (Nat.le_refl _) R.1 one (fun h => absurd rfl h) (fun k u x h => by simp at h)
  · subst h1
    refine RepF.sl _ n cap cs us h4 R.1 one (fun _ => ⟨g, 0, rfl, (Array.getElem?_eq_some_iff.1 h3).1, fun hm => by have := hM g hm; omega, fun k hk => ?_⟩) R.2
    have := own.cells (g := g) rfl k _ (List.getElem?_eq_getElem hk)
    rw [addr_add, Nat.zero_add] at this
    rw [Nat.zero_add, this, List.getElem?_eq_getElem hk]
theorem one_ints (l : List Int) : ∀ u ∈ l.flatMap encI, u.oneCell' = true := by
  intro u hu
  obtain ⟨z, _, hz⟩ := List.mem_flatMap.1 hu
  simp [encI] at hz; subst hz; rfl
theorem one_lays (l : List Layer) : ∀ u ∈ l.flatMap Layer.enc, u.oneCell' = true := by
  intro u hu
  obtain ⟨z, _, hz⟩ := List.mem_flatMap.1 hu
  simp [Layer.enc] at hz; rcases hz with rfl | rfl | rfl <;> rfl
theorem within_s (n lo hi : Int) : Summ Tryd.prog GG 92 [iv n, iv lo, iv hi] (.v (.bool (withinB n lo hi))) := by
  refine ⟨enters_of Tryd.func92 (by kernel_rfl) rfl, fun w M us hM hG R => ?_⟩
  obtain ⟨u1, us1, rfl, r1, R1⟩ := R.head
  obtain ⟨u2, us2, rfl, r2, R2⟩ := R1.head
  obtain ⟨u3, us3, rfl, r3, R3⟩ := R2.head
  have := R3.end; subst this
  have := rep_int r1; subst this
  have := rep_int r2; subst this
  have := rep_int r3; subst this
  exact (within_any n lo hi w).mono fun e w' ⟨h1, h2⟩ => ⟨_, h1, RepF.v _, h2 ▸ Ext.refl _⟩
theorem unless_s (b : Bool) (k : Int) : Summ Tryd.prog GG 89 [.v (.bool b), iv k] (iv (unlessE b k)) := by
  refine ⟨enters_of Tryd.func89 (by kernel_rfl) rfl, fun w M us hM hG R => ?_⟩
  obtain ⟨u1, us1, rfl, r1, R1⟩ := R.head
  obtain ⟨u2, us2, rfl, r2, R2⟩ := R1.head
  have := R2.end; subst this
  have := repV r1; subst this
  have := rep_int r2; subst this
  exact (unless_any b k w).mono fun e w' ⟨h1, h2⟩ => ⟨_, h1, RepF.v _, h2 ▸ Ext.refl _⟩
theorem cloneI_s (l : List Int) (hl : l.length ≤ 1000000) : SummN Tryd.prog GG 111 [.sl l.length (intsF l)] 3 1 l.length (intsF l) := by
  refine ⟨enters_of Tryd.func111 (by kernel_rfl) rfl, fun w M us hM hG R => ?_⟩
  obtain ⟨u1, us1, rfl, r1, R1⟩ := R.head
  have := R1.end; subst this
  obtain ⟨a, c, rfl, _, rr⟩ := rep_row r1 (detC_ints l)
  exact (cloneInt a l c w rr hl).mono fun e w' ⟨a', c', h1, h2, h3⟩ => ⟨_, _, h1, h2, one_ints l, repL_det (detC_ints l), h3⟩
theorem cloneL_s (l : List Layer) (hl : l.length ≤ 1000000) : SummN Tryd.prog GG 145 [.sl l.length (laysF l)] 33 3 l.length (laysF l) := by
  refine ⟨enters_of Tryd.func145 (by kernel_rfl) rfl, fun w M us hM hG R => ?_⟩
  obtain ⟨u1, us1, rfl, r1, R1⟩ := R.head
  have := R1.end; subst this
  obtain ⟨a, c, rfl, _, rr⟩ := rep_row r1 (detC_lays l)
  exact (cloneLayer a l c w rr hl).mono fun e w' ⟨a', c', h1, h2, h3⟩ => ⟨_, _, h1, h2, one_lays l, repL_det (detC_lays l), h3⟩
theorem SummN.toSumm {P : Program} {G : Nat → Option (List FV)} {g : Nat} {args cs : List FV} {e sz n : Nat} (h : SummN P G g args e sz n cs) : Summ P G g args (.sl n cs) :=
  ⟨h.enters, fun w M us hM hG R => (h.call w M us hM hG R).mono fun _en _w' ⟨v, _xs, h1, h2, h3, h4, h5⟩ => ⟨v, h1, own_sl h2 h3 hM (h4.mono (fun _ _ _ => rfl) (Nat.le_refl _) (fun _ _ h => .inl h)), h5⟩⟩
end Go.Proofs.YtienhiloecfgnaaDoor
namespace Go.Proofs.YtienhiloecfgnaaDoor
open Go Go.RowKit Go.Proofs Go.Shelf Go.Ab
theorem firstE_zeros {l : List Int} (h : ∀ j (hj : j < l.length), l[j] = 0) : firstE l = 0 := by
  induction l with
  | nil => rfl
  | cons x l ih =>
    have h0 : x = 0 := h 0 (by simp)
    rw [firstE]
    simp only [h0]
    exact ih (fun j hj => h (j + 1) (by simpa using hj))
theorem firstE_at {l : List Int} {k : Nat} (hk : k < l.length) (h : ∀ j (hj : j < l.length), j < k → l[j] = 0) (hne : l[k] ≠ 0) : firstE l = l[k] := by
  induction l generalizing k with
  | nil => simp at hk
  | cons x l ih =>
    cases k with
    | zero => simp only [List.getElem_cons_zero] at hne ⊢; rw [firstE]; simp [hne]
    | succ k =>
      have h0 : x = 0 := h 0 (by simp) (by omega)
      rw [firstE]
      simp only [h0]
      exact ih (by simpa using hk) (fun j hj hjk => h (j + 1) (by simpa using hj) (by omega)) (by simpa using hne)
set_option maxRecDepth 100000 in
theorem first_s (l : List Int) (hl : l.length ≤ 1000) : Summ Tryd.prog GG 83 [.sl l.length (intsF l)] (iv (firstE l)) := by
  refine summW Tryd.func83 rfl rfl 15 rfl (by simp) (fun M0 => ?_)
  repeat (first
    | (apply s_move_f; exact rfl; exact rfl)
    | (apply s_assign_f; exact rfl; exact rfl)
    | (apply s_len TY; exact rfl; exact rfl; exact rfl)
    | apply w_seq
    | apply w_region
    | apply s_nil
    | apply t_norm
    | apply w_block)
  apply w_loop (fun k : Nat => ⟨(Ab.upd (Ab.upd (Ab.upd (fun _ => .bot) 7 (.f <| iv (k : Nat))) 6 (.f (iv l.length))) 5 (.f (.sl l.length (intsF l)))), fun _ => none, 0⟩) (fun k => k ≤ l.length ∧ ∀ j (hj : j < l.length), j < k → l[j] = 0) (fun k => l.length - k) 0 ⟨Nat.zero_le _, fun _ _ h => absurd h (Nat.not_lt_zero _)⟩ (gh_le ⟨le_upd rfl trivial (le_upd rfl trivial (le_upd rfl trivial (le_nil _))), le_h0 _ _⟩)
  rintro k ⟨hk, hall⟩
  by_cases hlt : k < l.length
  · have hb : decide ((k : Int) < (l.length : Int)) = true := by simpa using hlt
    have hc : (intsF l)[k * 1]? = some (iv l[k]) := map_at hlt
    have hne : intsF l ≠ [] := map_ne hlt
    by_cases hz : l[k] = 0
    · have ht : (!decide (l[k] = 0)) = false := by simpa using hz
      repeat (first
    | (apply s_move_f; exact rfl; exact rfl)
    | (apply s_assign_f; exact rfl; exact rfl)
    | (apply s_load_pt TY; exact rfl; exact rfl; exact rfl; (first | exact rfl | assumption))
    | (apply s_lss; exact rfl; exact rfl; exact rfl)
    | (apply s_neq; exact rfl; exact rfl; exact rfl)
    | apply w_seq
    | apply w_region
    | apply s_nil
    | apply t_norm
    | apply k_norm
    | apply w_block
    | apply w_skip
    | (apply s_add; exact rfl; exact rfl; exact rfl; (omega))
    | (apply s_idxN TY; exact rfl; exact rfl; exact rfl; exact rfl; assumption; assumption)
    | (apply w_condT; exact rfl; (first | exact rfl | assumption))
    | (apply w_condF; exact rfl; (first | exact rfl | assumption)))
      exact ⟨k + 1, ⟨by omega, fun j hj hjk => by rcases Nat.lt_succ_iff_lt_or_eq.1 hjk with h | rfl; exact hall j hj h; exact hz⟩, by omega, gh_le ⟨le_upd rfl trivial (le_upd rfl trivial (le_upd rfl trivial (le_nil _))), le_h0 _ _⟩⟩
    · have ht : (!decide (l[k] = 0)) = true := by simpa using hz
      repeat (first
    | (apply s_move_f; exact rfl; exact rfl)
    | (apply s_assign_f; exact rfl; exact rfl)
    | (apply s_load_pt TY; exact rfl; exact rfl; exact rfl; (first | exact rfl | assumption))
    | (apply s_lss; exact rfl; exact rfl; exact rfl)
    | (apply s_neq; exact rfl; exact rfl; exact rfl)
    | apply w_seq
    | apply w_region
    | apply s_nil
    | apply t_norm
    | apply t_ret
    | apply k_ret
    | apply w_block
    | apply w_ret
    | apply w_skip
    | (apply s_idxN TY; exact rfl; exact rfl; exact rfl; exact rfl; assumption; assumption)
    | (apply w_condT; exact rfl; (first | exact rfl | assumption)))
      refine lv_ret (ret1 rfl (res_tmp ?_))
      rw [firstE_at hlt hall hz]; rfl
  · have hb : decide ((k : Int) < (l.length : Int)) = false := by simpa using hlt
    repeat (first
    | (apply s_assign_f; exact rfl; exact rfl)
    | (apply s_lss; exact rfl; exact rfl; exact rfl)
    | apply w_seq
    | apply w_region
    | apply s_nil
    | apply t_norm
    | apply t_exit
    | apply k_hit
    | apply w_exit
    | apply w_ret
    | (apply w_condF; exact rfl; (first | exact rfl | assumption)))
    refine lv_ret (ret1 rfl (res_tmp ?_))
    rw [firstE_zeros (fun j hj => hall j hj (by omega))]; rfl
end Go.Proofs.YtienhiloecfgnaaDoor
namespace Go.Proofs.YtienhiloecfgnaaDoor
open Go Go.RowKit Go.Proofs Go.Shelf Go.Ab
structure ClassOk (x : Grid) (rs : List Rng) : Prop where
  v : Valid x
  len : rs.length = x.layers.length
  rng : ∀ r ∈ rs, 1 ≤ r.lo ∧ r.lo ≤ r.hi ∧ r.hi ≤ 1000
  cnt : (assigns rs []).length ≤ 300
theorem upTo_len (lo hi : Int) : (upTo lo hi).length = (hi + 1 - lo).toNat := by simp [upTo]
theorem assigns_len : ∀ (rs : List Rng) (p q : List Int), (assigns rs p).length = (assigns rs q).length
  | [], _, _ => rfl
  | r :: rs, p, q => by
    simp only [assigns, List.length_flatMap]
    congr 1
    apply List.map_congr_left
    intro n _
    exact assigns_len rs _ _
theorem sum_const (l : List Int) (k : Nat) : (l.map fun _ => k).sum = l.length * k := by
  induction l with
  | nil => simp
  | cons x l ih => simp [ih, Nat.add_mul]; omega
theorem assigns_cons (r : Rng) (rs : List Rng) (p : List Int) : (assigns (r :: rs) p).length = (r.hi + 1 - r.lo).toNat * (assigns rs []).length := by
  simp only [assigns, List.length_flatMap]
  rw [show (fun n => (assigns rs (p ++ [n])).length) = fun _ => (assigns rs []).length from funext fun n => assigns_len rs _ _, sum_const, upTo_len]
theorem scan_zero (l : List Rng) : ∀ (f i : Nat) (n : Int), i + f = l.length → 1 ≤ n → (classScan l f i n).2 = 0 → (∀ r ∈ l.drop i, 1 ≤ r.lo ∧ r.lo ≤ r.hi ∧ r.hi ≤ 1000) ∧ n * ((assigns (l.drop i) []).length : Int) ≤ 300
  | 0, i, n, h, _, hz => by
    have : l.drop i = [] := List.drop_eq_nil_of_le (by omega)
    rw [this]
    unfold classScan at hz
    have h1 := (unlessE_zero (by decide)).1 hz
    simp [assigns] at h1 ⊢; exact h1
  | f + 1, i, n, h, hn, hz => by
    have hi : i < l.length := by omega
    unfold classScan at hz
    rw [getDR hi] at hz
    by_cases hr : (rngE l[i] != 0) = true
    · rw [if_pos hr] at hz; simp at hr; exact absurd hz hr
    · rw [if_neg hr] at hz
      have hr0 := rngE_zero.1 (by simpa using hr)
      have hm : 1 ≤ n * (l[i].hi - l[i].lo + 1) := by
        have : 1 * 1 ≤ n * (l[i].hi - l[i].lo + 1) := Int.mul_le_mul hn (by omega) (by omega) (by omega)
        simpa using this
      obtain ⟨h1, h2⟩ := scan_zero l f (i + 1) _ (by omega) hm hz
      have hd : l.drop i = l[i] :: l.drop (i + 1) := by simp
      refine ⟨fun r hrm => ?_, ?_⟩
      · rw [hd] at hrm
        rcases List.mem_cons.1 hrm with rfl | h3
        · exact hr0
        · exact h1 r h3
      · rw [hd, assigns_cons]
        have e : ((l[i].hi + 1 - l[i].lo).toNat : Int) = l[i].hi - l[i].lo + 1 := by omega
        rw [Int.natCast_mul, e, ← Int.mul_assoc]
        exact h2
theorem classOk {x : Grid} {rs : List Rng} (h : (checkClass x rs).2 = 0) : ClassOk x rs := by
  unfold checkClass at h
  by_cases t1 : ((checkIce x).2 != 0) = true
  · rw [if_pos t1] at h; simp at t1; exact absurd h t1
  rw [if_neg t1] at h
  by_cases t2 : ((rs.length : Int) != (x.layers.length : Int)) = true
  · rw [if_pos t2] at h; simp at h
  rw [if_neg t2] at h
  obtain ⟨h1, h2⟩ := scan_zero rs rs.length 0 1 (by omega) (by omega) h
  simp only [List.drop_zero, Int.one_mul] at h1 h2
  exact ⟨(checkIce_zero x).1 (by simpa using t1), by simp at t2; omega, h1, by omega⟩
theorem own_layers (x : Grid) (ds : List Int) : (own x ds).layers.length = x.layers.length := by simp [own]
theorem own_valid {x : Grid} (v : Valid x) {ds : List Int} (hd : ∀ d ∈ ds, 1 ≤ d ∧ d ≤ 1000) : Valid (own x ds) := by
  refine ⟨by rw [own_layers]; exact v.l1, by rw [own_layers]; exact v.l6, fun l hl => ?_, v.r1, v.r12, v.t1, v.t8, v.til⟩
  simp only [own, List.mem_mapIdx] at hl
  obtain ⟨i, hi, rfl⟩ := hl
  have h0 := v.lay x.layers[i] (List.getElem_mem hi)
  refine ⟨?_, h0.2⟩
  simp only
  rw [List.getD_eq_getElem?_getD]
  cases hk : ds[i]? with
  | none => exact h0.1
  | some d => exact hd d (List.mem_of_getElem? hk)
theorem own_in (x : Grid) (ds : List Int) (c : Cel) : InG (own x ds) c ↔ InG x c := Iff.rfl
def mpT (x : Grid) (fr : Cel) : Obj → Prop := fun o => ∃ (D : List Ent) (clock : Nat), o = .map (D.map ent).toArray clock ∧ (∀ d ∈ D, d.2.2 < clock) ∧ (D.map (·.1)).Nodup ∧ (D.map (·.2.2)).Nodup ∧ ∀ c, InG x c → valOf D c = some (distOf x fr c)
theorem times_s (x : Grid) (fr : Cel) (v : Valid x) (hin : InG x fr) : Summ Tryd.prog GG 86 [gridF x, .agg (celF fr)] (.mp (mpT x fr)) := by
  refine ⟨enters_of Tryd.func86 (by kernel_rfl) rfl, fun w M us hM hG R => ?_⟩
  obtain ⟨u1, us1, rfl, r1, R1⟩ := R.head
  obtain ⟨u2, us2, rfl, r2, R2⟩ := R1.head
  have := R2.end; subst this
  have h6 := v.l6
  have h8 := v.t8
  obtain ⟨la, ta, lc, tc, rfl, hg⟩ := rep_gridF r1 (by omega) (by omega)
  have := rep_cel r2; subst this
  refine (times_fresh la ta lc tc x fr w hg (rep_sides hG) v hin).mono ?_
  rintro e w' ⟨m, D, d, rfl, hm, hd, hv, hx, hle⟩
  obtain ⟨clock, hb, hc⟩ := hm.blk
  refine ⟨_, rfl, RepF.mp _ _ ⟨hm.lt, fun h => by have := hM _ h; omega, _, hb, ⟨D, clock, rfl, hc, hm.keys, hm.born, fun c hi => ?_⟩, rfl⟩, hx⟩
  rw [(hv c hi).1, IsDist.unique v hd (distOf_is hd) hi]
theorem look_s {x : Grid} {fr c : Cel} (hc : InG x c) (ob : Obj) (r : Nat) (w : World) (hG : mpT x fr ob) (hr : w.heap[r]? = some ob) :
    (Instr.lookup 132 (.map (some r)) (.agg #[.int .i64 c.col, .int .i64 c.row]) false).run Tryd.prog w = .ok (.int .i64 (distOf x fr c)) w := by
  obtain ⟨D, clock, rfl, h1, h2, h3, h4⟩ := hG
  have := lookup_plain (W := w) (r := r) (D := D) ⟨⟨clock, hr, h1⟩, h2, h3⟩ c
  rw [h4 c hc] at this
  exact this
end Go.Proofs.YtienhiloecfgnaaDoor
namespace Go.Proofs.YtienhiloecfgnaaDoor
open Go Go.RowKit Go.Proofs Go.Shelf Go.Ab
def modF (m : List Int × List Bool) : List FV := [.sl m.1.length (intsF m.1), .sl m.2.length (boolsF m.2)]
def modelsF (ms : List (List Int × List Bool)) : List FV := ms.flatMap modF
def ownL (x : Grid) (ds : List Int) (k : Nat) : List Layer := x.layers.mapIdx fun i y => { y with delay := if i < k then ds.getD i y.delay else y.delay }
theorem ownL_len (x : Grid) (ds : List Int) (k : Nat) : (ownL x ds k).length = x.layers.length := by simp [ownL]
theorem ownL_zero (x : Grid) (ds : List Int) : ownL x ds 0 = x.layers := by
  refine List.ext_getElem (by simp [ownL]) fun i h1 h2 => ?_
  simp [ownL]
theorem ownL_end (x : Grid) (ds : List Int) : ownL x ds ds.length = (own x ds).layers := by
  refine List.ext_getElem (by simp [ownL, own]) fun i h1 h2 => ?_
  simp only [ownL, own, List.getElem_mapIdx]
  by_cases h : i < ds.length
  · rw [if_pos h]
  · rw [if_neg h, List.getD_eq_getElem?_getD, List.getElem?_eq_none (by omega)]; rfl
theorem flat_set3 {f : Layer → List FV} (hs : ∀ y, (f y).length = 3) : ∀ (l : List Layer) (k : Nat) (y : Layer) (a : FV), (hk : k < l.length) → f y = (f l[k]).set 0 a → (l.flatMap f).set (k * 3 + 0) a = (l.set k y).flatMap f
  | [], k, _, _, hk, _ => by simp at hk
  | z :: l, 0, y, a, _, h => by
    simp only [List.getElem_cons_zero] at h
    have h3 := hs z
    rw [List.set_cons_zero, List.flatMap_cons, List.flatMap_cons, h]
    match hz : f z, h3 with
    | [p, q, r], _ => simp
  | z :: l, k + 1, y, a, hk, h => by
    have h3 := hs z
    rw [List.set_cons_succ, List.flatMap_cons, List.flatMap_cons, ← flat_set3 hs l k y a (by simpa using hk) (by simpa using h)]
    rw [List.set_append_right _ _ (by rw [h3]; omega), h3]
    congr 2
    omega
theorem ownL_succ (x : Grid) (ds : List Int) {k : Nat} (hk : k < ds.length) (hl : ds.length = x.layers.length) : Ab.setAt (laysF (ownL x ds k)) (k * 3 + 0) [iv ds[k]] = laysF (ownL x ds (k + 1)) := by
  have hkl : k < (ownL x ds k).length := by rw [ownL_len]; omega
  rw [show Ab.setAt (laysF (ownL x ds k)) (k * 3 + 0) [iv ds[k]] = (laysF (ownL x ds k)).set (k * 3 + 0) (iv ds[k]) from rfl]
  unfold laysF
  rw [flat_set3 (fun _ => rfl) (ownL x ds k) k { (ownL x ds k)[k] with delay := ds[k] } (iv ds[k]) hkl rfl]
  congr 1
  refine List.ext_getElem (by simp [ownL]) fun i h1 h2 => ?_
  rw [List.getElem_set]
  split
  · rename_i e
    subst e
    have hkx : k < x.layers.length := by omega
    simp only [ownL, List.getElem_mapIdx]
    rw [if_pos (by omega), List.getD_eq_getElem?_getD, List.getElem?_eq_getElem hk]
    rfl
  · simp only [ownL, List.getElem_mapIdx]
    by_cases h : i < k
    · rw [if_pos h, if_pos (by omega)]
    · rw [if_neg h, if_neg (by omega)]
noncomputable def mo (x : Grid) (l : List Flash) (ds : List Int) : List Int × List Bool := (ds, explains (own x ds) l)
noncomputable def news (x : Grid) (l : List Flash) (rs : List Rng) (pre : List Int) : List (List Int × List Bool) := (assigns rs pre).map (mo x l)
noncomputable def msk (x : Grid) (l : List Flash) (r : Rng) (rs : List Rng) (pre : List Int) (ms : List (List Int × List Bool)) (k : Nat) : List (List Int × List Bool) := ms ++ ((upTo r.lo r.hi).take k).flatMap fun n => news x l rs (pre ++ [n])
theorem msk_zero (x : Grid) (l : List Flash) (r : Rng) (rs : List Rng) (pre : List Int) (ms : List (List Int × List Bool)) : msk x l r rs pre ms 0 = ms := by simp [msk]
theorem msk_succ (x : Grid) (l : List Flash) (r : Rng) (rs : List Rng) (pre : List Int) (ms : List (List Int × List Bool)) {k : Nat} (hk : k < (r.hi + 1 - r.lo).toNat) : msk x l r rs pre ms (k + 1) = msk x l r rs pre ms k ++ news x l rs (pre ++ [r.lo + k]) := by
  have hk' : k < (upTo r.lo r.hi).length := by rw [upTo_len]; exact hk
  have hg : (upTo r.lo r.hi)[k] = r.lo + k := by simp [upTo]
  unfold msk
  rw [List.take_succ_eq_append_getElem hk', hg, List.flatMap_append, List.append_assoc]
  simp
theorem msk_end (x : Grid) (l : List Flash) (r : Rng) (rs : List Rng) (pre : List Int) (ms : List (List Int × List Bool)) : msk x l r rs pre ms (r.hi + 1 - r.lo).toNat = ms ++ news x l (r :: rs) pre := by
  unfold msk news
  rw [List.take_of_length_le (by rw [upTo_len]; exact Nat.le_refl _), assigns, List.map_flatMap]
theorem msk_len (x : Grid) (l : List Flash) (r : Rng) (rs : List Rng) (pre : List Int) (ms : List (List Int × List Bool)) : ∀ k, k ≤ (r.hi + 1 - r.lo).toNat → (msk x l r rs pre ms k).length = ms.length + k * (assigns rs []).length
  | 0, _ => by simp [msk_zero]
  | k + 1, hk => by
    rw [msk_succ x l r rs pre ms hk, List.length_append, msk_len x l r rs pre ms k (by omega), news, List.length_map, assigns_len rs (pre ++ [r.lo + (k : Int)]) [], Nat.add_mul]
    omega
theorem intsF_snoc (l : List Int) (z : Int) : intsF (l ++ [z]) = intsF l ++ [iv z] := by simp [intsF]
theorem boolsF_take {l : List Bool} {k : Nat} (hk : k < l.length) : boolsF (l.take (k + 1)) = boolsF (l.take k) ++ [.v (.bool l[k])] := by
  unfold boolsF; rw [List.take_succ_eq_append_getElem hk, List.map_append]; rfl
theorem modelsF_snoc (ms : List (List Int × List Bool)) (m : List Int × List Bool) : modelsF (ms ++ [m]) = modelsF ms ++ modF m := by simp [modelsF]
set_option maxRecDepth 100000 in
theorem clip_s (l : List Int) (_hl : l.length ≤ 1000) : Summ Tryd.prog GG 141 [.sl l.length (intsF l)] (.slc l.length (intsF l)) := by
  have hlen : (intsF l).length = l.length * 1 := by simp [intsF]
  refine summW Tryd.func141 rfl rfl 9 rfl (by simp) (fun M0 => ?_)
  repeat (first
    | (apply s_move_f; exact rfl; exact rfl)
    | (apply s_assign_f; exact rfl; exact rfl)
    | (apply s_len TY; exact rfl; exact rfl; exact rfl)
    | apply w_seq
    | apply w_region
    | apply s_nil
    | apply t_norm)
  apply s_clip TY; exact rfl; exact rfl; exact rfl; exact rfl; exact rfl; exact rfl; exact hlen
  repeat (first
    | (apply s_assign_f; exact rfl; exact rfl)
    | apply s_nil
    | apply t_norm
    | apply w_ret)
  exact lv_ret (ret1 rfl (res_tmp rfl))
set_option maxRecDepth 100000 in
set_option maxHeartbeats 1000000 in
theorem grown_s (x : Grid) (rs : List Rng) (l : List Flash) (K : ClassOk x rs) (hl8 : l.length ≤ 8) (hf : ∀ f ∈ l, InG x f.frm ∧ InG x f.to) : ∀ (d : Nat) (pre : List Int) (ms : List (List Int × List Bool)), pre.length + d = rs.length → (∀ n ∈ pre, 1 ≤ n ∧ n ≤ 1000) → ms.length + (assigns (rs.drop pre.length) pre).length ≤ 1000 →
    SummM Tryd.prog GG 134 147 2 ms.length (modelsF ms) [classF x rs, .sl l.length (flasF l), .sl pre.length (intsF pre)] (ms ++ news x l (rs.drop pre.length) pre).length (modelsF (ms ++ news x l (rs.drop pre.length) pre)) := by
  have h6 := K.v.l6
  have hrl := K.len
  intro d
  induction d with
  | succ d ih =>
    intro pre ms hd hpre hms
    have hlt : pre.length < rs.length := by omega
    obtain ⟨r, hr⟩ : ∃ r, rs[pre.length] = r := ⟨_, rfl⟩
    have hrr := K.rng r (by rw [← hr]; exact List.getElem_mem hlt)
    have hdrop : rs.drop pre.length = r :: rs.drop (pre.length + 1) := by rw [← hr]; simp
    rw [hdrop] at hms ⊢
    rw [assigns_cons] at hms
    have hb : decide ((pre.length : Int) < (rs.length : Int)) = true := by simpa using hlt
    have hsub : ((rngsF rs).drop (pre.length * 2)).take 2 = [iv r.lo, iv r.hi] := by rw [← hr]; exact flat_sub (f := rngF) (fun _ => rfl) hlt
    have hne : rngsF rs ≠ [] := flat_ne (s := 2) (fun _ => rfl) (by decide) hlt
    refine summM_of Tryd.func134 rfl rfl 101 rfl (by simp) (fun M0 X => ?_)
    repeat (first
    | (apply s_move_f; exact rfl; exact rfl)
    | (apply s_assign_f; exact rfl; exact rfl)
    | (apply s_fld_pt TY; exact rfl; exact rfl; exact rfl)
    | (apply s_load_pt TY; exact rfl; exact rfl; exact rfl; (first | exact rfl | assumption))
    | (apply s_load_pts TY; exact rfl; exact rfl; exact rfl; (first | assumption | exact rfl); exact rfl)
    | (apply s_len TY; exact rfl; exact rfl; exact rfl)
    | (apply s_box; exact rfl; exact rfl; exact rfl)
    | (apply s_lss; exact rfl; exact rfl; exact rfl)
    | (apply s_fld_bx TY; exact rfl; exact rfl; exact rfl)
    | (apply s_load_bx_f TY; exact rfl; exact rfl; exact rfl; exact rfl; exact rfl)
    | apply w_seq
    | apply w_region
    | apply s_nil
    | apply t_norm
    | apply w_block
    | (apply s_idxN TY; exact rfl; exact rfl; exact rfl; exact rfl; assumption; assumption)
    | (apply s_alloc TY; exact rfl; exact rfl; exact rfl)
    | (apply s_store TY; exact rfl; exact rfl; exact rfl; exact rfl; exact rfl; exact rfl)
    | (apply w_condT; exact rfl; (first | exact rfl | assumption)))
    apply w_loop (fun k : Nat => ⟨(Ab.upd (Ab.upd (Ab.upd (Ab.upd (Ab.upd (Ab.upd (fun _ => .bot) 10 (.f (iv (r.lo + (k : Nat))))) 9 (.bx 1 0)) 5 (.f (.pt (classL x rs) 0))) 3 (.f (.sl pre.length (intsF pre)))) 2 (.f (.sl l.length (flasF l)))) 0 (.ow 0)), (Ab.upd (Ab.upd (fun _ => none) 0 (some (.row 147 2 (msk x l r (rs.drop (pre.length + 1)) pre ms k).length (modelsF (msk x l r (rs.drop (pre.length + 1)) pre ms k))))) 1 (some (.box [.f (iv r.lo), .f (iv r.hi)]))), 2⟩) (fun k => k ≤ (r.hi + 1 - r.lo).toNat) (fun k => (r.hi + 1 - r.lo).toNat - k) 0 (Nat.zero_le _) (gh_le ⟨le_upd rfl rfl (le_upd rfl trivial (le_upd rfl trivial (le_upd rfl trivial (le_upd rfl rfl (le_upd (congrArg (fun z => AV.f (iv z)) (Int.add_zero r.lo)) trivial (le_nil _)))))), le_hupd rfl (fun y hy => by simp at hy; rcases hy with rfl | rfl <;> first | trivial | rfl) (le_hupd (by rw [msk_zero]; rfl) trivial (le_h0 _ _))⟩)
    intro k hk
    by_cases hkc : k < (r.hi + 1 - r.lo).toNat
    · have hc : decide (r.lo + (k : Int) ≤ r.hi) = true := by simp; omega
      have hmul := Nat.mul_le_mul_right (assigns (rs.drop (pre.length + 1)) []).length (show k + 1 ≤ (r.hi + 1 - r.lo).toNat from hkc)
      have hlen := msk_len x l r (rs.drop (pre.length + 1)) pre ms k hk
      have IH := ih (pre ++ [r.lo + k]) (msk x l r (rs.drop (pre.length + 1)) pre ms k) (by simp; omega) (fun n hn => by
        rcases List.mem_append.1 hn with h | h
        · exact hpre n h
        · simp at h; omega) (by rw [hlen, assigns_len _ (pre ++ [r.lo + (k : Int)]) []]; simp only [List.length_append, List.length_cons, List.length_nil, Nat.zero_add]; rw [Nat.add_mul] at hmul; omega)
      simp only [List.length_append, List.length_cons, List.length_nil, Nat.zero_add, intsF_snoc] at IH
      rw [← List.length_append, ← msk_succ x l r (rs.drop (pre.length + 1)) pre ms hkc] at IH
      have hil : (intsF pre).length = pre.length * 1 := by simp [intsF]
      repeat (first
    | (apply s_move_f; exact rfl; exact rfl)
    | (apply s_leq; exact rfl; exact rfl; exact rfl)
    | (apply s_fld_bx TY; exact rfl; exact rfl; exact rfl)
    | (apply s_load_bx_f TY; exact rfl; exact rfl; exact rfl; exact rfl; exact rfl)
    | apply w_seq
    | apply w_region
    | apply s_nil
    | apply t_norm
    | apply w_block
    | apply w_skip
    | (apply w_condT; exact rfl; (first | exact rfl | assumption)))
      apply w_draw 8 rfl (by kernel_rfl)
      repeat (first
    | (apply s_append_clip TY; exact rfl; exact rfl; exact rfl; exact rfl; exact rfl; exact rfl; exact rfl; exact rfl; exact hil; exact rfl; (unfold maxLen; omega); omega)
    | (apply s_callM IH; exact rfl; exact rfl; exact rfl; exact rfl; exact rfl; exact rfl)
    | (apply s_move_f; exact rfl; exact rfl)
    | (apply s_assign_f; exact rfl; exact rfl)
    | (apply s_load_pts TY; exact rfl; exact rfl; exact rfl; (first | assumption | exact rfl); exact rfl)
    | (apply s_move_o; exact rfl; exact rfl)
    | (apply s_assign_o; exact rfl; exact rfl)
    | (apply s_bslice TY; exact rfl; exact rfl; exact rfl; exact rfl; exact rfl; exact rfl)
    | apply w_region
    | apply s_nil
    | apply t_norm
    | apply k_norm
    | (apply s_call (clip_s pre (by omega)); exact rfl; exact rfl; exact rfl; exact rfl)
    | (apply s_add; exact rfl; exact rfl; exact rfl; (omega)))
      exact ⟨k + 1, by omega, by omega, gh_le ⟨le_upd rfl rfl (le_upd rfl trivial (le_upd rfl trivial (le_upd rfl trivial (le_upd rfl rfl (le_upd (congrArg (fun z => AV.f (iv z)) (show r.lo + ((k + 1 : Nat) : Int) = r.lo + (k : Int) + 1 by omega)) trivial (le_nil _)))))), le_hupd rfl (fun y hy => by simp at hy; rcases hy with rfl | rfl <;> first | trivial | rfl) (le_hupd rfl trivial (le_h0 _ _))⟩⟩
    · have hc : decide (r.lo + (k : Int) ≤ r.hi) = false := by simp; omega
      have hke : k = (r.hi + 1 - r.lo).toNat := by omega
      repeat (first
    | (apply s_move_f; exact rfl; exact rfl)
    | (apply s_leq; exact rfl; exact rfl; exact rfl)
    | (apply s_move_o; exact rfl; exact rfl)
    | (apply s_assign_o; exact rfl; exact rfl)
    | (apply s_fld_bx TY; exact rfl; exact rfl; exact rfl)
    | (apply s_load_bx_f TY; exact rfl; exact rfl; exact rfl; exact rfl; exact rfl)
    | apply w_seq
    | apply w_region
    | apply s_nil
    | apply t_norm
    | apply t_exit
    | apply t_ret
    | apply k_hit
    | apply w_exit
    | apply w_ret
    | (apply w_condF; exact rfl; (first | exact rfl | assumption)))
      refine ⟨8, rfl, rfl, ?_⟩
      subst hke
      rw [← msk_end]
      rfl
  | zero =>
    intro pre ms hd hpre hms
    have hpl : pre.length = rs.length := by omega
    have hdrop : rs.drop pre.length = [] := List.drop_eq_nil_of_le (by omega)
    have hnews : news x l (rs.drop pre.length) pre = [mo x l pre] := by rw [hdrop]; rfl
    rw [hdrop] at hms
    have hms2 : ms.length + 1 ≤ 1000 := hms
    rw [hnews]
    have hxl : pre.length = x.layers.length := by omega
    have hb : decide ((pre.length : Int) < (rs.length : Int)) = false := by simp; omega
    have hil : (intsF pre).length = pre.length * 1 := by simp [intsF]
    refine summM_of Tryd.func134 rfl rfl 101 rfl (by simp) (fun M0 X => ?_)
    repeat (first
    | (apply s_callN (cloneL_s x.layers (by omega)); exact rfl; exact rfl; exact rfl; exact rfl; exact rfl)
    | (apply s_move_f; exact rfl; exact rfl)
    | (apply s_assign_f; exact rfl; exact rfl)
    | (apply s_fld_pt TY; exact rfl; exact rfl; exact rfl)
    | (apply s_load_pt TY; exact rfl; exact rfl; exact rfl; (first | exact rfl | assumption))
    | (apply s_load_pts TY; exact rfl; exact rfl; exact rfl; (first | assumption | exact rfl); exact rfl)
    | (apply s_len TY; exact rfl; exact rfl; exact rfl)
    | (apply s_box; exact rfl; exact rfl; exact rfl)
    | (apply s_lss; exact rfl; exact rfl; exact rfl)
    | (apply s_fld_bx TY; exact rfl; exact rfl; exact rfl)
    | apply w_seq
    | apply w_region
    | apply s_nil
    | apply t_norm
    | apply w_block
    | apply w_skip
    | (apply s_alloc TY; exact rfl; exact rfl; exact rfl)
    | (apply s_store TY; exact rfl; exact rfl; exact rfl; exact rfl; exact rfl; exact rfl)
    | (apply w_condF; exact rfl; (first | exact rfl | assumption)))
    apply w_loop (fun k : Nat => ⟨(Ab.upd (Ab.upd (Ab.upd (Ab.upd (Ab.upd (Ab.upd (Ab.upd (fun _ => .bot) 56 (.f (iv (k : Nat)))) 55 (.f (iv pre.length))) 54 (.f (.sl pre.length (intsF pre)))) 11 (.bx 1 0)) 3 (.f (.sl pre.length (intsF pre)))) 2 (.f (.sl l.length (flasF l)))) 0 (.ow 0)), (Ab.upd (Ab.upd (Ab.upd (fun _ => none) 0 (some (.row 147 2 ms.length (modelsF ms)))) 1 (some (.box [.ow 2, .f (iv x.rows), .f (.sl x.tilt.length (intsF x.tilt))]))) 2 (some (.row 33 3 x.layers.length (laysF (ownL x pre k))))), 3⟩) (fun k => k ≤ pre.length) (fun k => pre.length - k) 0 (Nat.zero_le _) (gh_le ⟨le_upd rfl rfl (le_upd rfl trivial (le_upd rfl trivial (le_upd rfl rfl (le_upd rfl trivial (le_upd rfl trivial (le_upd rfl trivial (le_nil _))))))), le_hupd (by rw [ownL_zero]; rfl) trivial (le_hupd rfl (fun y hy => by simp at hy; rcases hy with rfl | rfl | rfl <;> first | trivial | rfl) (le_hupd rfl trivial (le_h0 _ _)))⟩)
    intro k hk
    by_cases hkc : k < pre.length
    · have hc : decide ((k : Int) < (pre.length : Int)) = true := by simpa using hkc
      have hc1 : (intsF pre)[k * 1]? = some (iv pre[k]) := map_at hkc
      have hne : intsF pre ≠ [] := map_ne hkc
      have hkx : k < x.layers.length := by omega
      have hlen3 : (laysF (ownL x pre k)).length = x.layers.length * 3 := by rw [laysF, flatMap_length (s := 3) (fun _ => rfl), ownL_len]
      repeat (first
    | (apply s_storeR TY; exact rfl; exact rfl; exact rfl; exact rfl; exact rfl; (simp only [List.length_cons, List.length_nil]; omega))
    | (apply s_move_f; exact rfl; exact rfl)
    | (apply s_assign_f; exact rfl; exact rfl)
    | (apply s_load_pt TY; exact rfl; exact rfl; exact rfl; (first | exact rfl | assumption))
    | (apply s_lss; exact rfl; exact rfl; exact rfl)
    | (apply s_fld_bx TY; exact rfl; exact rfl; exact rfl)
    | (apply s_load_bx_o TY; exact rfl; exact rfl; exact rfl; exact rfl; exact rfl)
    | apply w_seq
    | apply w_region
    | apply s_nil
    | apply t_norm
    | apply k_norm
    | apply w_block
    | apply w_skip
    | (apply s_add; exact rfl; exact rfl; exact rfl; (omega))
    | (apply s_idxN TY; exact rfl; exact rfl; exact rfl; exact rfl; assumption; assumption)
    | (apply s_idxN_ow TY; exact rfl; exact rfl; exact rfl; exact rfl; exact rfl; assumption)
    | (apply w_condT; exact rfl; (first | exact rfl | assumption)))
      exact ⟨k + 1, by omega, by omega, gh_le ⟨le_upd rfl rfl (le_upd rfl trivial (le_upd rfl trivial (le_upd rfl rfl (le_upd rfl trivial (le_upd rfl trivial (le_upd rfl trivial (le_nil _))))))), le_hupd (by rw [← ownL_succ x pre hkc hxl]; rfl) trivial (le_hupd rfl (fun y hy => by simp at hy; rcases hy with rfl | rfl | rfl <;> first | trivial | rfl) (le_hupd rfl trivial (le_h0 _ _)))⟩⟩
    · have hc : decide ((k : Int) < (pre.length : Int)) = false := by simpa using hkc
      have hke : k = pre.length := by omega
      subst hke
      repeat (first
    | (apply s_move_f; exact rfl; exact rfl)
    | (apply s_lss; exact rfl; exact rfl; exact rfl)
    | apply w_seq
    | apply w_region
    | apply s_nil
    | apply t_norm
    | apply t_exit
    | apply k_hit
    | apply w_exit
    | (apply w_condF; exact rfl; (first | exact rfl | assumption)))
      apply s_ghost; exact rfl; exact gh_row 2 rfl
      repeat (first
    | (apply s_move_f; exact rfl; exact rfl)
    | (apply s_len TY; exact rfl; exact rfl; exact rfl)
    | (apply s_build TY; exact rfl; exact rfl; exact rfl; exact rfl; exact rfl)
    | apply w_seq
    | apply w_region
    | apply s_nil
    | apply t_norm
    | apply w_block
    | (apply s_call (SummN.toSumm (cloneI_s pre (by omega))); exact rfl; exact rfl; exact rfl; exact rfl)
    | (apply s_alloc TY; exact rfl; exact rfl; exact rfl)
    | (apply s_store TY; exact rfl; exact rfl; exact rfl; exact rfl; exact rfl; exact rfl))
      apply w_gh (gh_ownB 3 1 4 1 rfl rfl rfl)
      apply w_loop (fun k : Nat => ⟨(Ab.upd (Ab.upd (Ab.upd (Ab.upd (Ab.upd (Ab.upd (fun _ => .bot) 73 (.f (iv (k : Nat)))) 72 (.f (iv l.length))) 71 (.f (.sl l.length (flasF l)))) 14 (.bx 3 0)) 11 (.bx 1 0)) 0 (.ow 0)), (Ab.upd (Ab.upd (Ab.upd (Ab.upd (fun _ => none) 0 (some (.row 147 2 ms.length (modelsF ms)))) 1 (some (.box [.f (.sl (own x pre).layers.length (laysF (own x pre).layers)), .f (iv (own x pre).rows), .f (.sl (own x pre).tilt.length (intsF (own x pre).tilt))]))) 3 (some (.box [.f (.sl pre.length (intsF pre)), .ow 4]))) 4 (some (.row 4 1 k (boolsF ((explains (own x pre) l).take k))))), 5⟩) (fun k => k ≤ l.length) (fun k => l.length - k) 0 (Nat.zero_le _) (gh_le ⟨le_upd rfl rfl (le_upd rfl rfl (le_upd rfl rfl (le_upd rfl trivial (le_upd rfl trivial (le_upd rfl trivial (le_nil _)))))), le_hupd rfl trivial (le_hupd rfl (fun y hy => by simp at hy; rcases hy with rfl | rfl <;> first | trivial | rfl) (le_hupd (by rw [← ownL_end, ownL_len]; rfl) (fun y hy => by simp at hy; rcases hy with rfl | rfl | rfl <;> first | trivial | rfl) (le_hupd rfl trivial (le_h0 _ _))))⟩)
      intro k hk
      have hel : (explains (own x pre) l).length = l.length := by simp [explains]
      by_cases hkc : k < l.length
      · have hc : decide ((k : Int) < (l.length : Int)) = true := by simpa using hkc
        have hsub : ((flasF l).drop (k * 7)).take 7 = flaF l[k] := flat_sub (f := flaF) (fun _ => rfl) hkc
        have hne : flasF l ≠ [] := flat_ne (s := 7) (fun _ => rfl) (by decide) hkc
        have hin := hf l[k] (List.getElem_mem hkc)
        have hexp : (explains (own x pre) l)[k]'(by omega) = withinB (distOf (own x pre) l[k].frm l[k].to) l[k].time.lo l[k].time.hi := by simp [explains]
        have hv := own_valid K.v hpre
        repeat (first
    | (apply s_load_pts TY; exact rfl; exact rfl; exact rfl; (first | assumption | exact rfl); exact rfl)
    | (apply s_lss; exact rfl; exact rfl; exact rfl)
    | apply w_seq
    | apply w_region
    | apply s_nil
    | apply t_norm
    | apply w_block
    | apply w_skip
    | (apply s_idxN TY; exact rfl; exact rfl; exact rfl; exact rfl; assumption; assumption)
    | (apply s_alloc TY; exact rfl; exact rfl; exact rfl)
    | (apply s_store TY; exact rfl; exact rfl; exact rfl; exact rfl; exact rfl; exact rfl)
    | (apply w_condT; exact rfl; (first | exact rfl | assumption)))
        apply w_draw 17 rfl (by kernel_rfl)
        repeat (first
    | (apply s_lookup; exact rfl; exact rfl; exact rfl; exact rfl; exact (fun ob r w hG hr => look_s (x := own x pre) (fr := l[k].frm) (c := l[k].to) ((own_in x pre _).2 hin.2) ob r w hG hr); exact (fun w M => RepF.v _))
    | (apply s_append TY; exact rfl; exact rfl; exact rfl; exact rfl; exact rfl; exact rfl; exact rfl; exact rfl; exact rfl; (unfold maxLen; omega); omega)
    | (apply s_move_f; exact rfl; exact rfl)
    | (apply s_fld_bx TY; exact rfl; exact rfl; exact rfl)
    | (apply s_load_bx_f TY; exact rfl; exact rfl; exact rfl; exact rfl; exact rfl)
    | (apply s_load_bx_o TY; exact rfl; exact rfl; exact rfl; exact rfl; exact rfl)
    | (apply s_load_bxs TY; exact rfl; exact rfl; exact rfl; exact rfl; exact rfl; exact rfl)
    | (apply s_bslice TY; exact rfl; exact rfl; exact rfl; exact rfl; exact rfl; exact rfl)
    | apply w_region
    | apply s_nil
    | apply t_norm
    | apply k_norm
    | (apply s_call (times_s (own x pre) l[k].frm hv ((own_in x pre _).2 hin.1)); exact rfl; exact rfl; exact rfl; exact rfl)
    | (apply s_call (within_s _ _ _); exact rfl; exact rfl; exact rfl; exact rfl)
    | (apply s_add; exact rfl; exact rfl; exact rfl; (omega))
    | (apply s_store TY; exact rfl; exact rfl; exact rfl; exact rfl; exact rfl; exact rfl))
        exact ⟨k + 1, by omega, by omega, gh_le ⟨le_upd rfl rfl (le_upd rfl rfl (le_upd rfl rfl (le_upd rfl trivial (le_upd rfl trivial (le_upd rfl trivial (le_nil _)))))), le_hupd (by rw [boolsF_take (show k < (explains (own x pre) l).length by omega), hexp]; rfl) trivial (le_hupd rfl (fun y hy => by simp at hy; rcases hy with rfl | rfl <;> first | trivial | rfl) (le_hupd rfl (fun y hy => by simp at hy; rcases hy with rfl | rfl | rfl <;> first | trivial | rfl) (le_hupd rfl trivial (le_h0 _ _))))⟩⟩
      · have hc : decide ((k : Int) < (l.length : Int)) = false := by simpa using hkc
        have hke : k = l.length := by omega
        subst hke
        rw [List.take_of_length_le (by omega)]
        repeat (first
    | (apply s_lss; exact rfl; exact rfl; exact rfl)
    | (apply s_move_o; exact rfl; exact rfl)
    | apply w_seq
    | apply w_region
    | apply s_nil
    | apply t_norm
    | apply t_exit
    | apply k_hit
    | apply w_exit
    | (apply w_condF; exact rfl; (first | exact rfl | assumption)))
        apply s_ghost; exact rfl; exact gh_row 4 rfl
        repeat (first
    | (apply s_append TY; exact rfl; exact rfl; exact rfl; exact rfl; exact rfl; exact rfl; exact rfl; exact rfl; exact rfl; (unfold maxLen; omega); omega)
    | (apply s_assign_o; exact rfl; exact rfl)
    | (apply s_load_bxs TY; exact rfl; exact rfl; exact rfl; exact rfl; exact rfl; exact rfl)
    | (apply s_bslice TY; exact rfl; exact rfl; exact rfl; exact rfl; exact rfl; exact rfl)
    | apply s_nil
    | apply t_norm
    | apply w_ret)
        refine ⟨8, rfl, rfl, ?_⟩
        rw [modelsF_snoc, List.length_append]
        show _ = some (Blk.row 147 2 (ms.length + 1) (modelsF ms ++ [FV.sl pre.length (intsF pre), FV.sl (explains (own x pre) l).length (boolsF (explains (own x pre) l))]))
        rw [hel]
        rfl
end Go.Proofs.YtienhiloecfgnaaDoor
namespace Go.Proofs.YtienhiloecfgnaaDoor
open Go Go.RowKit Go.Proofs Go.Shelf Go.Ab
structure Small (x : Grid) (rs : List Rng) (l : List Flash) : Prop where
  nl : x.layers.length ≤ 140737488355328
  nt : x.tilt.length ≤ 140737488355328
  nr : rs.length ≤ 140737488355328
  nf : l.length ≤ 140737488355328
  name : ∀ f ∈ l, f.name.size ≤ 9223372036854775807
theorem CheckFlashes_s (x : Grid) (rs : List Rng) (l : List Flash) (b : Small x rs l) : Summ Tryd.prog GG 26 [classF x rs, .sl l.length (flasF l)] (.tup [iv (checkFlashes x rs l).1, iv (checkFlashes x rs l).2]) := by
  refine ⟨enters_of Tryd.func26 (by kernel_rfl) rfl, fun w M us hM hG R => ?_⟩
  obtain ⟨u1, us1, rfl, r1, R1⟩ := R.head
  obtain ⟨u2, us2, rfl, r2, R2⟩ := R1.head
  have := R2.end; subst this
  obtain ⟨la, ta, ra, lc, tc, rc, rfl, hg, hr⟩ := rep_classF r1 b.nl b.nt
  obtain ⟨fa, fc, rfl, hfc, hf⟩ := rep_row r2 (detC_flas l)
  refine (CheckFlashes_any la ta ra fa lc tc rc fc x rs l w hg hr b.nr ⟨hf, b.nf, b.name⟩ hfc).mono fun e w' ⟨h1, h2⟩ => ⟨_, h1, ?_, h2⟩
  have R := RepL.cons (RepF.v (w := w') (M := M) (.int .i64 (checkFlashes x rs l).1)) (RepL.cons (RepF.v (.int .i64 (checkFlashes x rs l).2)) (RepL.nil _ _))
  exact RepF.tup _ _ R.1 R.2
theorem containsB_s (l : List Bool) (v : Bool) (hl : l.length ≤ 140737488355328) : Summ Tryd.prog GG 97 [.sl l.length (boolsF l), .v (.bool v)] (.v (.bool (l.any fun b => v == b))) := by
  refine ⟨enters_of Tryd.func97 (by kernel_rfl) rfl, fun w M us hM hG R => ?_⟩
  obtain ⟨u1, us1, rfl, r1, R1⟩ := R.head
  obtain ⟨u2, us2, rfl, r2, R2⟩ := R1.head
  have := R2.end; subst this
  have := repV r2; subst this
  obtain ⟨a, c, rfl, _, hr⟩ := rep_row r1 (detC_bools l)
  exact (containsBool v a l c w hl hr).mono fun e w' ⟨h1, h2⟩ => ⟨_, h1, RepF.v _, h2 ▸ Ext.refl _⟩
theorem rep_nil {w : World} {M : Nat → Prop} {u : Value} (h : RepF w M u (.v (.slice none 0 0))) : RepF w M u (.sl 0 []) := by
  have := repV h; subst this
  exact RepF.sl none 0 0 [] [] (Nat.le_refl _) rfl (by simp) (fun h => absurd rfl h) (fun k u x h => by simp at h)
theorem flashScan_zero {x : Grid} {l : List Flash} : ∀ (f i : Nat), i + f = l.length → (flashScan x l f i).2 = 0 → ∀ j, i ≤ j → (hj : j < l.length) → flashE x (l.take j) l[j] = 0
  | 0, i, h, _, j, h1, hj => by omega
  | f + 1, i, h, hz, j, h1, hj => by
    have hi : i < l.length := by omega
    unfold flashScan at hz
    rw [getDF hi] at hz
    by_cases hr : (flashE x (l.take i) l[i] != 0) = true
    · rw [if_pos hr] at hz; simp at hr; exact absurd hz hr
    · rw [if_neg hr] at hz
      by_cases e : j = i
      · subst e; simpa using hr
      · exact flashScan_zero f (i + 1) (by omega) hz j (by omega) hj
structure FlashesOk (x : Grid) (rs : List Rng) (l : List Flash) : Prop where
  k : ClassOk x rs
  l8 : l.length ≤ 8
  cells : ∀ f ∈ l, InG x f.frm ∧ InG x f.to
theorem flashesOk {x : Grid} {rs : List Rng} {l : List Flash} (h : (checkFlashes x rs l).2 = 0) : FlashesOk x rs l := by
  unfold checkFlashes at h
  by_cases t1 : (flashE0 x rs l != 0) = true
  · rw [if_pos t1] at h; simp at t1; exact absurd h t1
  rw [if_neg t1] at h
  have h0 : flashE0 x rs l = 0 := by simpa using t1
  unfold flashE0 at h0
  rw [firstE_zero] at h0
  have k := classOk (h0 (checkClass x rs).2 (by simp))
  have h8 := (unlessE_zero (by decide)).1 (h0 (unlessE (decide ((l.length : Int) ≤ 8)) 8) (by simp))
  simp only [decide_eq_true_eq] at h8
  refine ⟨k, by omega, fun f hf => ?_⟩
  obtain ⟨j, hj, rfl⟩ := List.mem_iff_getElem.1 hf
  have hz := flashScan_zero (x := x) l.length 0 (by omega) h j (Nat.zero_le _) hj
  unfold flashE at hz
  rw [firstE_zero] at hz
  have a1 := (unlessE_zero (by decide)).1 (hz (cellErrE x l[j].frm) (by simp))
  have a2 := (unlessE_zero (by decide)).1 (hz (cellErrE x l[j].to) (by simp))
  exact ⟨(cellB_in k.v).1 a1, (cellB_in k.v).1 a2⟩
noncomputable def allMo (x : Grid) (rs : List Rng) (l : List Flash) : List (List Int × List Bool) := news x l rs []
theorem grown_nil (x : Grid) (rs : List Rng) (l : List Flash) (K : FlashesOk x rs l) : Summ Tryd.prog GG 134 [.v (.slice none 0 0), classF x rs, .sl l.length (flasF l), .v (.slice none 0 0)] (.sl (allMo x rs l).length (modelsF (allMo x rs l))) := by
  have G := grown_s x rs l K.k K.l8 K.cells rs.length [] [] (by simp) (by simp) (by simp; have := K.k.cnt; omega)
  simp only [List.nil_append, List.length_nil, List.drop_zero] at G
  refine ⟨G.enters, fun w M us hM hG R => ?_⟩
  obtain ⟨u1, us1, rfl, r1, R1⟩ := R.head
  obtain ⟨u2, us2, rfl, r2, R2⟩ := R1.head
  obtain ⟨u3, us3, rfl, r3, R3⟩ := R2.head
  obtain ⟨u4, us4, rfl, r4, R4⟩ := R3.head
  have := R4.end; subst this
  have e1 := repV r1; subst e1
  have hMM : ∀ b, b < w.heap.size → (M b ∨ bk (.slice none 0 0) = some b) → M b := fun b _ h => h.elim id (fun h => by simp [bk] at h)
  have RR : RepL w M [u2, u3, u4] [classF x rs, .sl l.length (flasF l), .sl 0 (intsF [])] := RepL.cons r2 (RepL.cons r3 (RepL.cons (rep_nil r4) (RepL.nil _ _)))
  refine (G.call w M [u2, u3, u4] (.slice none 0 0) [] hM (fun b hb => by simp [bk] at hb) (fun g cs hg => (hG g cs hg).ext (Ext.refl _) hMM) (RR.ext (Ext.refl _) hMM) (World.ownsRow_nil _ _ _ _) (by simp) (RepL.nil _ _)).mono ?_
  rintro e w' ⟨v', xs', rfl, h1, h2, h3, h4, h5⟩
  have hfr : ∀ c, bk v' = some c → w.heap.size ≤ c := fun c hc => (h5 c hc).elim (fun h => by simp [bk] at h) id
  refine ⟨v', rfl, own_sl (w := w) (e := 147) (sz := 2) (us := xs') ⟨h1.1, ?_⟩ h2 hM (h3.mono (fun _ _ _ => rfl) (Nat.le_refl _) (fun _ _ h => .inl h)), Ext.of_grown h4⟩
  rcases h1.2 with h | ⟨g, cap, cur, q1, q2, q3⟩
  · exact .inl h
  · exact .inr ⟨g, cap, cur, q1, hfr g (by rw [q1]; rfl), q3⟩
set_option maxRecDepth 100000 in
theorem openModels_err (x : Grid) (rs : List Rng) (l : List Flash) (b : Small x rs l) (h : (checkFlashes x rs l).2 ≠ 0) : Summ Tryd.prog GG 96 [classF x rs, .sl l.length (flasF l)] (.tup [.v (.slice none 0 0), iv (checkFlashes x rs l).2]) := by
  have hb : (!decide ((checkFlashes x rs l).2 = 0)) = true := by simpa using h
  refine summW Tryd.func96 rfl rfl 20 rfl (by simp) (fun M0 => ?_)
  repeat (first
    | (apply s_move_f; exact rfl; exact rfl)
    | (apply s_assign_f; exact rfl; exact rfl)
    | (apply s_load_pts TY; exact rfl; exact rfl; exact rfl; (first | assumption | exact rfl); exact rfl)
    | (apply s_extract; exact rfl; exact rfl; exact rfl)
    | (apply s_box; exact rfl; exact rfl; exact rfl)
    | (apply s_neq; exact rfl; exact rfl; exact rfl)
    | apply w_seq
    | apply w_region
    | apply s_nil
    | apply t_norm
    | apply t_ret
    | apply w_ret
    | (apply s_call (CheckFlashes_s x rs l b); exact rfl; exact rfl; exact rfl; exact rfl)
    | (apply w_condT; exact rfl; (first | exact rfl | assumption)))
  exact lv_ret (ret2 rfl (res_tmp rfl) (res_tmp rfl))
set_option maxRecDepth 100000 in
theorem openModels_ok (x : Grid) (rs : List Rng) (l : List Flash) (b : Small x rs l) (h : (checkFlashes x rs l).2 = 0) : Summ Tryd.prog GG 96 [classF x rs, .sl l.length (flasF l)] (.tup [.sl (allMo x rs l).length (modelsF (allMo x rs l)), iv 0]) := by
  have hb : (!decide ((checkFlashes x rs l).2 = 0)) = false := by simpa using h
  refine summW Tryd.func96 rfl rfl 20 rfl (by simp) (fun M0 => ?_)
  repeat (first
    | (apply s_move_f; exact rfl; exact rfl)
    | (apply s_assign_f; exact rfl; exact rfl)
    | (apply s_load_pts TY; exact rfl; exact rfl; exact rfl; (first | assumption | exact rfl); exact rfl)
    | (apply s_extract; exact rfl; exact rfl; exact rfl)
    | (apply s_box; exact rfl; exact rfl; exact rfl)
    | (apply s_neq; exact rfl; exact rfl; exact rfl)
    | apply w_seq
    | apply w_region
    | apply s_nil
    | apply t_norm
    | apply w_ret
    | apply w_skip
    | (apply s_call (CheckFlashes_s x rs l b); exact rfl; exact rfl; exact rfl; exact rfl)
    | (apply s_call (grown_nil x rs l (flashesOk h)); exact rfl; exact rfl; exact rfl; exact rfl)
    | (apply w_condF; exact rfl; (first | exact rfl | assumption)))
  exact lv_ret (ret2 rfl (res_tmp rfl) (res_tmp rfl))
noncomputable def fits (ms : List (List Int × List Bool)) : List (List Int) := (ms.filter fun m => !m.2.any fun b => false == b).map (·.1)
theorem fits_take {ms : List (List Int × List Bool)} {k : Nat} (hk : k < ms.length) : fits (ms.take (k + 1)) = fits (ms.take k) ++ (if (ms[k].2.any fun b => false == b) = true then [] else [ms[k].1]) := by
  unfold fits
  rw [List.take_succ_eq_append_getElem hk, List.filter_append, List.map_append]
  congr 1
  by_cases h : (ms[k].2.any fun b => false == b) = true
  · rw [if_pos h]; simp only [List.filter_cons, h]; rfl
  · rw [if_neg h]; simp only [List.filter_cons]; rw [show (ms[k].2.any fun b => false == b) = false by simpa using h]; rfl
theorem fits_len (ms : List (List Int × List Bool)) : (fits ms).length ≤ ms.length := by unfold fits; rw [List.length_map]; exact List.length_filter_le _ _
def rowF (r : List Int) : FV := .sl r.length (intsF r)
def matF (M : List (List Int)) : List FV := M.map rowF
theorem matF_snoc (M : List (List Int)) (r : List Int) : matF (M ++ [r]) = matF M ++ [rowF r] := by simp [matF]
noncomputable def modelsM (x : Grid) (rs : List Rng) (l : List Flash) : List (List Int) := fits (allMo x rs l)
theorem allMo_len {x : Grid} {rs : List Rng} {l : List Flash} (K : FlashesOk x rs l) : (allMo x rs l).length ≤ 300 := by unfold allMo news; rw [List.length_map]; exact K.k.cnt
theorem allMo_bools {x : Grid} {rs : List Rng} {l : List Flash} {m : List Int × List Bool} (h : m ∈ allMo x rs l) : m.2.length = l.length := by
  unfold allMo news at h
  obtain ⟨ds, _, rfl⟩ := List.mem_map.1 h
  simp [mo, explains]
set_option maxRecDepth 100000 in
theorem ModelsOf_err (x : Grid) (rs : List Rng) (l : List Flash) (b : Small x rs l) (h : (checkFlashes x rs l).2 ≠ 0) : Summ Tryd.prog GG 28 [classF x rs, .sl l.length (flasF l)] (.tup [.v (.slice none 0 0), iv (checkFlashes x rs l).2]) := by
  have hb : (!decide ((checkFlashes x rs l).2 = 0)) = true := by simpa using h
  refine summW Tryd.func28 rfl rfl 37 rfl (by simp) (fun M0 => ?_)
  repeat (first
    | (apply s_move_f; exact rfl; exact rfl)
    | (apply s_assign_f; exact rfl; exact rfl)
    | (apply s_load_pts TY; exact rfl; exact rfl; exact rfl; (first | assumption | exact rfl); exact rfl)
    | (apply s_extract; exact rfl; exact rfl; exact rfl)
    | (apply s_box; exact rfl; exact rfl; exact rfl)
    | (apply s_neq; exact rfl; exact rfl; exact rfl)
    | apply w_seq
    | apply w_region
    | apply s_nil
    | apply t_norm
    | apply t_ret
    | apply w_ret
    | (apply s_call (openModels_err x rs l b h); exact rfl; exact rfl; exact rfl; exact rfl)
    | (apply w_condT; exact rfl; (first | exact rfl | assumption)))
  exact lv_ret (ret2 rfl (res_tmp rfl) (res_tmp rfl))
set_option maxRecDepth 100000 in
theorem ModelsOf_ok (x : Grid) (rs : List Rng) (l : List Flash) (b : Small x rs l) (h : (checkFlashes x rs l).2 = 0) : Summ Tryd.prog GG 28 [classF x rs, .sl l.length (flasF l)] (.tup [.sl (modelsM x rs l).length (matF (modelsM x rs l)), iv 0]) := by
  have K := flashesOk h
  have h300 := allMo_len K
  have hb : (!decide ((0 : Int) = 0)) = false := by simp
  refine summW Tryd.func28 rfl rfl 37 rfl (by simp) (fun M0 => ?_)
  repeat (first
    | (apply s_move_f; exact rfl; exact rfl)
    | (apply s_assign_f; exact rfl; exact rfl)
    | (apply s_load_pts TY; exact rfl; exact rfl; exact rfl; (first | assumption | exact rfl); exact rfl)
    | (apply s_len TY; exact rfl; exact rfl; exact rfl)
    | (apply s_extract; exact rfl; exact rfl; exact rfl)
    | (apply s_box; exact rfl; exact rfl; exact rfl)
    | (apply s_neq; exact rfl; exact rfl; exact rfl)
    | apply w_seq
    | apply w_region
    | apply s_nil
    | apply t_norm
    | apply w_block
    | apply w_skip
    | (apply s_call (openModels_ok x rs l b h); exact rfl; exact rfl; exact rfl; exact rfl)
    | (apply w_condF; exact rfl; (first | exact rfl | assumption)))
  apply w_gh (gh_own 8 23 1 rfl rfl)
  apply w_loop (fun k : Nat => ⟨(Ab.upd (Ab.upd (Ab.upd (Ab.upd (fun _ => .bot) 8 (.ow 0)) 20 (.f (.sl (allMo x rs l).length (modelsF (allMo x rs l))))) 21 (.f (iv (allMo x rs l).length))) 22 (.f (iv (k : Nat)))), (Ab.upd (fun _ => none) 0 (some (.row 23 1 (fits ((allMo x rs l).take k)).length (matF (fits ((allMo x rs l).take k)))))), 1⟩) (fun k => k ≤ (allMo x rs l).length) (fun k => (allMo x rs l).length - k) 0 (Nat.zero_le _) (gh_le ⟨le_upd rfl trivial (le_upd rfl trivial (le_upd rfl trivial (le_upd rfl rfl (le_nil _)))), le_hupd rfl trivial (le_h0 _ _)⟩)
  intro k hk
  have hfl := fits_len ((allMo x rs l).take k)
  rw [List.length_take] at hfl
  by_cases hkc : k < (allMo x rs l).length
  · have hc : decide ((k : Int) < ((allMo x rs l).length : Int)) = true := by simpa using hkc
    have hsub : ((modelsF (allMo x rs l)).drop (k * 2)).take 2 = modF (allMo x rs l)[k] := flat_sub (f := modF) (fun _ => rfl) hkc
    have hne : modelsF (allMo x rs l) ≠ [] := flat_ne (s := 2) (fun _ => rfl) (by decide) hkc
    have hbl := allMo_bools (List.getElem_mem hkc)
    have h8 := K.l8
    have hft := fits_take hkc
    cases hany : ((allMo x rs l)[k].2.any fun b => false == b)
    · have hn : (!((allMo x rs l)[k].2.any fun b => false == b)) = true := by rw [hany]; rfl
      rw [hany] at hft
      simp only [Bool.false_eq_true, if_false] at hft
      repeat (first
    | (apply s_append TY; exact rfl; exact rfl; exact rfl; exact rfl; exact rfl; exact rfl; exact rfl; exact rfl; exact rfl; (unfold maxLen; omega); omega)
    | (apply s_move_f; exact rfl; exact rfl)
    | (apply s_load_pts TY; exact rfl; exact rfl; exact rfl; (first | assumption | exact rfl); exact rfl)
    | (apply s_not; exact rfl; exact rfl)
    | (apply s_lss; exact rfl; exact rfl; exact rfl)
    | (apply s_move_o; exact rfl; exact rfl)
    | (apply s_assign_o; exact rfl; exact rfl)
    | (apply s_fld_bx TY; exact rfl; exact rfl; exact rfl)
    | (apply s_load_bx_f TY; exact rfl; exact rfl; exact rfl; exact rfl; exact rfl)
    | (apply s_bslice TY; exact rfl; exact rfl; exact rfl; exact rfl; exact rfl; exact rfl)
    | apply w_seq
    | apply w_region
    | apply s_nil
    | apply t_norm
    | apply k_norm
    | apply w_block
    | apply w_skip
    | (apply s_call (containsB_s (allMo x rs l)[k].2 false (by omega)); exact rfl; exact rfl; exact rfl; exact rfl)
    | (apply s_add; exact rfl; exact rfl; exact rfl; (omega))
    | (apply s_idxN TY; exact rfl; exact rfl; exact rfl; exact rfl; assumption; assumption)
    | (apply s_alloc TY; exact rfl; exact rfl; exact rfl)
    | (apply s_store TY; exact rfl; exact rfl; exact rfl; exact rfl; exact rfl; exact rfl)
    | (apply w_condT; exact rfl; (first | exact rfl | assumption)))
      exact ⟨k + 1, by omega, by omega, gh_le ⟨le_upd rfl trivial (le_upd rfl trivial (le_upd rfl trivial (le_upd rfl rfl (le_nil _)))), le_hupd (by rw [hft, matF_snoc, List.length_append]; rfl) trivial (le_h0 _ _)⟩⟩
    · have hn : (!((allMo x rs l)[k].2.any fun b => false == b)) = false := by rw [hany]; rfl
      rw [hany] at hft
      simp only [if_true, List.append_nil] at hft
      repeat (first
    | (apply s_move_f; exact rfl; exact rfl)
    | (apply s_load_pts TY; exact rfl; exact rfl; exact rfl; (first | assumption | exact rfl); exact rfl)
    | (apply s_not; exact rfl; exact rfl)
    | (apply s_lss; exact rfl; exact rfl; exact rfl)
    | (apply s_fld_bx TY; exact rfl; exact rfl; exact rfl)
    | (apply s_load_bx_f TY; exact rfl; exact rfl; exact rfl; exact rfl; exact rfl)
    | apply w_seq
    | apply w_region
    | apply s_nil
    | apply t_norm
    | apply k_norm
    | apply w_block
    | apply w_skip
    | (apply s_call (containsB_s (allMo x rs l)[k].2 false (by omega)); exact rfl; exact rfl; exact rfl; exact rfl)
    | (apply s_add; exact rfl; exact rfl; exact rfl; (omega))
    | (apply s_idxN TY; exact rfl; exact rfl; exact rfl; exact rfl; assumption; assumption)
    | (apply s_alloc TY; exact rfl; exact rfl; exact rfl)
    | (apply s_store TY; exact rfl; exact rfl; exact rfl; exact rfl; exact rfl; exact rfl)
    | (apply w_condT; exact rfl; (first | exact rfl | assumption))
    | (apply w_condF; exact rfl; (first | exact rfl | assumption)))
      exact ⟨k + 1, by omega, by omega, gh_le ⟨le_upd rfl trivial (le_upd rfl trivial (le_upd rfl trivial (le_upd rfl rfl (le_nil _)))), le_hupd (by rw [hft]; rfl) trivial (le_h0 _ _)⟩⟩
  · have hc : decide ((k : Int) < ((allMo x rs l).length : Int)) = false := by simpa using hkc
    have hke : k = (allMo x rs l).length := by omega
    subst hke
    rw [List.take_length]
    repeat (first
    | (apply s_assign_f; exact rfl; exact rfl)
    | (apply s_lss; exact rfl; exact rfl; exact rfl)
    | (apply s_move_o; exact rfl; exact rfl)
    | (apply s_assign_o; exact rfl; exact rfl)
    | apply w_seq
    | apply w_region
    | apply s_nil
    | apply t_norm
    | apply t_exit
    | apply k_hit
    | apply w_exit
    | apply w_ret
    | (apply w_condF; exact rfl; (first | exact rfl | assumption)))
    exact lv_ret (ret_gh (gh_row 0 rfl) (ret2 rfl (res_tmp rfl) (res_tmp rfl)))
end Go.Proofs.YtienhiloecfgnaaDoor
namespace Go.Proofs.YtienhiloecfgnaaDoor
open Go Go.RowKit Go.Proofs Go.Shelf Go.Ab
theorem assigns_rows : ∀ (rs : List Rng) (pre ds : List Int), ds ∈ assigns rs pre → ds.length = pre.length + rs.length
  | [], pre, ds, h => by simp [assigns] at h; subst h; simp
  | r :: rs, pre, ds, h => by
    simp only [assigns, List.mem_flatMap] at h
    obtain ⟨n, _, h⟩ := h
    have := assigns_rows rs _ ds h
    simp at this ⊢; omega
theorem assigns_bd : ∀ (rs : List Rng) (pre ds : List Int), (∀ r ∈ rs, 1 ≤ r.lo ∧ r.lo ≤ r.hi ∧ r.hi ≤ 1000) → (∀ n ∈ pre, 1 ≤ n ∧ n ≤ 1000) → ds ∈ assigns rs pre → ∀ n ∈ ds, 1 ≤ n ∧ n ≤ 1000
  | [], pre, ds, _, hp, h => by simp [assigns] at h; subst h; exact hp
  | r :: rs, pre, ds, hr, hp, h => by
    simp only [assigns, List.mem_flatMap] at h
    obtain ⟨n, hn, h⟩ := h
    refine assigns_bd rs _ ds (fun r hm => hr r (by simp [hm])) (fun k hk => ?_) h
    rcases List.mem_append.1 hk with h1 | h1
    · exact hp k h1
    · simp at h1; subst h1
      simp only [upTo, List.mem_map, List.mem_range] at hn
      obtain ⟨j, hj, rfl⟩ := hn
      have := hr r (by simp)
      omega
theorem fits_mem {ms : List (List Int × List Bool)} {r : List Int} (h : r ∈ fits ms) : ∃ m ∈ ms, m.1 = r := by
  unfold fits at h
  obtain ⟨m, hm, rfl⟩ := List.mem_map.1 h
  exact ⟨m, (List.mem_filter.1 hm).1, rfl⟩
theorem modelsM_rows {x : Grid} {rs : List Rng} {l : List Flash} {r : List Int} (h : r ∈ modelsM x rs l) : r.length = rs.length := by
  obtain ⟨m, hm, rfl⟩ := fits_mem h
  unfold allMo news at hm
  obtain ⟨ds, hd, rfl⟩ := List.mem_map.1 hm
  have := assigns_rows rs [] ds hd
  simpa [mo] using this
def atI (M : List (List Int)) (k i : Nat) : Int := (M.getD k []).getD i 0
def loK (M : List (List Int)) (i : Nat) : Nat → Int
  | 0 => atI M 0 i
  | k + 1 => min (loK M i k) (atI M k i)
def hiK (M : List (List Int)) (i : Nat) : Nat → Int
  | 0 => atI M 0 i
  | k + 1 => max (hiK M i k) (atI M k i)
def rangesR (M : List (List Int)) (n : Nat) : List Rng := (List.range n).map fun i => ⟨loK M i M.length, hiK M i M.length⟩
theorem rangesR_succ (M : List (List Int)) (n : Nat) : rangesR M (n + 1) = rangesR M n ++ [⟨loK M n M.length, hiK M n M.length⟩] := by simp [rangesR, List.range_succ]
theorem rangesR_len (M : List (List Int)) (n : Nat) : (rangesR M n).length = n := by simp [rangesR]
theorem rngsF_snoc (l : List Rng) (r : Rng) : rngsF (l ++ [r]) = rngsF l ++ rngF r := by simp [rngsF]
theorem matF_at {M : List (List Int)} {k : Nat} (hk : k < M.length) : (matF M)[k * 1]? = some (rowF M[k]) := map_at hk
theorem atI_eq {M : List (List Int)} {k i : Nat} (hk : k < M.length) (hi : i < M[k].length) : atI M k i = M[k][i] := by
  unfold atI
  simp only [List.getD_eq_getElem?_getD, List.getElem?_eq_getElem hk, Option.getD_some, List.getElem?_eq_getElem hi]
set_option maxRecDepth 100000 in
theorem RangesOf_err (x : Grid) (rs : List Rng) (l : List Flash) (b : Small x rs l) (h : (checkFlashes x rs l).2 ≠ 0) : Summ Tryd.prog GG 69 [classF x rs, .sl l.length (flasF l)] (.tup [.v (.slice none 0 0), iv (checkFlashes x rs l).2]) := by
  have hf : firstE [(checkFlashes x rs l).2, unlessE (decide ((0 : Int) < 0)) 12] = (checkFlashes x rs l).2 := by rw [firstE, if_neg h]
  have hb : (!decide (firstE [(checkFlashes x rs l).2, unlessE (decide ((0 : Int) < 0)) 12] = 0)) = true := by rw [hf]; simpa using h
  refine summW Tryd.func69 rfl rfl 76 rfl (by simp) (fun M0 => ?_)
  repeat (first
    | (apply s_move_f; exact rfl; exact rfl)
    | (apply s_assign_f; exact rfl; exact rfl)
    | (apply s_load_pts TY; exact rfl; exact rfl; exact rfl; (first | assumption | exact rfl); exact rfl)
    | (apply s_extract; exact rfl; exact rfl; exact rfl)
    | (apply s_box; exact rfl; exact rfl; exact rfl)
    | (apply s_gtr; exact rfl; exact rfl; exact rfl)
    | (apply s_neq; exact rfl; exact rfl; exact rfl)
    | (apply s_len_nil TY; exact rfl; exact rfl; exact rfl)
    | (apply s_bslice TY; exact rfl; exact rfl; exact rfl; exact rfl; exact rfl; exact rfl)
    | apply w_seq
    | apply w_region
    | apply s_nil
    | apply t_norm
    | apply t_ret
    | apply w_ret
    | (apply s_call (ModelsOf_err x rs l b h); exact rfl; exact rfl; exact rfl; exact rfl)
    | (apply s_call (unless_s _ _); exact rfl; exact rfl; exact rfl; exact rfl)
    | (apply s_call (first_s [(checkFlashes x rs l).2, unlessE (decide ((0 : Int) < 0)) 12] (by simp)); exact rfl; exact rfl; exact rfl; exact rfl)
    | (apply w_condT; exact rfl; (first | exact rfl | assumption)))
  exact lv_ret (ret2 rfl (res_tmp rfl) (res_tmp (congrArg (fun z => AV.f (iv z)) hf)))
set_option maxRecDepth 100000 in
theorem RangesOf_none (x : Grid) (rs : List Rng) (l : List Flash) (b : Small x rs l) (h : (checkFlashes x rs l).2 = 0) (hm : (modelsM x rs l).length = 0) : Summ Tryd.prog GG 69 [classF x rs, .sl l.length (flasF l)] (.tup [.v (.slice none 0 0), iv 12]) := by
  have hf : firstE [0, unlessE (decide ((0 : Int) < ((modelsM x rs l).length : Int))) 12] = 12 := by rw [hm]; rfl
  have hb : (!decide (firstE [0, unlessE (decide ((0 : Int) < ((modelsM x rs l).length : Int))) 12] = 0)) = true := by rw [hf]; decide
  refine summW Tryd.func69 rfl rfl 76 rfl (by simp) (fun M0 => ?_)
  repeat (first
    | (apply s_move_f; exact rfl; exact rfl)
    | (apply s_assign_f; exact rfl; exact rfl)
    | (apply s_load_pts TY; exact rfl; exact rfl; exact rfl; (first | assumption | exact rfl); exact rfl)
    | (apply s_len TY; exact rfl; exact rfl; exact rfl)
    | (apply s_extract; exact rfl; exact rfl; exact rfl)
    | (apply s_box; exact rfl; exact rfl; exact rfl)
    | (apply s_gtr; exact rfl; exact rfl; exact rfl)
    | (apply s_neq; exact rfl; exact rfl; exact rfl)
    | (apply s_bslice TY; exact rfl; exact rfl; exact rfl; exact rfl; exact rfl; exact rfl)
    | apply w_seq
    | apply w_region
    | apply s_nil
    | apply t_norm
    | apply t_ret
    | apply w_ret
    | (apply s_call (ModelsOf_ok x rs l b h); exact rfl; exact rfl; exact rfl; exact rfl)
    | (apply s_call (unless_s _ _); exact rfl; exact rfl; exact rfl; exact rfl)
    | (apply s_call (first_s [0, unlessE (decide ((0 : Int) < ((modelsM x rs l).length : Int))) 12] (by simp)); exact rfl; exact rfl; exact rfl; exact rfl)
    | (apply w_condT; exact rfl; (first | exact rfl | assumption)))
  exact lv_ret (ret2 rfl (res_tmp rfl) (res_tmp (congrArg (fun z => AV.f (iv z)) hf)))
set_option maxRecDepth 100000 in
set_option maxHeartbeats 1000000 in
theorem RangesOf_ok (x : Grid) (rs : List Rng) (l : List Flash) (b : Small x rs l) (h : (checkFlashes x rs l).2 = 0) (hm : 0 < (modelsM x rs l).length) : Summ Tryd.prog GG 69 [classF x rs, .sl l.length (flasF l)] (.tup [.sl (rangesR (modelsM x rs l) rs.length).length (rngsF (rangesR (modelsM x rs l) rs.length)), iv 0]) := by
  have K := flashesOk h
  have h6 := K.k.v.l6
  have hrl := K.k.len
  have h300 : (modelsM x rs l).length ≤ 300 := Nat.le_trans (fits_len _) (allMo_len K)
  have hu : unlessE (decide ((0 : Int) < ((modelsM x rs l).length : Int))) 12 = 0 := by unfold unlessE; rw [if_pos (by simpa using hm)]
  have hf : firstE [0, unlessE (decide ((0 : Int) < ((modelsM x rs l).length : Int))) 12] = 0 := by rw [hu]; rfl
  have hb : (!decide (firstE [0, unlessE (decide ((0 : Int) < ((modelsM x rs l).length : Int))) 12] = 0)) = false := by rw [hf]; rfl
  have hne : matF (modelsM x rs l) ≠ [] := map_ne hm
  have hm0 : (matF (modelsM x rs l))[0]? = some (rowF (modelsM x rs l)[0]) := by have := matF_at hm; simpa using this
  have hl0 : (modelsM x rs l)[0].length = rs.length := modelsM_rows (List.getElem_mem hm)
  refine summW Tryd.func69 rfl rfl 76 rfl (by simp) (fun M0 => ?_)
  repeat (first
    | (apply s_move_f; exact rfl; exact rfl)
    | (apply s_assign_f; exact rfl; exact rfl)
    | (apply s_fld_pt TY; exact rfl; exact rfl; exact rfl)
    | (apply s_load_pt TY; exact rfl; exact rfl; exact rfl; (first | exact rfl | assumption))
    | (apply s_load_pts TY; exact rfl; exact rfl; exact rfl; (first | assumption | exact rfl); exact rfl)
    | (apply s_len TY; exact rfl; exact rfl; exact rfl)
    | (apply s_extract; exact rfl; exact rfl; exact rfl)
    | (apply s_box; exact rfl; exact rfl; exact rfl)
    | (apply s_gtr; exact rfl; exact rfl; exact rfl)
    | (apply s_neq; exact rfl; exact rfl; exact rfl)
    | (apply s_bslice TY; exact rfl; exact rfl; exact rfl; exact rfl; exact rfl; exact rfl)
    | apply w_seq
    | apply w_region
    | apply s_nil
    | apply t_norm
    | apply w_block
    | apply w_skip
    | (apply s_call (ModelsOf_ok x rs l b h); exact rfl; exact rfl; exact rfl; exact rfl)
    | (apply s_call (unless_s _ _); exact rfl; exact rfl; exact rfl; exact rfl)
    | (apply s_call (first_s [0, unlessE (decide ((0 : Int) < ((modelsM x rs l).length : Int))) 12] (by simp)); exact rfl; exact rfl; exact rfl; exact rfl)
    | (apply w_condF; exact rfl; (first | exact rfl | assumption)))
  apply w_gh (gh_own 8 101 2 rfl rfl)
  apply w_loop (fun i : Nat => ⟨(Ab.upd (Ab.upd (Ab.upd (Ab.upd (fun _ => .bot) 6 (.f (.sl (modelsM x rs l).length (matF (modelsM x rs l))))) 8 (.ow 0)) 31 (.f (iv rs.length))) 32 (.f (iv (i : Nat)))), (Ab.upd (fun _ => none) 0 (some (.row 101 2 i (rngsF (rangesR (modelsM x rs l) i))))), 1⟩) (fun i => i ≤ rs.length) (fun i => rs.length - i) 0 (Nat.zero_le _) (gh_le ⟨le_upd rfl trivial (le_upd rfl trivial (le_upd rfl rfl (le_upd rfl trivial (le_nil _)))), le_hupd rfl trivial (le_h0 _ _)⟩)
  intro i hi
  by_cases hic : i < rs.length
  · have hc : decide ((i : Int) < (rs.length : Int)) = true := by simpa using hic
    have hi0 : i < (modelsM x rs l)[0].length := by omega
    have hc0 : (intsF (modelsM x rs l)[0])[i * 1]? = some (iv (modelsM x rs l)[0][i]) := map_at hi0
    have hne0 : intsF (modelsM x rs l)[0] ≠ [] := map_ne hi0
    have ha0 := atI_eq hm hi0
    repeat (first
    | (apply s_move_f; exact rfl; exact rfl)
    | (apply s_assign_f; exact rfl; exact rfl)
    | (apply s_lss; exact rfl; exact rfl; exact rfl)
    | apply w_seq
    | apply w_region
    | apply s_nil
    | apply t_norm
    | apply w_block
    | apply w_skip
    | (apply w_condT; exact rfl; (first | exact rfl | assumption)))
    apply w_draw 14 rfl (by kernel_rfl)
    repeat (first
    | (apply s_move_f; exact rfl; exact rfl)
    | (apply s_load_pt TY; exact rfl; exact rfl; exact rfl; (first | exact rfl | assumption))
    | (apply s_len TY; exact rfl; exact rfl; exact rfl)
    | (apply s_build TY; exact rfl; exact rfl; exact rfl; exact rfl; exact rfl)
    | apply w_seq
    | apply w_region
    | apply s_nil
    | apply t_norm
    | apply w_block
    | (apply s_idxN TY; exact rfl; exact rfl; exact rfl; exact rfl; assumption; assumption)
    | (apply s_alloc TY; exact rfl; exact rfl; exact rfl)
    | (apply s_store TY; exact rfl; exact rfl; exact rfl; exact rfl; exact rfl; exact rfl))
    apply w_loop (fun k : Nat => ⟨(Ab.upd (Ab.upd (Ab.upd (Ab.upd (Ab.upd (Ab.upd (Ab.upd (Ab.upd (Ab.upd (fun _ => .bot) 6 (.f (.sl (modelsM x rs l).length (matF (modelsM x rs l))))) 8 (.ow 0)) 9 (.f (iv (i : Nat)))) 10 (.bx 1 0)) 31 (.f (iv rs.length))) 32 (.f (iv (i : Nat)))) 48 (.f (.sl (modelsM x rs l).length (matF (modelsM x rs l))))) 49 (.f (iv (modelsM x rs l).length))) 50 (.f (iv (k : Nat)))), (Ab.upd (Ab.upd (fun _ => none) 0 (some (.row 101 2 i (rngsF (rangesR (modelsM x rs l) i))))) 1 (some (.box [.f (iv (loK (modelsM x rs l) i k)), .f (iv (hiK (modelsM x rs l) i k))]))), 2⟩) (fun k => k ≤ (modelsM x rs l).length) (fun k => (modelsM x rs l).length - k) 0 (Nat.zero_le _) (gh_le ⟨le_upd rfl trivial (le_upd rfl trivial (le_upd rfl trivial (le_upd rfl trivial (le_upd rfl trivial (le_upd rfl rfl (le_upd rfl trivial (le_upd rfl rfl (le_upd rfl trivial (le_nil _))))))))), le_hupd (by rw [loK, hiK, ha0]; rfl) (fun y hy => by simp at hy; rcases hy with rfl | rfl <;> first | trivial | rfl) (le_hupd rfl trivial (le_h0 _ _))⟩)
    intro k hk
    by_cases hkc : k < (modelsM x rs l).length
    · have hck : decide ((k : Int) < ((modelsM x rs l).length : Int)) = true := by simpa using hkc
      have hlk : (modelsM x rs l)[k].length = rs.length := modelsM_rows (List.getElem_mem hkc)
      have hik : i < (modelsM x rs l)[k].length := by omega
      have hr : (matF (modelsM x rs l))[k * 1]? = some (rowF (modelsM x rs l)[k]) := matF_at hkc
      have hci : (intsF (modelsM x rs l)[k])[i * 1]? = some (iv (modelsM x rs l)[k][i]) := map_at hik
      have hnek : intsF (modelsM x rs l)[k] ≠ [] := map_ne hik
      have hak := atI_eq hkc hik
      repeat (first
    | (apply s_assign_f; exact rfl; exact rfl)
    | (apply s_load_pt TY; exact rfl; exact rfl; exact rfl; (first | exact rfl | assumption))
    | (apply s_lss; exact rfl; exact rfl; exact rfl)
    | apply w_seq
    | apply w_region
    | apply s_nil
    | apply t_norm
    | apply w_block
    | apply w_skip
    | (apply s_idxN TY; exact rfl; exact rfl; exact rfl; exact rfl; assumption; assumption)
    | (apply w_condT; exact rfl; (first | exact rfl | assumption)))
      apply w_draw 15 rfl (by kernel_rfl)
      repeat (first
    | (apply s_move_f; exact rfl; exact rfl)
    | (apply s_load_pt TY; exact rfl; exact rfl; exact rfl; (first | exact rfl | assumption))
    | (apply s_fld_bx TY; exact rfl; exact rfl; exact rfl)
    | (apply s_load_bx_f TY; exact rfl; exact rfl; exact rfl; exact rfl; exact rfl)
    | (apply s_min; exact rfl; exact rfl; exact rfl)
    | (apply s_max; exact rfl; exact rfl; exact rfl)
    | (apply s_build TY; exact rfl; exact rfl; exact rfl; exact rfl; exact rfl)
    | apply w_region
    | apply s_nil
    | apply t_norm
    | apply k_norm
    | (apply s_add; exact rfl; exact rfl; exact rfl; (omega))
    | (apply s_idxN TY; exact rfl; exact rfl; exact rfl; exact rfl; assumption; assumption)
    | (apply s_store TY; exact rfl; exact rfl; exact rfl; exact rfl; exact rfl; exact rfl))
      exact ⟨k + 1, by omega, by omega, gh_le ⟨le_upd rfl trivial (le_upd rfl trivial (le_upd rfl trivial (le_upd rfl trivial (le_upd rfl trivial (le_upd rfl rfl (le_upd rfl trivial (le_upd rfl rfl (le_upd rfl trivial (le_nil _))))))))), le_hupd (by rw [loK, hiK, hak]; rfl) (fun y hy => by simp at hy; rcases hy with rfl | rfl <;> first | trivial | rfl) (le_hupd rfl trivial (le_h0 _ _))⟩⟩
    · have hck : decide ((k : Int) < ((modelsM x rs l).length : Int)) = false := by simpa using hkc
      have hke : k = (modelsM x rs l).length := by omega
      subst hke
      repeat (first
    | (apply s_append TY; exact rfl; exact rfl; exact rfl; exact rfl; exact rfl; exact rfl; exact rfl; exact rfl; exact rfl; (unfold maxLen; omega); omega)
    | (apply s_move_f; exact rfl; exact rfl)
    | (apply s_lss; exact rfl; exact rfl; exact rfl)
    | (apply s_move_o; exact rfl; exact rfl)
    | (apply s_assign_o; exact rfl; exact rfl)
    | (apply s_load_bxs TY; exact rfl; exact rfl; exact rfl; exact rfl; exact rfl; exact rfl)
    | (apply s_bslice TY; exact rfl; exact rfl; exact rfl; exact rfl; exact rfl; exact rfl)
    | apply w_seq
    | apply w_region
    | apply s_nil
    | apply t_norm
    | apply t_exit
    | apply k_hit
    | apply k_norm
    | apply w_exit
    | (apply s_add; exact rfl; exact rfl; exact rfl; (omega))
    | (apply w_condF; exact rfl; (first | exact rfl | assumption)))
      exact ⟨i + 1, by omega, by omega, gh_le ⟨le_upd rfl trivial (le_upd rfl trivial (le_upd rfl rfl (le_upd rfl trivial (le_nil _)))), le_hupd (by rw [rangesR_succ, rngsF_snoc]; rfl) trivial (le_h0 _ _)⟩⟩
  · have hc : decide ((i : Int) < (rs.length : Int)) = false := by simpa using hic
    have hie : i = rs.length := by omega
    subst hie
    repeat (first
    | (apply s_assign_f; exact rfl; exact rfl)
    | (apply s_lss; exact rfl; exact rfl; exact rfl)
    | (apply s_move_o; exact rfl; exact rfl)
    | (apply s_assign_o; exact rfl; exact rfl)
    | apply w_seq
    | apply w_region
    | apply s_nil
    | apply t_norm
    | apply t_exit
    | apply k_hit
    | apply w_exit
    | apply w_ret
    | (apply w_condF; exact rfl; (first | exact rfl | assumption)))
    rw [rangesR_len]
    exact lv_ret (ret_gh (gh_row 0 rfl) (ret2 rfl (res_tmp rfl) (res_tmp rfl)))
end Go.Proofs.YtienhiloecfgnaaDoor
namespace Go.Proofs.YtienhiloecfgnaaDoor
open Go.RowKit Go.Proofs Go.Shelf
def grid0 : Grid := ⟨[⟨2, 100, 500⟩, ⟨5, 0, 0⟩], 2, [0, 0, 1]⟩
def rngs0 : List Rng := [⟨1, 3⟩, ⟨5, 5⟩]
def hole0 : Hole := ⟨[20, 16, 16], [1, 1, 2], 10⟩
end Go.Proofs.YtienhiloecfgnaaDoor
namespace Go.Proofs.YtienhiloecfgnaaDoor
open Go.RowKit Go.Proofs Go.Shelf
attribute [local go_sem ↓] eql_cel neq_cel
theorem stood101 : Tryd.prog.stoodInHeld 101 = false := by kernel_rfl
theorem fields101 : Tryd.prog.fieldsOf 101 = #[{ name := "Lo", type := 3, offset := 0, embedded := false, tag := "", pkgPath := "", byteOffset := 0 }, { name := "Hi", type := 3, offset := 1, embedded := false, tag := "", pkgPath := "", byteOffset := 8 }] := by kernel_rfl
theorem equalIn_rng (d : Nat) (a b : Rng) (W : World) : (Op.equalIn (d + 2) 101 (.agg #[.int .i64 a.lo, .int .i64 a.hi]) (.agg #[.int .i64 b.lo, .int .i64 b.hi])).run Tryd.prog W = .ok (decide (a = b)) W := by
  rw [run_equalIn_agg W (d + 1) 101 _ _ (by rw [fields101]; exact Tryd.underlying101) stood101, fields101]
  have e : decide (a = b) = (a.lo == b.lo && a.hi == b.hi) := by
    cases a; cases b; simp [Rng.mk.injEq]; rfl
  rw [e]
  cases h1 : a.lo == b.lo <;> cases h2 : a.hi == b.hi <;> simp [Op.eqFields, part, run_equalIn_int W d 3 _ _ _ _ Tryd.underlying3, h1, h2]
theorem neq_rng (a b : Rng) (W : World) : (binOp .neq 101 (.agg #[.int .i64 a.lo, .int .i64 a.hi]) (.agg #[.int .i64 b.lo, .int .i64 b.hi])).run Tryd.prog W = .ok (.bool (!decide (a = b))) W := by
  rw [run_neq_struct, equalIn_rng 9998 a b W]
  rfl
attribute [local go_sem ↓] neq_rng
theorem list_eq_of {α : Type} {l m : List α} (hl : l.length = m.length) (h : ∀ j (h1 : j < l.length) (h2 : j < m.length), l[j] = m[j]) : l = m := List.ext_getElem hl h
set_option maxRecDepth 100000 in
theorem Ints_any (a a' : Option Addr) (l m : List Int) (c c' : Nat) (w : World) (hl : RowS encI w a l) (hm : RowS encI w a' m) (hn : l.length ≤ 140737488355328) :
    Calls Tryd.prog 22 #[.slice a l.length c, .slice a' m.length c'] w fun e w' => e = .returned (.bool (decide (l = m))) ∧ Ext w w' := by
  have HL := Lib.hid hl
  have HM := Lib.hid hm
  clear hl hm
  go_enter Tryd.func22, Tryd.ntmps22
  by_cases hlen : ((l.length : Int) != (m.length : Int)) = true
  · go_wp2_with fail
    go_ret
    exact ⟨ret_bool (by symm; simp only [decide_eq_false_iff_not]; intro e; subst e; simp at hlen), Ext.refl _⟩
  have hle : l.length = m.length := by
    have : (l.length : Int) = m.length := by simpa using hlen
    omega
  replace hlen : ((l.length : Int) != (m.length : Int)) = false := by simpa using hlen
  have HLE := Lib.hid hle
  clear hle
  go_wp2_with fail
  go_loopw [5] (fun i wr => ∃ k : Nat, k ≤ l.length ∧ i = .int .i64 k ∧ Hid (Ext w wr) ∧ Hid (∀ j (h1 : j < l.length) (h2 : j < m.length), j < k → l[j] = m[j])) (fun i _ => l.length - (intOf i).toNat)
  case atStart => exact ⟨0, Nat.zero_le _, rfl, Lib.hid (Ext.refl _), Lib.hid (fun _ _ _ h => absurd h (Nat.not_lt_zero _))⟩
  case round =>
  obtain ⟨k, hk, rfl, Hx, Hf⟩ := hrel
  by_cases hlt : k < l.length
  · have hlt2 : k < m.length := by rw [← HLE.out]; exact hlt
    obtain ⟨b1, o1, rfl, q1, hc⟩ := (HL.out.ext Hx.out).get encI_length (by decide) hlt
    obtain ⟨b2, o2, rfl, q2, hd⟩ := (HM.out.ext Hx.out).get encI_length (by decide) hlt2
    have c0 : wr.cell? ⟨b1, o1 + k, none⟩ = some (.int .i64 l[k]) := by have := hc k 0 hlt (by decide); rwa [Nat.mul_one] at this
    have d0 : wr.cell? ⟨b2, o2 + k, none⟩ = some (.int .i64 m[k]) := by have := hd k 0 hlt2 (by decide); rwa [Nat.mul_one] at this
    clear hc hd
    go_wp2_with fail
    refine wp_region_over_all (by kernel_rfl) (by kernel_rfl) ?_
    repeat (quiet_step (fail))
    refine wpQuiet_nil ?_
    rintro _ ⟨x1, rfl⟩
    have Hx2 := Lib.hid (Hx.out.trans (wr.over_ext x1))
    have HN := Lib.hid hlt2
    cases t : (l[k] != m[k])
    · have he : l[k] = m[k] := by simpa using t
      have HE := Lib.hid he
      clear he
      go_wp2_with fail
      go_roundw
      case rel => exact ⟨k + 1, by omega, by go_num, Hx2, Lib.hid (fun j h1 h2 hj => by rcases Nat.lt_succ_iff_lt_or_eq.1 hj with h' | rfl; exact Hf.out j h1 h2 h'; exact HE.out)⟩
      case measure => simp [intOf]; omega
    · have he : ¬ l[k] = m[k] := by simpa using t
      have HE := Lib.hid he
      clear he
      go_wp2_with fail
      go_ret
      exact ⟨ret_bool (by symm; simp only [decide_eq_false_iff_not]; intro e; subst e; exact HE.out rfl), Hx2.out⟩
  · go_wp2_with fail
    go_ret
    exact ⟨ret_bool (by symm; simp only [decide_eq_true_eq]; exact list_eq_of HLE.out (fun j h1 h2 => Hf.out j h1 h2 (by omega))), Hx.out⟩
set_option maxRecDepth 100000 in
theorem SameWay_any (a a' : Option Addr) (l m : List Cel) (c c' : Nat) (w : World) (hl : RowS Cel.enc w a l) (hm : RowS Cel.enc w a' m) (hn : l.length ≤ 140737488355328) :
    Calls Tryd.prog 63 #[.slice a l.length c, .slice a' m.length c'] w fun e w' => e = .returned (.bool (decide (l = m))) ∧ Ext w w' := by
  have HL := Lib.hid hl
  have HM := Lib.hid hm
  clear hl hm
  go_enter Tryd.func63, Tryd.ntmps63
  by_cases hlen : ((l.length : Int) != (m.length : Int)) = true
  · go_wp2_with fail
    go_ret
    exact ⟨ret_bool (by symm; simp only [decide_eq_false_iff_not]; intro e; subst e; simp at hlen), Ext.refl _⟩
  have hle : l.length = m.length := by
    have : (l.length : Int) = m.length := by simpa using hlen
    omega
  replace hlen : ((l.length : Int) != (m.length : Int)) = false := by simpa using hlen
  have HLE := Lib.hid hle
  clear hle
  go_wp2_with fail
  go_loopw [5] (fun i wr => ∃ k : Nat, k ≤ l.length ∧ i = .int .i64 k ∧ Hid (Ext w wr) ∧ Hid (∀ j (h1 : j < l.length) (h2 : j < m.length), j < k → l[j] = m[j])) (fun i _ => l.length - (intOf i).toNat)
  case atStart => exact ⟨0, Nat.zero_le _, rfl, Lib.hid (Ext.refl _), Lib.hid (fun _ _ _ h => absurd h (Nat.not_lt_zero _))⟩
  case round =>
  obtain ⟨k, hk, rfl, Hx, Hf⟩ := hrel
  by_cases hlt : k < l.length
  · have hlt2 : k < m.length := by rw [← HLE.out]; exact hlt
    obtain ⟨b1, o1, rfl, q1, hc⟩ := (HL.out.ext Hx.out).get Cel.enc_length (by decide) hlt
    obtain ⟨b2, o2, rfl, q2, hd⟩ := (HM.out.ext Hx.out).get Cel.enc_length (by decide) hlt2
    have c0 : wr.cell? ⟨b1, o1 + k * 2, none⟩ = some (.int .i64 l[k].col) := by have := hc k 0 hlt (by decide); exact this
    have c1 : wr.cell? ⟨b1, o1 + k * 2 + 1, none⟩ = some (.int .i64 l[k].row) := by have := hc k 1 hlt (by decide); exact this
    have d0 : wr.cell? ⟨b2, o2 + k * 2, none⟩ = some (.int .i64 m[k].col) := by have := hd k 0 hlt2 (by decide); exact this
    have d1 : wr.cell? ⟨b2, o2 + k * 2 + 1, none⟩ = some (.int .i64 m[k].row) := by have := hd k 1 hlt2 (by decide); exact this
    clear hc hd
    go_wp2_with fail
    refine wp_region_over_all (by kernel_rfl) (by kernel_rfl) ?_
    repeat (quiet_step (fail))
    refine wpQuiet_nil ?_
    rintro _ ⟨x1, rfl⟩
    have Hx2 := Lib.hid (Hx.out.trans (wr.over_ext x1))
    have HN := Lib.hid hlt2
    cases t : (!decide (l[k] = m[k]))
    · have he : l[k] = m[k] := by simpa using t
      have HE := Lib.hid he
      clear he
      go_wp2_with fail
      go_roundw
      case rel => exact ⟨k + 1, by omega, by go_num, Hx2, Lib.hid (fun j h1 h2 hj => by rcases Nat.lt_succ_iff_lt_or_eq.1 hj with h' | rfl; exact Hf.out j h1 h2 h'; exact HE.out)⟩
      case measure => simp [intOf]; omega
    · have he : ¬ l[k] = m[k] := by simpa using t
      have HE := Lib.hid he
      clear he
      go_wp2_with fail
      go_ret
      exact ⟨ret_bool (by symm; simp only [decide_eq_false_iff_not]; intro e; subst e; exact HE.out rfl), Hx2.out⟩
  · go_wp2_with fail
    go_ret
    exact ⟨ret_bool (by symm; simp only [decide_eq_true_eq]; exact list_eq_of HLE.out (fun j h1 h2 => Hf.out j h1 h2 (by omega))), Hx.out⟩
set_option maxRecDepth 100000 in
theorem Ranges_any (a a' : Option Addr) (l m : List Rng) (c c' : Nat) (w : World) (hl : RowS Rng.enc w a l) (hm : RowS Rng.enc w a' m) (hn : l.length ≤ 140737488355328) :
    Calls Tryd.prog 82 #[.slice a l.length c, .slice a' m.length c'] w fun e w' => e = .returned (.bool (decide (l = m))) ∧ Ext w w' := by
  have HL := Lib.hid hl
  have HM := Lib.hid hm
  clear hl hm
  go_enter Tryd.func82, Tryd.ntmps82
  by_cases hlen : ((l.length : Int) != (m.length : Int)) = true
  · go_wp2_with fail
    go_ret
    exact ⟨ret_bool (by symm; simp only [decide_eq_false_iff_not]; intro e; subst e; simp at hlen), Ext.refl _⟩
  have hle : l.length = m.length := by
    have : (l.length : Int) = m.length := by simpa using hlen
    omega
  replace hlen : ((l.length : Int) != (m.length : Int)) = false := by simpa using hlen
  have HLE := Lib.hid hle
  clear hle
  go_wp2_with fail
  go_loopw [5] (fun i wr => ∃ k : Nat, k ≤ l.length ∧ i = .int .i64 k ∧ Hid (Ext w wr) ∧ Hid (∀ j (h1 : j < l.length) (h2 : j < m.length), j < k → l[j] = m[j])) (fun i _ => l.length - (intOf i).toNat)
  case atStart => exact ⟨0, Nat.zero_le _, rfl, Lib.hid (Ext.refl _), Lib.hid (fun _ _ _ h => absurd h (Nat.not_lt_zero _))⟩
  case round =>
  obtain ⟨k, hk, rfl, Hx, Hf⟩ := hrel
  by_cases hlt : k < l.length
  · have hlt2 : k < m.length := by rw [← HLE.out]; exact hlt
    obtain ⟨b1, o1, rfl, q1, hc⟩ := (HL.out.ext Hx.out).get Rng.enc_length (by decide) hlt
    obtain ⟨b2, o2, rfl, q2, hd⟩ := (HM.out.ext Hx.out).get Rng.enc_length (by decide) hlt2
    have c0 : wr.cell? ⟨b1, o1 + k * 2, none⟩ = some (.int .i64 l[k].lo) := by have := hc k 0 hlt (by decide); exact this
    have c1 : wr.cell? ⟨b1, o1 + k * 2 + 1, none⟩ = some (.int .i64 l[k].hi) := by have := hc k 1 hlt (by decide); exact this
    have d0 : wr.cell? ⟨b2, o2 + k * 2, none⟩ = some (.int .i64 m[k].lo) := by have := hd k 0 hlt2 (by decide); exact this
    have d1 : wr.cell? ⟨b2, o2 + k * 2 + 1, none⟩ = some (.int .i64 m[k].hi) := by have := hd k 1 hlt2 (by decide); exact this
    clear hc hd
    go_wp2_with fail
    refine wp_region_over_all (by kernel_rfl) (by kernel_rfl) ?_
    repeat (quiet_step (fail))
    refine wpQuiet_nil ?_
    rintro _ ⟨x1, rfl⟩
    have Hx2 := Lib.hid (Hx.out.trans (wr.over_ext x1))
    have HN := Lib.hid hlt2
    cases t : (!decide (l[k] = m[k]))
    · have he : l[k] = m[k] := by simpa using t
      have HE := Lib.hid he
      clear he
      go_wp2_with fail
      go_roundw
      case rel => exact ⟨k + 1, by omega, by go_num, Hx2, Lib.hid (fun j h1 h2 hj => by rcases Nat.lt_succ_iff_lt_or_eq.1 hj with h' | rfl; exact Hf.out j h1 h2 h'; exact HE.out)⟩
      case measure => simp [intOf]; omega
    · have he : ¬ l[k] = m[k] := by simpa using t
      have HE := Lib.hid he
      clear he
      go_wp2_with fail
      go_ret
      exact ⟨ret_bool (by symm; simp only [decide_eq_false_iff_not]; intro e; subst e; exact HE.out rfl), Hx2.out⟩
  · go_wp2_with fail
    go_ret
    exact ⟨ret_bool (by symm; simp only [decide_eq_true_eq]; exact list_eq_of HLE.out (fun j h1 h2 => Hf.out j h1 h2 (by omega))), Hx.out⟩
end Go.Proofs.YtienhiloecfgnaaDoor
namespace Go.Proofs.YtienhiloecfgnaaDoor
open Go.RowKit Go.Proofs Go.Shelf
set_option maxRecDepth 100000 in
theorem SameTimes_any (a a' : Option Addr) (ss ss' : List Sl) (M M' : List (List Int)) (c c' : Nat) (w : World) (hl : MatAt w a ss M) (hm : MatAt w a' ss' M') (hn : M.length ≤ 140737488355328) (hn2 : ∀ r ∈ M, r.length ≤ 140737488355328) :
    Calls Tryd.prog 31 #[.slice a M.length c, .slice a' M'.length c'] w fun e w' => e = .returned (.bool (decide (M = M'))) ∧ Ext w w' := by
  have HL := Lib.hid hl
  have HM := Lib.hid hm
  clear hl hm
  go_enter Tryd.func31, Tryd.ntmps31
  by_cases hlen : ((M.length : Int) != (M'.length : Int)) = true
  · go_wp2_with fail
    go_ret
    exact ⟨ret_bool (by symm; simp only [decide_eq_false_iff_not]; intro e; subst e; simp at hlen), Ext.refl _⟩
  have hle : M.length = M'.length := by
    have : (M.length : Int) = M'.length := by simpa using hlen
    omega
  replace hlen : ((M.length : Int) != (M'.length : Int)) = false := by simpa using hlen
  have HLE := Lib.hid hle
  clear hle
  go_wp2_with fail
  go_loopw [5] (fun i wr => ∃ k : Nat, k ≤ M.length ∧ i = .int .i64 k ∧ Hid (Ext w wr) ∧ Hid (∀ j (h1 : j < M.length) (h2 : j < M'.length), j < k → M[j] = M'[j])) (fun i _ => M.length - (intOf i).toNat)
  case atStart => exact ⟨0, Nat.zero_le _, rfl, Lib.hid (Ext.refl _), Lib.hid (fun _ _ _ h => absurd h (Nat.not_lt_zero _))⟩
  case round =>
  obtain ⟨k, hk, rfl, Hx, Hf⟩ := hrel
  by_cases hlt : k < M.length
  · have hlt2 : k < M'.length := by rw [← HLE.out]; exact hlt
    have s1 : k < ss.length := by rw [HL.out.len]; exact hlt
    have s2 : k < ss'.length := by rw [HM.out.len]; exact hlt2
    obtain ⟨b1, o1, rfl, q1, hc⟩ := (HL.out.row.ext Hx.out).get Sl.enc_length (by decide) s1
    obtain ⟨b2, o2, rfl, q2, hd⟩ := (HM.out.row.ext Hx.out).get Sl.enc_length (by decide) s2
    have e1 := HL.out.rows k s1 hlt
    have e2 := HM.out.rows k s2 hlt2
    have c0 : wr.cell? ⟨b1, o1 + k, none⟩ = some (.slice ss[k].a M[k].length ss[k].c) := by have := hc k 0 s1 (by decide); rw [Nat.mul_one] at this; rw [← e1.1]; exact this
    have d0 : wr.cell? ⟨b2, o2 + k, none⟩ = some (.slice ss'[k].a M'[k].length ss'[k].c) := by have := hd k 0 s2 (by decide); rw [Nat.mul_one] at this; rw [← e2.1]; exact this
    have LC : Hid (∀ y, Calls Tryd.prog 22 #[.slice ss[k].a M[k].length ss[k].c, .slice ss'[k].a M'[k].length ss'[k].c] (wr.over y) fun e w' => e = .returned (.bool (decide (M[k] = M'[k]))) ∧ Ext (wr.over y) w') := Lib.hid (fun y =>
      Ints_any _ _ _ _ _ _ _ (e1.2.ext (Hx.out.trans (wr.over_ext y))) (e2.2.ext (Hx.out.trans (wr.over_ext y))) (hn2 _ (List.getElem_mem hlt)))
    clear hc hd e1 e2
    go_wp2_with fail
    refine wp_region_over_all (by kernel_rfl) (by kernel_rfl) ?_
    repeat (quiet_step ((go_at_call 22; exact Calls.over_ext (LC.out _))))
    refine wpQuiet_nil ?_
    rintro _ ⟨x1, rfl⟩
    have Hx2 := Lib.hid (Hx.out.trans (wr.over_ext x1))
    have HN := Lib.hid hlt2
    cases t : decide (M[k] = M'[k])
    · have he : ¬ M[k] = M'[k] := by simpa using t
      have HE := Lib.hid he
      clear he
      go_wp2_with fail
      go_ret
      exact ⟨ret_bool (by symm; simp only [decide_eq_false_iff_not]; intro e; subst e; exact HE.out rfl), Hx2.out⟩
    · have he : M[k] = M'[k] := by simpa using t
      have HE := Lib.hid he
      clear he
      go_wp2_with fail
      go_roundw
      case rel => exact ⟨k + 1, by omega, by go_num, Hx2, Lib.hid (fun j h1 h2 hj => by rcases Nat.lt_succ_iff_lt_or_eq.1 hj with h' | rfl; exact Hf.out j h1 h2 h'; exact HE.out)⟩
      case measure => simp [intOf]; omega
  · go_wp2_with fail
    go_ret
    exact ⟨ret_bool (by symm; simp only [decide_eq_true_eq]; exact list_eq_of HLE.out (fun j h1 h2 => Hf.out j h1 h2 (by omega))), Hx.out⟩
end Go.Proofs.YtienhiloecfgnaaDoor
namespace Go.Proofs.YtienhiloecfgnaaDoor
open Go Go.RowKit Go.Proofs Go.Shelf Go.Ab
theorem row_sl {w w' : World} {M : Nat → Prop} {a : Option Addr} {n c : Nat} {us : List Value} {cs : List FV} (hr : Row w' a us) (hn : n ≤ c) (hd : detC cs = some us) (one : ∀ u ∈ us, u.oneCell' = true) (hM : ∀ b, M b → b < w.heap.size) (hf : ∀ ad, a = some ad → w.heap.size ≤ ad.block) : RepF w' M (.slice a n c) (.sl n cs) := by
  have R := repL_det (w := w') (M := M) hd
  refine RepF.sl a n c cs us hn R.1 one (fun hne => ?_) R.2
  obtain ⟨b, off, e, hb, hc⟩ := hr.at_ hne
  exact ⟨b, off, e, hb, fun hm => by have := hM b hm; have := hf _ e; simp at this; omega, hc⟩
theorem one_cels (l : List Cel) : ∀ u ∈ l.flatMap Cel.enc, u.oneCell' = true := encC_one l
theorem mat_sl {w w' : World} {M : Nat → Prop} {a : Option Addr} {ss : List Sl} {c : Nat} {T : List (List Int)} (h : MatAt w' a ss T) (hc : T.length ≤ c) (hM : ∀ b, M b → b < w.heap.size) (hf : ∀ ad, a = some ad → w.heap.size ≤ ad.block) (hr : ∀ r (hr : r < ss.length), ss[r].n ≤ ss[r].c ∧ ∀ ad, ss[r].a = some ad → w.heap.size ≤ ad.block) : RepF w' M (.slice a T.length c) (.sl T.length (matF T)) := by
  have hx : (ss.flatMap Sl.enc) = ss.map fun s => Value.slice s.a s.n s.c := by
    rw [← List.flatMap_singleton' (ss.map _), List.flatMap_map]; rfl
  refine RepF.sl a _ c (matF T) (ss.map fun s => Value.slice s.a s.n s.c) hc (by simp [matF, h.len]) (by simp [Value.oneCell']) (fun hne => ?_) (fun k u x h1 h2 => ?_)
  · obtain ⟨b, off, e, hb, hcc⟩ := h.row.at_ (by rw [hx]; exact hne)
    rw [hx] at hcc
    exact ⟨b, off, e, hb, fun hm => by have := hM b hm; have := hf _ e; simp at this; omega, hcc⟩
  · rw [List.getElem?_map] at h1
    rw [matF, List.getElem?_map] at h2
    cases hs : ss[k]? with
    | none => rw [hs] at h1; simp at h1
    | some s =>
      cases ht : T[k]? with
      | none => rw [ht] at h2; simp at h2
      | some t =>
        rw [hs] at h1; rw [ht] at h2
        simp at h1 h2; subst h1; subst h2
        obtain ⟨k1, e1⟩ := List.getElem?_eq_some_iff.1 hs
        obtain ⟨k2, e2⟩ := List.getElem?_eq_some_iff.1 ht
        obtain ⟨p1, p2⟩ := h.rows k k1 k2
        obtain ⟨q1, q2⟩ := hr k k1
        rw [e1] at p1 p2 q1 q2; rw [e2] at p1 p2
        rw [p1]
        exact row_sl p2 (by omega) (detC_ints t) (one_ints t) hM q2
theorem rep_mat {w : World} {M : Nat → Prop} {v : Value} {T : List (List Int)} (h : RepF w M v (.sl T.length (matF T))) : ∃ a ss c, v = .slice a T.length c ∧ MatAt w a ss T := by
  cases h with
  | sl a _ c _ us h1 h2 h3 h4 h5 =>
    have hlen : us.length = T.length := by rw [h2]; simp [matF]
    have hex : ∀ k, k < T.length → ∃ s : Sl, us[k]? = some (.slice s.a s.n s.c) ∧ (∀ (hk : k < T.length), s.n = T[k].length ∧ RowS encI w s.a T[k]) := fun k hk => by
      have hu : us[k]? = some us[k] := List.getElem?_eq_getElem (by omega)
      have := h5 k _ _ hu (show (matF T)[k]? = some (rowF T[k]) by simp [matF, hk])
      obtain ⟨a', c', e, _, r⟩ := rep_row this (detC_ints _)
      exact ⟨⟨a', T[k].length, c'⟩, by rw [hu, e], fun _ => ⟨rfl, r⟩⟩
    obtain ⟨ss, l1, l2⟩ := exists_list (fun k (s : Sl) => us[k]? = some (.slice s.a s.n s.c) ∧ ∀ (hk : k < T.length), s.n = T[k].length ∧ RowS encI w s.a T[k]) T.length hex
    have hx : (ss.flatMap Sl.enc) = us := by
      have : (ss.flatMap Sl.enc) = ss.map fun s => Value.slice s.a s.n s.c := by
        rw [← List.flatMap_singleton' (ss.map _), List.flatMap_map]; rfl
      rw [this]
      apply List.ext_getElem?
      intro k
      by_cases hk : k < ss.length
      · rw [(l2 k hk).1]; simp [hk]
      · rw [List.getElem?_eq_none (by simp; omega), List.getElem?_eq_none (by omega)]
    refine ⟨a, ss, c, rfl, ⟨fun hn => ?_⟩, l1, fun r hr hr' => (l2 r hr).2 hr'⟩
    rw [hx] at hn ⊢
    obtain ⟨b, off, e, L⟩ := h4 hn
    exact ⟨b, off, e, L.lt, L.at_⟩
theorem rep_hole {w : World} {M : Nat → Prop} {v : Value} {h : Hole} (r : RepF w M v (holeF h)) (hl : h.widths.length ≤ 140737488355328) (ht : h.shrinks.length ≤ 140737488355328) :
    ∃ wa sa wc sc, v = .agg #[.slice wa h.widths.length wc, .slice sa h.shrinks.length sc, .int .i64 h.need] ∧ HoleAt w wa sa h := by
  cases r with
  | agg _ us h1 h2 h3 =>
    have R : RepL w M us (holeL h) := ⟨h1, h3⟩
    obtain ⟨u1, us1, rfl, r1, R1⟩ := R.head
    obtain ⟨u2, us2, rfl, r2, R2⟩ := R1.head
    obtain ⟨u3, us3, rfl, r3, R3⟩ := R2.head
    have := R3.end; subst this
    obtain ⟨wa, wc, rfl, _, p1⟩ := rep_row r1 (detC_ints _)
    obtain ⟨sa, sc, rfl, _, p2⟩ := rep_row r2 (detC_ints _)
    have := rep_int r3; subst this
    exact ⟨wa, sa, wc, sc, rfl, p1, p2, hl, ht⟩
theorem tup2 {w : World} {M : Nat → Prop} (a b : Int) : RepF w M (.tuple #[.int .i64 a, .int .i64 b]) (.tup [iv a, iv b]) := by
  have R := RepL.cons (RepF.v (w := w) (M := M) (.int .i64 a)) (RepL.cons (RepF.v (.int .i64 b)) (RepL.nil _ _))
  exact RepF.tup _ _ R.1 R.2
structure SmallG (x : Grid) : Prop where
  nl : x.layers.length ≤ 140737488355328
  nt : x.tilt.length ≤ 140737488355328
theorem TimesFrom_s (x : Grid) (fr : Cel) (b : SmallG x) : Summ Tryd.prog GG 19 [gridF x, .agg (celF fr)] (.tup [.sl (timesR x fr).1.length (matF (timesR x fr).1), iv (timesR x fr).2]) := by
  refine ⟨enters_of Tryd.func19 (by kernel_rfl) rfl, fun w M us hM hG R => ?_⟩
  obtain ⟨u1, us1, rfl, r1, R1⟩ := R.head
  obtain ⟨u2, us2, rfl, r2, R2⟩ := R1.head
  have := R2.end; subst this
  obtain ⟨la, ta, lc, tc, rfl, hg⟩ := rep_gridF r1 b.nl b.nt
  have := rep_cel r2; subst this
  refine (TimesFrom_any la ta lc tc x fr w hg (rep_sides hG)).mono fun e w' ⟨a, ss, c, h1, h2, h3, h4, h5, h6⟩ => ⟨_, h1, ?_, h3⟩
  have R := RepL.cons (mat_sl h2 h4 hM h5 h6) (RepL.cons (RepF.v (.int .i64 (timesR x fr).2)) (RepL.nil _ _))
  exact RepF.tup _ _ R.1 R.2
theorem WayTo_s (x : Grid) (fr to : Cel) (b : SmallG x) : Summ Tryd.prog GG 60 [gridF x, .agg (celF fr), .agg (celF to)] (.tup [.sl (wayR x fr to).1.length (celsF (wayR x fr to).1), iv (wayR x fr to).2]) := by
  refine ⟨enters_of Tryd.func60 (by kernel_rfl) rfl, fun w M us hM hG R => ?_⟩
  obtain ⟨u1, us1, rfl, r1, R1⟩ := R.head
  obtain ⟨u2, us2, rfl, r2, R2⟩ := R1.head
  obtain ⟨u3, us3, rfl, r3, R3⟩ := R2.head
  have := R3.end; subst this
  obtain ⟨la, ta, lc, tc, rfl, hg⟩ := rep_gridF r1 b.nl b.nt
  have := rep_cel r2; subst this
  have := rep_cel r3; subst this
  refine (WayTo_any la ta lc tc x fr to w hg (rep_sides hG)).mono fun e w' ⟨a, c, h1, h2, h3, h4, h5⟩ => ⟨_, h1, ?_, h3⟩
  have R := RepL.cons (row_sl h2 h4 (detC_cels _) (one_cels _) hM h5) (RepL.cons (RepF.v (.int .i64 (wayR x fr to).2)) (RepL.nil _ _))
  exact RepF.tup _ _ R.1 R.2
theorem SurvivalOf_s (x : Grid) (n : Int) (l : List Int) (b : SmallG x) (hm : l.length ≤ 140737488355328) : Summ Tryd.prog GG 39 [gridF x, iv n, .sl l.length (intsF l)] (.tup [iv (survR x n l).1, iv (survR x n l).2]) := by
  refine ⟨enters_of Tryd.func39 (by kernel_rfl) rfl, fun w M us hM hG R => ?_⟩
  obtain ⟨u1, us1, rfl, r1, R1⟩ := R.head
  obtain ⟨u2, us2, rfl, r2, R2⟩ := R1.head
  obtain ⟨u3, us3, rfl, r3, R3⟩ := R2.head
  have := R3.end; subst this
  obtain ⟨la, ta, lc, tc, rfl, hg⟩ := rep_gridF r1 b.nl b.nt
  have := rep_int r2; subst this
  obtain ⟨a, c, rfl, _, hr⟩ := rep_row r3 (detC_ints l)
  exact (SurvivalOf_any la ta lc tc x n a c l w hg hr hm).mono fun e w' ⟨h1, h2⟩ => ⟨_, h1, tup2 _ _, h2⟩
structure SmallH (h : Hole) : Prop where
  nw : h.widths.length ≤ 140737488355328
  ns : h.shrinks.length ≤ 140737488355328
theorem LatestStart_s (h : Hole) (d : Int) (b : SmallH h) : Summ Tryd.prog GG 50 [holeF h, iv d] (.tup [iv (latestR h d).1, iv (latestR h d).2]) := by
  refine ⟨enters_of Tryd.func50 (by kernel_rfl) rfl, fun w M us hM hG R => ?_⟩
  obtain ⟨u1, us1, rfl, r1, R1⟩ := R.head
  obtain ⟨u2, us2, rfl, r2, R2⟩ := R1.head
  have := R2.end; subst this
  obtain ⟨wa, sa, wc, sc, rfl, hh⟩ := rep_hole r1 b.nw b.ns
  have := rep_int r2; subst this
  exact (LatestStart_any wa sa wc sc h d w hh).mono fun e w' ⟨h1, h2⟩ => ⟨_, h1, tup2 _ _, h2⟩
theorem Ints_s (l m : List Int) (hn : l.length ≤ 140737488355328) : Summ Tryd.prog GG 22 [.sl l.length (intsF l), .sl m.length (intsF m)] (.v (.bool (decide (l = m)))) := by
  refine ⟨enters_of Tryd.func22 (by kernel_rfl) rfl, fun w M us hM hG R => ?_⟩
  obtain ⟨u1, us1, rfl, r1, R1⟩ := R.head
  obtain ⟨u2, us2, rfl, r2, R2⟩ := R1.head
  have := R2.end; subst this
  obtain ⟨a, c, rfl, _, hr⟩ := rep_row r1 (detC_ints l)
  obtain ⟨a', c', rfl, _, hr'⟩ := rep_row r2 (detC_ints m)
  exact (Ints_any a a' l m c c' w hr hr' hn).mono fun e w' ⟨h1, h2⟩ => ⟨_, h1, RepF.v _, h2⟩
theorem SameWay_s (l m : List Cel) (hn : l.length ≤ 140737488355328) : Summ Tryd.prog GG 63 [.sl l.length (celsF l), .sl m.length (celsF m)] (.v (.bool (decide (l = m)))) := by
  refine ⟨enters_of Tryd.func63 (by kernel_rfl) rfl, fun w M us hM hG R => ?_⟩
  obtain ⟨u1, us1, rfl, r1, R1⟩ := R.head
  obtain ⟨u2, us2, rfl, r2, R2⟩ := R1.head
  have := R2.end; subst this
  obtain ⟨a, c, rfl, _, hr⟩ := rep_row r1 (detC_cels l)
  obtain ⟨a', c', rfl, _, hr'⟩ := rep_row r2 (detC_cels m)
  exact (SameWay_any a a' l m c c' w hr hr' hn).mono fun e w' ⟨h1, h2⟩ => ⟨_, h1, RepF.v _, h2⟩
theorem Ranges_s (l m : List Rng) (hn : l.length ≤ 140737488355328) : Summ Tryd.prog GG 82 [.sl l.length (rngsF l), .sl m.length (rngsF m)] (.v (.bool (decide (l = m)))) := by
  refine ⟨enters_of Tryd.func82 (by kernel_rfl) rfl, fun w M us hM hG R => ?_⟩
  obtain ⟨u1, us1, rfl, r1, R1⟩ := R.head
  obtain ⟨u2, us2, rfl, r2, R2⟩ := R1.head
  have := R2.end; subst this
  obtain ⟨a, c, rfl, _, hr⟩ := rep_row r1 (detC_rngs l)
  obtain ⟨a', c', rfl, _, hr'⟩ := rep_row r2 (detC_rngs m)
  exact (Ranges_any a a' l m c c' w hr hr' hn).mono fun e w' ⟨h1, h2⟩ => ⟨_, h1, RepF.v _, h2⟩
theorem SameTimes_s (T T' : List (List Int)) (hn : T.length ≤ 140737488355328) (hn2 : ∀ r ∈ T, r.length ≤ 140737488355328) : Summ Tryd.prog GG 31 [.sl T.length (matF T), .sl T'.length (matF T')] (.v (.bool (decide (T = T')))) := by
  refine ⟨enters_of Tryd.func31 (by kernel_rfl) rfl, fun w M us hM hG R => ?_⟩
  obtain ⟨u1, us1, rfl, r1, R1⟩ := R.head
  obtain ⟨u2, us2, rfl, r2, R2⟩ := R1.head
  have := R2.end; subst this
  obtain ⟨a, ss, c, rfl, hr⟩ := rep_mat r1
  obtain ⟨a', ss', c', rfl, hr'⟩ := rep_mat r2
  exact (SameTimes_any a a' ss ss' T T' c c' w hr hr' hn hn2).mono fun e w' ⟨h1, h2⟩ => ⟨_, h1, RepF.v _, h2⟩
end Go.Proofs.YtienhiloecfgnaaDoor
namespace Go.Proofs.YtienhiloecfgnaaDoor
open Go Go.RowKit Go.Proofs Go.Shelf Go.Ab
def cellsG (x : Grid) : List Cel := (List.range x.tilt.length).flatMap fun c => (List.range x.rows.toNat).map fun r => ⟨(c : Nat), (r : Nat)⟩
theorem mem_cellsG {x : Grid} {c : Cel} : InG x c ↔ c ∈ cellsG x := by
  unfold InG cellsG
  simp only [List.mem_flatMap, List.mem_range, List.mem_map]
  constructor
  · rintro ⟨⟨h1, h2⟩, h3, h4⟩
    exact ⟨c.col.toNat, by omega, c.row.toNat, by omega, by cases c; simp at *; omega⟩
  · rintro ⟨a, ha, b, hb, rfl⟩
    simp; omega
def tab (T : List (List Int)) (c : Cel) : Int := (T.getD c.row.toNat []).getD c.col.toNat 0
def chkD (x : Grid) (fr : Cel) (d : Cel → Int) : Bool := decide (d fr = 0) && (cellsG x).all fun c => decide (0 ≤ d c) && ((nbrs x c).all fun n => decide (d n ≤ d c + stepI x c n)) && (decide (c = fr) || (nbrs x c).any fun n => decide (d c = d n + stepI x n c))
theorem chkD_is {x : Grid} {fr : Cel} {d : Cel → Int} (h : chkD x fr d = true) : IsDist x fr d := by
  unfold chkD at h
  simp only [Bool.and_eq_true, List.all_eq_true, Bool.or_eq_true, List.any_eq_true, decide_eq_true_eq] at h
  obtain ⟨h0, h1⟩ := h
  exact ⟨h0, fun c hc => (h1 c (mem_cellsG.1 hc)).1.1, fun c n hc hn => (h1 c (mem_cellsG.1 hc)).1.2 n hn, fun c hc hne => ((h1 c (mem_cellsG.1 hc)).2).resolve_left hne⟩
theorem distOf_tab {x : Grid} (v : Valid x) {fr : Cel} {d : Cel → Int} (h : chkD x fr d = true) {c : Cel} (hc : InG x c) : distOf x fr c = d c :=
  (distOf_is (chkD_is h)).unique v (chkD_is h) hc
theorem timesM_tab {x : Grid} (v : Valid x) {fr : Cel} {d : Cel → Int} (h : chkD x fr d = true) : timesM x fr = (List.range x.rows.toNat).map fun r => (List.range x.tilt.length).map fun c => d ⟨(c : Nat), (r : Nat)⟩ := by
  unfold timesM
  refine List.map_congr_left fun r hr => List.map_congr_left fun c hc => ?_
  have h1 := List.mem_range.1 hr
  have h2 := List.mem_range.1 hc
  exact distOf_tab v h (by unfold InG; simp; omega)
def nextD (x : Grid) (d : Cel → Int) (c : Cel) : Option Cel := (nbrs x c).find? fun n => decide (d n + stepI x c n = d c)
def wayD (x : Grid) (d : Cel → Int) (to : Cel) : Nat → Cel → List Cel
  | 0, _ => []
  | k + 1, c => if c = to then [] else match nextD x d c with
    | some n => n :: wayD x d to k n
    | none => []
theorem find_congr {α : Type} {p q : α → Bool} : ∀ {l : List α}, (∀ x ∈ l, p x = q x) → l.find? p = l.find? q
  | [], _ => rfl
  | a :: l, h => by
    rw [List.find?_cons, List.find?_cons, h a (by simp), find_congr fun x hx => h x (by simp [hx])]
theorem nextC_tab {x : Grid} (v : Valid x) {to c : Cel} {d : Cel → Int} (h : chkD x to d = true) (hc : InG x c) : nextC x to c = nextD x d c := by
  unfold nextC nextD
  exact find_congr fun n hn => by rw [distOf_tab v h hc, distOf_tab v h (nbrs_in v hn)]
theorem wayGo_tab {x : Grid} (v : Valid x) {to : Cel} {d : Cel → Int} (h : chkD x to d = true) : ∀ (k : Nat) (c : Cel), InG x c → wayGo x to k c = wayD x d to k c
  | 0, _, _ => rfl
  | k + 1, c, hc => by
    rw [wayGo, wayD, nextC_tab v h hc]
    split
    · rfl
    · cases hn : nextD x d c with
      | none => rfl
      | some n => exact congrArg (n :: ·) (wayGo_tab v h k n (nbrs_in v (List.mem_of_find?_eq_some hn)))
theorem wayM_tab {x : Grid} (v : Valid x) {fr to : Cel} {d : Cel → Int} (h : chkD x to d = true) (hc : InG x fr) : wayM x fr to = fr :: wayD x d to (d fr).toNat fr := by
  rw [wayM, distOf_tab v h hc, wayGo_tab v h _ _ hc]
def T0 : List (List Int) := [[0, 4, 8], [7, 11, 12]]
def T0r : List (List Int) := [[12, 8, 4], [17, 7, 0]]
def W0 : List Cel := [⟨0, 0⟩, ⟨1, 0⟩, ⟨2, 0⟩, ⟨2, 1⟩]
theorem grid0_valid : Valid grid0 := (checkIce_zero grid0).1 (by decide +kernel)
theorem timesR0 : timesR grid0 ⟨0, 0⟩ = (T0, 0) := by
  have h : fromE grid0 ⟨0, 0⟩ = 0 := by decide +kernel
  rw [timesR, h, if_neg (by decide), timesM_tab grid0_valid (d := tab T0) (by decide +kernel)]
  exact congrArg (·, 0) (by decide +kernel)
theorem wayR0 : wayR grid0 ⟨0, 0⟩ ⟨2, 1⟩ = (W0, 0) := by
  have h : wayE grid0 ⟨0, 0⟩ ⟨2, 1⟩ = 0 := by decide +kernel
  rw [wayR, h, if_neg (by decide), wayM_tab grid0_valid (d := tab T0r) (by decide +kernel) (mem_cellsG.2 (by decide +kernel))]
  exact congrArg (·, 0) (by decide +kernel)
theorem survR0 : survR grid0 100 [0, 0] = (82, 0) := by decide +kernel
theorem latestR0 : latestR hole0 1 = (1, 0) := by decide +kernel
def fl0 : Flash := { name := "a".toByteArray, frm := ⟨0, 0⟩, to := ⟨2, 1⟩, time := ⟨10, 14⟩ }
theorem dist_own (k : Int) (T : List (List Int)) (v : (checkIce (own grid0 [k, 5])).2 = 0) (h : chkD (own grid0 [k, 5]) ⟨0, 0⟩ (tab T) = true) (hi : (⟨2, 1⟩ : Cel) ∈ cellsG (own grid0 [k, 5])) : distOf (own grid0 [k, 5]) ⟨0, 0⟩ ⟨2, 1⟩ = tab T ⟨2, 1⟩ :=
  distOf_tab ((checkIce_zero _).1 v) h (mem_cellsG.2 hi)
theorem models0 : modelsM grid0 rngs0 [fl0] = [[2, 5]] := by
  have h1 := dist_own 1 [[0, 2, 4], [6, 8, 6]] (by decide +kernel) (by decide +kernel) (by decide +kernel)
  have h2 := dist_own 2 [[0, 4, 8], [7, 11, 12]] (by decide +kernel) (by decide +kernel) (by decide +kernel)
  have h3 := dist_own 3 [[0, 6, 12], [8, 14, 18]] (by decide +kernel) (by decide +kernel) (by decide +kernel)
  have ha : assigns rngs0 [] = [[1, 5], [2, 5], [3, 5]] := by decide +kernel
  unfold modelsM allMo news
  rw [ha]
  simp only [List.map_cons, List.map_nil, mo, explains, fl0, h1, h2, h3]
  decide +kernel
theorem Grid_s : Summ Tryd.prog GG 79 [] (gridF grid0) := by
  refine summW Tryd.func79 rfl rfl 6 rfl (by simp) (fun M0 => ?_)
  repeat (first
    | (apply s_build TY; exact rfl; exact rfl; exact rfl; exact rfl; exact rfl)
    | (apply s_bslice TY; exact rfl; exact rfl; exact rfl; exact rfl; exact rfl; exact rfl)
    | apply w_seq
    | apply w_region
    | apply s_nil
    | apply t_norm
    | apply w_ret
    | (apply s_alloc TY; exact rfl; exact rfl; exact rfl)
    | (apply s_store TY; exact rfl; exact rfl; exact rfl; exact rfl; exact rfl; exact rfl))
  exact lv_ret (ret1 rfl (res_bxs TY rfl rfl rfl rfl rfl))
theorem Class_s : Summ Tryd.prog GG 80 [] (classF grid0 rngs0) := by
  refine summW Tryd.func80 rfl rfl 6 rfl (by simp) (fun M0 => ?_)
  repeat (first
    | (apply s_build TY; exact rfl; exact rfl; exact rfl; exact rfl; exact rfl)
    | (apply s_bslice TY; exact rfl; exact rfl; exact rfl; exact rfl; exact rfl; exact rfl)
    | apply w_seq
    | apply w_region
    | apply s_nil
    | apply t_norm
    | apply w_ret
    | (apply s_call (Grid_s); exact rfl; exact rfl; exact rfl; exact rfl)
    | (apply s_alloc TY; exact rfl; exact rfl; exact rfl)
    | (apply s_store TY; exact rfl; exact rfl; exact rfl; exact rfl; exact rfl; exact rfl))
  exact lv_ret (ret1 rfl (res_bxs TY rfl rfl rfl rfl rfl))
theorem Hole_s : Summ Tryd.prog GG 81 [] (holeF hole0) := by
  refine summW Tryd.func81 rfl rfl 4 rfl (by simp) (fun M0 => ?_)
  repeat (first
    | (apply s_build TY; exact rfl; exact rfl; exact rfl; exact rfl; exact rfl)
    | (apply s_bslice TY; exact rfl; exact rfl; exact rfl; exact rfl; exact rfl; exact rfl)
    | apply w_seq
    | apply w_region
    | apply s_nil
    | apply t_norm
    | apply w_ret
    | (apply s_alloc TY; exact rfl; exact rfl; exact rfl)
    | (apply s_store TY; exact rfl; exact rfl; exact rfl; exact rfl; exact rfl; exact rfl))
  exact lv_ret (ret1 rfl (res_bxs TY rfl rfl rfl rfl rfl))
theorem TimesFrom0 : Summ Tryd.prog GG 19 [gridF grid0, .agg (celF ⟨0, 0⟩)] (.tup [.sl 2 (matF T0), iv 0]) := by
  have := TimesFrom_s grid0 ⟨0, 0⟩ ⟨by decide, by decide⟩
  rw [timesR0] at this
  exact this
theorem WayTo0 : Summ Tryd.prog GG 60 [gridF grid0, .agg (celF ⟨0, 0⟩), .agg (celF ⟨2, 1⟩)] (.tup [.sl 4 (celsF W0), iv 0]) := by
  have := WayTo_s grid0 ⟨0, 0⟩ ⟨2, 1⟩ ⟨by decide, by decide⟩
  rw [wayR0] at this
  exact this
theorem SurvivalOf0 : Summ Tryd.prog GG 39 [gridF grid0, iv 100, .sl 2 (intsF [0, 0])] (.tup [iv 82, iv 0]) := by
  have := SurvivalOf_s grid0 100 [0, 0] ⟨by decide, by decide⟩ (by decide)
  rw [survR0] at this
  exact this
theorem LatestStart0 : Summ Tryd.prog GG 50 [holeF hole0, iv 1] (.tup [iv 1, iv 0]) := by
  have := LatestStart_s hole0 1 ⟨by decide, by decide⟩
  rw [latestR0] at this
  exact this
theorem RangesOf0 : Summ Tryd.prog GG 69 [classF grid0 rngs0, .sl 1 (flasF [fl0])] (.tup [.sl 2 (rngsF [⟨2, 2⟩, ⟨5, 5⟩]), iv 0]) := by
  have := RangesOf_ok grid0 rngs0 [fl0] ⟨by decide, by decide, by decide, by decide, by decide +kernel⟩ (by decide +kernel) (by rw [models0]; decide)
  rw [models0] at this
  exact this
theorem SameTimes0 : Summ Tryd.prog GG 31 [.sl 2 (matF T0), .sl 2 (matF T0)] (.v (.bool true)) := SameTimes_s T0 T0 (by decide) (by decide)
theorem SameWay0 : Summ Tryd.prog GG 63 [.sl 4 (celsF W0), .sl 4 (celsF W0)] (.v (.bool true)) := SameWay_s W0 W0 (by decide)
theorem Ranges0 : Summ Tryd.prog GG 82 [.sl 2 (rngsF [⟨2, 2⟩, ⟨5, 5⟩]), .sl 2 (rngsF [⟨2, 2⟩, ⟨5, 5⟩])] (.v (.bool true)) := Ranges_s [⟨2, 2⟩, ⟨5, 5⟩] [⟨2, 2⟩, ⟨5, 5⟩] (by decide)
set_option maxRecDepth 100000 in
theorem awake_s : Summ Tryd.prog GG 15 [] (.v (.bool true)) := by
  refine summW Tryd.func15 rfl rfl 93 rfl (by simp) (fun M0 => ?_)
  repeat (first
    | (apply s_move_f; exact rfl; exact rfl)
    | (apply s_assign_f; exact rfl; exact rfl)
    | (apply s_extract; exact rfl; exact rfl; exact rfl)
    | (apply s_eql; exact rfl; exact rfl; exact rfl)
    | (apply s_build TY; exact rfl; exact rfl; exact rfl; exact rfl; exact rfl)
    | (apply s_bslice TY; exact rfl; exact rfl; exact rfl; exact rfl; exact rfl; exact rfl)
    | (apply s_pickT; exact rfl; exact rfl; (first | exact rfl | assumption); exact rfl)
    | apply w_seq
    | apply w_region
    | apply s_nil
    | apply t_norm
    | apply w_ret
    | (apply s_call (Grid_s); exact rfl; exact rfl; exact rfl; exact rfl)
    | (apply s_call (Class_s); exact rfl; exact rfl; exact rfl; exact rfl)
    | (apply s_call (Hole_s); exact rfl; exact rfl; exact rfl; exact rfl)
    | (apply s_call (TimesFrom0); exact rfl; exact rfl; exact rfl; exact rfl)
    | (apply s_call (WayTo0); exact rfl; exact rfl; exact rfl; exact rfl)
    | (apply s_call (SurvivalOf0); exact rfl; exact rfl; exact rfl; exact rfl)
    | (apply s_call (LatestStart0); exact rfl; exact rfl; exact rfl; exact rfl)
    | (apply s_call (RangesOf0); exact rfl; exact rfl; exact rfl; exact rfl)
    | (apply g_move_f; exact rfl; (first | exact rfl | assumption); exact rfl; exact rfl)
    | (apply g_eql; exact rfl; (first | exact rfl | assumption); exact rfl; exact rfl; exact rfl)
    | (apply g_build TY; exact rfl; (first | exact rfl | assumption); exact rfl; exact rfl; exact rfl; exact rfl; exact rfl)
    | (apply g_bslice TY; exact rfl; (first | exact rfl | assumption); exact rfl; exact rfl; exact rfl; exact rfl; exact rfl; exact rfl)
    | (apply g_call (SameTimes0); exact rfl; (first | exact rfl | assumption); exact rfl; exact rfl; exact rfl; exact rfl)
    | (apply g_call (SameWay0); exact rfl; (first | exact rfl | assumption); exact rfl; exact rfl; exact rfl; exact rfl)
    | (apply g_call (Ranges0); exact rfl; (first | exact rfl | assumption); exact rfl; exact rfl; exact rfl; exact rfl))
  exact lv_ret (ret1 rfl (res_tmp rfl))
end Go.Proofs.YtienhiloecfgnaaDoor
namespace Go.Ab
open Go Go.RowKit Go.Shelf Go.Proofs
section
variable {C : Ctx} {N : Nat}
theorem v_bslice_clip {o : Oper} {st : St} {T len E s bs : Nat} {parts : Array (Nat × Operand)} {zs : List Value} {xs : List (Nat × FV)} {cs : List FV} (ty : Ty C.P) (ho : o.op = .buildSlice T len parts) (hd : dstB N o.dst = true)
    (hT : (ty.ty T).sl = some (E, s, bs)) (hz : (ty.ty E).zero = some zs) (hs : len * s ≤ 16777216) (hp : st.evP C parts.toList = some xs) (hf : fillF (fun i => some (i * s, s)) (initF zs (len * s)) xs = some cs) : ValOp C N o st (.f (.slc len cs)) :=
  valop_run hd fun w0 a w J st' hA S => by
    obtain ⟨q1, q2⟩ := evP_rep (st := st) S (fun x hx => hA.ev x.2 (by simp only [ho, Op.operands]; simp; exact ⟨x.1, by simpa using hx⟩)) hp
    have h1 := (ty.ok E).one zs hz
    obtain ⟨it, z, hi, hzz, hzl⟩ := zero_spec ((ty.ok E).zero zs hz)
    obtain ⟨us, r1, r2, r3⟩ := fill_of (M := Mb C st'.h J) (w := w) (fun i => some (i * s, s)) (parts.toList.map fun p => (p.1, a.eval p.2)) xs (madeCells z.cells (len * s)) (initF zs (len * s)) cs (by rw [← hzl]; exact made_rep _ _) (made_one _ _ (by rw [hzl]; exact h1)) q1 q2 hf
    have hrun := run_buildSlice (w := w) (len := len) (parts := parts.map fun (i, x) => (i, a.eval x)) (us := us) ((ty.ok T).sl _ hT) ((ty.ok E).zero zs hz) hs (fun z' hz' => by
      have e : z'.cells = z.cells := Array.ext' (by rw [hz', hzl])
      rw [e, Array.toList_map]; exact r1)
    refine ⟨_, _, by simp only [execOp, ho, Sem.run_bind]; rw [hrun]; rfl, Ext.alloc _ _, ?_⟩
    have R := r2.ext (Ext.alloc w (.cells us E)) (M' := Mb C st'.h J) (fun _ _ h => h)
    have L := lies_new (w := w) (mb_lt S) us.toList E
    simp only [Array.toArray_toList] at L
    exact RepF.slc _ len cs us.toList R.1 (fun h => by cases h) r3 (fun _ => ⟨_, _, rfl, L⟩) R.2
theorem run_append_no (P : Program) (w : World) (t ty e : TypeId) (i : TypeInfo) (ht : P.underlying t = some (.slice e)) (hi : P.info? e = some i) (base ad : Option Addr) (n c k : Nat) (hn : n ≤ k) :
    (Builtin.append_ #[t, t] ty #[.slice base n k, .slice ad 0 c]).run P w = .ok (.slice base n k) w := by
  cases base <;> cases ad <;> simp [Builtin.append_, run_underlying ht, sizeOf, typeInfo, hi, Builtin.lenOf, Builtin.firstCells, storeCells, hn, loadCells, loadCellsFrom]
theorem v_append_cl {o : Oper} {st : St} {T n m e sz bs : Nat} {x y : Operand} {cs ys : List FV} {zs : List Value} (ty : Ty C.P) (ho : o.op = .call { callee := .builtin .append, args := #[x, y], argTypes := #[T, T] }) (hd : dstB N o.dst = true)
    (hT : (ty.ty T).sl = some (e, sz, bs)) (hz : (ty.ty e).zero = some zs) (hzl : zs.length = sz) (hsz : 0 < sz) (hx : st.ev C x = .f (.slc n cs)) (hy : st.ev C y = .f (.sl m ys)) (hln : cs.length = n * sz) (hl : ys.length = m * sz)
    (h63 : n + m ≤ maxLen) (hbs : (n + m) * bs ≤ 140737488355328) : ValOp C N o st (.f (.sl (n + m) (cs ++ ys))) := by
  by_cases hm : 0 < m
  · exact v_append_clip ty ho hd hT hz hzl hsz hx hy hm hln hl h63 hbs
  have hm0 : m = 0 := by omega
  subst hm0
  have hy0 : ys = [] := List.eq_nil_of_length_eq_zero (by simpa using hl)
  subst hy0
  refine valop_run hd fun w0 a w J st' hA S => ?_
  have e1 := evF S ((hA.ev x (by simp [ho, Op.operands, Call.operands])).trans hx)
  have e2 := evF S ((hA.ev y (by simp [ho, Op.operands, Call.operands])).trans hy)
  obtain ⟨hu, it, hi1, hi2, hi3⟩ := slE_spec ((ty.ok T).sl _ hT)
  generalize hxv : a.eval x = xv at e1
  generalize hyv : a.eval y = yv at e2
  cases e1 with
  | slc ad1 _ _ vs o1 o1' o2 o3 o4 =>
  cases e2 with
  | sl ad _ c _ us p0 p1 p2 p3 p4 =>
    refine ⟨.slice ad1 n n, w, ?_, Ext.refl _, ?_⟩
    · simp only [execOp, ho, resolve, invoke, builtin, Sem.run_bind, Sem.run_pure, Result.andThen_ok, List.map_toArray, List.map_cons, List.map_nil, hxv, hyv, run_append_no C.P w T o.type e it hu hi1 ad1 ad n c n (Nat.le_refl _)]
    · rw [List.append_nil]
      exact RepF.sl ad1 n n cs vs (Nat.le_refl _) o1 o2 o3 o4
variable {Q : Exit → St → Prop} {st : St} {ops : Array Oper} {pr : Bool} {K : St → Prop} {rest : List Oper}
theorem s_bslice_clip (ty : Ty C.P) {d : Option Tmp} {T0 : TypeId} {pos : String} {af : Array Edge} {T len E s bs : Nat} {parts : Array (Nat × Operand)} {zs : List Value} {xs : List (Nat × FV)} {cs : List FV} (hd : dstB N d = true) (hT : (ty.ty T).sl = some (E, s, bs)) (hz : (ty.ty E).zero = some zs) (hs : Nat.ble (len * s) 16777216 = true) (hp : st.evP C parts.toList = some xs) (hf : fillF (fun i => some (i * s, s)) (initF zs (len * s)) xs = some cs) (h : R C N ops pr K rest (st.put d (.f (.slc len cs)))) : R C N ops pr K (⟨d, .buildSlice T len parts, T0, pos, af, none⟩ :: rest) st := ⟨r_val rfl (v_bslice_clip ty rfl hd hT hz (Nat.le_of_ble_eq_true hs) hp hf) h.out⟩
theorem s_append_cl (ty : Ty C.P) {d : Option Tmp} {T0 : TypeId} {pos : String} {af : Array Edge} {T n m e sz bs : Nat} {x y : Operand} {cs ys : List FV} {zs : List Value} (hd : dstB N d = true) (hT : (ty.ty T).sl = some (e, sz, bs)) (hz : (ty.ty e).zero = some zs) (hzl : zs.length = sz) (hsz : Nat.blt 0 sz = true) (hx : st.ev C x = .f (.slc n cs)) (hy : st.ev C y = .f (.sl m ys)) (hln : cs.length = n * sz) (hl : ys.length = m * sz) (h63 : n + m ≤ maxLen) (hbs : (n + m) * bs ≤ 140737488355328) (h : R C N ops pr K rest (st.put d (.f (.sl (n + m) (cs ++ ys))))) : R C N ops pr K (⟨d, .call { callee := .builtin .append, args := #[x, y], argTypes := #[T, T] }, T0, pos, af, none⟩ :: rest) st := ⟨r_val rfl (v_append_cl ty rfl hd hT hz hzl (Nat.le_of_ble_eq_true hsz) hx hy hln hl h63 hbs) h.out⟩
theorem s_append_copy (ty : Ty C.P) {d : Option Tmp} {T0 : TypeId} {pos : String} {af : Array Edge} {T m e sz bs : Nat} {x y : Operand} {ys : List FV} {zs : List Value} (hd : dstB N d = true) (hT : (ty.ty T).sl = some (e, sz, bs)) (hz : (ty.ty e).zero = some zs) (hzl : zs.length = sz) (hsz : Nat.blt 0 sz = true) (hx : st.ev C x = .f (.slc 0 [])) (hy : st.ev C y = .f (.sl m ys)) (hl : ys.length = m * sz) (h63 : m ≤ maxLen) (hbs : m * bs ≤ 140737488355328) (h : R C N ops pr K rest (st.put d (.f (.sl m ys)))) : R C N ops pr K (⟨d, .call { callee := .builtin .append, args := #[x, y], argTypes := #[T, T] }, T0, pos, af, none⟩ :: rest) st := by
  refine s_append_cl ty hd hT hz hzl hsz hx hy (by simp) hl (by omega) (by rw [Nat.zero_add]; exact hbs) ?_
  rw [Nat.zero_add]; exact h
end
end Go.Ab
