/- Laws on which the proofs of this seat stand. No condition. -/
import Derived.Test.YtnmaabejdmaahaaGreatDoorIcStr2
import Derived.Shelf.Abstract
import Derived.IntWalk
import Derived.Test.YtnmaabejdmaahaaGreatDoorProg
import Derived.ArgAppend
import Derived.Deep.Slices
import Derived.ChangeArms
namespace Go.Ab
open Go Go.RowKit Go.Shelf Go.Proofs
section
variable {C : Ctx} {N : Nat}
theorem Sim.own {w0 : World} {a : Act} {w : World} {J : Nat → Value} {st : St} (S : Sim C w0 N st a w J) (t e sz : Nat) (ht : st.s t = .f (.v (.slice none 0 0))) (hn : st.h st.nx = none) :
    Sim C w0 N { s := upd st.s t (.ow st.nx), h := upd st.h st.nx (some (.row e sz 0 [])), nx := st.nx + 1 } a w (upd J st.nx (.slice none 0 0)) := by
  have hne : ∀ j, (st.h j).isSome = true → j ≠ st.nx := fun j h e => by subst e; rw [hn] at h; cases h
  have hM : ∀ b, b < w.heap.size → Mb C (upd st.h st.nx (some (.row e sz 0 []))) (upd J st.nx (.slice none 0 0)) b → Mb C st.h J b := by
    rintro b _ (h0 | ⟨j, hj, hb⟩)
    · exact .inl h0
    by_cases ej : j = st.nx
    · subst ej; rw [upd_same] at hb; simp [bk] at hb
    · rw [upd_other _ _ ej] at hj hb; exact .inr ⟨j, hj, hb⟩
  have conv : ∀ {v : Value} {x : AV}, RepA C w st.h J v x → RepA C w (upd st.h st.nx (some (.row e sz 0 []))) (upd J st.nx (.slice none 0 0)) v x := by
    intro v x h
    exact h.same fun _ _ q => q.conv (fun j hj => ⟨by rw [upd_other _ _ (hne j hj)]; exact hj, by rw [upd_other _ _ (hne j hj)]⟩) fun _ _ h => RepF.ext h (Ext.refl _) hM
  refine ⟨S.ext, S.size, S.defs, fun u => ?_, fun j B hB => ?_, fun j k b hj hk hjb hkb => ?_, S.old, fun g cs hg => RepF.ext (S.glob g cs hg) (Ext.refl _) hM, fun j p cells hp hc hs => ?_⟩
  · by_cases eu : u = t
    · subst eu
      have := S.slot u
      rw [ht] at this
      simp only [upd_same]
      exact ⟨by rw [upd_same]; rfl, by rw [upd_same]; exact repV this⟩
    · simp only [upd_other _ _ eu]; exact conv (S.slot u)
  · by_cases ej : j = st.nx
    · subst ej
      simp only [upd_same, Option.some.injEq] at hB ⊢
      subst hB
      exact ⟨[], World.ownsRow_nil _ _ _ _, fun b hb => by simp [bk] at hb, by simp, RepL.nil _ _⟩
    · simp only [upd_other _ _ ej] at hB ⊢
      exact (S.blk j B hB).conv0 (fun _ _ => rfl) (fun _ _ h => h) (fun _ _ => conv) (fun _ _ h => RepF.ext h (Ext.refl _) hM)
  · have nn : ∀ j, bk (upd J st.nx (.slice none 0 0) j) = some b → j ≠ st.nx := fun j h e => by subst e; rw [upd_same] at h; simp [bk] at h
    have h1 := nn j hjb
    have h2 := nn k hkb
    simp only [upd_other _ _ h1] at hj hjb
    simp only [upd_other _ _ h2] at hk hkb
    exact S.apart j k b hj hk hjb hkb
  · by_cases ej : j = st.nx
    · subst ej; simp only [upd_same, Option.some.injEq] at hc; subst hc; cases hs
    · simp only [upd_other _ _ ej] at hc ⊢
      exact S.fix j p cells hp hc hs
theorem strB_spec {P : Program} {T : TypeId} (h : strB P T = true) : P.underlying T = some .string := by
  unfold strB at h
  split at h
  · assumption
  · cases h
theorem v_len_str {o : Oper} {st : St} {T : TypeId} {x : Operand} {s : ByteArray} (ty : Ty C.P) (hT : (ty.ty T).str = true) (ho : o.op = .call { callee := .builtin .len, args := #[x], argTypes := #[T] }) (hd : dstB N o.dst = true) (hx : st.ev C x = .f (.v (.string s))) : ValOp C N o st (.f (.v (.int .i64 s.size))) :=
  valop_run hd fun w0 a w J st' hA S => by
    have e1 := evV S ((hA.ev x (by simp [ho, Op.operands, Call.operands])).trans hx)
    exact ⟨_, w, by simp [execOp, ho, resolve, invoke, builtin, Builtin.len_, e1, run_underlying (strB_spec ((ty.ok T).str hT)), goInt], Ext.refl _, RepF.v _⟩
theorem v_index_str {o : Oper} {st : St} {T : TypeId} {x y : Operand} {s : ByteArray} {k : IntKind} {z : Int} {b : UInt8} (ty : Ty C.P) (hT : (ty.ty T).str = true) (ho : o.op = .index T x y) (hd : dstB N o.dst = true) (hx : st.ev C x = .f (.v (.string s))) (hy : st.ev C y = .f (.v (.int k z))) (h0 : 0 ≤ z) (hb : s[z.toNat]? = some b) : ValOp C N o st (.f (.v (.int .u8 b.toNat))) :=
  valop_run hd fun w0 a w J st' hA S => by
    have e1 := evV S ((hA.ev x (by simp [ho, Op.operands])).trans hx)
    have e2 := evV S ((hA.ev y (by simp [ho, Op.operands])).trans hy)
    exact ⟨_, w, by simp [execOp, ho, Instr.index, e1, e2, asIntOf, run_underlying (strB_spec ((ty.ok T).str hT)), h0, hb], Ext.refl _, RepF.v _⟩
theorem v_min2 {o : Oper} {st : St} {T T' : TypeId} {x y : Operand} {p q : Int} {k k' : IntKind} (ho : o.op = .call { callee := .builtin .min, args := #[x, y], argTypes := #[T, T'] }) (hd : dstB N o.dst = true) (hx : st.ev C x = .f (.v (.int k p))) (hy : st.ev C y = .f (.v (.int k' q))) : ValOp C N o st (.f (.v (.int k (min p q)))) :=
  valop_run hd fun w0 a w J st' hA S => by
    have e1 := evV S ((hA.ev x (by simp [ho, Op.operands, Call.operands])).trans hx)
    have e2 := evV S ((hA.ev y (by simp [ho, Op.operands, Call.operands])).trans hy)
    refine ⟨.int k (if q < p then q else p), w, by simp [execOp, ho, resolve, invoke, builtin, Builtin.min_, Builtin.min2, e1, e2], Ext.refl _, ?_⟩
    rw [show min p q = if q < p then q else p by omega]; exact RepF.v _
theorem v_max2 {o : Oper} {st : St} {T T' : TypeId} {x y : Operand} {p q : Int} {k k' : IntKind} (ho : o.op = .call { callee := .builtin .max, args := #[x, y], argTypes := #[T, T'] }) (hd : dstB N o.dst = true) (hx : st.ev C x = .f (.v (.int k p))) (hy : st.ev C y = .f (.v (.int k' q))) : ValOp C N o st (.f (.v (.int k (max p q)))) :=
  valop_run hd fun w0 a w J st' hA S => by
    have e1 := evV S ((hA.ev x (by simp [ho, Op.operands, Call.operands])).trans hx)
    have e2 := evV S ((hA.ev y (by simp [ho, Op.operands, Call.operands])).trans hy)
    refine ⟨.int k (if q > p then q else p), w, by simp [execOp, ho, resolve, invoke, builtin, Builtin.max_, Builtin.max2, e1, e2], Ext.refl _, ?_⟩
    rw [show max p q = if q > p then q else p by omega]; exact RepF.v _
def bnd (C : Ctx) (st : St) (x : Option Operand) (d z : Int) : Prop := match x with
  | none => z = d
  | some x => ∃ k, st.ev C x = .f (.v (.int k z))
theorem v_slice {o : Oper} {st : St} {T E s bs : Nat} {x : Operand} {lo hi : Option Operand} {cs : List FV} {n : Nat} {l h : Int} (ty : Ty C.P) (ho : o.op = .slice T x lo hi none) (hd : dstB N o.dst = true) (hT : (ty.ty T).sl = some (E, s, bs)) (hx : st.ev C x = .f (.sl n cs))
    (hlo : bnd C st lo 0 l) (hhi : bnd C st hi n h) (h0 : 0 ≤ l) (hlh : l ≤ h) (hhn : h ≤ n) : ValOp C N o st (.f (.sl (h.toNat - l.toNat) ((cs.drop (l.toNat * s)).take ((h.toNat - l.toNat) * s)))) :=
  valop_run hd fun w0 a w J st' hA S => by
    have e1 := evF S ((hA.ev x (by simp [ho, Op.operands])).trans hx)
    obtain ⟨hu, it, hi1, rfl, _⟩ := slE_spec ((ty.ok T).sl _ hT)
    have hlo' : (lo = none ∧ l = 0) ∨ ∃ y k, lo = some y ∧ a.eval y = .int k l := by
      cases lo with
      | none => exact .inl ⟨rfl, hlo⟩
      | some y => obtain ⟨k, hk⟩ := hlo; exact .inr ⟨y, k, rfl, evV S ((hA.ev y (by simp [ho, Op.operands])).trans hk)⟩
    have hhi' : (hi = none ∧ h = n) ∨ ∃ y k, hi = some y ∧ a.eval y = .int k h := by
      cases hi with
      | none => exact .inl ⟨rfl, hhi⟩
      | some y => obtain ⟨k, hk⟩ := hhi; exact .inr ⟨y, k, rfl, evV S ((hA.ev y (by simp [ho, Op.operands])).trans hk)⟩
    generalize hv : a.eval x = v at e1
    cases e1 with
    | sl ad _ c _ us p0 p1 p2 p3 p4 =>
      have hhc : h ≤ (c : Int) := by omega
      have hh0 : 0 ≤ h := by omega
      have R := (RepL.drop (n := l.toNat * it.size) ⟨p1, p4⟩).take ((h.toNat - l.toNat) * it.size)
      refine ⟨.slice (if c = l.toNat then ad else ad.map (·.add (l.toNat * it.size))) (h.toNat - l.toNat) (c - l.toNat), w, ?_, Ext.refl _, ?_⟩
      · rcases hlo' with ⟨rfl, rfl⟩ | ⟨y, k, rfl, hy⟩ <;> rcases hhi' with ⟨rfl, rfl⟩ | ⟨y', k', rfl, hy'⟩
        · simp [execOp, ho, hv, Instr.sliceAt, Instr.slice, run_underlying hu, Instr.sliceBounds, sizeOf, typeInfo, hi1]
        · simp [execOp, ho, hv, hy', Instr.sliceAt, Instr.slice, run_underlying hu, Instr.sliceBounds, Instr.sliceBound, asIntOf, sizeOf, typeInfo, hi1, hh0, hhc]
        · simp [execOp, ho, hv, hy, Instr.sliceAt, Instr.slice, run_underlying hu, Instr.sliceBounds, Instr.sliceBound, asIntOf, sizeOf, typeInfo, hi1, h0, hlh]
        · have hlh' : l ≤ (h.toNat : Int) := by omega
          simp [execOp, ho, hv, hy, hy', Instr.sliceAt, Instr.slice, run_underlying hu, Instr.sliceBounds, Instr.sliceBound, asIntOf, sizeOf, typeInfo, hi1, hh0, hhc, h0]
          intro hlt; exact absurd hlt (by omega)
      · refine RepF.sl _ _ _ _ _ (by omega) R.1 (fun u hu => p2 u (List.mem_of_mem_drop (List.mem_of_mem_take hu))) (fun hne => ?_) R.2
        have hus : us ≠ [] := fun e => hne (by rw [e]; simp)
        obtain ⟨b, off, rfl, L⟩ := p3 hus
        have hcl : ¬ c = l.toNat := fun e => hne (by rw [show h.toNat - l.toNat = 0 by omega]; simp)
        refine ⟨b, off + l.toNat * it.size, by rw [if_neg hcl]; simp [addr_add], L.lt, L.free, fun k hk => ?_⟩
        rw [List.length_take, List.length_drop] at hk
        rw [List.getElem?_take, if_pos (by omega), List.getElem?_drop, Nat.add_assoc, L.at_ _ (by omega)]
structure Summ (P : Program) (G : Nat → Option FV) (g : Nat) (args : List FV) (r : FV) : Prop where
  enters : Enters P g
  call : ∀ (w : World) (M : Nat → Prop) (us : List Value), (∀ b, M b → b < w.heap.size) → (∀ g cs, G g = some cs → RepF w M (.pointer (some ⟨g, 0, none⟩)) cs) → RepL w M us args →
    Calls P g us.toArray w fun e w' => ∃ v, e = .returned v ∧ RepF w' M v r ∧ Ext w w'
theorem v_call {o : Oper} {st : St} {f : Operand} {args : Array Operand} {ts : Array TypeId} {g : Nat} {caps xs ys : List FV} {r : FV} (K : Summ C.P C.G g ys r) (ho : o.op = .call { callee := .value f, args := args, argTypes := ts }) (hd : dstB N o.dst = true) (hf : st.ev C f = .f (.fn g caps)) (hxs : st.evL C args.toList = some xs) (hys : xs ++ caps = ys) : ValOp C N o st (.f r) := by
  intro w0 a w st' hA ⟨J, S⟩ K1 Q hK
  have e1 := evF S ((hA.ev f (by simp [ho, Op.operands, Call.operands])).trans hf)
  have R := evL_rep (st := st) S (fun x hx => hA.ev x (by simp [ho, Op.operands, Call.operands]; exact .inr (by simpa using hx))) hxs
  generalize hv : a.eval f = v at e1
  cases e1 with
  | fn _ _ us h1 h2 =>
    subst hys
    have RR := RepL.append R ⟨h1, h2⟩
    have hrun : (execOp a.eval o).run C.P w = .ok (.enter g (args.toList.map a.eval ++ us).toArray) w := by
      have e2 : (args.map a.eval ++ us.toArray) = (args.toList.map a.eval ++ us).toArray := by
        apply Array.ext'; simp
      simp only [execOp, ho, resolve, hv, Deferred.ofValue, Sem.run_bind, Sem.run_pure, Result.andThen_ok, invoke]
      rw [show (#[] : Array Value) ++ args.map a.eval = args.map a.eval by simp, e2]
      exact K.enters _ _
    refine op_enter hrun ?_
    refine Calls.mono (K.call w (Mb C st'.h J) _ (mb_lt S) S.glob RR) ?_
    rintro e w' ⟨v', rfl, hr, he⟩
    exact hK v' w' ⟨J, (S.toExt he).put hd hr⟩
end
end Go.Ab
namespace Go.Ab
open Go Go.RowKit Go.Shelf Go.Proofs
section
variable {C : Ctx} {N : Nat}
def yl (st : St) (ops : Array Oper) (j : Nat) : Option Bool := match ops[j]? with
  | some o => match o.dst with
    | some d => match st.s d with
      | .f (.v (.bool b)) => some b
      | _ => none
    | none => none
  | none => none
def yu (st : St) (ops : Array Oper) (j : Nat) : Bool := match ops[j]? with
  | some o => match o.dst with
    | some d => match st.s d with
      | .f (.v (.tuple _)) => true
      | _ => false
    | none => false
  | none => false
def wantB (st : St) (ops : Array Oper) (o : Oper) : Option Bool := match o.guard with
  | none => some true
  | some (j, want) => match yl st ops j with
    | some b => some (b == want)
    | none => bif yu st ops j then some false else none
theorem want_sim {w0 : World} {a : Act} {w : World} {st : St} {ops : Array Oper} {o : Oper} {b : Bool} (S : SimE C w0 N st a w) (h : wantB st ops o = some b) : Region.wanted o (yielded ops a.tmps) = b := by
  obtain ⟨J, S⟩ := S
  unfold wantB at h
  unfold Region.wanted
  cases hg : o.guard with
  | none => simp [hg] at h; subst h; rfl
  | some p =>
    obtain ⟨j, want⟩ := p
    simp only [hg] at h ⊢
    cases hy : yl st ops j with
    | none =>
      simp only [hy] at h
      cases hu : yu st ops j with
      | false => rw [hu] at h; cases h
      | true =>
        rw [hu] at h
        have hb : b = false := (Option.some.inj h).symm
        subst hb
        unfold yu at hu
        cases hj : ops[j]? with
        | none => simp [hj] at hu
        | some oj =>
          simp only [hj] at hu
          cases hdj : oj.dst with
          | none => simp [hdj] at hu
          | some d =>
            simp only [hdj] at hu
            have hs := S.slot d
            split at hu
            · rename_i b2 hb2
              rw [hb2] at hs
              have hr := repV hs
              have e : yielded ops a.tmps j = none := by
                simp only [Array.getD_eq_getD_getElem?] at hr
                cases ht : a.tmps[d]? with
                | none => simp [yielded, hj, hdj, ht]
                | some y =>
                  rw [ht] at hr
                  have hy2 : y = .tuple b2 := by simpa using hr
                  simp [yielded, hj, hdj, ht, hy2]
              rw [e]; rfl
            · cases hu
    | some b' =>
      simp [hy] at h
      unfold yl at hy
      cases hj : ops[j]? with
      | none => simp [hj] at hy
      | some oj =>
        simp only [hj] at hy
        cases hdj : oj.dst with
        | none => simp [hdj] at hy
        | some d =>
          simp only [hdj] at hy
          have hs := S.slot d
          split at hy
          · rename_i b2 hb2
            rw [hb2] at hs
            have := repV hs
            have e : yielded ops a.tmps j = some b' := by
              simp at hy; subst hy
              simp only [Array.getD_eq_getD_getElem?] at this
              have hlt : a.tmps[d]? = some (Value.bool b2) := by
                cases ht : a.tmps[d]? with
                | none => rw [ht] at this; simp [undef] at this
                | some y => rw [ht] at this; simpa using this
              simp [yielded, hj, hdj, hlt]
            rw [e]
            subst h
            cases b' <;> cases want <;> rfl
          · cases hy
def light (o : Oper) : Bool := match o.op with
  | .load .. => true
  | .binOp .. => true
  | .store .. => true
  | .move .. => true
  | .assign .. => true
  | .indexAddr .. => true
  | .fieldAddr .. => true
  | .field .. => true
  | .extract .. => true
  | .pick .. => true
  | .call c => match c.callee with
    | .builtin .len => true
    | .builtin .min => true
    | .builtin .max => true
    | _ => false
  | .unOp .. => true
  | _ => false
def madeB (ops : Array Oper) (o : Oper) : Bool := (List.range ops.size).all fun j => match ops[j]? with
  | some oj => light oj || o.after.toList.any fun e => Region.binds .any e && Nat.beq e.on j
  | none => true
def saidB : Blk → Bool
  | .box cs => cs.all fun x => match x with
    | .bot => false
    | _ => true
  | _ => true
def StayOp (C : Ctx) (N : Nat) (o : Oper) (st : St) (k : Nat) (B : Blk) : Prop := o.dst = none ∧
  ∀ w0 a w st', Agree C o st st' → st'.h k = some B → SimE C w0 N st' a w → ∀ K Q, (∀ v w', SimE C w0 N st' (a.put o.dst v) w' → K (a.put o.dst v) w') → o.wpIn (Fence.wr C.ro) 7 C.P a w K Q
inductive One (C : Ctx) (N : Nat) (ops : Array Oper) (pr : Bool) (o : Oper) (st : St) : St → Prop
  | val (r : AV) : wantB st ops o = some true → ValOp C N o st r → One C N ops pr o st (st.put o.dst r)
  | all (r : AV) (B : Blk) : wantB st ops o = some true → light o = false → AllOp C N o st r B → st.h st.nx = none → One C N ops pr o st { s := (st.put o.dst r).s, h := upd st.h st.nx (some B), nx := st.nx + 1 }
  | skip : wantB st ops o = some false → dstB N o.dst = true → One C N ops pr o st (st.put o.dst (.f (.v undef)))
  | stay (k : Nat) (B : Blk) : wantB st ops o = some true → StayOp C N o st k B → st.h k = some B → madeB ops o = true ∧ saidB B = true → One C N ops pr o st st
  | eff (st1 : St) : pr = false → wantB st ops o = some true → EffOp C N o st st1 → One C N ops pr o st st1
def Run (C : Ctx) (N : Nat) (ops : Array Oper) (pr : Bool) (Q : St → Prop) : List Oper → St → Prop
  | [], st => Q st
  | o :: rest, st => ∃ st', One C N ops pr o st st' ∧ Run C N ops pr Q rest st'
theorem agree_refl (o : Oper) (st : St) : Agree C o st st := ⟨fun _ _ => rfl, fun _ B h => .inr ⟨B, h, .inl rfl⟩⟩
theorem SimE.nx {w0 : World} {a : Act} {w : World} {s : Nat → AV} {h : Nat → Option Blk} {n m : Nat} (S : SimE C w0 N ⟨s, h, n⟩ a w) : SimE C w0 N ⟨s, h, m⟩ a w := by
  obtain ⟨J, S⟩ := S
  exact ⟨J, S.ext, S.size, S.defs, S.slot, S.blk, S.apart, S.old, S.glob, S.fix⟩
theorem SimE.cast {w0 : World} {a : Act} {w : World} {st st' : St} (S : SimE C w0 N st a w) (hs : ∀ t, st'.s t = st.s t) (hh : ∀ k, st'.h k = st.h k) : SimE C w0 N st' a w := by
  have e1 : st'.s = st.s := funext hs
  have e2 : st'.h = st.h := funext hh
  obtain ⟨s, h, n⟩ := st
  obtain ⟨s', h', n'⟩ := st'
  simp only at e1 e2
  subst e1; subst e2
  exact S.nx
theorem put_undef {w0 : World} {a : Act} {w : World} {st : St} (S : SimE C w0 N st a w) {d : Option Tmp} (hd : dstB N d = true) : SimE C w0 N (st.put d (.f (.v undef))) (a.put d undef) w := by
  obtain ⟨J, S⟩ := S
  exact ⟨J, S.put hd (RepF.v undef)⟩
theorem One.wp {ops : Array Oper} {pr : Bool} {o : Oper} {st st' : St} (h : One C N ops pr o st st') {w0 : World} {a : Act} {w : World} (S : SimE C w0 N st a w) {K : Act → World → Prop} {Q : Exit → Act → World → Prop} (hK : ∀ a' w', SimE C w0 N st' a' w' → K a' w') :
    if Region.wanted o (yielded ops a.tmps) then o.wpIn (Fence.wr C.ro) 7 C.P a w K Q else K (a.put o.dst undef) w := by
  cases h with
  | val r hw hv => rw [want_sim S hw, if_pos rfl]; exact hv w0 a w st (agree_refl o st) S K Q (fun v w' h => hK _ _ h)
  | all r B hw _ hv hn => rw [want_sim S hw, if_pos rfl]; exact hv w0 a w st (agree_refl o st) hn S K Q (fun v w' h => hK _ _ h.nx)
  | skip hw hd => rw [want_sim S hw]; simp only [Bool.false_eq_true, if_false]; exact hK _ _ (put_undef S hd)
  | stay k B hw hv hk _ => rw [want_sim S hw, if_pos rfl]; exact hv.2 w0 a w st (agree_refl o st) hk S K Q (fun v w' h => hK _ _ h)
  | eff st1 _ hw hv => rw [want_sim S hw, if_pos rfl]; exact hv w0 a w S K Q (fun v w' h => hK _ _ h)
theorem both_in {p : Prop} [Decidable p] {X Y Z : Prop} (hz : Z) (h : if p then X else Y) : if p then X else Z ∧ Y := by
  split
  · rename_i hp; rwa [if_pos hp] at h
  · rename_i hp; rw [if_neg hp] at h; exact ⟨hz, h⟩
theorem Run.wpList {ops : Array Oper} {pr : Bool} {Q : St → Prop} {w0 : World} {Qc : Exit → Act → World → Prop} : ∀ {l : List Oper} {st : St} {a : Act} {w : World}, Run C N ops pr Q l st → SimE C w0 N st a w →
    (∀ st' a' w', Q st' → SimE C w0 N st' a' w' → Qc .normal a' w') → Go.wpListIn (Fence.wr C.ro) 7 C.P ops Qc l a w
  | [], st, a, w, h, S, hq => hq st a w h S
  | _o :: _rest, _st, _a, _w, ⟨_st', h1, h2⟩, S, hq => wpListIn_step fun _K hK => both_in (fun _ _ => trivial) (h1.wp S (fun a' w' S' => hK a' w' (Run.wpList h2 S' hq)))
theorem Run.states {ops : Array Oper} {pr : Bool} {Q : St → Prop} : ∀ {l : List Oper} {st : St}, Run C N ops pr Q l st → ∃ sts : Nat → St, sts 0 = st ∧ (∀ i o, l[i]? = some o → One C N ops pr o (sts i) (sts (i + 1))) ∧ Q (sts l.length)
  | [], st, h => ⟨fun _ => st, rfl, fun i o h => by simp at h, h⟩
  | o :: rest, st, ⟨st', h1, h2⟩ => by
    obtain ⟨sts, e0, h3, h4⟩ := Run.states h2
    refine ⟨fun i => match i with | 0 => st | i + 1 => sts i, rfl, fun i o' hi => ?_, h4⟩
    cases i with
    | zero => simp at hi; subst hi; rw [← e0] at h1; exact h1
    | succ i => exact h3 i o' (by simpa using hi)
def bitsB (l : List Oper) (bf : Nat → Nat) : Bool := (List.range l.length).all fun j => match l[j]? with
  | some o => (List.range j).all fun i => !(bf j).testBit i || o.after.toList.any fun e => Region.binds .any e && (Nat.beq e.on i || (Nat.blt i e.on && (bf e.on).testBit i))
  | none => true
def apartB (l : List Oper) (bf : Nat → Nat) (n0 : Nat) : Bool := (List.range n0).all fun j => (List.range j).all fun i => (bf j).testBit i || match l[i]?, l[j]? with
  | some oi, some oj => oi.apart l.toArray oj
  | _, _ => true
def tailB (l : List Oper) (bf : Nat → Nat) (n0 : Nat) : Bool := (List.range l.length).all fun j => Nat.blt j n0 || (List.range j).all fun i => (bf j).testBit i
def bitsOf (l : List Oper) : Nat → Nat := fun j => (Region.before l.toArray).getD j 0
def okReg (l : List Oper) (n0 : Nat) : Bool := Region.upB l.toArray && bitsB l (bitsOf l) && apartB l (bitsOf l) n0 && tailB l (bitsOf l) n0 && Nat.ble n0 l.length
theorem bits_done {l : List Oper} {bf : Nat → Nat} (hb : bitsB l bf = true) (hup : Region.upB l.toArray = true) {s : Nat → Bool} (hdc : ∀ i o, l[i]? = some o → s i = true → ∀ e ∈ o.after, Region.binds .any e = true → s e.on = true) :
    ∀ (j : Nat) (o : Oper), l[j]? = some o → (∀ e ∈ o.after, Region.binds .any e = true → s e.on = true) → ∀ i, i < j → (bf j).testBit i = true → s i = true := by
  intro j
  induction j using Nat.strongRecOn with
  | _ j ih =>
    intro o ho hall i hij hbit
    have hj : j < l.length := (List.getElem?_eq_some_iff.1 ho).1
    have h1 := List.all_eq_true.1 hb j (List.mem_range.2 hj)
    rw [ho] at h1
    have h2 := List.all_eq_true.1 h1 i (List.mem_range.2 hij)
    rw [hbit] at h2
    simp only [Bool.not_true, Bool.false_or, List.any_eq_true, Bool.and_eq_true, Bool.or_eq_true] at h2
    obtain ⟨e, he, hbe, h3⟩ := h2
    have he' : e ∈ o.after := by simpa using he
    have hs := hall e he' hbe
    have hlt := Region.upB_spec hup (i := j) (o := o) (by simpa using ho) e he' hbe
    rcases h3 with h3 | h3
    · rw [← Nat.eq_of_beq_eq_true h3]; exact hs
    · have hel : e.on < l.length := by omega
      exact ih e.on hlt l[e.on] (List.getElem?_eq_getElem hel) (hdc e.on l[e.on] (List.getElem?_eq_getElem hel) hs) i (Nat.le_of_ble_eq_true h3.1) h3.2
def slotS (l : List Oper) (sts : Nat → St) (s : Nat → Bool) : Nat → Nat → AV
  | 0, t => (sts 0).s t
  | m + 1, t => if s m = true ∧ (l[m]?).bind (·.dst) = some t then (sts (m + 1)).s t else slotS l sts s m t
def heapS (sts : Nat → St) (s : Nat → Bool) : Nat → Nat → Option Blk
  | 0, k => (sts 0).h k
  | m + 1, k => if s m = true ∧ (sts m).nx < (sts (m + 1)).nx ∧ k = (sts m).nx then (sts (m + 1)).h k else heapS sts s m k
theorem One.slot {ops : Array Oper} {o : Oper} {st st' : St} (h : One C N ops true o st st') : (∀ t, o.dst ≠ some t → st'.s t = st.s t) ∧ ((st'.nx = st.nx ∧ st'.h = st.h) ∨ (st'.nx = st.nx + 1 ∧ st.h st.nx = none ∧ ∃ B, st'.h = upd st.h st.nx (some B))) := by
  have hp : ∀ (r : AV) (t : Nat), o.dst ≠ some t → (st.put o.dst r).s t = st.s t := fun r t ht => by
    cases hd : o.dst with
    | none => rfl
    | some d => simp only [St.put]; rw [upd_other]; intro e; subst e; exact ht hd
  have hh : ∀ r : AV, (st.put o.dst r).h = st.h ∧ (st.put o.dst r).nx = st.nx := fun r => by cases o.dst <;> exact ⟨rfl, rfl⟩
  cases h with
  | val r _ _ => exact ⟨hp r, .inl ⟨(hh r).2, (hh r).1⟩⟩
  | all r B _ _ _ hn => exact ⟨hp r, .inr ⟨rfl, hn, B, rfl⟩⟩
  | skip _ _ => exact ⟨hp _, .inl ⟨(hh _).2, (hh _).1⟩⟩
  | stay _ _ _ _ _ _ => exact ⟨fun _ _ => rfl, .inl ⟨rfl, rfl⟩⟩
  | eff _ h0 => cases h0
theorem One.heavy {ops : Array Oper} {o : Oper} {st st' : St} (h : One C N ops true o st st') (hx : st.nx < st'.nx) : light o = false := by
  have hh : ∀ r : AV, (st.put o.dst r).nx = st.nx := fun r => by cases o.dst <;> rfl
  cases h with
  | val r _ _ => rw [hh r] at hx; omega
  | all r B _ hl _ _ => exact hl
  | skip _ _ => rw [hh] at hx; omega
  | stay _ _ _ _ _ _ => omega
  | eff _ h0 => cases h0
def Stp (C : Ctx) (N : Nat) (ops : Array Oper) (o : Oper) (st st' : St) : Prop := One C N ops true o st st' ∨ st' = st
theorem Stp.slot {ops : Array Oper} {o : Oper} {st st' : St} (h : Stp C N ops o st st') : (∀ t, o.dst ≠ some t → st'.s t = st.s t) ∧ ((st'.nx = st.nx ∧ st'.h = st.h) ∨ (st'.nx = st.nx + 1 ∧ st.h st.nx = none ∧ ∃ B, st'.h = upd st.h st.nx (some B))) := by
  rcases h with h | rfl
  · exact h.slot
  · exact ⟨fun _ _ => rfl, .inl ⟨rfl, rfl⟩⟩
theorem Stp.heavy {ops : Array Oper} {o : Oper} {st st' : St} (h : Stp C N ops o st st') (hx : st.nx < st'.nx) : light o = false := by
  rcases h with h | rfl
  · exact h.heavy hx
  · omega
structure Chain (C : Ctx) (N : Nat) (l : List Oper) (n0 : Nat) (sts : Nat → St) : Prop where
  pre : ∀ i o, i < n0 → l[i]? = some o → Stp C N l.toArray o (sts i) (sts (i + 1))
  le : n0 ≤ l.length
variable {l : List Oper} {n0 : Nat} {sts : Nat → St}
theorem Chain.one (h : Chain C N l n0 sts) {i : Nat} (hi : i < n0) : ∃ o, l[i]? = some o ∧ Stp C N l.toArray o (sts i) (sts (i + 1)) := by
  have hl : i < l.length := Nat.lt_of_lt_of_le hi h.le
  exact ⟨l[i], List.getElem?_eq_getElem hl, h.pre i _ hi (List.getElem?_eq_getElem hl)⟩
theorem Chain.nx_mono (h : Chain C N l n0 sts) {i : Nat} : ∀ {j : Nat}, i ≤ j → j ≤ n0 → (sts i).nx ≤ (sts j).nx := by
  intro j hij
  induction hij with
  | refl => intro _; exact Nat.le_refl _
  | @step m _ ih =>
    intro hj
    obtain ⟨o, _, h1⟩ := h.one (i := m) hj
    have := ih (by omega)
    show (sts i).nx ≤ (sts (m + 1)).nx
    rcases h1.slot.2 with h2 | h2 <;> omega
theorem Chain.h_mono (h : Chain C N l n0 sts) {i : Nat} {k : Nat} {B : Blk} (hB : (sts i).h k = some B) : ∀ {j : Nat}, i ≤ j → j ≤ n0 → (sts j).h k = some B := by
  intro j hij
  induction hij with
  | refl => intro _; exact hB
  | step _ ih =>
    intro hj
    obtain ⟨o, _, h1⟩ := h.one (i := _) hj
    have h0 := ih (by omega)
    rcases h1.slot.2 with ⟨_, e⟩ | ⟨_, hn, B', e⟩
    · rw [e]; exact h0
    · rw [e, upd_other]
      · exact h0
      · intro ek; subst ek; rw [hn] at h0; cases h0
theorem Chain.slot_eq (h : Chain C N l n0 sts) {s : Nat → Bool} {t : Nat} {i : Nat} (hpre : ∀ m, m < i → (l[m]?).bind (·.dst) = some t → s m = true) : ∀ m, m ≤ i → m ≤ n0 → slotS l sts s m t = (sts m).s t
  | 0, _, _ => rfl
  | m + 1, hm, hn => by
    obtain ⟨o, ho, h1⟩ := h.one (i := m) hn
    unfold slotS
    split
    · rfl
    · rename_i hc
      rw [Chain.slot_eq h hpre m (by omega) (by omega)]
      refine (h1.slot.1 t (fun e => hc ⟨hpre m (by omega) (by rw [ho]; exact e), by rw [ho]; exact e⟩)).symm
theorem slot_more {s : Nat → Bool} {t i n : Nat} (hno : ∀ m, i ≤ m → m < n → s m = true → (l[m]?).bind (·.dst) ≠ some t) (hin : i ≤ n) : slotS l sts s n t = slotS l sts s i t := by
  induction n with
  | zero => rw [show i = 0 by omega]
  | succ m ih =>
    by_cases e : i = m + 1
    · rw [e]
    rw [show slotS l sts s (m + 1) t = if s m = true ∧ (l[m]?).bind (·.dst) = some t then (sts (m + 1)).s t else slotS l sts s m t from rfl, if_neg (fun hc => hno m (by omega) (by omega) hc.1 hc.2)]
    exact ih (fun k h1 h2 => hno k h1 (by omega)) (by omega)
theorem slot_congr {s s' : Nat → Bool} {t : Nat} : ∀ m, (∀ k, k < m → (l[k]?).bind (·.dst) = some t → s k = s' k) → slotS l sts s m t = slotS l sts s' m t
  | 0, _ => rfl
  | m + 1, h => by
    unfold slotS
    rw [slot_congr m (fun k hk => h k (by omega))]
    by_cases e : (l[m]?).bind (·.dst) = some t
    · rw [h m (by omega) e]
    · rw [if_neg (fun hc => e hc.2), if_neg (fun hc => e hc.2)]
theorem heap_congr {s s' : Nat → Bool} {k : Nat} : ∀ m, (∀ j, j < m → (sts j).nx < (sts (j + 1)).nx → k = (sts j).nx → s j = s' j) → heapS sts s m k = heapS sts s' m k
  | 0, _ => rfl
  | m + 1, h => by
    unfold heapS
    rw [heap_congr m (fun j hj => h j (by omega))]
    by_cases e : (sts m).nx < (sts (m + 1)).nx ∧ k = (sts m).nx
    · rw [h m (by omega) e.1 e.2]
    · rw [if_neg (fun hc => e hc.2), if_neg (fun hc => e hc.2)]
theorem Chain.heap_agree (h : Chain C N l n0 sts) {s : Nat → Bool} {i k : Nat} (hi : i < n0) (hs : s i = false) (hk : ((sts i).h k).isSome = true) : ∀ m, m ≤ n0 → heapS sts s m k = (sts i).h k ∨ heapS sts s m k = none
  | 0, _ => by
    cases h0 : (sts 0).h k with
    | none => exact .inr h0
    | some B => exact .inl (by unfold heapS; rw [h0, h.h_mono h0 (Nat.zero_le i) (by omega)])
  | m + 1, hm => by
    unfold heapS
    split
    · rename_i hc
      obtain ⟨hsm, hlt, rfl⟩ := hc
      obtain ⟨o, _, h1⟩ := h.one (i := m) hm
      rcases h1.slot.2 with ⟨e, _⟩ | ⟨_, hn, B, e⟩
      · omega
      · by_cases hmi : m < i
        · left
          have hB : (sts (m + 1)).h (sts m).nx = some B := by rw [e, upd_same]
          rw [hB, h.h_mono hB hmi (by omega)]
        · exfalso
          have hmi' : i ≤ m := by omega
          obtain ⟨B', hB'⟩ := Option.isSome_iff_exists.1 hk
          have := h.h_mono hB' hmi' (by omega)
          rw [hn] at this; cases this
    · exact Chain.heap_agree h hi hs hk m (by omega)
theorem Chain.heap_free (h : Chain C N l n0 sts) {s : Nat → Bool} {i : Nat} (hi : i < n0) (hs : s i = false) (hnew : (sts i).nx < (sts (i + 1)).nx) (hn : (sts i).h (sts i).nx = none) : ∀ m, m ≤ n0 → heapS sts s m (sts i).nx = none
  | 0, _ => by
    cases h0 : (sts 0).h (sts i).nx with
    | none => exact h0
    | some B => have := h.h_mono h0 (Nat.zero_le i) (by omega); rw [hn] at this; cases this
  | m + 1, hm => by
    unfold heapS
    rw [if_neg]
    · exact Chain.heap_free h hi hs hnew hn m (by omega)
    · rintro ⟨hsm, hlt, e⟩
      by_cases h1 : m < i
      · have := h.nx_mono (i := m + 1) (j := i) h1 (by omega); omega
      · by_cases h2 : m = i
        · subst h2; rw [hs] at hsm; cases hsm
        · have := h.nx_mono (i := i + 1) (j := m) (by omega) (by omega); omega
theorem Chain.heap_at (h : Chain C N l n0 sts) {s : Nat → Bool} {i : Nat} (_hi : i < n0) (hs : s i = true) (hnew : (sts i).nx < (sts (i + 1)).nx) : ∀ m, i < m → m ≤ n0 → heapS sts s m (sts i).nx = (sts (i + 1)).h (sts i).nx := by
  intro m hm
  induction hm with
  | refl =>
    intro _
    show heapS sts s (i + 1) _ = _
    unfold heapS; rw [if_pos ⟨hs, hnew, rfl⟩]
  | step hm ih =>
    intro hn
    rename_i m
    show heapS sts s (m + 1) _ = _
    unfold heapS
    rw [if_neg]
    · exact ih (by omega)
    · rintro ⟨_, hlt, e⟩
      have := h.nx_mono (i := i + 1) (j := m) hm (by omega); omega
theorem Chain.heap_full (h : Chain C N l n0 sts) {s : Nat → Bool} {k : Nat} (hall : ∀ i, i < n0 → s i = true) : ∀ m, m ≤ n0 → heapS sts s m k = (sts m).h k
  | 0, _ => rfl
  | m + 1, hm => by
    obtain ⟨o, _, h1⟩ := h.one (i := m) hm
    unfold heapS
    split
    · rfl
    · rename_i hc
      rw [Chain.heap_full h hall m (by omega)]
      rcases h1.slot.2 with ⟨_, e⟩ | ⟨hx, hn, B, e⟩
      · rw [e]
      · rw [e, upd_other]; intro ek; exact hc ⟨hall m hm, by omega, ek⟩
theorem Chain.heap_here (h : Chain C N l n0 sts) {s : Nat → Bool} {k : Nat} : ∀ m, m ≤ n0 → (∀ j, j < m → (sts j).nx < (sts (j + 1)).nx → s j = true) → heapS sts s m k = (sts m).h k
  | 0, _, _ => rfl
  | m + 1, hm, ha => by
    obtain ⟨o, _, h1⟩ := h.one (i := m) hm
    unfold heapS
    split
    · rfl
    · rename_i hc
      rw [Chain.heap_here h m (by omega) (fun j hj => ha j (by omega))]
      rcases h1.slot.2 with ⟨_, e⟩ | ⟨hx, hn, B, e⟩
      · rw [e]
      · rw [e, upd_other]; intro ek; exact hc ⟨ha m (by omega) (by omega), by omega, ek⟩
theorem Chain.made (h : Chain C N l n0 sts) {s : Nat → Bool} {o : Oper} (hm : madeB l.toArray o = true) (hedge : ∀ e ∈ o.after, Region.binds .any e = true → s e.on = true) {j : Nat} (hj : j < n0) (hx : (sts j).nx < (sts (j + 1)).nx) : s j = true := by
  obtain ⟨oj, hoj, h1⟩ := h.one (i := j) hj
  have hl := h1.heavy hx
  have h2 := List.all_eq_true.1 hm j (List.mem_range.2 (by simpa using (List.getElem?_eq_some_iff.1 hoj).1))
  have e : l.toArray[j]? = some oj := by simpa using hoj
  rw [e] at h2
  simp only [hl, Bool.false_or, List.any_eq_true, Bool.and_eq_true] at h2
  obtain ⟨e, he, hb, hq⟩ := h2
  rw [← Nat.eq_of_beq_eq_true hq]
  exact hedge e (by simpa using he) hb
def ovr (ov h : Nat → Option Blk) (k : Nat) : Option Blk := match ov k with
  | some B => some B
  | none => h k
theorem ovr_none {ov h : Nat → Option Blk} {k : Nat} (e : ov k = none) : ovr ov h k = h k := by unfold ovr; rw [e]
theorem ovr_some {ov h : Nat → Option Blk} {k : Nat} {B : Blk} (e : ov k = some B) : ovr ov h k = some B := by unfold ovr; rw [e]
theorem Chain.read (h : Chain C N l n0 sts) {bf : Nat → Nat} (hb : bitsB l bf = true) (hup : Region.upB l.toArray = true) {nA : Nat} (hA : n0 ≤ nA) (hap : apartB l bf nA = true) {s : Nat → Bool}
    (hdc : ∀ i o, l[i]? = some o → s i = true → ∀ e ∈ o.after, Region.binds .any e = true → s e.on = true) {i : Nat} {o : Oper} (hi : i < n0) (ho : l[i]? = some o) (hs : s i = false)
    (hedge : ∀ e ∈ o.after, Region.binds .any e = true → s e.on = true) : (∀ m om, m < n0 → l[m]? = some om → i < m → o.apart l.toArray om = false → s m = false) ∧ ∀ t, t ∈ o.looksAt l.toArray → slotS l sts s n0 t = (sts i).s t := by
  have conf : ∀ m om, m < n0 → l[m]? = some om → m < i → om.apart l.toArray o = false → s m = true := fun m om hm hom hmi hc => by
    have h1 := List.all_eq_true.1 hap i (List.mem_range.2 (Nat.lt_of_lt_of_le hi hA))
    have h2 := List.all_eq_true.1 h1 m (List.mem_range.2 hmi)
    rw [hom, ho] at h2
    simp only [hc, Bool.or_false] at h2
    exact bits_done hb hup hdc i o ho hedge m hmi h2
  have conf2 : ∀ m om, m < n0 → l[m]? = some om → i < m → o.apart l.toArray om = false → s m = false := fun m om hm hom hmi hc => by
    cases hsm : s m with
    | false => rfl
    | true =>
      have h1 := List.all_eq_true.1 hap m (List.mem_range.2 (Nat.lt_of_lt_of_le hm hA))
      have h2 := List.all_eq_true.1 h1 i (List.mem_range.2 hmi)
      rw [hom, ho] at h2
      simp only [hc, Bool.or_false] at h2
      have := bits_done hb hup hdc m om hom (hdc m om hom hsm) i hmi h2
      rw [hs] at this; cases this
  refine ⟨conf2, fun t ht => ?_⟩
  have rd : slotS l sts s n0 t = (sts i).s t := by
    have e1 : slotS l sts s i t = (sts i).s t := h.slot_eq (i := i) (fun m hm hd => by
      have hml : m < l.length := Nat.lt_of_lt_of_le (Nat.lt_trans hm hi) h.le
      have hom := List.getElem?_eq_getElem hml
      rw [hom] at hd
      refine conf m _ (Nat.lt_trans hm hi) hom hm ?_
      cases hc : (l[m]).apart l.toArray o with
      | false => rfl
      | true => exact absurd ht ((Oper.apart_spec hc).1 t hd)) i (Nat.le_refl _) (Nat.le_of_lt hi)
    rw [← e1]
    refine slot_more (fun m hm hmn hsm hd => ?_) (Nat.le_of_lt hi)
    by_cases hmi : m = i
    · subst hmi; rw [hs] at hsm; cases hsm
    · have hml : m < l.length := Nat.lt_of_lt_of_le hmn h.le
      have hom := List.getElem?_eq_getElem hml
      rw [hom] at hd
      have := conf2 m _ hmn hom (by omega) (by
        cases hc : o.apart l.toArray l[m] with
        | false => rfl
        | true => exact absurd ht ((Oper.apart_spec hc).2.2 t hd))
      rw [this] at hsm; cases hsm
  exact rd
theorem Chain.step (h : Chain C N l n0 sts) {bf : Nat → Nat} (hb : bitsB l bf = true) (hup : Region.upB l.toArray = true) {nA : Nat} (hA : n0 ≤ nA) (hap : apartB l bf nA = true) {s : Nat → Bool}
    {ov : Nat → Option Blk} (hov : ∀ k B', ov k = some B' → (∃ B0, (sts n0).h k = some B0 ∧ saidB B0 = false ∧ More B0 B') ∧ ∀ j, j < n0 → (sts j).nx < (sts (j + 1)).nx → s j = true)
    (hdc : ∀ i o, l[i]? = some o → s i = true → ∀ e ∈ o.after, Region.binds .any e = true → s e.on = true) {i : Nat} {o : Oper} (hi : i < n0) (ho : l[i]? = some o) (hs : s i = false)
    (hedge : ∀ e ∈ o.after, Region.binds .any e = true → s e.on = true) {w0 : World} {a : Act} {w : World} (S : SimE C w0 N ⟨slotS l sts s n0, ovr ov (heapS sts s n0), 0⟩ a w) {K : Act → World → Prop} {Q : Exit → Act → World → Prop} (h1 : One C N l.toArray true o (sts i) (sts (i + 1)))
    (hK : ∀ a' w', SimE C w0 N ⟨slotS l sts (fun j => decide (j = i) || s j) n0, ovr ov (heapS sts (fun j => decide (j = i) || s j) n0), 0⟩ a' w' → K a' w') :
    if Region.wanted o (yielded l.toArray a.tmps) then o.wpIn (Fence.wr C.ro) 7 C.P a w K Q else K (a.put o.dst undef) w := by
  obtain ⟨conf2, read⟩ := h.read hb hup hA hap hdc hi ho hs hedge
  have others : ∀ t, o.dst ≠ some t → slotS l sts (fun j => decide (j = i) || s j) n0 t = slotS l sts s n0 t := fun t ht => slot_congr n0 (fun k hk hd => by
    by_cases e : k = i
    · subst e; rw [ho] at hd; exact absurd hd ht
    · simp [e])
  have own : ∀ t, o.dst = some t → slotS l sts (fun j => decide (j = i) || s j) n0 t = (sts (i + 1)).s t := fun t ht => by
    have e1 : slotS l sts (fun j => decide (j = i) || s j) (i + 1) t = (sts (i + 1)).s t := by
      rw [show slotS l sts (fun j => decide (j = i) || s j) (i + 1) t = if (decide (i = i) || s i) = true ∧ (l[i]?).bind (·.dst) = some t then (sts (i + 1)).s t else slotS l sts (fun j => decide (j = i) || s j) i t from rfl]
      rw [if_pos ⟨by simp, by rw [ho]; exact ht⟩]
    rw [← e1]
    refine slot_more (fun m hm hmn hsm hd => ?_) hi
    have hmi : ¬ m = i := by omega
    have hsm' : s m = true := by simpa [hmi] using hsm
    have hml : m < l.length := Nat.lt_of_lt_of_le hmn h.le
    have hom := List.getElem?_eq_getElem hml
    rw [hom] at hd
    have := conf2 m _ hmn hom (by omega) (by
      cases hc : o.apart l.toArray l[m] with
      | false => rfl
      | true => exact absurd hd ((Oper.apart_spec hc).2.1 t ht))
    rw [this] at hsm'; cases hsm'
  have oth : ∀ (r : AV), (sts (i + 1)).s = ((sts i).put o.dst r).s → ∀ t, slotS l sts (fun j => decide (j = i) || s j) n0 t = ((St.mk (slotS l sts s n0) (ovr ov (heapS sts s n0)) 0).put o.dst r).s t := fun r hr t => by
    by_cases hd : o.dst = some t
    · rw [own t hd, hr, hd]; simp only [St.put, upd_same]
    · rw [others t hd]
      cases hdd : o.dst with
      | none => rfl
      | some d => simp only [St.put]; rw [upd_other]; intro e; subst e; exact hd hdd
  have wnt : ∀ b, wantB (sts i) l.toArray o = some b → wantB ⟨slotS l sts s n0, ovr ov (heapS sts s n0), 0⟩ l.toArray o = some b := fun b hw => by
    unfold wantB at hw ⊢
    cases hg : o.guard with
    | none => simpa [hg] using hw
    | some p =>
      obtain ⟨j, want⟩ := p
      simp only [hg] at hw ⊢
      have e : yl ⟨slotS l sts s n0, ovr ov (heapS sts s n0), 0⟩ l.toArray j = yl (sts i) l.toArray j := by
        unfold yl
        cases hj : l.toArray[j]? with
        | none => rfl
        | some oj =>
          simp only
          cases hdj : oj.dst with
          | none => rfl
          | some d =>
            simp only
            rw [read d (by unfold Oper.looksAt; simp [hg, hj, hdj])]
      have e2 : yu ⟨slotS l sts s n0, ovr ov (heapS sts s n0), 0⟩ l.toArray j = yu (sts i) l.toArray j := by
        unfold yu
        cases hj : l.toArray[j]? with
        | none => rfl
        | some oj =>
          simp only
          cases hdj : oj.dst with
          | none => rfl
          | some d =>
            simp only
            rw [read d (by unfold Oper.looksAt; simp [hg, hj, hdj])]
      rw [e, e2]; exact hw
  have agr : Agree C o (sts i) ⟨slotS l sts s n0, ovr ov (heapS sts s n0), 0⟩ := ⟨fun x hx => by
    cases x with
    | tmp t => exact read t (by unfold Oper.looksAt; simp only [List.mem_append, List.mem_filterMap]; exact .inl ⟨.tmp t, hx, rfl⟩)
    | _ => rfl, fun k B hB => by
      cases ho : ov k with
      | some B' =>
        obtain ⟨⟨B0, q1, q2, q3⟩, _⟩ := hov k B' ho
        rw [h.h_mono hB (Nat.le_of_lt hi) (Nat.le_refl _)] at q1
        cases q1
        exact .inr ⟨B', ovr_some ho, q3⟩
      | none =>
        show ovr ov (heapS sts s n0) k = none ∨ ∃ B', ovr ov (heapS sts s n0) k = some B' ∧ More B B'
        rw [ovr_none ho]
        rcases h.heap_agree hi hs (by rw [hB]; rfl) n0 (Nat.le_refl _) with e | e
        · exact .inr ⟨B, e.trans hB, .inl rfl⟩
        · exact .inl e⟩
  have hsame : ∀ k, ((sts (i + 1)).nx = (sts i).nx) → ovr ov (heapS sts (fun j => decide (j = i) || s j) n0) k = ovr ov (heapS sts s n0) k := fun k hx => by
    unfold ovr
    rw [heap_congr (s := fun j => decide (j = i) || s j) (s' := s) (k := k) n0 (fun j hj hlt hk => by
      by_cases e : j = i
      · subst e; omega
      · simp [e])]
  generalize hst : sts (i + 1) = st' at h1
  cases h1 with
  | val r hw hv =>
    rw [want_sim S (wnt _ hw), if_pos rfl]
    refine hv w0 a w _ agr S K Q (fun v w' h' => hK _ _ (h'.cast (oth r (by rw [hst])) (fun k => ?_)))
    exact (hsame k (by rw [hst]; cases o.dst <;> rfl)).trans (by cases o.dst <;> rfl)
  | skip hw hd =>
    rw [want_sim S (wnt _ hw)]
    simp only [Bool.false_eq_true, if_false]
    refine hK _ _ ((put_undef S hd).cast (oth (.f (.v undef)) (by rw [hst])) (fun k => ?_))
    exact (hsame k (by rw [hst]; cases o.dst <;> rfl)).trans (by cases o.dst <;> rfl)
  | stay k B hw hv hk hm =>
    rw [want_sim S (wnt _ hw), if_pos rfl]
    have hk2 := h.h_mono hk (Nat.le_of_lt hi) (Nat.le_refl _)
    have hh : ovr ov (heapS sts s n0) k = some B := by
      rw [ovr_none]
      · rw [h.heap_here n0 (Nat.le_refl _) (fun j hj hx => h.made hm.1 hedge hj hx)]
        exact hk2
      · cases ho : ov k with
        | none => rfl
        | some B' =>
          obtain ⟨⟨B0, q1, q2, q3⟩, _⟩ := hov k B' ho
          rw [hk2] at q1; cases q1
          rw [hm.2] at q2; cases q2
    exact hv.2 w0 a w _ agr hh S K Q (fun v w' h' => hK _ _ (h'.cast (fun t => others t (by rw [hv.1]; intro e; cases e)) (fun k => hsame k (by rw [hst]))))
  | all r B hw _ hv hn =>
    have hnew : (sts i).nx < (sts (i + 1)).nx := by rw [hst]; simp
    rw [want_sim S (wnt _ hw), if_pos rfl]
    have hno : ∀ k, ov k = none := fun k => by
      cases ho : ov k with
      | none => rfl
      | some B' => have := (hov k B' ho).2 i hi hnew; rw [hs] at this; cases this
    have hov2 : ∀ hh : Nat → Option Blk, ovr ov hh = hh := fun hh => funext fun k => ovr_none (hno k)
    rw [hov2] at agr S
    simp only [hov2] at hK oth
    refine hv w0 a w _ agr (h.heap_free hi hs hnew hn n0 (Nat.le_refl _)) S K Q (fun v w' h' => hK _ _ (h'.cast (oth r (by rw [hst])) (fun k => ?_)))
    show heapS sts (fun j => decide (j = i) || s j) n0 k = upd (heapS sts s n0) (sts i).nx (some B) k
    by_cases ek : k = (sts i).nx
    · subst ek
      rw [upd_same, h.heap_at hi (s := fun j => decide (j = i) || s j) (by simp) hnew n0 hi (Nat.le_refl _), hst]
      exact upd_same _ _ _
    · rw [upd_other _ _ ek]
      refine heap_congr n0 (fun j hj hlt hk => ?_)
      by_cases e : j = i
      · subst e; exact absurd hk ek
      · simp [e]
  | eff _ h0 => cases h0
theorem draw_sound {id : Nat} {Q : St → Prop} {st : St} {Qc : Exit → Act → World → Prop} (hm : C.P.follows .mixedOrders = true) (hok : okReg l n0 = true) (hrun : Run C N l.toArray true (fun st' => Run C N l.toArray false Q (l.drop n0) st') (l.take n0) st)
    {w0 : World} {a : Act} {w : World} (S : SimE C w0 N st a w) (hq : ∀ st' a' w', Q st' → SimE C w0 N st' a' w' → Qc .normal a' w') : (Code.region id l.toArray true).wpIn (Fence.wr C.ro) 7 C.P Qc a w := by
  simp only [okReg, Bool.and_eq_true] at hok
  obtain ⟨⟨⟨⟨hup, hb⟩, hap⟩, htl⟩, hle⟩ := hok
  have hle' : n0 ≤ l.length := Nat.le_of_ble_eq_true hle
  obtain ⟨s1, e1, r1, q1⟩ := hrun.states
  obtain ⟨s2, e2, r2, q2⟩ := q1.states
  have htk : (l.take n0).length = n0 := by simp; omega
  rw [htk] at e2
  obtain ⟨sts, hsts⟩ : ∃ sts : Nat → St, sts = fun i => if i ≤ n0 then s1 i else s2 (i - n0) := ⟨_, rfl⟩
  have a1 : ∀ i, i ≤ n0 → sts i = s1 i := fun i hi => by rw [hsts]; simp [hi]
  have a2 : ∀ i, n0 ≤ i → sts i = s2 (i - n0) := fun i hi => by
    by_cases e : i = n0
    · subst e; rw [a1 i (Nat.le_refl _), ← e2]; simp
    · rw [hsts]; simp [show ¬ i ≤ n0 by omega]
  have one : ∀ i o, i < n0 → l[i]? = some o → One C N l.toArray true o (sts i) (sts (i + 1)) := fun i o hi ho => by
      rw [a1 i (by omega), a1 (i + 1) hi]
      exact r1 i o (by rw [List.getElem?_take, if_pos hi]; exact ho)
  have ch : Chain C N l n0 sts := ⟨fun i o hi ho => .inl (one i o hi ho), hle'⟩
  have post : ∀ i o, n0 ≤ i → l[i]? = some o → One C N l.toArray false o (sts i) (sts (i + 1)) := fun i o hi ho => by
      rw [a2 i hi, a2 (i + 1) (by omega), show i + 1 - n0 = (i - n0) + 1 by omega]
      exact r2 (i - n0) o (by rw [List.getElem?_drop, show n0 + (i - n0) = i by omega]; exact ho)
  have hend : Q (sts l.length) := by
    rw [a2 _ hle']; simpa using q2
  have tail : ∀ {s : Nat → Bool}, (∀ i o, l[i]? = some o → s i = true → ∀ e ∈ o.after, Region.binds .any e = true → s e.on = true) → ∀ (i : Nat) (o : Oper), n0 ≤ i → l[i]? = some o → (∀ e ∈ o.after, Region.binds .any e = true → s e.on = true) → ∀ j, j < i → s j = true := fun hdc i o hi ho he j hj => by
    have h1 := List.all_eq_true.1 htl i (List.mem_range.2 (List.getElem?_eq_some_iff.1 ho).1)
    have : Nat.blt i n0 = false := by cases e : Nat.blt i n0; rfl; have := Nat.le_of_ble_eq_true e; omega
    rw [this, Bool.false_or] at h1
    exact bits_done hb hup hdc i o ho he j hj (List.all_eq_true.1 h1 j (List.mem_range.2 hj))
  refine wpIn_region_inv hm hup (fun s a w => (∀ i o, l[i]? = some o → s i = true → ∀ e ∈ o.after, Region.binds .any e = true → s e.on = true) ∧
    (((∀ i, n0 ≤ i → s i = false) ∧ SimE C w0 N ⟨slotS l sts s n0, heapS sts s n0, 0⟩ a w) ∨ ∃ m, n0 ≤ m ∧ (∀ i, i < l.length → (s i = true ↔ i < m)) ∧ m ≤ l.length ∧ SimE C w0 N (sts m) a w)) ?_ ?_ ?_
  · refine ⟨fun i o _ h => (by cases h), .inl ⟨fun _ _ => rfl, ?_⟩⟩
    have S' : SimE C w0 N st a w.drew := let ⟨J, S⟩ := S; ⟨J, S.toExt (Ext.drew w)⟩
    rw [← e1, ← a1 0 (Nat.zero_le _)] at S'
    refine S'.cast (fun t => ?_) (fun k => ?_)
    · exact slot_more (l := l) (i := 0) (fun m _ _ h => by cases h) (Nat.zero_le _)
    · have : ∀ m, heapS sts (fun _ => false) m k = (sts 0).h k := fun m => by
        induction m with
        | zero => rfl
        | succ m ih => unfold heapS; rw [if_neg (by simp)]; exact ih
      exact this n0
  · rintro s a w i o ho hs hedge ⟨hdc, hInv⟩
    have ho' : l[i]? = some o := by simpa using ho
    have hil : i < l.length := (List.getElem?_eq_some_iff.1 ho').1
    have hdc' : ∀ j oj, l[j]? = some oj → (decide (j = i) || s j) = true → ∀ e ∈ oj.after, Region.binds .any e = true → (decide (e.on = i) || s e.on) = true := fun j oj hj hsj e he hbe => by
      by_cases ej : j = i
      · subst ej; rw [ho'] at hj; cases hj; rw [hedge e he hbe]; simp
      · rw [hdc j oj hj (by simpa [ej] using hsj) e he hbe]; simp
    unfold wpOpIn
    simp only [ho]
    have late : ∀ m, n0 ≤ m → (∀ i, i < l.length → (s i = true ↔ i < m)) → m ≤ l.length → SimE C w0 N (sts m) a w → n0 ≤ i →
        if Region.wanted o (yielded l.toArray a.tmps) then o.wpIn (Fence.wr C.ro) 7 C.P a w (fun a' w' => (∀ j oj, l[j]? = some oj → (decide (j = i) || s j) = true → ∀ e ∈ oj.after, Region.binds .any e = true → (decide (e.on = i) || s e.on) = true) ∧
          (((∀ j, n0 ≤ j → (decide (j = i) || s j) = false) ∧ SimE C w0 N ⟨slotS l sts (fun j => decide (j = i) || s j) n0, heapS sts (fun j => decide (j = i) || s j) n0, 0⟩ a' w') ∨ ∃ m, n0 ≤ m ∧ (∀ j, j < l.length → ((decide (j = i) || s j) = true ↔ j < m)) ∧ m ≤ l.length ∧ SimE C w0 N (sts m) a' w')) Qc
        else (fun a' w' => (∀ j oj, l[j]? = some oj → (decide (j = i) || s j) = true → ∀ e ∈ oj.after, Region.binds .any e = true → (decide (e.on = i) || s e.on) = true) ∧
          (((∀ j, n0 ≤ j → (decide (j = i) || s j) = false) ∧ SimE C w0 N ⟨slotS l sts (fun j => decide (j = i) || s j) n0, heapS sts (fun j => decide (j = i) || s j) n0, 0⟩ a' w') ∨ ∃ m, n0 ≤ m ∧ (∀ j, j < l.length → ((decide (j = i) || s j) = true ↔ j < m)) ∧ m ≤ l.length ∧ SimE C w0 N (sts m) a' w')) (a.put o.dst undef) w := by
      intro m hm hall hml S hin
      have him : i = m := by
        have h1 : ¬ i < m := fun h => by rw [(hall i hil).2 h] at hs; cases hs
        refine Classical.byContradiction fun hc => ?_
        have h2 := tail hdc i o hin ho' hedge m (by omega)
        have := (hall m (by omega)).1 h2
        omega
      subst him
      refine (post i o hin ho').wp S (fun a' w' S' => ⟨hdc', .inr ⟨i + 1, by omega, fun j hj => ?_, hil, S'⟩⟩)
      have := hall j hj
      by_cases ej : j = i
      · subst ej; simp
      · simp only [show decide (j = i) = false by simp [ej], Bool.false_or, this]; omega
    refine both_in (fun _ _ => trivial) ?_
    rcases hInv with ⟨hin, S⟩ | ⟨m, hm, hall, hml, S⟩
    · by_cases hi : i < n0
      · exact ch.step hb hup (Nat.le_refl _) hap (ov := fun _ => none) (fun _ _ h => by cases h) hdc hi ho' hs hedge S (one i o hi ho') (fun a' w' S' => ⟨hdc', .inl ⟨fun j hj => by rw [hin j hj]; simp; omega, S'⟩⟩)
      · have hall : ∀ j, j < n0 → s j = true := fun j hj => tail hdc i o (by omega) ho' hedge j (by omega)
        refine late n0 (Nat.le_refl _) (fun j hj => ⟨fun h => ?_, fun h => hall j h⟩) hle' ?_ (by omega)
        · refine Classical.byContradiction fun hc => ?_
          rw [hin j (by omega)] at h; cases h
        · refine S.cast (fun t => ?_) (fun k => ?_)
          · exact (ch.slot_eq (i := n0) (fun m hm _ => hall m hm) n0 (Nat.le_refl _) (Nat.le_refl _)).symm
          · exact (ch.heap_full hall n0 (Nat.le_refl _)).symm
    · refine late m hm hall hml S ?_
      refine Classical.byContradiction fun hc => ?_
      rw [(hall i hil).2 (by omega)] at hs; cases hs
  · rintro s a w hall ⟨_, hInv⟩
    rcases hInv with ⟨hin, S⟩ | ⟨m, hm, hiff, hml, S⟩
    · have hn : n0 = l.length := by
        refine Classical.byContradiction fun hc => ?_
        have := hall n0 (by omega)
        rw [hin n0 (Nat.le_refl _)] at this; cases this
      refine hq (sts l.length) a w hend ?_
      rw [← hn]
      refine S.cast (fun t => ?_) (fun k => ?_)
      · exact (ch.slot_eq (i := n0) (fun m hm _ => hall m (by omega)) n0 (Nat.le_refl _) (Nat.le_refl _)).symm
      · exact (ch.heap_full (fun i hi => hall i (by omega)) n0 (Nat.le_refl _)).symm
    · have hmm : m = l.length := by
        refine Classical.byContradiction fun hc => ?_
        have := (hiff m (by omega)).1 (hall m (by omega))
        omega
      exact hq _ a w (hmm ▸ hend) (hmm ▸ S)
def StoOp (C : Ctx) (N : Nat) (o : Oper) (st : St) (k : Nat) (B : Blk) : Prop := o.dst = none ∧ o.guard = none ∧ (∃ B0, st.h k = some B0 ∧ saidB B0 = false ∧ More B0 B) ∧
  ∀ w0 a w st', Agree C o st st' → st'.h k = st.h k → SimE C w0 N st' a w → ∀ K Q, (∀ v w', SimE C w0 N { st' with h := upd st'.h k (some B) } (a.put o.dst v) w' → K (a.put o.dst v) w') → o.wpIn (Fence.wr C.ro) 7 C.P a w K Q
end
end Go.Ab
namespace Go.Ab
open Go Go.RowKit Go.Shelf Go.Proofs
section
variable {C : Ctx} {N : Nat}
def Gh (C : Ctx) (N : Nat) (st st' : St) : Prop := ∀ w0 a w, SimE C w0 N st a w → SimE C w0 N st' a w
theorem gh_refl (st : St) : Gh C N st st := fun _ _ _ h => h
theorem gh_trans {a b c : St} (h : Gh C N a b) (k : Gh C N b c) : Gh C N a c := fun w0 x w S => k w0 x w (h w0 x w S)
theorem gh_le {st st' : St} (L : Le st st') : Gh C N st st' := fun _ _ _ ⟨J, S⟩ => ⟨J, S.weaken L⟩
theorem gh_own {st : St} (t e sz : Nat) (ht : st.s t = .f (.v (.slice none 0 0))) (hn : st.h st.nx = none) : Gh C N st { s := upd st.s t (.ow st.nx), h := upd st.h st.nx (some (.row e sz 0 [])), nx := st.nx + 1 } :=
  fun _ _ _ ⟨_, S⟩ => ⟨_, S.own t e sz ht hn⟩
theorem gh_row {st : St} (i : Nat) {e sz n : Nat} {cs : List FV} (hi : st.h i = some (.row e sz n cs)) : Gh C N st (st.frz i (some (.sl n cs)) cs) := fun _ _ _ ⟨J, S⟩ => ⟨J, S.frz_row hi⟩
theorem gh_box {st : St} (i : Nat) {l : List AV} {cs : List FV} (hi : st.h i = some (.box l)) (hc : l = cs.map AV.f) : Gh C N st (st.frz i none cs) := fun _ _ _ ⟨J, S⟩ => ⟨J, S.frz_box hi hc⟩
def cW (C : Ctx) (N : Nat) (c : Code) (Q : Exit → St → Prop) (st : St) : Prop :=
  ∀ w0 a w Qc, SimE C w0 N st a w → (∀ e st' a' w', Q e st' → SimE C w0 N st' a' w' → Qc e a' w') → c.wpIn (Fence.wr C.ro) 7 C.P Qc a w
def AThen (K : St → Prop) (Q : Exit → St → Prop) : Exit → St → Prop
  | .normal, st => K st
  | e, st => Q e st
def ABlock (id : Nat) (Q : Exit → St → Prop) : Exit → St → Prop
  | .exit j, st => bif Nat.beq j id then Q .normal st else Q (.exit j) st
  | e, st => Q e st
variable {Q : Exit → St → Prop} {st : St}
theorem c_gh {c : Code} {st' : St} (g : Gh C N st st') (h : cW C N c Q st') : cW C N c Q st := fun w0 a w Qc S hq => h w0 a w Qc (g w0 a w S) hq
theorem c_mono {c : Code} {Q' : Exit → St → Prop} (h : cW C N c Q st) (k : ∀ e st', Q e st' → Q' e st') : cW C N c Q' st := fun w0 a w Qc S hq => h w0 a w Qc S (fun e st' a' w' q => hq e st' a' w' (k e st' q))
theorem c_skip (h : Q .normal st) : cW C N .skip Q st := fun _ a w _ S hq => wpIn_skip (hq _ _ a w h S)
theorem c_exit {id : Nat} (h : Q (.exit id) st) : cW C N (.exit id) Q st := fun _ a w _ S hq => wpIn_exit (hq _ _ a w h S)
theorem c_ret (h : Q .ret st) : cW C N .ret Q st := fun _ a w _ S hq => wpIn_ret (hq _ _ a w h S)
theorem c_seq {x y : Code} (h : cW C N x (AThen (cW C N y Q) Q) st) : cW C N (.seq x y) Q st := fun w0 a w Qc S hq =>
  wpIn_seq (h w0 a w _ S (fun e st' a' w' q S' => by
    cases e with
    | normal => exact q w0 a' w' Qc S' hq
    | _ => exact hq _ _ _ _ q S'))
theorem c_cond {c : Operand} {x y : Code} {t : Bool} (hc : st.ev C c = .f (.v (.bool t))) (h1 : t = true → cW C N x Q st) (h2 : t = false → cW C N y Q st) : cW C N (.cond c x y) Q st := fun w0 a w Qc S hq => by
  have e : a.eval c = .bool t := let ⟨J, S'⟩ := S; evV S' hc
  refine wpIn_cond e ?_
  cases t with
  | true => exact h1 rfl w0 a w Qc S hq
  | false => exact h2 rfl w0 a w Qc S hq
theorem c_block {id : Nat} {c : Code} (h : cW C N c (ABlock id Q) st) : cW C N (.block id c) Q st := fun w0 a w Qc S hq =>
  wpIn_block (h w0 a w _ S (fun e st' a' w' q S' => by
    cases e with
    | exit j =>
      show if j = id then _ else _
      by_cases e : j = id
      · subst e
        rw [if_pos rfl]
        have : Q .normal st' := by simpa [ABlock] using q
        exact hq _ _ _ _ this S'
      · rw [if_neg e]
        have : Q (.exit j) st' := by simpa [ABlock, killA_ne e] using q
        exact hq _ _ _ _ this S'
    | _ => exact hq _ _ _ _ q S'))
theorem c_region {id : Nat} {l : List Oper} (h : Run C N l.toArray false (Q .normal) l st) : cW C N (.region id l.toArray false) Q st := fun _w0 _a _w _Qc S hq =>
  wpIn_region_lit (Run.wpList h S (fun _st' _a' _w' q S' => hq _ _ _ _ q S'))
theorem c_draw {id : Nat} {l : List Oper} (n0 : Nat) (hm : C.P.follows .mixedOrders = true) (hok : okReg l n0 = true) (h : Run C N l.toArray true (fun st' => Run C N l.toArray false (Q .normal) (l.drop n0) st') (l.take n0) st) : cW C N (.region id l.toArray true) Q st := fun _w0 _a _w _Qc S hq =>
  draw_sound hm hok h S (fun _st' _a' _w' q S' => hq _ _ _ _ q S')
theorem exists_least {p : Nat → Prop} (h : ∃ n, p n) : ∃ n, p n ∧ ∀ m, p m → n ≤ m := by
  obtain ⟨n, hn⟩ := h
  induction n using Nat.strongRecOn with
  | _ n ih =>
    by_cases hm : ∃ m, m < n ∧ p m
    · obtain ⟨m, h1, h2⟩ := hm; exact ih m h1 h2
    · exact ⟨n, hn, fun m hpm => Nat.le_of_not_lt fun h => hm ⟨m, h, hpm⟩⟩
open Classical in
noncomputable def least (p : Nat → Prop) : Nat := if h : ∃ n, p n then (exists_least h).choose else 0
theorem least_spec {p : Nat → Prop} (h : ∃ n, p n) : p (least p) ∧ ∀ m, p m → least p ≤ m := by
  unfold least
  rw [dif_pos h]
  exact (exists_least h).choose_spec
theorem c_loop {σ : Type} {c : Code} (F : σ → St) (Pr : σ → Prop) (μ : σ → Nat) (s0 : σ) (h0 : Pr s0) (hg : Gh C N st (F s0))
    (hstep : ∀ s, Pr s → cW C N c (AThen (fun st' => ∃ s', Pr s' ∧ μ s' < μ s ∧ Gh C N st' (F s')) Q) (F s)) : cW C N (.loop c) Q st := fun w0 a w Qc S hq => by
  refine wpIn_loop (fun a w => ∃ s, Pr s ∧ SimE C w0 N (F s) a w) (fun a w => least fun n => ∃ s, Pr s ∧ SimE C w0 N (F s) a w ∧ μ s = n) ⟨s0, h0, hg w0 a w S⟩ ?_
  rintro a w ⟨s, hs, Ss⟩
  obtain ⟨⟨s1, h1, S1, e1⟩, hmin⟩ := least_spec (p := fun n => ∃ s, Pr s ∧ SimE C w0 N (F s) a w ∧ μ s = n) ⟨_, s, hs, Ss, rfl⟩
  refine hstep s1 h1 w0 a w _ S1 (fun e st' a' w' q S' => ?_)
  cases e with
  | normal =>
    obtain ⟨s2, h2, hlt, g⟩ := q
    have S2 := g w0 a' w' S'
    refine ⟨⟨s2, h2, S2⟩, ?_⟩
    have := (least_spec (p := fun n => ∃ s, Pr s ∧ SimE C w0 N (F s) a' w' ∧ μ s = n) ⟨_, s2, h2, S2, rfl⟩).2 _ ⟨s2, h2, S2, rfl⟩
    omega
  | _ => exact hq _ _ _ _ q S'
def rvS (tmps : Array Value) : ResultVar → Sem Value
  | .tmp t => pure (tmps.getD t undef)
  | .cell a t => do loadVar t (← asAddr (tmps.getD a undef))
def ResOk (C : Ctx) (N : Nat) (st : St) (rv : ResultVar) (x : FV) : Prop := ∀ w0 a w, SimE C w0 N st a w → ∃ v, (rvS a.tmps rv).run C.P w = .ok v w ∧ RepF w C.M0 v x
theorem toM0 {w : World} {st : St} {J : Nat → Value} {v : Value} {x : FV} (h : RepF w (Mb C st.h J) v x) : RepF w C.M0 v x := h.ext (Ext.refl _) (fun _ _ h => .inl h)
theorem res_tmp {t : Nat} {x : FV} (h : st.s t = .f x) : ResOk C N st (.tmp t) x := fun w0 a w ⟨J, S⟩ => by
  have := S.slot t
  rw [h] at this
  exact ⟨_, rfl, toM0 this⟩
theorem cell_run {P : Program} {T b off : Nat} {w : World} {tmps : Array Value} {t : Nat} {v : Value} (hv : tmps.getD t undef = .pointer (some ⟨b, off, none⟩)) (h : (Instr.loadAt T (.pointer (some ⟨b, off, none⟩))).run P w = .ok v w) : (rvS tmps (.cell t T)).run P w = .ok v w := by
  simp only [Instr.loadAt, Instr.sureAddr, Sem.run_bind, Sem.run_pure, Result.andThen_ok] at h
  simp only [rvS, hv, asAddr, Sem.run_bind, Sem.run_pure, Result.andThen_ok, h]
theorem res_bxs {t T n i off : Nat} {cs : List AV} {sub : List FV} (ty : Ty C.P) (hT : (ty.ty T).agg = some n) (hx : st.s t = .bx i off) (hi : st.h i = some (.box cs)) (hc : (cs.drop off).take n = sub.map AV.f) (hn : sub.length = n) : ResOk C N st (.cell t T) (.agg sub) := fun w0 a w ⟨J, S⟩ => by
  have e1 := S.slot t
  rw [hx] at e1
  obtain ⟨hl, b, hb, hv⟩ := e1
  obtain ⟨b', T', us, q1, q2, q3, q4, q5, q6⟩ := S.blk i _ hi
  rw [q1] at hb; simp [bk] at hb; subst hb
  have hlen : ((us.toList.drop off).take n).length = n := by
    have := congrArg List.length hc
    simp [List.length_take, List.length_drop] at this ⊢
    omega
  have R : RepL w (Mb C st.h J) ((us.toList.drop off).take n) sub := repA_f (fun k u x h1 h2 => by
    rw [← hc, List.getElem?_take] at h2
    rw [List.getElem?_take] at h1
    split at h1
    · rename_i hk
      rw [if_pos hk, List.getElem?_drop] at h2
      rw [List.getElem?_drop] at h1
      exact q6 _ u x (by simpa using h1) h2
    · cases h1) (hlen.trans hn.symm)
  refine ⟨.agg ((us.toList.drop off).take n).toArray, cell_run hv (run_load_agg ((ty.ok T).agg n hT) ((us.toList.drop off).take n) hlen (fun k hk => ?_)), toM0 (RepF.agg _ _ R.1 (fun u hu => q5 u (List.mem_of_mem_drop (List.mem_of_mem_take hu))) R.2)⟩
  rw [hlen] at hk
  rw [List.getElem?_take, if_pos hk, List.getElem?_drop]
  simp [World.cell?, q3]
theorem res_bx {t T i off : Nat} {cs : List AV} {x : FV} (ty : Ty C.P) (hT : (ty.ty T).scal = true) (hx : st.s t = .bx i off) (hi : st.h i = some (.box cs)) (hc : cs[off]? = some (.f x)) : ResOk C N st (.cell t T) x := fun w0 a w ⟨J, S⟩ => by
  have e1 := S.slot t
  rw [hx] at e1
  obtain ⟨hl, b, hb, hv⟩ := e1
  obtain ⟨b', T', us, q1, q2, q3, q4, q5, q6⟩ := S.blk i _ hi
  rw [q1] at hb; simp [bk] at hb; subst hb
  have hlt : off < us.size := by rw [q4]; exact (List.getElem?_eq_some_iff.1 hc).1
  have hcell : w.cell? ⟨b', off, none⟩ = some us[off] := by simp [World.cell?, q3, hlt]
  exact ⟨us[off], cell_run hv (run_load_scal ((ty.ok T).scal hT) hcell), toM0 (q6 off _ _ (by simp [hlt]) hc)⟩
theorem results_eq (fn : Func) (tmps : Array Value) : results fn tmps = (fn.results.mapM (rvS tmps) >>= fun vs => pure (if h : vs.size = 1 then vs[0] else .tuple vs)) := by
  unfold results
  congr
def RetOk (C : Ctx) (N : Nat) (fn : Func) (r : FV) (st : St) : Prop := ∀ w0 a w, SimE C w0 N st a w → ∃ v, (results fn a.tmps).run C.P w = .ok v w ∧ RepF w C.M0 v r
theorem ret1 {fn : Func} {r1 : ResultVar} {x : FV} (h : fn.results = #[r1]) (h1 : ResOk C N st r1 x) : RetOk C N fn x st := fun w0 a w S => by
  obtain ⟨v, q1, q2⟩ := h1 w0 a w S
  refine ⟨v, ?_, q2⟩
  rw [results_eq, h]; simp [q1]
theorem ret2 {fn : Func} {r1 r2 : ResultVar} {x y : FV} (h : fn.results = #[r1, r2]) (h1 : ResOk C N st r1 x) (h2 : ResOk C N st r2 y) : RetOk C N fn (.tup [x, y]) st := fun w0 a w S => by
  obtain ⟨v, q1, q2⟩ := h1 w0 a w S
  obtain ⟨u, p1, p2⟩ := h2 w0 a w S
  refine ⟨.tuple #[v, u], ?_, ?_⟩
  · rw [results_eq, h]; simp [q1, p1]
  · have R := RepL.cons q2 (RepL.cons p2 (RepL.nil _ _))
    exact RepF.tup _ _ R.1 R.2
def Leaves (C : Ctx) (N : Nat) (fn : Func) (r : FV) : Exit → St → Prop
  | .normal, st => RetOk C N fn r st
  | .ret, st => RetOk C N fn r st
  | _, _ => False
def st0 (args : List FV) : St := ⟨fun t => match args[t]? with | some x => .f x | none => .bot, fun _ => none, 0⟩
theorem summ_of {P : Program} {G : Nat → Option FV} {f : Nat} {fn : Func} {c : Code} {args : List FV} {r : FV} (hf : P.funcs[f]? = some fn) (hb : fn.body = some c) (hname : (fn.name == "runtime.NumGoroutine") = false) (n : Nat) (hn : fn.ntmps = n) (hl : args.length ≤ n)
    (h : ∀ M0 : Nat → Prop, cW ⟨P, G, M0, fun _ => False, none, fun _ => none⟩ n c (Leaves ⟨P, G, M0, fun _ => False, none, fun _ => none⟩ n fn r) (st0 args)) : Summ P G f args r := by
  refine ⟨enters_of hf hname hb, fun w M us hM hG R => ?_⟩
  refine calls_of_wp_marks hf hb (wpIn_wide.1 (h M w _ w _ ⟨fun _ => undef, Grew.refl _ _, ?_, ⟨trivial, fun _ => rfl⟩, fun t => ?_, fun i B hB => (by cases hB), fun i j b hi => (by cases hi), fun b hb => ⟨hM b hb, id⟩, fun g cs hg => (hG g cs hg).ext (Ext.refl _) (fun b _ (h : Mb ⟨P, G, M, fun _ => False, none, fun _ => none⟩ (fun _ => none) (fun _ => undef) b) => h.elim id (fun ⟨_, hi, _⟩ => by cases hi)), fun _ _ _ h => (by cases h)⟩ ?_))
  · have := R.1; simp [hn]; omega
  · have hMM : ∀ b, b < w.heap.size → Mb ⟨P, G, M, fun _ => False, none, fun _ => none⟩ (fun _ => none) (fun _ => undef) b → M b := fun b _ h => h.elim id (fun ⟨_, hi, _⟩ => by cases hi)
    show RepA _ w _ _ ((us.toArray ++ Array.replicate (fn.ntmps - us.toArray.size) undef).getD t undef) (match args[t]? with | some x => .f x | none => .bot)
    cases ha : args[t]? with
    | none => trivial
    | some x =>
      obtain ⟨u, hu, hr⟩ := R.get ha
      have hlt : t < us.length := (List.getElem?_eq_some_iff.1 hu).1
      have : (us.toArray ++ Array.replicate (fn.ntmps - us.toArray.size) undef).getD t undef = u := by
        rw [Array.getD_eq_getD_getElem?, Array.getElem?_append_left (by simpa using hlt)]
        simp [hu]
      rw [this]
      exact hr.ext (Ext.refl _) hMM
  · intro e st' a' w' q S'
    have fin : RetOk ⟨P, G, M, fun _ => False, none, fun _ => none⟩ n fn r st' → ∀ W', KeepsP Obj.stays w.heap.size w' W' → ∃ v, (results fn a'.tmps).run P W' = .ok v W' ∧ ∃ v', Ending.returned v = .returned v' ∧ RepF W' M v' r ∧ Ext w W' := fun q W' hk => by
      obtain ⟨J, S2⟩ := S'
      have S3 := S2.keeps0 hk (Nat.le_refl _) (ds := []) ⟨trivial, fun _ => rfl⟩
      obtain ⟨v, h1, h2⟩ := q w { a' with defers := [] } W' ⟨J, S3⟩
      exact ⟨v, h1, v, rfl, h2, S3.ext.toExt⟩
    have hm : Marks w.heap.size w' a'.defers := let ⟨_, S2⟩ := S'; S2.defs.1
    cases e with
    | normal => exact bodyPostM_marksP (s := Obj.stays) (fun _ => rfl) _ hm (fin q)
    | ret => exact bodyPostM_marksP (s := Obj.stays) (fun _ => rfl) _ hm (fin q)
    | _ => exact q.elim
theorem r_val {ops : Array Oper} {pr : Bool} {K : St → Prop} {o : Oper} {rest : List Oper} {r : AV} (hw : wantB st ops o = some true) (hv : ValOp C N o st r) (h : Run C N ops pr K rest (st.put o.dst r)) : Run C N ops pr K (o :: rest) st := ⟨_, .val r hw hv, h⟩
theorem r_all {ops : Array Oper} {pr : Bool} {K : St → Prop} {o : Oper} {rest : List Oper} {r : AV} {B : Blk} (hw : wantB st ops o = some true) (hl : light o = false) (hn : st.h st.nx = none) (hv : AllOp C N o st r B) (h : Run C N ops pr K rest { s := (st.put o.dst r).s, h := upd st.h st.nx (some B), nx := st.nx + 1 }) : Run C N ops pr K (o :: rest) st := ⟨_, .all r B hw hl hv hn, h⟩
theorem r_eff {ops : Array Oper} {K : St → Prop} {o : Oper} {rest : List Oper} {st1 : St} (hw : wantB st ops o = some true) (hv : EffOp C N o st st1) (h : Run C N ops false K rest st1) : Run C N ops false K (o :: rest) st := ⟨_, .eff st1 rfl hw hv, h⟩
theorem r_skip {ops : Array Oper} {pr : Bool} {K : St → Prop} {o : Oper} {rest : List Oper} (hw : wantB st ops o = some false) (hd : dstB N o.dst = true) (h : Run C N ops pr K rest (st.put o.dst (.f (.v undef)))) : Run C N ops pr K (o :: rest) st := ⟨_, .skip hw hd, h⟩
theorem ab_hit {i : Nat} (h : Q .normal st) : ABlock i Q (.exit i) st := by simpa [ABlock] using h
theorem ab_miss {i j : Nat} (hn : Nat.beq j i = false) (h : Q (.exit j) st) : ABlock i Q (.exit j) st := by simpa [ABlock, hn] using h
theorem lv_ret {fn : Func} {r : FV} (h : RetOk C N fn r st) : Leaves C N fn r .ret st := h
theorem c_if {c : Operand} {x y : Code} {t : Bool} (hc : st.ev C c = .f (.v (.bool t))) (h : cW C N (bif t then x else y) Q st) : cW C N (.cond c x y) Q st :=
  c_cond hc (fun e => by subst e; exact h) (fun e => by subst e; exact h)
theorem b_add {P : Program} {T : TypeId} {x y : Operand} {a b : Int} (h : -9223372036854775808 ≤ a + b ∧ a + b ≤ 9223372036854775807) (w : World) : (do eqGuard .add T x y (.int .i64 a) (.int .i64 b); binOp .add T (.int .i64 a) (.int .i64 b) : Sem Value).run P w = .ok (.int .i64 (a + b)) w := by
  simp [eqGuard, binOp, Op.intArith, IntWalk.i64_in _ h]
theorem b_sub {P : Program} {T : TypeId} {x y : Operand} {a b : Int} (h : -9223372036854775808 ≤ a - b ∧ a - b ≤ 9223372036854775807) (w : World) : (do eqGuard .sub T x y (.int .i64 a) (.int .i64 b); binOp .sub T (.int .i64 a) (.int .i64 b) : Sem Value).run P w = .ok (.int .i64 (a - b)) w := by
  simp [eqGuard, binOp, Op.intArith, IntWalk.i64_in _ h]
theorem b_mul {P : Program} {T : TypeId} {x y : Operand} {a b : Int} (h : -9223372036854775808 ≤ a * b ∧ a * b ≤ 9223372036854775807) (w : World) : (do eqGuard .mul T x y (.int .i64 a) (.int .i64 b); binOp .mul T (.int .i64 a) (.int .i64 b) : Sem Value).run P w = .ok (.int .i64 (a * b)) w := by
  simp [eqGuard, binOp, Op.intArith, IntWalk.i64_in _ h]
theorem b_quo {P : Program} {T : TypeId} {x y : Operand} {a b : Int} (h : 0 ≤ a ∧ a ≤ 9223372036854775807 ∧ 1 ≤ b) (w : World) : (do eqGuard .quo T x y (.int .i64 a) (.int .i64 b); binOp .quo T (.int .i64 a) (.int .i64 b) : Sem Value).run P w = .ok (.int .i64 (a / b)) w := by
  have hb : ¬ b = 0 := by omega
  simp [eqGuard, binOp, Op.intDiv, hb, IntWalk.i64_quo _ _ h]
theorem b_rem {P : Program} {T : TypeId} {x y : Operand} {a b : Int} (h : 0 ≤ a ∧ 1 ≤ b) (w : World) : (do eqGuard .rem T x y (.int .i64 a) (.int .i64 b); binOp .rem T (.int .i64 a) (.int .i64 b) : Sem Value).run P w = .ok (.int .i64 (a % b)) w := by
  have hb : ¬ b = 0 := by omega
  simp [eqGuard, binOp, Op.intDiv, hb, IntWalk.rem_in _ _ h.1]
theorem b_lss {P : Program} {T : TypeId} {x y : Operand} {k : IntKind} {a b : Int} (w : World) : (do eqGuard .lss T x y (.int k a) (.int k b); binOp .lss T (.int k a) (.int k b) : Sem Value).run P w = .ok (.bool (decide (a < b))) w := by simp [eqGuard, binOp, Op.intCmp]
theorem b_leq {P : Program} {T : TypeId} {x y : Operand} {k : IntKind} {a b : Int} (w : World) : (do eqGuard .leq T x y (.int k a) (.int k b); binOp .leq T (.int k a) (.int k b) : Sem Value).run P w = .ok (.bool (decide (a ≤ b))) w := by simp [eqGuard, binOp, Op.intCmp]
theorem b_gtr {P : Program} {T : TypeId} {x y : Operand} {k : IntKind} {a b : Int} (w : World) : (do eqGuard .gtr T x y (.int k a) (.int k b); binOp .gtr T (.int k a) (.int k b) : Sem Value).run P w = .ok (.bool (decide (b < a))) w := by simp [eqGuard, binOp, Op.intCmp]
theorem b_geq {P : Program} {T : TypeId} {x y : Operand} {k : IntKind} {a b : Int} (w : World) : (do eqGuard .geq T x y (.int k a) (.int k b); binOp .geq T (.int k a) (.int k b) : Sem Value).run P w = .ok (.bool (decide (b ≤ a))) w := by simp [eqGuard, binOp, Op.intCmp]
theorem b_eql {P : Program} {T : TypeId} {x y : Operand} {k : IntKind} {a b : Int} (w : World) : (do eqGuard .eql T x y (.int k a) (.int k b); binOp .eql T (.int k a) (.int k b) : Sem Value).run P w = .ok (.bool (decide (a = b))) w := by
  simp [eqGuard, binOp, Op.intCmp]
  rfl
theorem b_neq {P : Program} {T : TypeId} {x y : Operand} {k : IntKind} {a b : Int} (w : World) : (do eqGuard .neq T x y (.int k a) (.int k b); binOp .neq T (.int k a) (.int k b) : Sem Value).run P w = .ok (.bool (!decide (a = b))) w := by
  simp [eqGuard, binOp, Op.intCmp]
  rfl
theorem u_not {P : Program} {b : Bool} (w : World) : (Op.unary .not (.bool b)).run P w = .ok (.bool (!b)) w := rfl
theorem u_neg {P : Program} {a : Int} (h : -9223372036854775807 ≤ a ∧ a ≤ 9223372036854775807) (w : World) : (Op.unary .neg (.int .i64 a)).run P w = .ok (.int .i64 (-a)) w := by
  simp [Op.unary, Op.intArith, IntWalk.i64_in _ (show -9223372036854775808 ≤ -a ∧ -a ≤ 9223372036854775807 by omega)]
theorem want_eq {ops : Array Oper} {o : Oper} {j : Nat} {want bb : Bool} (hg : o.guard = some (j, want)) (hy : yl st ops j = some bb) (hb : bb = want) : wantB st ops o = some true := by
  unfold wantB
  simp [hg, hy, hb]
theorem v_pickT {o : Oper} {c x y : Operand} {t : Bool} (ho : o.op = .pick c x y) (hd : dstB N o.dst = true) (hc : st.ev C c = .f (.v (.bool t))) (ht : t = true) : ValOp C N o st (st.ev C x) := by
  subst ht; exact v_pick ho hd hc
theorem v_pickF {o : Oper} {c x y : Operand} {t : Bool} (ho : o.op = .pick c x y) (hd : dstB N o.dst = true) (hc : st.ev C c = .f (.v (.bool t))) (ht : t = false) : ValOp C N o st (st.ev C y) := by
  subst ht; exact v_pick ho hd hc
theorem c_condT {c : Operand} {x y : Code} {t : Bool} (hc : st.ev C c = .f (.v (.bool t))) (ht : t = true) (h : cW C N x Q st) : cW C N (.cond c x y) Q st := by
  subst ht; exact c_if hc h
theorem c_condF {c : Operand} {x y : Code} {t : Bool} (hc : st.ev C c = .f (.v (.bool t))) (ht : t = false) (h : cW C N y Q st) : cW C N (.cond c x y) Q st := by
  subst ht; exact c_if hc h
end
end Go.Ab
namespace Go.Proofs.YtnmaabejdmaahaaGreatDoor
open Go Go.Ab Go.Proofs
def td2 : TyD := { scal := true, zero := some [.int .i64 0] }
theorem tdok2 : TyOk Tryz.prog 2 td2 := ⟨(fun _ => by kernel_rfl), (fun n h => by cases h), (fun f o h => by simp [td2] at h), (fun x h => by cases h), (fun z h => by cases h; kernel_rfl), (fun z h u hu => by cases h; simp at hu; rcases hu with rfl <;> rfl), (fun x h => by cases h), (by intro h; cases h)⟩
def td3 : TyD := { scal := true, zero := some [.int .i64 0] }
theorem tdok3 : TyOk Tryz.prog 3 td3 := ⟨(fun _ => by kernel_rfl), (fun n h => by cases h), (fun f o h => by simp [td3] at h), (fun x h => by cases h), (fun z h => by cases h; kernel_rfl), (fun z h u hu => by cases h; simp at hu; rcases hu with rfl <;> rfl), (fun x h => by cases h), (by intro h; cases h)⟩
def td4 : TyD := { scal := true, zero := some [.bool false] }
theorem tdok4 : TyOk Tryz.prog 4 td4 := ⟨(fun _ => by kernel_rfl), (fun n h => by cases h), (fun f o h => by simp [td4] at h), (fun x h => by cases h), (fun z h => by cases h; kernel_rfl), (fun z h u hu => by cases h; simp at hu; rcases hu with rfl <;> rfl), (fun x h => by cases h), (by intro h; cases h)⟩
def td5 : TyD := { scal := true, zero := some [.int .u8 0] }
theorem tdok5 : TyOk Tryz.prog 5 td5 := ⟨(fun _ => by kernel_rfl), (fun n h => by cases h), (fun f o h => by simp [td5] at h), (fun x h => by cases h), (fun z h => by cases h; kernel_rfl), (fun z h u hu => by cases h; simp at hu; rcases hu with rfl <;> rfl), (fun x h => by cases h), (by intro h; cases h)⟩
def td9 : TyD := { scal := true, str := true, zero := some [.string ByteArray.empty] }
theorem tdok9 : TyOk Tryz.prog 9 td9 := ⟨(fun _ => by kernel_rfl), (fun n h => by cases h), (fun f o h => by simp [td9] at h), (fun x h => by cases h), (fun z h => by cases h; kernel_rfl), (fun z h u hu => by cases h; simp at hu; rcases hu with rfl <;> rfl), (fun x h => by cases h), (fun _ => by kernel_rfl)⟩
def td21 : TyD := { scal := true, zero := some [.int .i32 0] }
theorem tdok21 : TyOk Tryz.prog 21 td21 := ⟨(fun _ => by kernel_rfl), (fun n h => by cases h), (fun f o h => by simp [td21] at h), (fun x h => by cases h), (fun z h => by cases h; kernel_rfl), (fun z h u hu => by cases h; simp at hu; rcases hu with rfl <;> rfl), (fun x h => by cases h), (by intro h; cases h)⟩
def td23 : TyD := { agg := some 2, fld := [0, 1], pl := some [(0, 1), (1, 1)], zero := some [.int .i64 0, .int .i64 0] }
theorem tdok23 : TyOk Tryz.prog 23 td23 := ⟨(by intro h; cases h), (fun n h => by cases h; kernel_rfl), (fun f o h => by
    match f, h with
    | 0, h => exact (show fldO Tryz.prog 23 0 = some 0 by kernel_rfl).trans h
    | 1, h => exact (show fldO Tryz.prog 23 1 = some 1 by kernel_rfl).trans h
    | f + 2, h => simp [td23] at h), (fun x h => by cases h), (fun z h => by cases h; kernel_rfl), (fun z h u hu => by cases h; simp at hu; rcases hu with rfl | rfl <;> rfl), (fun x h => by cases h; kernel_rfl), (by intro h; cases h)⟩
def td25 : TyD := { agg := some 6, fld := [0, 2, 4], pl := some [(0, 2), (2, 2), (4, 2)], zero := some [.int .i64 0, .int .i64 0, .int .i64 0, .int .i64 0, .int .i64 0, .int .i64 0] }
theorem tdok25 : TyOk Tryz.prog 25 td25 := ⟨(by intro h; cases h), (fun n h => by cases h; kernel_rfl), (fun f o h => by
    match f, h with
    | 0, h => exact (show fldO Tryz.prog 25 0 = some 0 by kernel_rfl).trans h
    | 1, h => exact (show fldO Tryz.prog 25 1 = some 2 by kernel_rfl).trans h
    | 2, h => exact (show fldO Tryz.prog 25 2 = some 4 by kernel_rfl).trans h
    | f + 3, h => simp [td25] at h), (fun x h => by cases h), (fun z h => by cases h; kernel_rfl), (fun z h u hu => by cases h; simp at hu; rcases hu with rfl | rfl | rfl | rfl | rfl | rfl <;> rfl), (fun x h => by cases h; kernel_rfl), (by intro h; cases h)⟩
def td26 : TyD := { scal := true, sl := some (87, 5, 40), zero := some [.slice none 0 0] }
theorem tdok26 : TyOk Tryz.prog 26 td26 := ⟨(fun _ => by kernel_rfl), (fun n h => by cases h), (fun f o h => by simp [td26] at h), (fun x h => by cases h; kernel_rfl), (fun z h => by cases h; kernel_rfl), (fun z h u hu => by cases h; simp at hu; rcases hu with rfl <;> rfl), (fun x h => by cases h), (by intro h; cases h)⟩
def td28 : TyD := { agg := some 7, fld := [0, 6], pl := some [(0, 6), (6, 1)], zero := some [.int .i64 0, .int .i64 0, .int .i64 0, .int .i64 0, .int .i64 0, .int .i64 0, .slice none 0 0] }
theorem tdok28 : TyOk Tryz.prog 28 td28 := ⟨(by intro h; cases h), (fun n h => by cases h; kernel_rfl), (fun f o h => by
    match f, h with
    | 0, h => exact (show fldO Tryz.prog 28 0 = some 0 by kernel_rfl).trans h
    | 1, h => exact (show fldO Tryz.prog 28 1 = some 6 by kernel_rfl).trans h
    | f + 2, h => simp [td28] at h), (fun x h => by cases h), (fun z h => by cases h; kernel_rfl), (fun z h u hu => by cases h; simp at hu; rcases hu with rfl | rfl | rfl | rfl | rfl | rfl | rfl <;> rfl), (fun x h => by cases h; kernel_rfl), (by intro h; cases h)⟩
def td31 : TyD := { scal := true, sl := some (85, 3, 24), zero := some [.slice none 0 0] }
theorem tdok31 : TyOk Tryz.prog 31 td31 := ⟨(fun _ => by kernel_rfl), (fun n h => by cases h), (fun f o h => by simp [td31] at h), (fun x h => by cases h; kernel_rfl), (fun z h => by cases h; kernel_rfl), (fun z h u hu => by cases h; simp at hu; rcases hu with rfl <;> rfl), (fun x h => by cases h), (by intro h; cases h)⟩
def td32 : TyD := { scal := true, zero := some [.int .i64 0] }
theorem tdok32 : TyOk Tryz.prog 32 td32 := ⟨(fun _ => by kernel_rfl), (fun n h => by cases h), (fun f o h => by simp [td32] at h), (fun x h => by cases h), (fun z h => by cases h; kernel_rfl), (fun z h u hu => by cases h; simp at hu; rcases hu with rfl <;> rfl), (fun x h => by cases h), (by intro h; cases h)⟩
def td42 : TyD := { scal := true, sl := some (103, 3, 24), zero := some [.slice none 0 0] }
theorem tdok42 : TyOk Tryz.prog 42 td42 := ⟨(fun _ => by kernel_rfl), (fun n h => by cases h), (fun f o h => by simp [td42] at h), (fun x h => by cases h; kernel_rfl), (fun z h => by cases h; kernel_rfl), (fun z h u hu => by cases h; simp at hu; rcases hu with rfl <;> rfl), (fun x h => by cases h), (by intro h; cases h)⟩
def td43 : TyD := { scal := true, sl := some (3, 1, 8), zero := some [.slice none 0 0] }
theorem tdok43 : TyOk Tryz.prog 43 td43 := ⟨(fun _ => by kernel_rfl), (fun n h => by cases h), (fun f o h => by simp [td43] at h), (fun x h => by cases h; kernel_rfl), (fun z h => by cases h; kernel_rfl), (fun z h u hu => by cases h; simp at hu; rcases hu with rfl <;> rfl), (fun x h => by cases h), (by intro h; cases h)⟩
def td45 : TyD := { agg := some 3, fld := [0, 1, 2], pl := some [(0, 1), (1, 1), (2, 1)], zero := some [.slice none 0 0, .int .i64 0, .slice none 0 0] }
theorem tdok45 : TyOk Tryz.prog 45 td45 := ⟨(by intro h; cases h), (fun n h => by cases h; kernel_rfl), (fun f o h => by
    match f, h with
    | 0, h => exact (show fldO Tryz.prog 45 0 = some 0 by kernel_rfl).trans h
    | 1, h => exact (show fldO Tryz.prog 45 1 = some 1 by kernel_rfl).trans h
    | 2, h => exact (show fldO Tryz.prog 45 2 = some 2 by kernel_rfl).trans h
    | f + 3, h => simp [td45] at h), (fun x h => by cases h), (fun z h => by cases h; kernel_rfl), (fun z h u hu => by cases h; simp at hu; rcases hu with rfl | rfl | rfl <;> rfl), (fun x h => by cases h; kernel_rfl), (by intro h; cases h)⟩
def td56 : TyD := { scal := true, sl := some (43, 1, 24), zero := some [.slice none 0 0] }
theorem tdok56 : TyOk Tryz.prog 56 td56 := ⟨(fun _ => by kernel_rfl), (fun n h => by cases h), (fun f o h => by simp [td56] at h), (fun x h => by cases h; kernel_rfl), (fun z h => by cases h; kernel_rfl), (fun z h u hu => by cases h; simp at hu; rcases hu with rfl <;> rfl), (fun x h => by cases h), (by intro h; cases h)⟩
def td61 : TyD := { agg := some 2, fld := [0, 1], pl := some [(0, 1), (1, 1)], zero := some [.int .i64 0, .int .i64 0] }
theorem tdok61 : TyOk Tryz.prog 61 td61 := ⟨(by intro h; cases h), (fun n h => by cases h; kernel_rfl), (fun f o h => by
    match f, h with
    | 0, h => exact (show fldO Tryz.prog 61 0 = some 0 by kernel_rfl).trans h
    | 1, h => exact (show fldO Tryz.prog 61 1 = some 1 by kernel_rfl).trans h
    | f + 2, h => simp [td61] at h), (fun x h => by cases h), (fun z h => by cases h; kernel_rfl), (fun z h u hu => by cases h; simp at hu; rcases hu with rfl | rfl <;> rfl), (fun x h => by cases h; kernel_rfl), (by intro h; cases h)⟩
def td62 : TyD := { scal := true, sl := some (61, 2, 16), zero := some [.slice none 0 0] }
theorem tdok62 : TyOk Tryz.prog 62 td62 := ⟨(fun _ => by kernel_rfl), (fun n h => by cases h), (fun f o h => by simp [td62] at h), (fun x h => by cases h; kernel_rfl), (fun z h => by cases h; kernel_rfl), (fun z h u hu => by cases h; simp at hu; rcases hu with rfl <;> rfl), (fun x h => by cases h), (by intro h; cases h)⟩
def td67 : TyD := { scal := true, sl := some (23, 2, 16), zero := some [.slice none 0 0] }
theorem tdok67 : TyOk Tryz.prog 67 td67 := ⟨(fun _ => by kernel_rfl), (fun n h => by cases h), (fun f o h => by simp [td67] at h), (fun x h => by cases h; kernel_rfl), (fun z h => by cases h; kernel_rfl), (fun z h u hu => by cases h; simp at hu; rcases hu with rfl <;> rfl), (fun x h => by cases h), (by intro h; cases h)⟩
def td71 : TyD := { agg := some 4, fld := [0, 3], pl := some [(0, 3), (3, 1)], zero := some [.slice none 0 0, .int .i64 0, .slice none 0 0, .slice none 0 0] }
theorem tdok71 : TyOk Tryz.prog 71 td71 := ⟨(by intro h; cases h), (fun n h => by cases h; kernel_rfl), (fun f o h => by
    match f, h with
    | 0, h => exact (show fldO Tryz.prog 71 0 = some 0 by kernel_rfl).trans h
    | 1, h => exact (show fldO Tryz.prog 71 1 = some 3 by kernel_rfl).trans h
    | f + 2, h => simp [td71] at h), (fun x h => by cases h), (fun z h => by cases h; kernel_rfl), (fun z h u hu => by cases h; simp at hu; rcases hu with rfl | rfl | rfl | rfl <;> rfl), (fun x h => by cases h; kernel_rfl), (by intro h; cases h)⟩
def td74 : TyD := { agg := some 7, fld := [0, 1, 3, 5], pl := some [(0, 1), (1, 2), (3, 2), (5, 2)], zero := some [.string ByteArray.empty, .int .i64 0, .int .i64 0, .int .i64 0, .int .i64 0, .int .i64 0, .int .i64 0] }
theorem tdok74 : TyOk Tryz.prog 74 td74 := ⟨(by intro h; cases h), (fun n h => by cases h; kernel_rfl), (fun f o h => by
    match f, h with
    | 0, h => exact (show fldO Tryz.prog 74 0 = some 0 by kernel_rfl).trans h
    | 1, h => exact (show fldO Tryz.prog 74 1 = some 1 by kernel_rfl).trans h
    | 2, h => exact (show fldO Tryz.prog 74 2 = some 3 by kernel_rfl).trans h
    | 3, h => exact (show fldO Tryz.prog 74 3 = some 5 by kernel_rfl).trans h
    | f + 4, h => simp [td74] at h), (fun x h => by cases h), (fun z h => by cases h; kernel_rfl), (fun z h u hu => by cases h; simp at hu; rcases hu with rfl | rfl | rfl | rfl | rfl | rfl | rfl <;> rfl), (fun x h => by cases h; kernel_rfl), (by intro h; cases h)⟩
def td75 : TyD := { scal := true, sl := some (74, 7, 64), zero := some [.slice none 0 0] }
theorem tdok75 : TyOk Tryz.prog 75 td75 := ⟨(fun _ => by kernel_rfl), (fun n h => by cases h), (fun f o h => by simp [td75] at h), (fun x h => by cases h; kernel_rfl), (fun z h => by cases h; kernel_rfl), (fun z h u hu => by cases h; simp at hu; rcases hu with rfl <;> rfl), (fun x h => by cases h), (by intro h; cases h)⟩
def td78 : TyD := { agg := some 3, fld := [0, 1, 2], pl := some [(0, 1), (1, 1), (2, 1)], zero := some [.slice none 0 0, .slice none 0 0, .int .i64 0] }
theorem tdok78 : TyOk Tryz.prog 78 td78 := ⟨(by intro h; cases h), (fun n h => by cases h; kernel_rfl), (fun f o h => by
    match f, h with
    | 0, h => exact (show fldO Tryz.prog 78 0 = some 0 by kernel_rfl).trans h
    | 1, h => exact (show fldO Tryz.prog 78 1 = some 1 by kernel_rfl).trans h
    | 2, h => exact (show fldO Tryz.prog 78 2 = some 2 by kernel_rfl).trans h
    | f + 3, h => simp [td78] at h), (fun x h => by cases h), (fun z h => by cases h; kernel_rfl), (fun z h u hu => by cases h; simp at hu; rcases hu with rfl | rfl | rfl <;> rfl), (fun x h => by cases h; kernel_rfl), (by intro h; cases h)⟩
def td85 : TyD := { agg := some 3, fld := [0, 1, 2], pl := some [(0, 1), (1, 1), (2, 1)], zero := some [.int .i64 0, .int .i64 0, .int .i64 0] }
theorem tdok85 : TyOk Tryz.prog 85 td85 := ⟨(by intro h; cases h), (fun n h => by cases h; kernel_rfl), (fun f o h => by
    match f, h with
    | 0, h => exact (show fldO Tryz.prog 85 0 = some 0 by kernel_rfl).trans h
    | 1, h => exact (show fldO Tryz.prog 85 1 = some 1 by kernel_rfl).trans h
    | 2, h => exact (show fldO Tryz.prog 85 2 = some 2 by kernel_rfl).trans h
    | f + 3, h => simp [td85] at h), (fun x h => by cases h), (fun z h => by cases h; kernel_rfl), (fun z h u hu => by cases h; simp at hu; rcases hu with rfl | rfl | rfl <;> rfl), (fun x h => by cases h; kernel_rfl), (by intro h; cases h)⟩
def td87 : TyD := { agg := some 5, fld := [0, 3], pl := some [(0, 3), (3, 2)], zero := some [.int .i64 0, .int .i64 0, .int .i64 0, .int .i64 0, .int .i64 0] }
theorem tdok87 : TyOk Tryz.prog 87 td87 := ⟨(by intro h; cases h), (fun n h => by cases h; kernel_rfl), (fun f o h => by
    match f, h with
    | 0, h => exact (show fldO Tryz.prog 87 0 = some 0 by kernel_rfl).trans h
    | 1, h => exact (show fldO Tryz.prog 87 1 = some 3 by kernel_rfl).trans h
    | f + 2, h => simp [td87] at h), (fun x h => by cases h), (fun z h => by cases h; kernel_rfl), (fun z h u hu => by cases h; simp at hu; rcases hu with rfl | rfl | rfl | rfl | rfl <;> rfl), (fun x h => by cases h; kernel_rfl), (by intro h; cases h)⟩
def td101 : TyD := { scal := true, sl := some (9, 1, 16), zero := some [.slice none 0 0] }
theorem tdok101 : TyOk Tryz.prog 101 td101 := ⟨(fun _ => by kernel_rfl), (fun n h => by cases h), (fun f o h => by simp [td101] at h), (fun x h => by cases h; kernel_rfl), (fun z h => by cases h; kernel_rfl), (fun z h u hu => by cases h; simp at hu; rcases hu with rfl <;> rfl), (fun x h => by cases h), (by intro h; cases h)⟩
def td103 : TyD := { agg := some 3, fld := [0, 1, 2], pl := some [(0, 1), (1, 1), (2, 1)], zero := some [.int .i64 0, .int .i64 0, .int .i64 0] }
theorem tdok103 : TyOk Tryz.prog 103 td103 := ⟨(by intro h; cases h), (fun n h => by cases h; kernel_rfl), (fun f o h => by
    match f, h with
    | 0, h => exact (show fldO Tryz.prog 103 0 = some 0 by kernel_rfl).trans h
    | 1, h => exact (show fldO Tryz.prog 103 1 = some 1 by kernel_rfl).trans h
    | 2, h => exact (show fldO Tryz.prog 103 2 = some 2 by kernel_rfl).trans h
    | f + 3, h => simp [td103] at h), (fun x h => by cases h), (fun z h => by cases h; kernel_rfl), (fun z h u hu => by cases h; simp at hu; rcases hu with rfl | rfl | rfl <;> rfl), (fun x h => by cases h; kernel_rfl), (by intro h; cases h)⟩
def td109 : TyD := { agg := some 3, zero := some [.int .i64 0, .int .i64 0, .int .i64 0] }
theorem tdok109 : TyOk Tryz.prog 109 td109 := ⟨(by intro h; cases h), (fun n h => by cases h; kernel_rfl), (fun f o h => by simp [td109] at h), (fun x h => by cases h), (fun z h => by cases h; kernel_rfl), (fun z h u hu => by cases h; simp at hu; rcases hu with rfl | rfl | rfl <;> rfl), (fun x h => by cases h), (by intro h; cases h)⟩
def td119 : TyD := { scal := true, zero := some [.map none] }
theorem tdok119 : TyOk Tryz.prog 119 td119 := ⟨(fun _ => by kernel_rfl), (fun n h => by cases h), (fun f o h => by simp [td119] at h), (fun x h => by cases h), (fun z h => by cases h; kernel_rfl), (fun z h u hu => by cases h; simp at hu; rcases hu with rfl <;> rfl), (fun x h => by cases h), (by intro h; cases h)⟩
def td133 : TyD := { scal := true, sl := some (32, 1, 8), zero := some [.slice none 0 0] }
theorem tdok133 : TyOk Tryz.prog 133 td133 := ⟨(fun _ => by kernel_rfl), (fun n h => by cases h), (fun f o h => by simp [td133] at h), (fun x h => by cases h; kernel_rfl), (fun z h => by cases h; kernel_rfl), (fun z h u hu => by cases h; simp at hu; rcases hu with rfl <;> rfl), (fun x h => by cases h), (by intro h; cases h)⟩
def td138 : TyD := { scal := true, zero := some [.int .u64 0] }
theorem tdok138 : TyOk Tryz.prog 138 td138 := ⟨(fun _ => by kernel_rfl), (fun n h => by cases h), (fun f o h => by simp [td138] at h), (fun x h => by cases h), (fun z h => by cases h; kernel_rfl), (fun z h u hu => by cases h; simp at hu; rcases hu with rfl <;> rfl), (fun x h => by cases h), (by intro h; cases h)⟩
def td141 : TyD := { scal := true, zero := some [.pointer none] }
theorem tdok141 : TyOk Tryz.prog 141 td141 := ⟨(fun _ => by kernel_rfl), (fun n h => by cases h), (fun f o h => by simp [td141] at h), (fun x h => by cases h), (fun z h => by cases h; kernel_rfl), (fun z h u hu => by cases h; simp at hu; rcases hu with rfl <;> rfl), (fun x h => by cases h), (by intro h; cases h)⟩
def td142 : TyD := { scal := true, sl := some (5, 1, 1), zero := some [.slice none 0 0] }
theorem tdok142 : TyOk Tryz.prog 142 td142 := ⟨(fun _ => by kernel_rfl), (fun n h => by cases h), (fun f o h => by simp [td142] at h), (fun x h => by cases h; kernel_rfl), (fun z h => by cases h; kernel_rfl), (fun z h u hu => by cases h; simp at hu; rcases hu with rfl <;> rfl), (fun x h => by cases h), (by intro h; cases h)⟩
def td144 : TyD := { agg := some 2, fld := [0, 1], pl := some [(0, 1), (1, 1)], zero := some [.pointer none, .slice none 0 0] }
theorem tdok144 : TyOk Tryz.prog 144 td144 := ⟨(by intro h; cases h), (fun n h => by cases h; kernel_rfl), (fun f o h => by
    match f, h with
    | 0, h => exact (show fldO Tryz.prog 144 0 = some 0 by kernel_rfl).trans h
    | 1, h => exact (show fldO Tryz.prog 144 1 = some 1 by kernel_rfl).trans h
    | f + 2, h => simp [td144] at h), (fun x h => by cases h), (fun z h => by cases h; kernel_rfl), (fun z h u hu => by cases h; simp at hu; rcases hu with rfl | rfl <;> rfl), (fun x h => by cases h; kernel_rfl), (by intro h; cases h)⟩
def td147 : TyD := { scal := true, zero := some [.nilIface] }
theorem tdok147 : TyOk Tryz.prog 147 td147 := ⟨(fun _ => by kernel_rfl), (fun n h => by cases h), (fun f o h => by simp [td147] at h), (fun x h => by cases h), (fun z h => by cases h; kernel_rfl), (fun z h u hu => by cases h; simp at hu; rcases hu with rfl <;> rfl), (fun x h => by cases h), (by intro h; cases h)⟩
def td162 : TyD := { agg := some 8, zero := some [.int .i64 0, .int .i64 0, .int .i64 0, .int .i64 0, .int .i64 0, .int .i64 0, .int .i64 0, .int .i64 0] }
theorem tdok162 : TyOk Tryz.prog 162 td162 := ⟨(by intro h; cases h), (fun n h => by cases h; kernel_rfl), (fun f o h => by simp [td162] at h), (fun x h => by cases h), (fun z h => by cases h; kernel_rfl), (fun z h u hu => by cases h; simp at hu; rcases hu with rfl | rfl | rfl | rfl | rfl | rfl | rfl | rfl <;> rfl), (fun x h => by cases h), (by intro h; cases h)⟩
def td165 : TyD := { scal := true, sl := some (170, 2, 48), zero := some [.slice none 0 0] }
theorem tdok165 : TyOk Tryz.prog 165 td165 := ⟨(fun _ => by kernel_rfl), (fun n h => by cases h), (fun f o h => by simp [td165] at h), (fun x h => by cases h; kernel_rfl), (fun z h => by cases h; kernel_rfl), (fun z h u hu => by cases h; simp at hu; rcases hu with rfl <;> rfl), (fun x h => by cases h), (by intro h; cases h)⟩
def td168 : TyD := { scal := true, sl := some (4, 1, 1), zero := some [.slice none 0 0] }
theorem tdok168 : TyOk Tryz.prog 168 td168 := ⟨(fun _ => by kernel_rfl), (fun n h => by cases h), (fun f o h => by simp [td168] at h), (fun x h => by cases h; kernel_rfl), (fun z h => by cases h; kernel_rfl), (fun z h u hu => by cases h; simp at hu; rcases hu with rfl <;> rfl), (fun x h => by cases h), (by intro h; cases h)⟩
def td170 : TyD := { agg := some 2, fld := [0, 1], pl := some [(0, 1), (1, 1)], zero := some [.slice none 0 0, .slice none 0 0] }
theorem tdok170 : TyOk Tryz.prog 170 td170 := ⟨(by intro h; cases h), (fun n h => by cases h; kernel_rfl), (fun f o h => by
    match f, h with
    | 0, h => exact (show fldO Tryz.prog 170 0 = some 0 by kernel_rfl).trans h
    | 1, h => exact (show fldO Tryz.prog 170 1 = some 1 by kernel_rfl).trans h
    | f + 2, h => simp [td170] at h), (fun x h => by cases h), (fun z h => by cases h; kernel_rfl), (fun z h u hu => by cases h; simp at hu; rcases hu with rfl | rfl <;> rfl), (fun x h => by cases h; kernel_rfl), (by intro h; cases h)⟩
def td176 : TyD := { scal := true, zero := some [.int .i64 0] }
theorem tdok176 : TyOk Tryz.prog 176 td176 := ⟨(fun _ => by kernel_rfl), (fun n h => by cases h), (fun f o h => by simp [td176] at h), (fun x h => by cases h), (fun z h => by cases h; kernel_rfl), (fun z h u hu => by cases h; simp at hu; rcases hu with rfl <;> rfl), (fun x h => by cases h), (by intro h; cases h)⟩
def td183 : TyD := { scal := true, zero := some [.int .u32 0] }
theorem tdok183 : TyOk Tryz.prog 183 td183 := ⟨(fun _ => by kernel_rfl), (fun n h => by cases h), (fun f o h => by simp [td183] at h), (fun x h => by cases h), (fun z h => by cases h; kernel_rfl), (fun z h u hu => by cases h; simp at hu; rcases hu with rfl <;> rfl), (fun x h => by cases h), (by intro h; cases h)⟩
def td185 : TyD := { scal := true, zero := some [.int .u64 0] }
theorem tdok185 : TyOk Tryz.prog 185 td185 := ⟨(fun _ => by kernel_rfl), (fun n h => by cases h), (fun f o h => by simp [td185] at h), (fun x h => by cases h), (fun z h => by cases h; kernel_rfl), (fun z h u hu => by cases h; simp at hu; rcases hu with rfl <;> rfl), (fun x h => by cases h), (by intro h; cases h)⟩
def td198 : TyD := { scal := true, zero := some [.int .u64 0] }
theorem tdok198 : TyOk Tryz.prog 198 td198 := ⟨(fun _ => by kernel_rfl), (fun n h => by cases h), (fun f o h => by simp [td198] at h), (fun x h => by cases h), (fun z h => by cases h; kernel_rfl), (fun z h u hu => by cases h; simp at hu; rcases hu with rfl <;> rfl), (fun x h => by cases h), (by intro h; cases h)⟩
def td205 : TyD := { zero := some [.pointer none] }
theorem tdok205 : TyOk Tryz.prog 205 td205 := ⟨(by intro h; cases h), (fun n h => by cases h), (fun f o h => by simp [td205] at h), (fun x h => by cases h), (fun z h => by cases h; kernel_rfl), (fun z h u hu => by cases h; simp at hu; rcases hu with rfl <;> rfl), (fun x h => by cases h), (by intro h; cases h)⟩
def td213 : TyD := { scal := true, zero := some [.int .i64 0] }
theorem tdok213 : TyOk Tryz.prog 213 td213 := ⟨(fun _ => by kernel_rfl), (fun n h => by cases h), (fun f o h => by simp [td213] at h), (fun x h => by cases h), (fun z h => by cases h; kernel_rfl), (fun z h u hu => by cases h; simp at hu; rcases hu with rfl <;> rfl), (fun x h => by cases h), (by intro h; cases h)⟩
def td216 : TyD := { scal := true, zero := some [.pointer none] }
theorem tdok216 : TyOk Tryz.prog 216 td216 := ⟨(fun _ => by kernel_rfl), (fun n h => by cases h), (fun f o h => by simp [td216] at h), (fun x h => by cases h), (fun z h => by cases h; kernel_rfl), (fun z h u hu => by cases h; simp at hu; rcases hu with rfl <;> rfl), (fun x h => by cases h), (by intro h; cases h)⟩
def td226 : TyD := { agg := some 24, zero := some [.int .u8 0, .int .u8 0, .int .u8 0, .int .u8 0, .int .u8 0, .int .u8 0, .int .u8 0, .int .u8 0, .int .u8 0, .int .u8 0, .int .u8 0, .int .u8 0, .int .u8 0, .int .u8 0, .int .u8 0, .int .u8 0, .int .u8 0, .int .u8 0, .int .u8 0, .int .u8 0, .int .u8 0, .int .u8 0, .int .u8 0, .int .u8 0] }
theorem tdok226 : TyOk Tryz.prog 226 td226 := ⟨(by intro h; cases h), (fun n h => by cases h; kernel_rfl), (fun f o h => by simp [td226] at h), (fun x h => by cases h), (fun z h => by cases h; kernel_rfl), (fun z h u hu => by cases h; simp at hu; rcases hu with rfl | rfl | rfl | rfl | rfl | rfl | rfl | rfl | rfl | rfl | rfl | rfl | rfl | rfl | rfl | rfl | rfl | rfl | rfl | rfl | rfl | rfl | rfl | rfl <;> rfl), (fun x h => by cases h), (by intro h; cases h)⟩
def td234 : TyD := { agg := some 3, fld := [0, 1, 2], pl := some [(0, 1), (1, 1), (2, 1)], zero := some [.string ByteArray.empty, .string ByteArray.empty, .nilIface] }
theorem tdok234 : TyOk Tryz.prog 234 td234 := ⟨(by intro h; cases h), (fun n h => by cases h; kernel_rfl), (fun f o h => by
    match f, h with
    | 0, h => exact (show fldO Tryz.prog 234 0 = some 0 by kernel_rfl).trans h
    | 1, h => exact (show fldO Tryz.prog 234 1 = some 1 by kernel_rfl).trans h
    | 2, h => exact (show fldO Tryz.prog 234 2 = some 2 by kernel_rfl).trans h
    | f + 3, h => simp [td234] at h), (fun x h => by cases h), (fun z h => by cases h; kernel_rfl), (fun z h u hu => by cases h; simp at hu; rcases hu with rfl | rfl | rfl <;> rfl), (fun x h => by cases h; kernel_rfl), (by intro h; cases h)⟩
def td238 : TyD := { agg := some 20, zero := some [.int .u64 0, .int .u64 0, .int .u64 0, .int .u64 0, .int .u64 0, .int .u64 0, .int .u64 0, .int .u64 0, .int .u64 0, .int .u64 0, .int .u64 0, .int .u64 0, .int .u64 0, .int .u64 0, .int .u64 0, .int .u64 0, .int .u64 0, .int .u64 0, .int .u64 0, .int .u64 0] }
theorem tdok238 : TyOk Tryz.prog 238 td238 := ⟨(by intro h; cases h), (fun n h => by cases h; kernel_rfl), (fun f o h => by simp [td238] at h), (fun x h => by cases h), (fun z h => by cases h; kernel_rfl), (fun z h u hu => by cases h; simp at hu; rcases hu with rfl | rfl | rfl | rfl | rfl | rfl | rfl | rfl | rfl | rfl | rfl | rfl | rfl | rfl | rfl | rfl | rfl | rfl | rfl | rfl <;> rfl), (fun x h => by cases h), (by intro h; cases h)⟩
def td239 : TyD := { agg := some 65 }
theorem tdok239 : TyOk Tryz.prog 239 td239 := ⟨(by intro h; cases h), (fun n h => by cases h; kernel_rfl), (fun f o h => by simp [td239] at h), (fun x h => by cases h), (fun z h => by cases h), (fun z h => by cases h), (fun x h => by cases h), (by intro h; cases h)⟩
def td240 : TyD := { agg := some 256 }
theorem tdok240 : TyOk Tryz.prog 240 td240 := ⟨(by intro h; cases h), (fun n h => by cases h; kernel_rfl), (fun f o h => by simp [td240] at h), (fun x h => by cases h), (fun z h => by cases h), (fun z h => by cases h), (fun x h => by cases h), (by intro h; cases h)⟩
def td242 : TyD := { agg := some 2, fld := [0, 1], pl := some [(0, 1), (1, 1)], zero := some [.int .u8 0, .int .u8 0] }
theorem tdok242 : TyOk Tryz.prog 242 td242 := ⟨(by intro h; cases h), (fun n h => by cases h; kernel_rfl), (fun f o h => by
    match f, h with
    | 0, h => exact (show fldO Tryz.prog 242 0 = some 0 by kernel_rfl).trans h
    | 1, h => exact (show fldO Tryz.prog 242 1 = some 1 by kernel_rfl).trans h
    | f + 2, h => simp [td242] at h), (fun x h => by cases h), (fun z h => by cases h; kernel_rfl), (fun z h u hu => by cases h; simp at hu; rcases hu with rfl | rfl <;> rfl), (fun x h => by cases h; kernel_rfl), (by intro h; cases h)⟩
def td243 : TyD := { agg := some 32, zero := some [.int .u8 0, .int .u8 0, .int .u8 0, .int .u8 0, .int .u8 0, .int .u8 0, .int .u8 0, .int .u8 0, .int .u8 0, .int .u8 0, .int .u8 0, .int .u8 0, .int .u8 0, .int .u8 0, .int .u8 0, .int .u8 0, .int .u8 0, .int .u8 0, .int .u8 0, .int .u8 0, .int .u8 0, .int .u8 0, .int .u8 0, .int .u8 0, .int .u8 0, .int .u8 0, .int .u8 0, .int .u8 0, .int .u8 0, .int .u8 0, .int .u8 0, .int .u8 0] }
theorem tdok243 : TyOk Tryz.prog 243 td243 := ⟨(by intro h; cases h), (fun n h => by cases h; kernel_rfl), (fun f o h => by simp [td243] at h), (fun x h => by cases h), (fun z h => by cases h; kernel_rfl), (fun z h u hu => by cases h; simp at hu; rcases hu with rfl | rfl | rfl | rfl | rfl | rfl | rfl | rfl | rfl | rfl | rfl | rfl | rfl | rfl | rfl | rfl | rfl | rfl | rfl | rfl | rfl | rfl | rfl | rfl | rfl | rfl | rfl | rfl | rfl | rfl | rfl | rfl <;> rfl), (fun x h => by cases h), (by intro h; cases h)⟩
def td247 : TyD := { scal := true, zero := some [.pointer none] }
theorem tdok247 : TyOk Tryz.prog 247 td247 := ⟨(fun _ => by kernel_rfl), (fun n h => by cases h), (fun f o h => by simp [td247] at h), (fun x h => by cases h), (fun z h => by cases h; kernel_rfl), (fun z h u hu => by cases h; simp at hu; rcases hu with rfl <;> rfl), (fun x h => by cases h), (by intro h; cases h)⟩
def td249 : TyD := { agg := some 1, fld := [0], pl := some [(0, 1)], zero := some [.string ByteArray.empty] }
theorem tdok249 : TyOk Tryz.prog 249 td249 := ⟨(by intro h; cases h), (fun n h => by cases h; kernel_rfl), (fun f o h => by
    match f, h with
    | 0, h => exact (show fldO Tryz.prog 249 0 = some 0 by kernel_rfl).trans h
    | f + 1, h => simp [td249] at h), (fun x h => by cases h), (fun z h => by cases h; kernel_rfl), (fun z h u hu => by cases h; simp at hu; rcases hu with rfl <;> rfl), (fun x h => by cases h; kernel_rfl), (by intro h; cases h)⟩
def td250 : TyD := { agg := some 32, zero := some [.int .u8 0, .int .u8 0, .int .u8 0, .int .u8 0, .int .u8 0, .int .u8 0, .int .u8 0, .int .u8 0, .int .u8 0, .int .u8 0, .int .u8 0, .int .u8 0, .int .u8 0, .int .u8 0, .int .u8 0, .int .u8 0, .int .u8 0, .int .u8 0, .int .u8 0, .int .u8 0, .int .u8 0, .int .u8 0, .int .u8 0, .int .u8 0, .int .u8 0, .int .u8 0, .int .u8 0, .int .u8 0, .int .u8 0, .int .u8 0, .int .u8 0, .int .u8 0] }
theorem tdok250 : TyOk Tryz.prog 250 td250 := ⟨(by intro h; cases h), (fun n h => by cases h; kernel_rfl), (fun f o h => by simp [td250] at h), (fun x h => by cases h), (fun z h => by cases h; kernel_rfl), (fun z h u hu => by cases h; simp at hu; rcases hu with rfl | rfl | rfl | rfl | rfl | rfl | rfl | rfl | rfl | rfl | rfl | rfl | rfl | rfl | rfl | rfl | rfl | rfl | rfl | rfl | rfl | rfl | rfl | rfl | rfl | rfl | rfl | rfl | rfl | rfl | rfl | rfl <;> rfl), (fun x h => by cases h), (by intro h; cases h)⟩
def td251 : TyD := { agg := some 64 }
theorem tdok251 : TyOk Tryz.prog 251 td251 := ⟨(by intro h; cases h), (fun n h => by cases h; kernel_rfl), (fun f o h => by simp [td251] at h), (fun x h => by cases h), (fun z h => by cases h), (fun z h => by cases h), (fun x h => by cases h), (by intro h; cases h)⟩
theorem tdok_none (T : Nat) : TyOk Tryz.prog T {} := ⟨(by intro h; cases h), (fun n h => by cases h), (fun f o h => by simp at h), (fun x h => by cases h), (fun z h => by cases h), (fun z h => by cases h), (fun x h => by cases h), (by intro h; cases h)⟩
def tyT : Nat → TyD
  | 2 => td2
  | 3 => td3
  | 4 => td4
  | 5 => td5
  | 9 => td9
  | 21 => td21
  | 23 => td23
  | 25 => td25
  | 26 => td26
  | 28 => td28
  | 31 => td31
  | 32 => td32
  | 42 => td42
  | 43 => td43
  | 45 => td45
  | 56 => td56
  | 61 => td61
  | 62 => td62
  | 67 => td67
  | 71 => td71
  | 74 => td74
  | 75 => td75
  | 78 => td78
  | 85 => td85
  | 87 => td87
  | 101 => td101
  | 103 => td103
  | 109 => td109
  | 119 => td119
  | 133 => td133
  | 138 => td138
  | 141 => td141
  | 142 => td142
  | 144 => td144
  | 147 => td147
  | 162 => td162
  | 165 => td165
  | 168 => td168
  | 170 => td170
  | 176 => td176
  | 183 => td183
  | 185 => td185
  | 198 => td198
  | 205 => td205
  | 213 => td213
  | 216 => td216
  | 226 => td226
  | 234 => td234
  | 238 => td238
  | 239 => td239
  | 240 => td240
  | 242 => td242
  | 243 => td243
  | 247 => td247
  | 249 => td249
  | 250 => td250
  | 251 => td251
  | _ => {}
theorem tyT_ok (T : Nat) : TyOk Tryz.prog T (tyT T) := by
  unfold tyT
  split
  · exact tdok2
  · exact tdok3
  · exact tdok4
  · exact tdok5
  · exact tdok9
  · exact tdok21
  · exact tdok23
  · exact tdok25
  · exact tdok26
  · exact tdok28
  · exact tdok31
  · exact tdok32
  · exact tdok42
  · exact tdok43
  · exact tdok45
  · exact tdok56
  · exact tdok61
  · exact tdok62
  · exact tdok67
  · exact tdok71
  · exact tdok74
  · exact tdok75
  · exact tdok78
  · exact tdok85
  · exact tdok87
  · exact tdok101
  · exact tdok103
  · exact tdok109
  · exact tdok119
  · exact tdok133
  · exact tdok138
  · exact tdok141
  · exact tdok142
  · exact tdok144
  · exact tdok147
  · exact tdok162
  · exact tdok165
  · exact tdok168
  · exact tdok170
  · exact tdok176
  · exact tdok183
  · exact tdok185
  · exact tdok198
  · exact tdok205
  · exact tdok213
  · exact tdok216
  · exact tdok226
  · exact tdok234
  · exact tdok238
  · exact tdok239
  · exact tdok240
  · exact tdok242
  · exact tdok243
  · exact tdok247
  · exact tdok249
  · exact tdok250
  · exact tdok251
  · exact tdok_none _
def TY : Ty Tryz.prog := ⟨tyT, tyT_ok⟩
end Go.Proofs.YtnmaabejdmaahaaGreatDoor
namespace Go.Ab
open Go Go.RowKit Go.Shelf Go.Proofs
structure R (C : Ctx) (N : Nat) (ops : Array Oper) (pr : Bool) (K : St → Prop) (l : List Oper) (st : St) : Prop where
  out : Run C N ops pr K l st
structure W (C : Ctx) (N : Nat) (c : Code) (Q : Exit → St → Prop) (st : St) : Prop where
  out : cW C N c Q st
structure AT (K : St → Prop) (Q : Exit → St → Prop) (e : Exit) (st : St) : Prop where
  out : AThen K Q e st
structure AB (id : Nat) (Q : Exit → St → Prop) (e : Exit) (st : St) : Prop where
  out : ABlock id Q e st
section
variable {C : Ctx} {N : Nat} {Q : Exit → St → Prop} {st : St} {ops : Array Oper} {pr : Bool} {K : St → Prop} {rest : List Oper}
def unL : List AV → Option (List FV)
  | [] => some []
  | .f x :: r => match unL r with
    | some l => some (x :: l)
    | none => none
  | _ :: _ => none
theorem unL_spec : ∀ {l : List AV} {m : List FV}, unL l = some m → l = m.map AV.f
  | [], m, h => by simp [unL] at h; subst h; rfl
  | .f x :: r, m, h => by
    cases hr : unL r with
    | none => simp [unL, hr] at h
    | some l => simp [unL, hr] at h; subst h; rw [unL_spec hr]; rfl
  | .bx _ _ :: _, _, h => by simp [unL] at h
  | .ow _ :: _, _, h => by simp [unL] at h
  | .sv _ _ _ :: _, _, h => by simp [unL] at h
  | .ag _ :: _, _, h => by simp [unL] at h
  | .tp _ :: _, _, h => by simp [unL] at h
  | .fb _ _ :: _, _, h => by simp [unL] at h
  | .bot :: _, _, h => by simp [unL] at h
theorem R.run {l : List Oper} (h : Run C N ops pr K l st) : R C N ops pr K l st := ⟨h⟩
theorem Run.mono {K' : St → Prop} (k : ∀ st, K st → K' st) : ∀ {l : List Oper} {st : St}, Run C N ops pr K l st → Run C N ops pr K' l st
  | [], st, h => k st h
  | _ :: _, _, ⟨st', h1, h2⟩ => ⟨st', h1, Run.mono k h2⟩
theorem cW.mono {c : Code} {Q' : Exit → St → Prop} (h : cW C N c Q st) (k : ∀ e st', Q e st' → Q' e st') : cW C N c Q' st := c_mono h k
theorem w_seq {x y : Code} (h : W C N x (AT (W C N y Q) Q) st) : W C N (.seq x y) Q st := ⟨c_seq (h.out.mono fun e st' q => by cases e <;> first | exact q.out | exact W.out q.out)⟩
theorem w_region {id : Nat} {l : List Oper} (h : R C N l.toArray false (Q .normal) l st) : W C N (.region id l.toArray false) Q st := ⟨c_region h.out⟩
theorem w_draw {id : Nat} {l : List Oper} (n0 : Nat) (hm : C.P.follows .mixedOrders = true) (hok : okReg l n0 = true) (h : R C N l.toArray true (R C N l.toArray false (Q .normal) (l.drop n0)) (l.take n0) st) : W C N (.region id l.toArray true) Q st := ⟨c_draw n0 hm hok (Run.mono (fun _ h => h.out) h.out)⟩
theorem w_block {id : Nat} {c : Code} (h : W C N c (AB id Q) st) : W C N (.block id c) Q st := ⟨c_block (h.out.mono fun _ _ q => q.out)⟩
theorem w_exit {id : Nat} (h : Q (.exit id) st) : W C N (.exit id) Q st := ⟨c_exit h⟩
theorem w_ret (h : Q .ret st) : W C N .ret Q st := ⟨c_ret h⟩
theorem w_skip (h : Q .normal st) : W C N .skip Q st := ⟨c_skip h⟩
theorem w_condT {c : Operand} {x y : Code} {t : Bool} (hc : st.ev C c = .f (.v (.bool t))) (ht : t = true) (h : W C N x Q st) : W C N (.cond c x y) Q st := ⟨c_condT hc ht h.out⟩
theorem w_condF {c : Operand} {x y : Code} {t : Bool} (hc : st.ev C c = .f (.v (.bool t))) (ht : t = false) (h : W C N y Q st) : W C N (.cond c x y) Q st := ⟨c_condF hc ht h.out⟩
theorem w_gh {c : Code} {st' : St} (g : Gh C N st st') (h : W C N c Q st') : W C N c Q st := ⟨c_gh g h.out⟩
theorem w_loop {σ : Type} {c : Code} (F : σ → St) (Pr : σ → Prop) (μ : σ → Nat) (s0 : σ) (h0 : Pr s0) (hg : Gh C N st (F s0))
    (hstep : ∀ s, Pr s → W C N c (AT (fun st' => ∃ s', Pr s' ∧ μ s' < μ s ∧ Gh C N st' (F s')) Q) (F s)) : W C N (.loop c) Q st := ⟨c_loop F Pr μ s0 h0 hg (fun s h => (hstep s h).out.mono fun _ _ q => q.out)⟩
theorem summW {P : Program} {G : Nat → Option FV} {f : Nat} {fn : Func} {c : Code} {args : List FV} {r : FV} (hf : P.funcs[f]? = some fn) (hb : fn.body = some c) (hname : (fn.name == "runtime.NumGoroutine") = false) (n : Nat) (hn : fn.ntmps = n) (hl : args.length ≤ n)
    (h : ∀ M0 : Nat → Prop, W ⟨P, G, M0, fun _ => False, none, fun _ => none⟩ n c (Leaves ⟨P, G, M0, fun _ => False, none, fun _ => none⟩ n fn r) (st0 args)) : Summ P G f args r := summ_of hf hb hname n hn hl (fun M0 => (h M0).out)
theorem t_norm {K : St → Prop} (h : K st) : AT K Q .normal st := ⟨h⟩
theorem t_exit {K : St → Prop} {i : Nat} (h : Q (.exit i) st) : AT K Q (.exit i) st := ⟨h⟩
theorem t_ret {K : St → Prop} (h : Q .ret st) : AT K Q .ret st := ⟨h⟩
theorem k_hit {i : Nat} (h : Q .normal st) : AB i Q (.exit i) st := ⟨ab_hit h⟩
theorem k_miss {i j : Nat} (hn : Nat.beq j i = false) (h : Q (.exit j) st) : AB i Q (.exit j) st := ⟨ab_miss hn h⟩
theorem k_norm {i : Nat} (h : Q .normal st) : AB i Q .normal st := ⟨h⟩
theorem k_ret {i : Nat} (h : Q .ret st) : AB i Q .ret st := ⟨h⟩
def St.frB (C : Ctx) (st : St) : Bool := match st.h st.nx with
  | none => match C.J0 st.nx with
    | none => true
    | some _ => false
  | some _ => false
theorem frB_spec (h : st.frB C = true) : st.h st.nx = none ∧ C.J0 st.nx = none := by
  unfold St.frB at h
  split at h
  · rename_i h1
    split at h
    · rename_i h2; exact ⟨h1, h2⟩
    · cases h
  · cases h
theorem s_nil (h : K st) : R C N ops pr K [] st := ⟨h⟩
theorem s_move_f {d : Option Tmp} {T0 : TypeId} {pos : String} {af : Array Edge} {x : Operand} {y : FV} (hd : dstB N d = true) (hx : st.ev C x = (.f y)) (h : R C N ops pr K rest (st.put d (.f y))) : R C N ops pr K (⟨d, .move x, T0, pos, af, none⟩ :: rest) st := ⟨r_val rfl (hx ▸ v_move rfl hd) h.out⟩
theorem g_move_f {d : Option Tmp} {T0 : TypeId} {pos : String} {af : Array Edge} {x : Operand} {y : FV} {j : Nat} {want bb : Bool} (hy : yl st ops j = some bb) (hb : bb = want) (hd : dstB N d = true) (hx : st.ev C x = (.f y)) (h : R C N ops pr K rest (st.put d (.f y))) : R C N ops pr K (⟨d, .move x, T0, pos, af, some (j, want)⟩ :: rest) st := ⟨r_val (want_eq rfl hy hb) (hx ▸ v_move rfl hd) h.out⟩
theorem s_assign_f {d : Option Tmp} {T0 : TypeId} {pos : String} {af : Array Edge} {x : Operand} {y : FV} (hd : dstB N d = true) (hx : st.ev C x = (.f y)) (h : R C N ops pr K rest (st.put d (.f y))) : R C N ops pr K (⟨d, .assign x, T0, pos, af, none⟩ :: rest) st := ⟨r_val rfl (hx ▸ v_assign rfl hd) h.out⟩
theorem s_move_o {d : Option Tmp} {T0 : TypeId} {pos : String} {af : Array Edge} {x : Operand} {i : Nat} (hd : dstB N d = true) (hx : st.ev C x = (.ow i)) (h : R C N ops pr K rest (st.put d (.ow i))) : R C N ops pr K (⟨d, .move x, T0, pos, af, none⟩ :: rest) st := ⟨r_val rfl (hx ▸ v_move rfl hd) h.out⟩
theorem s_assign_o {d : Option Tmp} {T0 : TypeId} {pos : String} {af : Array Edge} {x : Operand} {i : Nat} (hd : dstB N d = true) (hx : st.ev C x = (.ow i)) (h : R C N ops pr K rest (st.put d (.ow i))) : R C N ops pr K (⟨d, .assign x, T0, pos, af, none⟩ :: rest) st := ⟨r_val rfl (hx ▸ v_assign rfl hd) h.out⟩
theorem s_pickT {d : Option Tmp} {T0 : TypeId} {pos : String} {af : Array Edge} {c x y : Operand} {t : Bool} {z : FV} (hd : dstB N d = true) (hc : st.ev C c = .f (.v (.bool t))) (ht : t = true) (hx : st.ev C x = .f z) (h : R C N ops pr K rest (st.put d (.f z))) : R C N ops pr K (⟨d, .pick c x y, T0, pos, af, none⟩ :: rest) st := ⟨r_val rfl (hx ▸ v_pickT rfl hd hc ht) h.out⟩
theorem s_lss {d : Option Tmp} {T0 : TypeId} {pos : String} {af : Array Edge} {T T' : TypeId} {x y : Operand} {k : IntKind} {p q : Int} (hd : dstB N d = true) (hx : st.ev C x = .f (.v (.int k p))) (hy' : st.ev C y = .f (.v (.int k q))) (h : R C N ops pr K rest (st.put d (.f (.v (.bool (decide (p < q))))))) : R C N ops pr K (⟨d, .binOp .lss T x y T', T0, pos, af, none⟩ :: rest) st := ⟨r_val rfl (v_bin rfl hd hx hy' b_lss) h.out⟩
theorem s_leq {d : Option Tmp} {T0 : TypeId} {pos : String} {af : Array Edge} {T T' : TypeId} {x y : Operand} {k : IntKind} {p q : Int} (hd : dstB N d = true) (hx : st.ev C x = .f (.v (.int k p))) (hy' : st.ev C y = .f (.v (.int k q))) (h : R C N ops pr K rest (st.put d (.f (.v (.bool (decide (p ≤ q))))))) : R C N ops pr K (⟨d, .binOp .leq T x y T', T0, pos, af, none⟩ :: rest) st := ⟨r_val rfl (v_bin rfl hd hx hy' b_leq) h.out⟩
theorem s_gtr {d : Option Tmp} {T0 : TypeId} {pos : String} {af : Array Edge} {T T' : TypeId} {x y : Operand} {k : IntKind} {p q : Int} (hd : dstB N d = true) (hx : st.ev C x = .f (.v (.int k p))) (hy' : st.ev C y = .f (.v (.int k q))) (h : R C N ops pr K rest (st.put d (.f (.v (.bool (decide (q < p))))))) : R C N ops pr K (⟨d, .binOp .gtr T x y T', T0, pos, af, none⟩ :: rest) st := ⟨r_val rfl (v_bin rfl hd hx hy' b_gtr) h.out⟩
theorem s_eql {d : Option Tmp} {T0 : TypeId} {pos : String} {af : Array Edge} {T T' : TypeId} {x y : Operand} {k : IntKind} {p q : Int} (hd : dstB N d = true) (hx : st.ev C x = .f (.v (.int k p))) (hy' : st.ev C y = .f (.v (.int k q))) (h : R C N ops pr K rest (st.put d (.f (.v (.bool (decide (p = q))))))) : R C N ops pr K (⟨d, .binOp .eql T x y T', T0, pos, af, none⟩ :: rest) st := ⟨r_val rfl (v_bin rfl hd hx hy' b_eql) h.out⟩
theorem g_eql {d : Option Tmp} {T0 : TypeId} {pos : String} {af : Array Edge} {T T' : TypeId} {x y : Operand} {k : IntKind} {p q : Int} {j : Nat} {want bb : Bool} (hy : yl st ops j = some bb) (hb : bb = want) (hd : dstB N d = true) (hx : st.ev C x = .f (.v (.int k p))) (hy' : st.ev C y = .f (.v (.int k q))) (h : R C N ops pr K rest (st.put d (.f (.v (.bool (decide (p = q))))))) : R C N ops pr K (⟨d, .binOp .eql T x y T', T0, pos, af, some (j, want)⟩ :: rest) st := ⟨r_val (want_eq rfl hy hb) (v_bin rfl hd hx hy' b_eql) h.out⟩
theorem s_neq {d : Option Tmp} {T0 : TypeId} {pos : String} {af : Array Edge} {T T' : TypeId} {x y : Operand} {k : IntKind} {p q : Int} (hd : dstB N d = true) (hx : st.ev C x = .f (.v (.int k p))) (hy' : st.ev C y = .f (.v (.int k q))) (h : R C N ops pr K rest (st.put d (.f (.v (.bool (!decide (p = q))))))) : R C N ops pr K (⟨d, .binOp .neq T x y T', T0, pos, af, none⟩ :: rest) st := ⟨r_val rfl (v_bin rfl hd hx hy' b_neq) h.out⟩
theorem s_add {d : Option Tmp} {T0 : TypeId} {pos : String} {af : Array Edge} {T T' : TypeId} {x y : Operand} {p q : Int} (hd : dstB N d = true) (hx : st.ev C x = .f (.v (.int .i64 p))) (hy' : st.ev C y = .f (.v (.int .i64 q))) (hr : -9223372036854775808 ≤ p + q ∧ p + q ≤ 9223372036854775807) (h : R C N ops pr K rest (st.put d (.f (.v (.int .i64 (p + q)))))) : R C N ops pr K (⟨d, .binOp .add T x y T', T0, pos, af, none⟩ :: rest) st := ⟨r_val rfl (v_bin rfl hd hx hy' (b_add hr)) h.out⟩
theorem s_not {d : Option Tmp} {T0 : TypeId} {pos : String} {af : Array Edge} {T : TypeId} {x : Operand} {t : Bool} (hd : dstB N d = true) (hx : st.ev C x = .f (.v (.bool t))) (h : R C N ops pr K rest (st.put d (.f (.v (.bool (!t)))))) : R C N ops pr K (⟨d, .unOp .not T x, T0, pos, af, none⟩ :: rest) st := ⟨r_val rfl (v_un rfl hd hx u_not) h.out⟩
theorem s_extract {d : Option Tmp} {T0 : TypeId} {pos : String} {af : Array Edge} {x : Operand} {i : Nat} {l : List FV} {y : FV} (hd : dstB N d = true) (hx : st.ev C x = .f (.tup l)) (hi : l[i]? = some y) (h : R C N ops pr K rest (st.put d (.f y))) : R C N ops pr K (⟨d, .extract x i, T0, pos, af, none⟩ :: rest) st := ⟨r_val rfl (v_extract rfl hd hx hi) h.out⟩
theorem s_load_pt (ty : Ty C.P) {d : Option Tmp} {T0 : TypeId} {pos : String} {af : Array Edge} {T : TypeId} {x : Operand} {cs : List FV} {off : Nat} {c : FV} (hd : dstB N d = true) (hT : (ty.ty T).scal = true) (hx : st.ev C x = .f (.pt cs off)) (hc : cs[off]? = some c) (h : R C N ops pr K rest (st.put d (.f c))) : R C N ops pr K (⟨d, .load T x, T0, pos, af, none⟩ :: rest) st := ⟨r_val rfl (v_load_pt ty rfl hd hT hx hc) h.out⟩
theorem s_load_pts (ty : Ty C.P) {d : Option Tmp} {T0 : TypeId} {pos : String} {af : Array Edge} {T : TypeId} {x : Operand} {cs sub : List FV} {off n : Nat} (hd : dstB N d = true) (hT : (ty.ty T).agg = some n) (hx : st.ev C x = .f (.pt cs off)) (hc : (cs.drop off).take n = sub) (hl : sub.length = n) (h : R C N ops pr K rest (st.put d (.f (.agg sub)))) : R C N ops pr K (⟨d, .load T x, T0, pos, af, none⟩ :: rest) st := ⟨r_val rfl (v_load_pts ty rfl hd hT hx hc hl) h.out⟩
theorem s_load_bx_f (ty : Ty C.P) {d : Option Tmp} {T0 : TypeId} {pos : String} {af : Array Edge} {T : TypeId} {x : Operand} {cs : List AV} {i off : Nat} {y : FV} (hd : dstB N d = true) (hT : (ty.ty T).scal = true) (hx : st.ev C x = .bx i off) (hi : st.h i = some (.box cs)) (hc : cs[off]? = some (.f y)) (h : R C N ops pr K rest (st.put d (.f y))) : R C N ops pr K (⟨d, .load T x, T0, pos, af, none⟩ :: rest) st := ⟨r_val rfl (v_load_bx ty rfl hd hT hx hi hc) h.out⟩
theorem s_load_bx_o (ty : Ty C.P) {d : Option Tmp} {T0 : TypeId} {pos : String} {af : Array Edge} {T : TypeId} {x : Operand} {cs : List AV} {i off : Nat} {k : Nat} (hd : dstB N d = true) (hT : (ty.ty T).scal = true) (hx : st.ev C x = .bx i off) (hi : st.h i = some (.box cs)) (hc : cs[off]? = some (.ow k)) (h : R C N ops pr K rest (st.put d (.ow k))) : R C N ops pr K (⟨d, .load T x, T0, pos, af, none⟩ :: rest) st := ⟨r_val rfl (v_load_bx ty rfl hd hT hx hi hc) h.out⟩
theorem s_load_bxs (ty : Ty C.P) {d : Option Tmp} {T0 : TypeId} {pos : String} {af : Array Edge} {T : TypeId} {x : Operand} {cs : List AV} {i off n : Nat} {sub : List FV} (hd : dstB N d = true) (hT : (ty.ty T).agg = some n) (hx : st.ev C x = .bx i off) (hi : st.h i = some (.box cs)) (hc : unL ((cs.drop off).take n) = some sub) (hn : sub.length = n) (h : R C N ops pr K rest (st.put d (.f (.agg sub)))) : R C N ops pr K (⟨d, .load T x, T0, pos, af, none⟩ :: rest) st := ⟨r_val rfl (v_load_bxs ty rfl hd hT hx hi (unL_spec hc) hn) h.out⟩
theorem s_fld_pt (ty : Ty C.P) {d : Option Tmp} {T0 : TypeId} {pos : String} {af : Array Edge} {T f : Nat} {x : Operand} {cs : List FV} {off fo : Nat} (hd : dstB N d = true) (hT : (ty.ty T).fld[f]? = some fo) (hx : st.ev C x = .f (.pt cs off)) (h : R C N ops pr K rest (st.put d (.f (.pt cs (off + fo))))) : R C N ops pr K (⟨d, .fieldAddr T x f, T0, pos, af, none⟩ :: rest) st := ⟨r_val rfl (v_fld_pt ty rfl hd hT hx) h.out⟩
theorem s_fld_bx (ty : Ty C.P) {d : Option Tmp} {T0 : TypeId} {pos : String} {af : Array Edge} {T f : Nat} {x : Operand} {i off fo : Nat} (hd : dstB N d = true) (hT : (ty.ty T).fld[f]? = some fo) (hx : st.ev C x = .bx i off) (h : R C N ops pr K rest (st.put d (.bx i (off + fo)))) : R C N ops pr K (⟨d, .fieldAddr T x f, T0, pos, af, none⟩ :: rest) st := ⟨r_val rfl (v_fld_bx ty rfl hd hT hx) h.out⟩
theorem s_idx (ty : Ty C.P) {d : Option Tmp} {T0 : TypeId} {pos : String} {af : Array Edge} {T : TypeId} {x y : Operand} {cs : List FV} {n E s bs : Nat} {k : IntKind} {z : Int} (hd : dstB N d = true) (hT : (ty.ty T).sl = some (E, s, bs)) (hx : st.ev C x = .f (.sl n cs)) (hy' : st.ev C y = .f (.v (.int k z))) (h0 : 0 ≤ z) (hn : z < n) (hc : cs ≠ []) (h : R C N ops pr K rest (st.put d (.f (.pt cs (z.toNat * s))))) : R C N ops pr K (⟨d, .indexAddr T x y, T0, pos, af, none⟩ :: rest) st := ⟨r_val rfl (v_idx ty rfl hd hT hx hy' h0 hn hc) h.out⟩
theorem s_idx_ow (ty : Ty C.P) {d : Option Tmp} {T0 : TypeId} {pos : String} {af : Array Edge} {T : TypeId} {x y : Operand} {cs : List FV} {i n e sz E s bs : Nat} {k : IntKind} {z : Int} (hd : dstB N d = true) (hT : (ty.ty T).sl = some (E, s, bs)) (hx : st.ev C x = .ow i) (hi : st.h i = some (.row e sz n cs)) (hy' : st.ev C y = .f (.v (.int k z))) (h0 : 0 ≤ z) (hn : z < n) (h : R C N ops pr K rest (st.put d (.bx i (z.toNat * s)))) : R C N ops pr K (⟨d, .indexAddr T x y, T0, pos, af, none⟩ :: rest) st := ⟨r_val rfl (v_idx_ow ty rfl hd hT hx hi hy' h0 hn) h.out⟩
theorem s_len (ty : Ty C.P) {d : Option Tmp} {T0 : TypeId} {pos : String} {af : Array Edge} {T : TypeId} {x : Operand} {cs : List FV} {n E s bs : Nat} (hd : dstB N d = true) (hT : (ty.ty T).sl = some (E, s, bs)) (hx : st.ev C x = .f (.sl n cs)) (h : R C N ops pr K rest (st.put d (.f (.v (.int .i64 n))))) : R C N ops pr K (⟨d, .call { callee := .builtin .len, args := #[x], argTypes := #[T] }, T0, pos, af, none⟩ :: rest) st := ⟨r_val rfl (v_len ty rfl hd hT hx) h.out⟩
theorem s_min {d : Option Tmp} {T0 : TypeId} {pos : String} {af : Array Edge} {T T' : TypeId} {x y : Operand} {p q : Int} {k k' : IntKind} (hd : dstB N d = true) (hx : st.ev C x = .f (.v (.int k p))) (hy' : st.ev C y = .f (.v (.int k' q))) (h : R C N ops pr K rest (st.put d (.f (.v (.int k (min p q)))))) : R C N ops pr K (⟨d, .call { callee := .builtin .min, args := #[x, y], argTypes := #[T, T'] }, T0, pos, af, none⟩ :: rest) st := ⟨r_val rfl (v_min2 rfl hd hx hy') h.out⟩
theorem s_max {d : Option Tmp} {T0 : TypeId} {pos : String} {af : Array Edge} {T T' : TypeId} {x y : Operand} {p q : Int} {k k' : IntKind} (hd : dstB N d = true) (hx : st.ev C x = .f (.v (.int k p))) (hy' : st.ev C y = .f (.v (.int k' q))) (h : R C N ops pr K rest (st.put d (.f (.v (.int k (max p q)))))) : R C N ops pr K (⟨d, .call { callee := .builtin .max, args := #[x, y], argTypes := #[T, T'] }, T0, pos, af, none⟩ :: rest) st := ⟨r_val rfl (v_max2 rfl hd hx hy') h.out⟩
theorem s_build (ty : Ty C.P) {d : Option Tmp} {T0 : TypeId} {pos : String} {af : Array Edge} {T : TypeId} {parts : Array (Nat × Operand)} {pl : List (Nat × Nat)} {zs : List Value} {xs : List (Nat × FV)} {cs : List FV} (hd : dstB N d = true) (hpl : (ty.ty T).pl = some pl) (hz : (ty.ty T).zero = some zs) (hp : st.evP C parts.toList = some xs) (hf : fillF (fun i => pl[i]?) (zs.map .v) xs = some cs) (h : R C N ops pr K rest (st.put d (.f (.agg cs)))) : R C N ops pr K (⟨d, .build T parts, T0, pos, af, none⟩ :: rest) st := ⟨r_val rfl (v_build ty rfl hd hpl hz hp hf) h.out⟩
theorem g_build (ty : Ty C.P) {d : Option Tmp} {T0 : TypeId} {pos : String} {af : Array Edge} {T : TypeId} {parts : Array (Nat × Operand)} {pl : List (Nat × Nat)} {zs : List Value} {xs : List (Nat × FV)} {cs : List FV} {j : Nat} {want bb : Bool} (hy : yl st ops j = some bb) (hb : bb = want) (hd : dstB N d = true) (hpl : (ty.ty T).pl = some pl) (hz : (ty.ty T).zero = some zs) (hp : st.evP C parts.toList = some xs) (hf : fillF (fun i => pl[i]?) (zs.map .v) xs = some cs) (h : R C N ops pr K rest (st.put d (.f (.agg cs)))) : R C N ops pr K (⟨d, .build T parts, T0, pos, af, some (j, want)⟩ :: rest) st := ⟨r_val (want_eq rfl hy hb) (v_build ty rfl hd hpl hz hp hf) h.out⟩
theorem s_bslice (ty : Ty C.P) {d : Option Tmp} {T0 : TypeId} {pos : String} {af : Array Edge} {T len E s bs : Nat} {parts : Array (Nat × Operand)} {zs : List Value} {xs : List (Nat × FV)} {cs : List FV} (hd : dstB N d = true) (hT : (ty.ty T).sl = some (E, s, bs)) (hz : (ty.ty E).zero = some zs) (hs : Nat.ble (len * s) 16777216 = true) (hp : st.evP C parts.toList = some xs) (hf : fillF (fun i => some (i * s, s)) (initF zs (len * s)) xs = some cs) (h : R C N ops pr K rest (st.put d (.f (.sl len cs)))) : R C N ops pr K (⟨d, .buildSlice T len parts, T0, pos, af, none⟩ :: rest) st := ⟨r_val rfl (v_bslice ty rfl hd hT hz (Nat.le_of_ble_eq_true hs) hp hf) h.out⟩
theorem g_bslice (ty : Ty C.P) {d : Option Tmp} {T0 : TypeId} {pos : String} {af : Array Edge} {T len E s bs : Nat} {parts : Array (Nat × Operand)} {zs : List Value} {xs : List (Nat × FV)} {cs : List FV} {j : Nat} {want bb : Bool} (hy : yl st ops j = some bb) (hb : bb = want) (hd : dstB N d = true) (hT : (ty.ty T).sl = some (E, s, bs)) (hz : (ty.ty E).zero = some zs) (hs : Nat.ble (len * s) 16777216 = true) (hp : st.evP C parts.toList = some xs) (hf : fillF (fun i => some (i * s, s)) (initF zs (len * s)) xs = some cs) (h : R C N ops pr K rest (st.put d (.f (.sl len cs)))) : R C N ops pr K (⟨d, .buildSlice T len parts, T0, pos, af, some (j, want)⟩ :: rest) st := ⟨r_val (want_eq rfl hy hb) (v_bslice ty rfl hd hT hz (Nat.le_of_ble_eq_true hs) hp hf) h.out⟩
theorem s_box {d : Option Tmp} {T0 : TypeId} {pos : String} {af : Array Edge} {T : TypeId} {x : Operand} {y : FV} {cs : List FV} (hd : dstB N d = true) (hx : st.ev C x = .f y) (hc : cellsF y = some cs) (h : R C N ops pr K rest (st.put d (.f (.pt cs 0)))) : R C N ops pr K (⟨d, .box T x, T0, pos, af, none⟩ :: rest) st := ⟨r_val rfl (v_box rfl hd hx hc) h.out⟩
theorem s_call {d : Option Tmp} {T0 : TypeId} {pos : String} {af : Array Edge} {f : Operand} {args : Array Operand} {ts : Array TypeId} {gf : Nat} {caps xs ys : List FV} {r : FV} (S : Summ C.P C.G gf ys r) (hd : dstB N d = true) (hf : st.ev C f = .f (.fn gf caps)) (hxs : st.evL C args.toList = some xs) (hys : xs ++ caps = ys) (h : R C N ops pr K rest (st.put d (.f r))) : R C N ops pr K (⟨d, .call { callee := .value f, args := args, argTypes := ts }, T0, pos, af, none⟩ :: rest) st := ⟨r_val rfl (v_call S rfl hd hf hxs hys) h.out⟩
theorem g_call {d : Option Tmp} {T0 : TypeId} {pos : String} {af : Array Edge} {f : Operand} {args : Array Operand} {ts : Array TypeId} {gf : Nat} {caps xs ys : List FV} {r : FV} (S : Summ C.P C.G gf ys r) {j : Nat} {want bb : Bool} (hy : yl st ops j = some bb) (hb : bb = want) (hd : dstB N d = true) (hf : st.ev C f = .f (.fn gf caps)) (hxs : st.evL C args.toList = some xs) (hys : xs ++ caps = ys) (h : R C N ops pr K rest (st.put d (.f r))) : R C N ops pr K (⟨d, .call { callee := .value f, args := args, argTypes := ts }, T0, pos, af, some (j, want)⟩ :: rest) st := ⟨r_val (want_eq rfl hy hb) (v_call S rfl hd hf hxs hys) h.out⟩
theorem s_alloc (ty : Ty C.P) {d : Option Tmp} {T0 : TypeId} {pos : String} {af : Array Edge} {T : TypeId} {zs : List Value} (hd : dstB N d = true) (hn : st.frB C = true) (hz : (ty.ty T).zero = some zs) (h : R C N ops pr K rest ⟨(st.put d (.bx st.nx 0)).s, upd st.h st.nx (some (.box (zs.map fun z => .f (.v z)))), st.nx + 1⟩) : R C N ops pr K (⟨d, .alloc T, T0, pos, af, none⟩ :: rest) st := ⟨r_all rfl rfl (frB_spec hn).1 (a_alloc ty rfl hd hz (frB_spec hn).2) h.out⟩
theorem s_boxw {d : Option Tmp} {T0 : TypeId} {pos : String} {af : Array Edge} {T : TypeId} {x : Operand} {y : FV} {cs : List FV} (hd : dstB N d = true) (hn : st.frB C = true) (hx : st.ev C x = .f y) (hc : cellsF y = some cs) (h : R C N ops pr K rest ⟨(st.put d (.bx st.nx 0)).s, upd st.h st.nx (some (.box (cs.map .f))), st.nx + 1⟩) : R C N ops pr K (⟨d, .box T x, T0, pos, af, none⟩ :: rest) st := ⟨r_all rfl rfl (frB_spec hn).1 (a_box rfl hd hx hc (frB_spec hn).2) h.out⟩
theorem s_bslicew (ty : Ty C.P) {d : Option Tmp} {T0 : TypeId} {pos : String} {af : Array Edge} {T len E s bs : Nat} {parts : Array (Nat × Operand)} {zs : List Value} {xs : List (Nat × FV)} {cs : List FV} (hd : dstB N d = true) (hn : st.h st.nx = none) (hT : (ty.ty T).sl = some (E, s, bs)) (hz : (ty.ty E).zero = some zs) (hs : Nat.ble (len * s) 16777216 = true) (hs0 : Nat.blt 0 s = true) (hp : st.evP C parts.toList = some xs) (hf : fillF (fun i => some (i * s, s)) (initF zs (len * s)) xs = some cs) (hl : cs.length = len * s) (h : R C N ops pr K rest ⟨(st.put d (.ow st.nx)).s, upd st.h st.nx (some (.row E s len cs)), st.nx + 1⟩) : R C N ops pr K (⟨d, .buildSlice T len parts, T0, pos, af, none⟩ :: rest) st := ⟨r_all rfl rfl hn (a_bslice ty rfl hd hT hz (Nat.le_of_ble_eq_true hs) (Nat.le_of_ble_eq_true hs0) hp hf hl) h.out⟩
theorem s_store (ty : Ty C.P) {T0 : TypeId} {pos : String} {af : Array Edge} {T i off : Nat} {x y : Operand} {cs ys : List AV} {av : AV} (hx : st.ev C x = .bx i off) (hi : st.h i = some (.box cs)) (hy : st.ev C y = av) (hc : cellsA av = some ys) (hT : sizeB (ty.ty T) ys.length = true) (hl : Nat.ble (off + ys.length) cs.length = true) (h : R C N ops false K rest { st with h := upd st.h i (some (.box (setAt cs off ys))) }) : R C N ops false K (⟨none, .store T x y, T0, pos, af, none⟩ :: rest) st := ⟨r_eff rfl (e_store ty rfl rfl hx hi hy hc hT (Nat.le_of_ble_eq_true hl)) h.out⟩
theorem s_append (ty : Ty C.P) {T0 : TypeId} {pos : String} {af : Array Edge} {T i n m e sz bs d : Nat} {x y : Operand} {cs ys : List FV} {zs : List Value} (hdN : dstB N (some d) = true) (hT : (ty.ty T).sl = some (e, sz, bs)) (hz : (ty.ty e).zero = some zs) (hzl : zs.length = sz) (hsz : Nat.blt 0 sz = true) (hx : st.ev C x = .ow i) (hi : st.h i = some (.row e sz n cs)) (hy : st.ev C y = .f (.sl m ys)) (hl : ys.length = m * sz) (h63 : n + m ≤ maxLen) (hbs : (n + m) * bs ≤ 140737488355328) (h : R C N ops false K rest ((st.grow i (.row e sz (n + m) (cs ++ ys))).put (some d) (.ow i))) : R C N ops false K (⟨some d, .call { callee := .builtin .append, args := #[x, y], argTypes := #[T, T] }, T0, pos, af, none⟩ :: rest) st := ⟨r_eff rfl (e_append ty rfl rfl hdN hT hz hzl (Nat.le_of_ble_eq_true hsz) hx hi hy hl h63 hbs) h.out⟩
end
end Go.Ab
namespace Go.Ab
open Go Go.RowKit Go.Shelf Go.Proofs
section
variable {C : Ctx} {N : Nat}
theorem take_setAt {α : Type} : ∀ (r cs : List α) (o k : Nat), o + r.length ≤ k → (setAt cs o r).take k = setAt (cs.take k) o r
  | [], _, _, _, _ => rfl
  | x :: r, cs, o, k, h => by
    simp only [List.length_cons] at h
    rw [setAt, setAt, take_setAt r _ _ _ (by omega), List.take_set]
theorem e_storeR {o : Oper} {st : St} {T i off e sz n : Nat} {x y : Operand} {cs ys : List FV} {z : FV} (ty : Ty C.P) (ho : o.op = .store T x y) (hd : o.dst = none) (hx : st.ev C x = .bx i off) (hi : st.h i = some (.row e sz n cs)) (hy : st.ev C y = .f z) (hc : cellsF z = some ys) (hT : sizeB (ty.ty T) ys.length = true) (hl : off + ys.length ≤ cs.length) :
    EffOp C N o st { st with h := upd st.h i (some (.row e sz n (setAt cs off ys))) } :=
  effop_run fun w0 a w J S => by
    have e1 := S.eval x
    rw [hx] at e1
    obtain ⟨hlv, b, hb, hv⟩ := e1
    have e2 := evF S hy
    obtain ⟨R, r2⟩ := repCells e2 hc
    obtain ⟨xs, q1, q0, q2, q3⟩ := S.blk i _ hi
    obtain ⟨it, hi1, hi2⟩ := sizeB_spec (ty.ok T) hT
    have r1 : (a.eval y).cells.size = ys.length := by have := R.1; simpa using this
    rcases q1.2 with ⟨hj, _⟩ | ⟨g, cap, cur, hj, h1, h2, h3, h4, h5, h6⟩
    · rw [hj] at hb; simp [bk] at hb
    have hbg : b = g := by rw [hj] at hb; simpa [bk] using hb.symm
    subst hbg
    have hxl : xs.length ≤ cur.size := by rw [← h6]; simp [List.length_take]; omega
    have hst := run_storeCells_cells (P := C.P) b off (a.eval y).cells.toList 0 w (fun j hj => by
      have : off + 0 + j < cur.size := by have := q3.1; simp at hj; omega
      simp [World.cell?, h2]; omega) (fun j hj => by simp [World.frozen?, h2]) r2
    have hrun : (execOp a.eval o).run C.P w = .ok .skip (w.setCells b off (a.eval y).cells.toList) := by
      simp only [execOp, ho, Sem.run_bind, hv, Instr.storeAt, Instr.sureAddr, Sem.run_pure, Result.andThen_ok, storeVar, sizeOf, typeInfo, run_program, hi1, hi2, r1]
      simp only [Nat.add_zero] at hst
      simp [hst]
    refine ⟨.skip, undef, _, hrun, .inr ⟨rfl, rfl⟩, J, ?_⟩
    rw [hd]
    obtain ⟨us', g1, g2⟩ := setCells_heap (vs := (a.eval y).cells.toList) (o := off) h2
    have gr : w.grownBy (w.setCells b off (a.eval y).cells.toList) (some b) := setCells_grown _ _ _
    have r1' : (a.eval y).cells.toList.length = ys.length := by simpa using r1
    have us_len : us'.size = cur.size := by
      have := congrArg List.length g2
      rw [setAt_length] at this
      simpa using this
    have live : ∀ j, (upd st.h i (some (.row e sz n (setAt cs off ys))) j).isSome = (st.h j).isSome := fun j => by
      by_cases e : j = i
      · subst e; rw [upd_same, hlv]; rfl
      · rw [upd_other _ _ e]
    refine S.write (B := .row e sz n (setAt cs off ys)) hlv hb gr ⟨setAt xs off (a.eval y).cells.toList, ⟨by rw [setAt_length]; exact q1.1, .inr ⟨b, cap, us', hj, h1, g1, h3, h4, by rw [us_len, h5], ?_⟩⟩, q0, setAt_mem q2 r2, ?_⟩ (fun e => by cases e)
    · rw [g2, take_setAt _ _ _ _ (by rw [r1', ← q1.1, q3.1]; exact hl), h6]
    · refine RepL.setAt off ?_ ?_
      · exact q3.mono (fun c hcl hm => gr.block c hcl (fun e => by cases e; exact hm (.inr ⟨i, hlv, hb⟩))) gr.size (fun c _ h => h.imp id fun ⟨j, hj, hjb⟩ => ⟨j, by rw [← live]; exact hj, hjb⟩)
      · exact R.mono (fun c hcl hm => gr.block c hcl (fun e => by cases e; exact hm (.inr ⟨i, hlv, hb⟩))) gr.size (fun c _ h => h.imp id fun ⟨j, hj, hjb⟩ => ⟨j, by rw [← live]; exact hj, hjb⟩)
theorem v_append_clip {o : Oper} {st : St} {T n m e sz bs : Nat} {x y : Operand} {cs ys : List FV} {zs : List Value} (ty : Ty C.P) (ho : o.op = .call { callee := .builtin .append, args := #[x, y], argTypes := #[T, T] }) (hd : dstB N o.dst = true)
    (hT : (ty.ty T).sl = some (e, sz, bs)) (hz : (ty.ty e).zero = some zs) (hzl : zs.length = sz) (hsz : 0 < sz) (hx : st.ev C x = .f (.slc n cs)) (hy : st.ev C y = .f (.sl m ys)) (hm : 0 < m) (hln : cs.length = n * sz) (hl : ys.length = m * sz)
    (h63 : n + m ≤ maxLen) (hbs : (n + m) * bs ≤ 140737488355328) : ValOp C N o st (.f (.sl (n + m) (cs ++ ys))) :=
  valop_run hd fun w0 a w J st' hA S => by
    have e1 := evF S ((hA.ev x (by simp [ho, Op.operands, Call.operands])).trans hx)
    have e2 := evF S ((hA.ev y (by simp [ho, Op.operands, Call.operands])).trans hy)
    obtain ⟨hu, it, hi1, hi2, hi3⟩ := slE_spec ((ty.ok T).sl _ hT)
    obtain ⟨it', z, hi4, hzz, hzl'⟩ := zero_spec ((ty.ok e).zero zs hz)
    rw [hi1] at hi4; cases hi4
    have hzs : z.cells.size = sz := by rw [← hzl, ← hzl']; simp
    generalize hxv : a.eval x = xv at e1
    generalize hyv : a.eval y = yv at e2
    cases e1 with
    | slc ad1 _ _ vs o1 o1' o2 o3 o4 =>
    cases e2 with
    | sl ad _ c _ us p0 p1 p2 p3 p4 =>
      have hul : us.length = m * sz := p1.trans hl
      have hus : us ≠ [] := fun e => by
        have hp : 0 < m * sz := Nat.mul_pos hm hsz
        rw [e] at hul; simp at hul; omega
      obtain ⟨b, off, rfl, hlies⟩ := p3 hus
      have hnews : ∀ j u, us[j]? = some u → w.cell? ((⟨b, off, none⟩ : Addr).add j) = some u := fun j u hj => by
        rw [addr_add, hlies.at_ j (List.getElem?_eq_some_iff.1 hj).1]; exact hj
      have hvl : vs.length = n * sz := o1.trans hln
      obtain ⟨v', w', hrun, r1, r2⟩ : ∃ v' w', (Builtin.append_ #[T, T] o.type #[.slice ad1 n n, .slice (some ⟨b, off, none⟩) m c]).run C.P w = .ok v' w' ∧ w'.ownsRow w.heap.size e sz v' (n + m) (vs ++ us) ∧ w.grownBy w' none := by
        cases ad1 with
        | some ad1 =>
          refine run_append_arg_grows (P := C.P) w T o.type e it z sz bs hu hi1 hzz hi2 hi3 hzs hsz ad1 n n vs hvl (fun j u hj => ?_) ⟨b, off, none⟩ m c us hul hnews (by omega) h63 hbs
          obtain ⟨b1, off1, e1, l1⟩ := o3 (fun e => by rw [e] at hj; simp at hj)
          cases e1
          rw [addr_add, l1.at_ j (List.getElem?_eq_some_iff.1 hj).1]; exact hj
        | none =>
          have hn0 := o1' rfl
          subst hn0
          have hv0 : vs = [] := List.eq_nil_of_length_eq_zero (by simpa using hvl)
          subst hv0
          obtain ⟨v', w', h1, h2, h3, _⟩ := run_append_own (P := C.P) w w.heap.size T o.type e it z sz bs hu hi1 hzz hi2 hi3 hzs hsz (.slice none 0 0) 0 [] (World.ownsRow_nil w _ e sz) ⟨b, off, none⟩ m c us hul hnews p2 h63 hbs (Nat.le_refl _)
          exact ⟨v', w', h1, h2, h3⟩
      have hex : Ext w w' := Ext.of_grown r2
      refine ⟨v', w', ?_, hex, ?_⟩
      · simp only [execOp, ho, resolve, invoke, builtin, Sem.run_bind, Sem.run_pure, Result.andThen_ok, List.map_toArray, List.map_cons, List.map_nil, hxv, hyv, hrun]
      · have R : RepL w (Mb C st'.h J) (vs ++ us) (cs ++ ys) := RepL.append ⟨o1, o4⟩ ⟨p1, p4⟩
        have R' := R.ext hex (M' := Mb C st'.h J) (fun _ _ h => h)
        rcases r1.2 with ⟨_, h0⟩ | ⟨g, cap, cur, e1, h1, h2, h3, h4, h5, h6⟩
        · omega
        · subst e1
          refine RepF.sl _ _ cap _ (vs ++ us) h3 R'.1 (fun u hu => by
            rcases List.mem_append.1 hu with h | h
            · exact o2 u h
            · exact p2 u h) (fun _ => ⟨g, 0, rfl, (Array.getElem?_eq_some_iff.1 h2).1, fun hm => by have := S.mb hm; omega, fun k hk => ?_⟩) R'.2
          have := r1.cells (g := g) rfl k _ (List.getElem?_eq_getElem hk)
          rw [addr_add, Nat.zero_add] at this
          rw [Nat.zero_add, this, List.getElem?_eq_getElem hk]
theorem Sim.ownB {w0 : World} {a : Act} {w : World} {J : Nat → Value} {st : St} (S : Sim C w0 N st a w J) (i off e sz : Nat) {cells : List AV} (hi : st.h i = some (.box cells)) (hc : cells[off]? = some (.f (.v (.slice none 0 0)))) (hn : st.h st.nx = none) :
    Sim C w0 N { s := st.s, h := upd (upd st.h i (some (.box (cells.set off (.ow st.nx))))) st.nx (some (.row e sz 0 [])), nx := st.nx + 1 } a w (upd J st.nx (.slice none 0 0)) := by
  obtain ⟨H, hH⟩ : ∃ H, H = upd (upd st.h i (some (.box (cells.set off (.ow st.nx))))) st.nx (some (.row e sz 0 [])) := ⟨_, rfl⟩
  rw [← hH]
  have hne : ∀ j, (st.h j).isSome = true → j ≠ st.nx := fun j h e => by subst e; rw [hn] at h; cases h
  have hin : i ≠ st.nx := hne i (by rw [hi]; rfl)
  have hnx : H st.nx = some (.row e sz 0 []) := by rw [hH, upd_same]
  have hii : H i = some (.box (cells.set off (.ow st.nx))) := by rw [hH, upd_other _ _ hin, upd_same]
  have hoth : ∀ j, j ≠ i → j ≠ st.nx → H j = st.h j := fun j h1 h2 => by rw [hH, upd_other _ _ h2, upd_other _ _ h1]
  have live : ∀ j, j ≠ st.nx → (H j).isSome = (st.h j).isSome := fun j h => by
    by_cases e : j = i
    · subst e; rw [hii, hi]; rfl
    · rw [hoth j e h]
  have hM : ∀ b, b < w.heap.size → Mb C H (upd J st.nx (.slice none 0 0)) b → Mb C st.h J b := by
    rintro b _ (h0 | ⟨j, hj, hb⟩)
    · exact .inl h0
    by_cases ej : j = st.nx
    · subst ej; rw [upd_same] at hb; simp [bk] at hb
    · rw [upd_other _ _ ej] at hb; exact .inr ⟨j, by rw [← live j ej]; exact hj, hb⟩
  have conv : ∀ {v : Value} {x : AV}, RepA C w st.h J v x → RepA C w H (upd J st.nx (.slice none 0 0)) v x := by
    intro v x h
    exact h.same fun _ _ q => q.conv (fun j hj => ⟨by rw [live j (hne j hj)]; exact hj, by rw [upd_other _ _ (hne j hj)]⟩) fun _ _ h => RepF.ext h (Ext.refl _) hM
  refine ⟨S.ext, S.size, S.defs, fun u => conv (S.slot u), fun j B hB => ?_, fun j k b hj hk hjb hkb => ?_, S.old, fun g cs hg => RepF.ext (S.glob g cs hg) (Ext.refl _) hM, fun j p cs' hp hc hs => ?_⟩
  · show RepB C w w0.heap.size H (upd J st.nx (.slice none 0 0)) _ B
    have hB' : H j = some B := hB
    by_cases ej : j = st.nx
    · subst ej
      rw [hnx] at hB'; cases hB'
      rw [upd_same]
      exact ⟨[], World.ownsRow_nil _ _ _ _, fun b hb => by simp [bk] at hb, by simp, RepL.nil _ _⟩
    rw [upd_other _ _ ej]
    by_cases ei : j = i
    · subst ei
      rw [hii] at hB'; cases hB'
      obtain ⟨c, T, us, q1, q2, q3, q4, q5, q6⟩ := S.blk j _ hi
      refine ⟨c, T, us, q1, q2, q3, by simpa using q4, q5, fun k u x h1 h2 => ?_⟩
      rw [List.getElem?_set] at h2
      split at h2
      · rename_i ek
        subst ek
        split at h2
        · cases h2
          have := repV (q6 off u _ h1 hc)
          exact ⟨by rw [hnx]; rfl, by rw [upd_same]; exact this⟩
        · cases h2
      · exact conv (q6 k u x h1 h2)
    · rw [hoth j ei ej] at hB'
      exact (S.blk j B hB').conv0 (fun _ _ => rfl) (fun _ _ h => h) (fun _ _ => conv) (fun _ _ h => RepF.ext h (Ext.refl _) hM)
  · have nn : ∀ j, bk (upd J st.nx (.slice none 0 0) j) = some b → j ≠ st.nx := fun j h e => by subst e; rw [upd_same] at h; simp [bk] at h
    have h1 := nn j hjb
    have h2 := nn k hkb
    rw [upd_other _ _ h1] at hjb
    rw [upd_other _ _ h2] at hkb
    exact S.apart j k b (by rw [← live j h1]; exact hj) (by rw [← live k h2]; exact hk) hjb hkb
  · have hc' : H j = some cs' := hc
    by_cases ej : j = st.nx
    · subst ej; rw [hnx] at hc'; cases hc'; cases hs
    rw [upd_other _ _ ej]
    by_cases ei : j = i
    · subst ei; exact S.fix j p _ hp hi rfl
    · rw [hoth j ei ej] at hc'; exact S.fix j p cs' hp hc' hs
theorem gh_ownB {st : St} (i off e sz : Nat) {cells : List AV} (hi : st.h i = some (.box cells)) (hc : cells[off]? = some (.f (.v (.slice none 0 0)))) (hn : st.h st.nx = none) : Gh C N st { s := st.s, h := upd (upd st.h i (some (.box (cells.set off (.ow st.nx))))) st.nx (some (.row e sz 0 [])), nx := st.nx + 1 } :=
  fun _ _ _ ⟨_, S⟩ => ⟨_, S.ownB i off e sz hi hc hn⟩
theorem v_clip {o : Oper} {st : St} {T E s bs : Nat} {x y z : Operand} {cs : List FV} {n : Nat} {k k' : IntKind} (ty : Ty C.P) (ho : o.op = .slice T x none (some y) (some z)) (hd : dstB N o.dst = true) (hT : (ty.ty T).sl = some (E, s, bs)) (hx : st.ev C x = .f (.sl n cs))
    (hy : st.ev C y = .f (.v (.int k n))) (hz : st.ev C z = .f (.v (.int k' n))) (hs : 0 < s) (hl : cs.length = n * s) : ValOp C N o st (.f (.slc n cs)) :=
  valop_run hd fun w0 a w J st' hA S => by
    have e1 := evF S ((hA.ev x (by simp [ho, Op.operands])).trans hx)
    have e2 := evV S ((hA.ev y (by simp [ho, Op.operands])).trans hy)
    have e3 := evV S ((hA.ev z (by simp [ho, Op.operands])).trans hz)
    obtain ⟨hu, it, hi1, rfl, _⟩ := slE_spec ((ty.ok T).sl _ hT)
    generalize hv : a.eval x = v at e1
    cases e1 with
    | sl ad _ c _ us p0 p1 p2 p3 p4 =>
      have hnc : (n : Int) ≤ c := by omega
      refine ⟨.slice ad n n, w, ?_, Ext.refl _, RepF.slc ad n cs us p1 (fun ha => ?_) p2 p3 p4⟩
      · have hadd : (ad.map fun x : Addr => x.add 0) = ad := by cases ad <;> simp [Addr.add]
        have h0n : (0 : Int) ≤ n := by omega
        simp [execOp, ho, hv, e2, e3, Instr.sliceAt, Instr.slice, run_underlying hu, Instr.sliceBounds, Instr.sliceBound, asIntOf, sizeOf, typeInfo, hi1, h0n, hadd]
        intro hlt; exact absurd hlt (by omega)
      · refine Classical.byContradiction fun h0 => ?_
        have hp : 0 < n * it.size := Nat.mul_pos (by omega) hs
        obtain ⟨b, off, e, _⟩ := p3 (fun e => by rw [e] at p1; simp at p1; omega)
        rw [ha] at e; cases e
def detC : List FV → Option (List Value)
  | [] => some []
  | .v x :: r => match detC r with
    | some l => some (x :: l)
    | none => none
  | _ :: _ => none
def detF : FV → Option Value
  | .v x => some x
  | .agg cs => match detC cs with
    | some l => some (.agg l.toArray)
    | none => none
  | _ => none
theorem detC_spec {w : World} {M : Nat → Prop} : ∀ {cs : List FV} {us l : List Value}, RepL w M us cs → detC cs = some l → us = l
  | [], us, l, R, h => by simp [detC] at h; subst h; exact R.end
  | .v x :: r, us, l, R, h => by
    obtain ⟨u, us', rfl, hu, R'⟩ := R.head
    have := repV hu
    subst this
    cases hr : detC r with
    | none => simp [detC, hr] at h
    | some l' => simp [detC, hr] at h; subst h; rw [detC_spec R' hr]
  | .sl _ _ :: _, _, _, _, h => by simp [detC] at h
  | .agg _ :: _, _, _, _, h => by simp [detC] at h
  | .tup _ :: _, _, _, _, h => by simp [detC] at h
  | .pt _ _ :: _, _, _, _, h => by simp [detC] at h
  | .fn _ _ :: _, _, _, _, h => by simp [detC] at h
  | .slc _ _ :: _, _, _, _, h => by simp [detC] at h
  | .mp _ :: _, _, _, _, h => by simp [detC] at h
  | .any _ :: _, _, _, _, h => by simp [detC] at h
  | .tab _ :: _, _, _, _, h => by simp [detC] at h
theorem detF_spec {w : World} {M : Nat → Prop} {x : FV} {u v : Value} (h : RepF w M u x) (hd : detF x = some v) : u = v := by
  cases h with
  | v _ => simp [detF] at hd; exact hd
  | agg cs us h1 h2 h3 =>
    cases hr : detC cs with
    | none => simp [detF, hr] at hd
    | some l => simp [detF, hr] at hd; subst hd; rw [detC_spec ⟨h1, h3⟩ hr]
  | _ => simp [detF] at hd
theorem v_lookup {o : Oper} {st : St} {T : TypeId} {x y : Operand} {ok : Bool} {G : Obj → Prop} {kf r : FV} {kv rv : Value} (ho : o.op = .lookup T x y ok) (hd : dstB N o.dst = true) (hx : st.ev C x = .f (.mp G)) (hy : st.ev C y = .f kf) (hk : detF kf = some kv)
    (hrun : ∀ ob r w, G ob → w.heap[r]? = some ob → (Instr.lookup T (.map (some r)) kv ok).run C.P w = .ok rv w) (hr : ∀ w M, RepF w M rv r) : ValOp C N o st (.f r) :=
  valop_run hd fun w0 a w J st' hA S => by
    have e1 := evF S ((hA.ev x (by simp [ho, Op.operands])).trans hx)
    have e2 := detF_spec (evF S ((hA.ev y (by simp [ho, Op.operands])).trans hy)) hk
    generalize hv : a.eval x = v at e1
    cases e1 with
    | mp r G L =>
      obtain ⟨ob, h1, h2, _⟩ := L.at_
      exact ⟨rv, w, by simp [execOp, ho, hv, e2, hrun ob r w h2 h1], Ext.refl _, hr _ _⟩
structure SummN (P : Program) (G : Nat → Option FV) (g : Nat) (args : List FV) (e sz n : Nat) (cs : List FV) : Prop where
  enters : Enters P g
  call : ∀ (w : World) (M : Nat → Prop) (us : List Value), (∀ b, M b → b < w.heap.size) → (∀ g cs, G g = some cs → RepF w M (.pointer (some ⟨g, 0, none⟩)) cs) → RepL w M us args →
    Calls P g us.toArray w fun en w' => ∃ v xs, en = .returned v ∧ w'.ownsRow w.heap.size e sz v n xs ∧ (∀ u ∈ xs, u.oneCell' = true) ∧ RepL w' (fun b => M b ∨ bk v = some b) xs cs ∧ Ext w w'
theorem callEnter {a : Act} {w : World} {o : Oper} {f : Operand} {args : Array Operand} {ts : Array TypeId} {g : Nat} {us : List Value} {P : Program} (he : Enters P g) (ho : o.op = .call { callee := .value f, args := args, argTypes := ts }) (hv : a.eval f = .func (.func g) #[] us.toArray) :
    (execOp a.eval o).run P w = .ok (.enter g (args.toList.map a.eval ++ us).toArray) w := by
  have e2 : (args.map a.eval ++ us.toArray) = (args.toList.map a.eval ++ us).toArray := by
    apply Array.ext'; simp
  simp only [execOp, ho, resolve, hv, Deferred.ofValue, Sem.run_bind, Sem.run_pure, Result.andThen_ok, invoke]
  rw [show (#[] : Array Value) ++ args.map a.eval = args.map a.eval by simp, e2]
  exact he _ _
theorem a_callN {o : Oper} {st : St} {f : Operand} {args : Array Operand} {ts : Array TypeId} {g e sz n : Nat} {caps xs ys cs : List FV} (K : SummN C.P C.G g ys e sz n cs) (ho : o.op = .call { callee := .value f, args := args, argTypes := ts }) (hd : dstB N o.dst = true) (hf : st.ev C f = .f (.fn g caps)) (hxs : st.evL C args.toList = some xs) (hys : xs ++ caps = ys) : AllOp C N o st (.ow st.nx) (.row e sz n cs) := by
  intro w0 a w st' hA hn ⟨J, S⟩ K1 Q hK
  have e1 := evF S ((hA.ev f (by simp [ho, Op.operands, Call.operands])).trans hf)
  have R := evL_rep (st := st) S (fun x hx => hA.ev x (by simp [ho, Op.operands, Call.operands]; exact .inr (by simpa using hx))) hxs
  generalize hv : a.eval f = v at e1
  cases e1 with
  | fn _ _ us h1 h2 =>
    subst hys
    refine op_enter (callEnter K.enters ho hv) ?_
    refine Calls.mono (K.call w (Mb C st'.h J) _ (mb_lt S) S.glob (RepL.append R ⟨h1, h2⟩)) ?_
    rintro en w' ⟨v', zs, rfl, hown, hone, hr, he⟩
    have hlt : ∀ c, bk v' = some c → w.heap.size ≤ c := fun c hc => (hown.lt c (by rw [← own_bk hown]; exact hc)).1
    refine hK v' w' ⟨upd J st.nx v', S.al hn hd he hlt ⟨zs, hown.below (Nat.zero_le _), fun b hb => .inl (Nat.le_trans S.ext.le (hlt b hb)), hone, hr.mono (fun _ _ _ => rfl) (Nat.le_refl _) (fun b hb hm => ?_)⟩ ⟨by rw [upd_same]; rfl, by rw [upd_same]⟩ (fun e => by cases e)⟩
    rcases hm with h0 | ⟨i, hi, hbi⟩
    · exact .inl (.inl h0)
    by_cases e : i = st.nx
    · subst e; rw [upd_same] at hbi; exact .inr hbi
    · rw [upd_other _ _ e] at hi hbi; exact .inl (.inr ⟨i, hi, hbi⟩)
structure SummM (P : Program) (G : Nat → Option FV) (g e sz n : Nat) (cs : List FV) (args : List FV) (n' : Nat) (cs' : List FV) : Prop where
  enters : Enters P g
  call : ∀ (w : World) (M : Nat → Prop) (us : List Value) (v : Value) (xs : List Value), (∀ b, M b → b < w.heap.size) → (∀ b, bk v = some b → ¬ M b) → (∀ g cs, G g = some cs → RepF w (fun b => M b ∨ bk v = some b) (.pointer (some ⟨g, 0, none⟩)) cs) →
    RepL w (fun b => M b ∨ bk v = some b) us args → w.ownsRow 0 e sz v n xs → (∀ u ∈ xs, u.oneCell' = true) → RepL w (fun b => M b ∨ bk v = some b) xs cs →
    Calls P g (v :: us).toArray w fun en w' => ∃ v' xs', en = .returned v' ∧ w'.ownsRow 0 e sz v' n' xs' ∧ (∀ u ∈ xs', u.oneCell' = true) ∧ RepL w' (fun b => M b ∨ bk v' = some b) xs' cs' ∧ w.grownBy w' (bk v) ∧ ∀ c, bk v' = some c → bk v = some c ∨ w.heap.size ≤ c
theorem e_callM {o : Oper} {st : St} {f x0 : Operand} {args : Array Operand} {ars : List Operand} {ts : Array TypeId} {g i e sz n n' d : Nat} {cs cs' ys : List FV} (K : SummM C.P C.G g e sz n cs ys n' cs') (ho : o.op = .call { callee := .value f, args := args, argTypes := ts }) (hd : o.dst = some d) (hdN : dstB N o.dst = true) (hf : st.ev C f = .f (.fn g [])) (ha : args.toList = x0 :: ars) (hx : st.ev C x0 = .ow i) (hi : st.h i = some (.row e sz n cs)) (hxs : st.evL C ars = some ys) :
    EffOp C N o st ((st.grow i (.row e sz n' cs')).put (some d) (.ow i)) := by
  intro w0 a w ⟨J, S⟩ K1 Q hK
  have e1 := evF S hf
  have e2 := S.eval x0
  rw [hx] at e2
  obtain ⟨hlv, hv0⟩ := e2
  have R := evL_rep (st := st) (st' := st) S (fun x _ => rfl) hxs
  generalize hv : a.eval f = v at e1
  cases e1 with
  | fn _ _ us h1 h2 =>
    have hus : us = [] := List.eq_nil_of_length_eq_zero h1
    subst hus
    obtain ⟨xs, q1, q0, q2, q3⟩ := S.blk i _ hi
    have hrun := callEnter (w := w) K.enters ho hv
    rw [ha, List.append_nil, List.map_cons, hv0] at hrun
    have hMle : ∀ b, b < w.heap.size → ((Mb C st.h J b ∧ bk (J i) ≠ some b) ∨ bk (J i) = some b) → Mb C st.h J b := fun b _ h => h.elim (fun h => h.1) (fun h => .inr ⟨i, hlv, h⟩)
    have hM0 : ∀ b, C.M0 b → bk (J i) ≠ some b := fun b h0 hb => by
      have h1 := S.old b h0
      rcases (S.own_at hlv hb).1 with h2 | h2
      · omega
      · exact h1.2 h2
    refine op_enter hrun ?_
    refine Calls.mono (K.call w (fun b => Mb C st.h J b ∧ bk (J i) ≠ some b) _ (J i) xs (fun b h => S.mb h.1) (fun b hb h => h.2 hb) (fun g cs hg => (S.glob g cs hg).ext (Ext.refl _) hMle) (R.ext (Ext.refl _) hMle) q1 q2 (q3.ext (Ext.refl _) hMle)) ?_
    rintro en w' ⟨v', xs', rfl, r1, r2, r3, r4, r5⟩
    refine hK v' w' ⟨upd J i v', ?_⟩
    rw [hd] at hdN ⊢
    refine Sim.put (S.regrow (B := .row e sz n' cs') hlv r4 r5 ⟨xs', r1, fun b hb => ?_, r2, r3.mono (fun _ _ _ => rfl) (Nat.le_refl _) (fun b hb hm => ?_)⟩ rfl) hdN ⟨by simp [St.grow], by rw [upd_same]⟩
    · rcases r5 b hb with h | h
      · exact q0 b h
      · exact .inl (Nat.le_trans S.ext.le h)
    · rcases hm with h0 | ⟨j, hj, hjb⟩
      · exact .inl ⟨.inl h0, hM0 b h0⟩
      by_cases ej : j = i
      · subst ej; rw [upd_same] at hjb; exact .inr hjb
      · rw [upd_other _ _ ej] at hjb
        have hj' : (st.h j).isSome = true := by simpa [St.grow, killA_ne ej] using hj
        exact .inl ⟨.inr ⟨j, hj', hjb⟩, fun h => ej (S.apart j i b hj' hlv hjb h)⟩
def stM (e sz n : Nat) (cs args : List FV) : St := ⟨fun t => match t with | 0 => .ow 0 | t + 1 => (match args[t]? with | some x => .f x | none => .bot), fun i => match i with | 0 => some (.row e sz n cs) | _ => none, 1⟩
def RetM (_C : Ctx) (_N : Nat) (fn : Func) (e sz n : Nat) (cs : List FV) (st : St) : Prop := ∃ t, fn.results = #[.tmp t] ∧ st.s t = .ow 0 ∧ st.h 0 = some (.row e sz n cs)
def LeavesM (C : Ctx) (N : Nat) (fn : Func) (e sz n : Nat) (cs : List FV) : Exit → St → Prop
  | .normal, st => RetM C N fn e sz n cs st
  | .ret, st => RetM C N fn e sz n cs st
  | _, _ => False
theorem summM_of {P : Program} {G : Nat → Option FV} {f : Nat} {fn : Func} {c : Code} {e sz n n' : Nat} {cs cs' args : List FV} (hf : P.funcs[f]? = some fn) (hb : fn.body = some c) (hname : (fn.name == "runtime.NumGoroutine") = false) (N : Nat) (hn : fn.ntmps = N) (hl : args.length + 1 ≤ N)
    (h : ∀ M0 X : Nat → Prop, W ⟨P, G, M0, X, none, fun _ => none⟩ N c (LeavesM ⟨P, G, M0, X, none, fun _ => none⟩ N fn e sz n' cs') (stM e sz n cs args)) : SummM P G f e sz n cs args n' cs' := by
  refine ⟨enters_of hf hname hb, fun w M us v xs hM hMv hG R own one Rx => ?_⟩
  obtain ⟨X, hX⟩ : ∃ X : Nat → Prop, X = fun b => bk v = some b := ⟨_, rfl⟩
  have hMM : ∀ b, b < w.heap.size → Mb ⟨P, G, M, X, none, fun _ => none⟩ (stM e sz n cs args).h (fun _ => v) b → (M b ∨ bk v = some b) := fun b _ h => h.imp id (fun ⟨_, _, h⟩ => h)
  have hlive : ∀ i, ((stM e sz n cs args).h i).isSome = true → i = 0 := fun i hi => by
    cases i with
    | zero => rfl
    | succ i => simp [stM] at hi
  refine calls_of_wp_marks hf hb (wpIn_wide.1 ((h M X).out w _ w _ ⟨fun _ => v, Grew.refl _ _, ?_, ⟨trivial, fun _ => rfl⟩, fun t => ?_, fun i B hB => ?_, fun i j b hi hj _ _ => by rw [hlive i hi, hlive j hj], fun b hb => ⟨hM b hb, by rw [hX]; exact fun h => hMv b h hb⟩, fun g cs hg => (hG g cs hg).ext (Ext.refl _) hMM, fun _ _ _ h => (by cases h)⟩ ?_))
  · have := R.1; simp [hn]; omega
  · show RepA _ w _ _ (((v :: us).toArray ++ Array.replicate (fn.ntmps - (v :: us).toArray.size) undef).getD t undef) _
    cases t with
    | zero =>
      refine ⟨rfl, ?_⟩
      rw [Array.getD_eq_getD_getElem?, Array.getElem?_append_left (by simp)]
      simp
    | succ t =>
      show RepA _ w _ _ _ (match args[t]? with | some x => .f x | none => .bot)
      cases ha : args[t]? with
      | none => trivial
      | some x =>
        obtain ⟨u, hu, hr⟩ := R.get ha
        have hlt : t < us.length := (List.getElem?_eq_some_iff.1 hu).1
        have : ((v :: us).toArray ++ Array.replicate (fn.ntmps - (v :: us).toArray.size) undef).getD (t + 1) undef = u := by
          rw [Array.getD_eq_getD_getElem?, Array.getElem?_append_left (by simpa using hlt)]
          simp [hu]
        rw [this]
        exact hr.ext (Ext.refl _) hMM
  · have h0 : i = 0 := hlive i (by rw [hB]; rfl)
    subst h0
    have : B = .row e sz n cs := by simpa [stM] using hB.symm
    subst this
    exact ⟨xs, own, fun b hb => .inr (by rw [hX]; exact hb), one, Rx.ext (Ext.refl _) hMM⟩
  · intro en st' a' w' q S'
    have fin : RetM ⟨P, G, M, X, none, fun _ => none⟩ N fn e sz n' cs' st' → ∀ W', KeepsP Obj.stays w.heap.size w' W' → ∃ v1, (results fn a'.tmps).run P W' = .ok v1 W' ∧ ∃ v' xs', Ending.returned v1 = .returned v' ∧ W'.ownsRow 0 e sz v' n' xs' ∧ (∀ u ∈ xs', u.oneCell' = true) ∧ RepL W' (fun b => M b ∨ bk v' = some b) xs' cs' ∧ w.grownBy W' (bk v) ∧ ∀ c, bk v' = some c → bk v = some c ∨ w.heap.size ≤ c := fun ⟨t, q1, q2, q3⟩ W' hk => by
      obtain ⟨J, S1⟩ := S'
      have S2 := S1.keeps0 hk (Nat.le_refl _) (ds := []) ⟨trivial, fun _ => rfl⟩
      have hs := S2.slot t
      rw [q2] at hs
      obtain ⟨xs', p1, p0, p2, p3⟩ := S2.blk 0 _ q3
      refine ⟨a'.tmps.getD t undef, by rw [results_eq, q1]; simp [rvS], J 0, xs', by rw [← hs.2], p1, p2, p3.mono (fun _ _ _ => rfl) (Nat.le_refl _) (fun b _ h => h.imp id (fun h => ⟨0, by rw [q3]; rfl, h⟩)), ⟨S2.ext.os, S2.ext.tape, S2.ext.output, S2.ext.le, fun k hk hne => S2.ext.block k hk (by show ¬ X k; rw [hX]; exact fun h => hne h.symm)⟩, fun c hc => ?_⟩
      have := p0 c hc
      rw [show (Ctx.X ⟨P, G, M, X, none, fun _ => none⟩) = X from rfl, hX] at this
      exact this.symm
    have hm : Marks w.heap.size w' a'.defers := let ⟨_, S2⟩ := S'; S2.defs.1
    cases en with
    | normal => exact bodyPostM_marksP (s := Obj.stays) (fun _ => rfl) _ hm (fin q)
    | ret => exact bodyPostM_marksP (s := Obj.stays) (fun _ => rfl) _ hm (fin q)
    | _ => exact q.elim
variable {Q : Exit → St → Prop} {st : St} {ops : Array Oper} {pr : Bool} {K : St → Prop} {rest : List Oper}
theorem s_append_clip (ty : Ty C.P) {d : Option Tmp} {T0 : TypeId} {pos : String} {af : Array Edge} {T n m e sz bs : Nat} {x y : Operand} {cs ys : List FV} {zs : List Value} (hd : dstB N d = true) (hT : (ty.ty T).sl = some (e, sz, bs)) (hz : (ty.ty e).zero = some zs) (hzl : zs.length = sz) (hsz : Nat.blt 0 sz = true) (hx : st.ev C x = .f (.slc n cs)) (hy : st.ev C y = .f (.sl m ys)) (hm : Nat.blt 0 m = true) (hln : cs.length = n * sz) (hl : ys.length = m * sz) (h63 : n + m ≤ maxLen) (hbs : (n + m) * bs ≤ 140737488355328) (h : R C N ops pr K rest (st.put d (.f (.sl (n + m) (cs ++ ys))))) : R C N ops pr K (⟨d, .call { callee := .builtin .append, args := #[x, y], argTypes := #[T, T] }, T0, pos, af, none⟩ :: rest) st := ⟨r_val rfl (v_append_clip ty rfl hd hT hz hzl (Nat.le_of_ble_eq_true hsz) hx hy (Nat.le_of_ble_eq_true hm) hln hl h63 hbs) h.out⟩
theorem s_lookup {d : Option Tmp} {T0 : TypeId} {pos : String} {af : Array Edge} {T : TypeId} {x y : Operand} {ok : Bool} {G : Obj → Prop} {kf r : FV} {kv rv : Value} (hd : dstB N d = true) (hx : st.ev C x = .f (.mp G)) (hy : st.ev C y = .f kf) (hk : detF kf = some kv) (hrun : ∀ ob r w, G ob → w.heap[r]? = some ob → (Instr.lookup T (.map (some r)) kv ok).run C.P w = .ok rv w) (hr : ∀ w M, RepF w M rv r) (h : R C N ops pr K rest (st.put d (.f r))) : R C N ops pr K (⟨d, .lookup T x y ok, T0, pos, af, none⟩ :: rest) st := ⟨r_val rfl (v_lookup rfl hd hx hy hk hrun hr) h.out⟩
theorem s_storeR (ty : Ty C.P) {T0 : TypeId} {pos : String} {af : Array Edge} {T i off e sz n : Nat} {x y : Operand} {cs ys : List FV} {z : FV} (hx : st.ev C x = .bx i off) (hi : st.h i = some (.row e sz n cs)) (hy : st.ev C y = .f z) (hc : cellsF z = some ys) (hT : sizeB (ty.ty T) ys.length = true) (hl : off + ys.length ≤ cs.length) (h : R C N ops false K rest { st with h := upd st.h i (some (.row e sz n (setAt cs off ys))) }) : R C N ops false K (⟨none, .store T x y, T0, pos, af, none⟩ :: rest) st := ⟨r_eff rfl (e_storeR ty rfl rfl hx hi hy hc hT hl) h.out⟩
theorem s_callN {d : Option Tmp} {T0 : TypeId} {pos : String} {af : Array Edge} {f : Operand} {args : Array Operand} {ts : Array TypeId} {gf e sz n : Nat} {caps xs ys cs : List FV} (S : SummN C.P C.G gf ys e sz n cs) (hd : dstB N d = true) (hn : st.h st.nx = none) (hf : st.ev C f = .f (.fn gf caps)) (hxs : st.evL C args.toList = some xs) (hys : xs ++ caps = ys) (h : R C N ops pr K rest ⟨(st.put d (.ow st.nx)).s, upd st.h st.nx (some (.row e sz n cs)), st.nx + 1⟩) : R C N ops pr K (⟨d, .call { callee := .value f, args := args, argTypes := ts }, T0, pos, af, none⟩ :: rest) st := ⟨r_all rfl rfl hn (a_callN S rfl hd hf hxs hys) h.out⟩
theorem s_callM {d : Nat} {T0 : TypeId} {pos : String} {af : Array Edge} {f x0 : Operand} {args : Array Operand} {ars : List Operand} {ts : Array TypeId} {g i e sz n n' : Nat} {cs cs' ys : List FV} (S : SummM C.P C.G g e sz n cs ys n' cs') (hd : dstB N (some d) = true) (hf : st.ev C f = .f (.fn g [])) (ha : args.toList = x0 :: ars) (hx : st.ev C x0 = .ow i) (hi : st.h i = some (.row e sz n cs)) (hxs : st.evL C ars = some ys) (h : R C N ops false K rest ((st.grow i (.row e sz n' cs')).put (some d) (.ow i))) : R C N ops false K (⟨some d, .call { callee := .value f, args := args, argTypes := ts }, T0, pos, af, none⟩ :: rest) st := ⟨r_eff rfl (e_callM S rfl rfl hd hf ha hx hi hxs) h.out⟩
theorem s_clip (ty : Ty C.P) {d : Option Tmp} {T0 : TypeId} {pos : String} {af : Array Edge} {T E s bs : Nat} {x y z : Operand} {cs : List FV} {n : Nat} {k k' : IntKind} (hd : dstB N d = true) (hT : (ty.ty T).sl = some (E, s, bs)) (hx : st.ev C x = .f (.sl n cs)) (hy : st.ev C y = .f (.v (.int k n))) (hz : st.ev C z = .f (.v (.int k' n))) (hs : Nat.blt 0 s = true) (hl : cs.length = n * s) (h : R C N ops pr K rest (st.put d (.f (.slc n cs)))) : R C N ops pr K (⟨d, .slice T x none (some y) (some z), T0, pos, af, none⟩ :: rest) st := ⟨r_val rfl (v_clip ty rfl hd hT hx hy hz (Nat.le_of_ble_eq_true hs) hl) h.out⟩
theorem s_ghost {o : Oper} {st' : St} (hg : o.guard = none) (g : Gh C N st st') (h : R C N ops false K (o :: rest) st') : R C N ops false K (o :: rest) st := by
  refine ⟨?_⟩
  obtain ⟨st2, h1, h2⟩ := h.out
  have hw1 : wantB st ops o = some true := by unfold wantB; simp [hg]
  cases h1 with
  | val r hw hv => exact ⟨_, .eff _ rfl hw1 (fun w0 a w S K1 Q hK => hv w0 a w st' (agree_refl o st') (g w0 a w S) K1 Q hK), h2⟩
  | all r B hw _ hv hn => exact ⟨_, .eff _ rfl hw1 (fun w0 a w S K1 Q hK => hv w0 a w st' (agree_refl o st') hn (g w0 a w S) K1 Q (fun v w' h => hK v w' h.nx)), h2⟩
  | skip hw hd => unfold wantB at hw; simp [hg] at hw
  | stay k B hw hv hk _ => exact ⟨_, .eff _ rfl hw1 (fun w0 a w S K1 Q hK => hv.2 w0 a w st' (agree_refl o st') hk (g w0 a w S) K1 Q hK), h2⟩
  | eff st1 _ hw hv => exact ⟨_, .eff _ rfl hw1 (fun w0 a w S K1 Q hK => hv w0 a w (g w0 a w S) K1 Q hK), h2⟩
theorem ret_gh {fn : Func} {r : FV} {st' : St} (g : Gh C N st st') (h : RetOk C N fn r st') : RetOk C N fn r st := fun w0 a w S => h w0 a w (g w0 a w S)
theorem le_nil {h : Nat → Option Blk} (s : Nat → AV) : ∀ t, (fun _ : Nat => AV.bot) t = .bot ∨ ((fun _ : Nat => AV.bot) t = s t ∧ closedA h ((fun _ : Nat => AV.bot) t)) := fun _ => .inl rfl
theorem le_upd {h : Nat → Option Blk} {s s' : Nat → AV} {k : Nat} {a : AV} (ha : a = s k) (hc : closedA h a) (hr : ∀ t, s' t = .bot ∨ (s' t = s t ∧ closedA h (s' t))) : ∀ t, upd s' k a t = .bot ∨ (upd s' k a t = s t ∧ closedA h (upd s' k a t)) := fun t => by
  by_cases e : t = k
  · subst e; rw [upd_same]; exact .inr ⟨ha, hc⟩
  · rw [upd_other _ _ e]; exact hr t
theorem le_h0 (h : Nat → Option Blk) (hc : Nat → Option Blk) : ∀ i, (fun _ : Nat => (none : Option Blk)) i = none ∨ (∃ B, (fun _ : Nat => (none : Option Blk)) i = some B ∧ h i = some B ∧ closedB hc B) := fun _ => .inl rfl
theorem le_hupd {h h' hc : Nat → Option Blk} {k : Nat} {B : Blk} (hB : h k = some B) (hcl : closedB hc B) (hr : ∀ i, h' i = none ∨ (∃ B, h' i = some B ∧ h i = some B ∧ closedB hc B)) : ∀ i, upd h' k (some B) i = none ∨ (∃ B', upd h' k (some B) i = some B' ∧ h i = some B' ∧ closedB hc B') := fun i => by
  by_cases e : i = k
  · subst e; rw [upd_same]; exact .inr ⟨B, rfl, hB, hcl⟩
  · rw [upd_other _ _ e]; exact hr i
theorem flat_ne {α : Type} {f : α → List FV} {s : Nat} (hs : ∀ x, (f x).length = s) (h0 : 0 < s) {l : List α} {k : Nat} (hk : k < l.length) : l.flatMap f ≠ [] := fun e => by
  have := flatMap_length hs l
  rw [e] at this
  have hp : 0 < l.length * s := Nat.mul_pos (by omega) h0
  simp at this; omega
theorem flat_at {α : Type} {f : α → List FV} {s : Nat} (hs : ∀ x, (f x).length = s) {l : List α} {k j : Nat} (hk : k < l.length) (hj : j < s) : (l.flatMap f)[k * s + j]? = (f l[k])[j]? := flatMap_getElem? hs l k j hk hj
theorem flat_sub {α : Type} {f : α → List FV} {s : Nat} (hs : ∀ x, (f x).length = s) {l : List α} {k : Nat} (hk : k < l.length) : ((l.flatMap f).drop (k * s)).take s = f l[k] := by
  refine List.ext_getElem? fun j => ?_
  rw [List.getElem?_take]
  split
  · rename_i hj; rw [List.getElem?_drop, flat_at hs hk hj]
  · rename_i hj; rw [List.getElem?_eq_none (by rw [hs]; omega)]
theorem map_ne {α : Type} {f : α → FV} {l : List α} {k : Nat} (hk : k < l.length) : l.map f ≠ [] := fun e => by
  have := congrArg List.length e
  simp at this; rw [this] at hk; simp at hk
theorem map_at {α : Type} {f : α → FV} {l : List α} {k : Nat} (hk : k < l.length) : (l.map f)[k * 1]? = some (f l[k]) := by rw [Nat.mul_one]; simp [hk]
theorem s_idxN (ty : Ty C.P) {d : Option Tmp} {T0 : TypeId} {pos : String} {af : Array Edge} {T : TypeId} {x y : Operand} {cs : List FV} {n E s bs m : Nat} {k : IntKind} (hd : dstB N d = true) (hT : (ty.ty T).sl = some (E, s, bs)) (hx : st.ev C x = .f (.sl n cs)) (hy : st.ev C y = .f (.v (.int k (m : Int)))) (hn : m < n) (hc : cs ≠ []) (h : R C N ops pr K rest (st.put d (.f (.pt cs (m * s))))) : R C N ops pr K (⟨d, .indexAddr T x y, T0, pos, af, none⟩ :: rest) st := s_idx ty hd hT hx hy (by omega) (by omega) hc (by simpa using h)
theorem s_idxN_ow (ty : Ty C.P) {d : Option Tmp} {T0 : TypeId} {pos : String} {af : Array Edge} {T : TypeId} {x y : Operand} {cs : List FV} {i n e sz E s bs m : Nat} {k : IntKind} (hd : dstB N d = true) (hT : (ty.ty T).sl = some (E, s, bs)) (hx : st.ev C x = .ow i) (hi : st.h i = some (.row e sz n cs)) (hy : st.ev C y = .f (.v (.int k (m : Int)))) (hn : m < n) (h : R C N ops pr K rest (st.put d (.bx i (m * s)))) : R C N ops pr K (⟨d, .indexAddr T x y, T0, pos, af, none⟩ :: rest) st := s_idx_ow ty hd hT hx hi hy (by omega) (by omega) (by simpa using h)
end
end Go.Ab
namespace Go.Ab
open Go Go.RowKit Go.Shelf Go.Proofs
section
variable {C : Ctx} {N : Nat}
theorem v_bslice_clip {o : Oper} {st : St} {T len E s bs : Nat} {parts : Array (Nat × Operand)} {zs : List Value} {xs : List (Nat × FV)} {cs : List FV} (ty : Ty C.P) (ho : o.op = .buildSlice T len parts) (hd : dstB N o.dst = true)
    (hT : (ty.ty T).sl = some (E, s, bs)) (hz : (ty.ty E).zero = some zs) (hs : len * s ≤ 16777216) (hp : st.evP C parts.toList = some xs) (hf : fillF (fun i => some (i * s, s)) (initF zs (len * s)) xs = some cs) : ValOp C N o st (.f (.slc len cs)) :=
  valop_run hd fun w0 a w J st' hA S => by
    obtain ⟨q1, q2⟩ := evP_rep (st := st) S (fun x hx => hA.ev x.2 (by simp only [ho, Op.operands]; simp; exact ⟨x.1, by simpa using hx⟩)) hp
    have h1 := (ty.ok E).one zs hz
    obtain ⟨it, z, hi, hzz, hzl⟩ := zero_spec ((ty.ok E).zero zs hz)
    obtain ⟨us, r1, r2, r3⟩ := fill_of (M := Mb C st'.h J) (w := w) (fun i => some (i * s, s)) (parts.toList.map fun p => (p.1, a.eval p.2)) xs (madeCells z.cells (len * s)) (initF zs (len * s)) cs (by rw [← hzl]; exact made_rep _ _) (made_one _ _ (by rw [hzl]; exact h1)) q1 q2 hf
    have hrun := run_buildSlice (w := w) (len := len) (parts := parts.map fun (i, x) => (i, a.eval x)) (us := us) ((ty.ok T).sl _ hT) ((ty.ok E).zero zs hz) hs (fun z' hz' => by
      have e : z'.cells = z.cells := Array.ext' (by rw [hz', hzl])
      rw [e, Array.toList_map]; exact r1)
    refine ⟨_, _, by simp only [execOp, ho, Sem.run_bind]; rw [hrun]; rfl, Ext.alloc _ _, ?_⟩
    have R := r2.ext (Ext.alloc w (.cells us E)) (M' := Mb C st'.h J) (fun _ _ h => h)
    have L := lies_new (w := w) (mb_lt S) us.toList E
    simp only [Array.toArray_toList] at L
    exact RepF.slc _ len cs us.toList R.1 (fun h => by cases h) r3 (fun _ => ⟨_, _, rfl, L⟩) R.2
theorem run_append_no (P : Program) (w : World) (t ty e : TypeId) (i : TypeInfo) (ht : P.underlying t = some (.slice e)) (hi : P.info? e = some i) (base ad : Option Addr) (n c k : Nat) (hn : n ≤ k) :
    (Builtin.append_ #[t, t] ty #[.slice base n k, .slice ad 0 c]).run P w = .ok (.slice base n k) w := by
  cases base <;> cases ad <;> simp [Builtin.append_, run_underlying ht, sizeOf, typeInfo, hi, Builtin.lenOf, Builtin.firstCells, storeCells, hn, loadCells, loadCellsFrom]
theorem v_append_cl {o : Oper} {st : St} {T n m e sz bs : Nat} {x y : Operand} {cs ys : List FV} {zs : List Value} (ty : Ty C.P) (ho : o.op = .call { callee := .builtin .append, args := #[x, y], argTypes := #[T, T] }) (hd : dstB N o.dst = true)
    (hT : (ty.ty T).sl = some (e, sz, bs)) (hz : (ty.ty e).zero = some zs) (hzl : zs.length = sz) (hsz : 0 < sz) (hx : st.ev C x = .f (.slc n cs)) (hy : st.ev C y = .f (.sl m ys)) (hln : cs.length = n * sz) (hl : ys.length = m * sz)
    (h63 : n + m ≤ maxLen) (hbs : (n + m) * bs ≤ 140737488355328) : ValOp C N o st (.f (.sl (n + m) (cs ++ ys))) := by
  by_cases hm : 0 < m
  · exact v_append_clip ty ho hd hT hz hzl hsz hx hy hm hln hl h63 hbs
  have hm0 : m = 0 := by omega
  subst hm0
  have hy0 : ys = [] := List.eq_nil_of_length_eq_zero (by simpa using hl)
  subst hy0
  refine valop_run hd fun w0 a w J st' hA S => ?_
  have e1 := evF S ((hA.ev x (by simp [ho, Op.operands, Call.operands])).trans hx)
  have e2 := evF S ((hA.ev y (by simp [ho, Op.operands, Call.operands])).trans hy)
  obtain ⟨hu, it, hi1, hi2, hi3⟩ := slE_spec ((ty.ok T).sl _ hT)
  generalize hxv : a.eval x = xv at e1
  generalize hyv : a.eval y = yv at e2
  cases e1 with
  | slc ad1 _ _ vs o1 o1' o2 o3 o4 =>
  cases e2 with
  | sl ad _ c _ us p0 p1 p2 p3 p4 =>
    refine ⟨.slice ad1 n n, w, ?_, Ext.refl _, ?_⟩
    · simp only [execOp, ho, resolve, invoke, builtin, Sem.run_bind, Sem.run_pure, Result.andThen_ok, List.map_toArray, List.map_cons, List.map_nil, hxv, hyv, run_append_no C.P w T o.type e it hu hi1 ad1 ad n c n (Nat.le_refl _)]
    · rw [List.append_nil]
      exact RepF.sl ad1 n n cs vs (Nat.le_refl _) o1 o2 o3 o4
variable {Q : Exit → St → Prop} {st : St} {ops : Array Oper} {pr : Bool} {K : St → Prop} {rest : List Oper}
theorem s_bslice_clip (ty : Ty C.P) {d : Option Tmp} {T0 : TypeId} {pos : String} {af : Array Edge} {T len E s bs : Nat} {parts : Array (Nat × Operand)} {zs : List Value} {xs : List (Nat × FV)} {cs : List FV} (hd : dstB N d = true) (hT : (ty.ty T).sl = some (E, s, bs)) (hz : (ty.ty E).zero = some zs) (hs : Nat.ble (len * s) 16777216 = true) (hp : st.evP C parts.toList = some xs) (hf : fillF (fun i => some (i * s, s)) (initF zs (len * s)) xs = some cs) (h : R C N ops pr K rest (st.put d (.f (.slc len cs)))) : R C N ops pr K (⟨d, .buildSlice T len parts, T0, pos, af, none⟩ :: rest) st := ⟨r_val rfl (v_bslice_clip ty rfl hd hT hz (Nat.le_of_ble_eq_true hs) hp hf) h.out⟩
theorem s_append_cl (ty : Ty C.P) {d : Option Tmp} {T0 : TypeId} {pos : String} {af : Array Edge} {T n m e sz bs : Nat} {x y : Operand} {cs ys : List FV} {zs : List Value} (hd : dstB N d = true) (hT : (ty.ty T).sl = some (e, sz, bs)) (hz : (ty.ty e).zero = some zs) (hzl : zs.length = sz) (hsz : Nat.blt 0 sz = true) (hx : st.ev C x = .f (.slc n cs)) (hy : st.ev C y = .f (.sl m ys)) (hln : cs.length = n * sz) (hl : ys.length = m * sz) (h63 : n + m ≤ maxLen) (hbs : (n + m) * bs ≤ 140737488355328) (h : R C N ops pr K rest (st.put d (.f (.sl (n + m) (cs ++ ys))))) : R C N ops pr K (⟨d, .call { callee := .builtin .append, args := #[x, y], argTypes := #[T, T] }, T0, pos, af, none⟩ :: rest) st := ⟨r_val rfl (v_append_cl ty rfl hd hT hz hzl (Nat.le_of_ble_eq_true hsz) hx hy hln hl h63 hbs) h.out⟩
theorem s_append_copy (ty : Ty C.P) {d : Option Tmp} {T0 : TypeId} {pos : String} {af : Array Edge} {T m e sz bs : Nat} {x y : Operand} {ys : List FV} {zs : List Value} (hd : dstB N d = true) (hT : (ty.ty T).sl = some (e, sz, bs)) (hz : (ty.ty e).zero = some zs) (hzl : zs.length = sz) (hsz : Nat.blt 0 sz = true) (hx : st.ev C x = .f (.slc 0 [])) (hy : st.ev C y = .f (.sl m ys)) (hl : ys.length = m * sz) (h63 : m ≤ maxLen) (hbs : m * bs ≤ 140737488355328) (h : R C N ops pr K rest (st.put d (.f (.sl m ys)))) : R C N ops pr K (⟨d, .call { callee := .builtin .append, args := #[x, y], argTypes := #[T, T] }, T0, pos, af, none⟩ :: rest) st := by
  refine s_append_cl ty hd hT hz hzl hsz hx hy (by simp) hl (by omega) (by rw [Nat.zero_add]; exact hbs) ?_
  rw [Nat.zero_add]; exact h
end
end Go.Ab
namespace Go.Ab
open Go Go.RowKit Go.Shelf Go.Proofs
def Opens (P : Program) (w : World) (T : TypeId) {α : Type} (f : α → List FV) : Prop :=
  ∀ (H : Type) (enc : TypeId × Value → H) (base : Nat) (sp : Nat → Bool) (hd : Bool) (fuel : Nat) (cs : List Value) (x : DataW H × List MemPlace), DataW.trod enc P w base sp hd fuel T cs = some x → ∃ a : α, RepL w (fun _ => False) cs (f a) ∧ ∀ u ∈ cs, u.oneCell' = true
section
variable {P : Program} {w : World}
theorem repL_one {M : Nat → Prop} {u : Value} {x : FV} (h : RepF w M u x) : RepL w M [u] [x] := RepL.cons h (RepL.nil _ _)
theorem Opens.map {T : TypeId} {α β : Type} {f : α → List FV} {g : β → List FV} (h : Opens P w T f) (k : α → β) (e : ∀ a, f a = g (k a)) : Opens P w T g := fun H enc base sp hd fuel cs x hx => by
  obtain ⟨a, h1, h2⟩ := h H enc base sp hd fuel cs x hx
  exact ⟨k a, e a ▸ h1, h2⟩
theorem exists_fun {α : Type} (p : Nat → α → Prop) : ∀ n, (∀ i, i < n → ∃ a, p i a) → ∃ l : List α, l.length = n ∧ ∀ i (h : i < l.length), p i l[i]
  | 0, _ => ⟨[], rfl, fun i h => absurd h (Nat.not_lt_zero i)⟩
  | n + 1, h => by
    obtain ⟨l, h1, h2⟩ := exists_fun p n (fun i hi => h i (by omega))
    obtain ⟨a, ha⟩ := h n (by omega)
    refine ⟨l ++ [a], by simp [h1], fun i hi => ?_⟩
    by_cases e : i < l.length
    · rw [List.getElem_append_left e]; exact h2 i e
    · have e2 : i = l.length := by simp at hi; omega
      subst e2
      rw [List.getElem_append_right (Nat.le_refl _)]
      simp only [Nat.sub_self, List.getElem_cons_zero]
      rw [h1]; exact ha
theorem RepL.flat {M : Nat → Prop} {α : Type} {f : α → List FV} : ∀ {css : List (List Value)} {l : List α}, css.length = l.length → (∀ i (h : i < css.length) (h' : i < l.length), RepL w M css[i] (f l[i])) → RepL w M css.flatten (l.flatMap f)
  | [], [], _, _ => RepL.nil _ _
  | c :: css, a :: l, hl, h => by
    rw [List.flatten_cons, List.flatMap_cons]
    exact RepL.append (h 0 (by simp) (by simp)) (RepL.flat (by simpa using hl) fun i h1 h2 => h (i + 1) (by simpa using h1) (by simpa using h2))
  | [], _ :: _, hl, _ => by simp at hl
  | _ :: _, [], hl, _ => by simp at hl
theorem flatten_at {α : Type} {s : Nat} : ∀ {css : List (List α)} (_hs : ∀ c ∈ css, c.length = s) {i j : Nat} (hi : i < css.length) (_hj : j < s), css.flatten[i * s + j]? = css[i][j]?
  | c :: css, hs, 0, j, _, hj => by
    rw [List.flatten_cons, Nat.zero_mul, Nat.zero_add, List.getElem?_append_left (by rw [hs c (by simp)]; exact hj)]; rfl
  | c :: css, hs, i + 1, j, hi, hj => by
    have hc := hs c (by simp)
    rw [List.flatten_cons, List.getElem?_append_right (by rw [hc, Nat.succ_mul]; omega), hc, show (i + 1) * s + j - s = i * s + j by rw [Nat.succ_mul]; omega]
    exact flatten_at (fun c h => hs c (by simp [h])) (by simpa using hi) hj
theorem flatten_len {α : Type} {s : Nat} : ∀ {css : List (List α)} (_ : ∀ c ∈ css, c.length = s), css.flatten.length = css.length * s
  | [], _ => by simp
  | c :: css, hs => by rw [List.flatten_cons, List.length_append, hs c (by simp), flatten_len (fun c h => hs c (by simp [h])), List.length_cons, Nat.succ_mul]; omega
theorem opens_sl {T E s : TypeId} {α : Type} {f : α → List FV} (ht : P.underlying T = some (.slice E)) (hc : P.cellsOf E = s) (h0 : 0 < s) (h : Opens P w E f) : Opens P w T (fun l : List α => [.sl l.length (l.flatMap f)]) := fun H enc base sp hd fuel cs x hx => by
  rcases Go.Deep.open_slice ht hx with ⟨rfl, _⟩ | ⟨a, len, cap, m, n, D, Pl, rfl, hb, hl, hm, hmm, _, hel⟩
  · refine ⟨[], repL_one ?_, by simp [Value.oneCell']⟩
    exact RepF.sl none 0 0 [] [] (Nat.le_refl _) rfl (fun u hu => by simp at hu) (fun hn => absurd rfl hn) (fun k u x h => by simp at h)
  · have hlm : len ≤ m := by rw [hmm]; split <;> omega
    rw [hc] at hel
    obtain ⟨css, hcl, hcs⟩ := exists_fun (fun i (c : List Value) => w.cells? base (a.add (i * s)) s = some c ∧ ∃ a : α, RepL w (fun _ => False) c (f a) ∧ ∀ u ∈ c, u.oneCell' = true) len (fun i hi => by
      obtain ⟨c, h1, h2⟩ := hel i (by omega)
      exact ⟨c, h1, h H enc base sp hd n c _ h2⟩)
    obtain ⟨l, hll, hl2⟩ := exists_fun (fun i (b : α) => ∀ (hi : i < css.length), RepL w (fun _ => False) css[i] (f b)) len (fun i hi => by
      obtain ⟨b, h1, _⟩ := (hcs i (by omega)).2
      exact ⟨b, fun _ => h1⟩)
    have hsz : ∀ c ∈ css, c.length = s := fun c hcm => by
      obtain ⟨i, hi, rfl⟩ := List.getElem_of_mem hcm
      exact (World.cells?_some (hcs i hi).1).2.1
    have R : RepL w (fun _ => False) css.flatten (l.flatMap f) := RepL.flat (by omega) fun i h1 h2 => hl2 i h2 h1
    refine ⟨l, repL_one ?_, by simp [Value.oneCell']⟩
    have key : RepF w (fun _ => False) (.slice (some a) len cap) (.sl len (l.flatMap f)) := by
      refine RepF.sl (some a) len cap _ css.flatten hl R.1 (fun u hu => ?_) (fun hn => ?_) R.2
      · obtain ⟨c, hcm, huc⟩ := List.mem_flatten.1 hu
        obtain ⟨i, hi, rfl⟩ := List.getElem_of_mem hcm
        obtain ⟨_, _, h2⟩ := (hcs i hi).2
        exact h2 u huc
      · have hlen0 : 0 < css.length := by
          cases css with
          | nil => exact absurd rfl hn
          | cons c r => simp
        obtain ⟨b, off, spot⟩ := a
        have h00 := (World.cells?_some (hcs 0 hlen0).1).2.2 0 h0
        have hsp : spot = none := by
          rw [List.getElem?_eq_getElem (by rw [hsz _ (List.getElem_mem hlen0)]; exact h0)] at h00
          simp only [Nat.zero_mul, Addr.add, if_true] at h00
          unfold World.cell? at h00
          cases spot with
          | none => rfl
          | some q => split at h00 <;> simp at h00
        subst hsp
        refine ⟨b, off, rfl, ?_, fun h => h, fun k hk => ?_⟩
        · rw [List.getElem?_eq_getElem (by rw [hsz _ (List.getElem_mem hlen0)]; exact h0)] at h00
          simp only [Nat.zero_mul, Addr.add, if_true] at h00
          unfold World.cell? at h00
          by_cases hbl : b < w.heap.size
          · exact hbl
          · have hnone : w.heap[b]? = none := Array.getElem?_eq_none (Nat.le_of_not_lt hbl)
            simp [hnone] at h00
        · rw [flatten_len hsz] at hk
          have hi : k / s < css.length := Nat.div_lt_of_lt_mul (by rw [Nat.mul_comm]; exact hk)
          have hj : k % s < s := Nat.mod_lt _ h0
          have e : k / s * s + k % s = k := by rw [Nat.mul_comm]; exact Nat.div_add_mod k s
          have h1 := (World.cells?_some (hcs (k / s) hi).1).2.2 (k % s) hj
          have h2 := flatten_at hsz hi hj
          rw [e] at h2
          rw [Go.Deep.add_add, e, addr_add] at h1
          rw [h1, h2]
    rw [hll]; exact key
theorem arg_agg {H : Type} {enc : TypeId × Value → H} {base : Nat} {sp : Nat → Bool} {hd : Bool} {T : TypeId} {α : Type} {f : α → List FV} {v : Value} {d : DataW H} {ps : List MemPlace} (h : Opens P w T f) {cs : Array Value} (hv : v = .agg cs) (ht : DataW.Trod enc P w base sp hd T v d ps) : ∃ a, RepF w (fun _ => False) v (.agg (f a)) := by
  subst hv
  obtain ⟨fuel, hf⟩ := ht
  obtain ⟨a, R, one⟩ := h H enc base sp hd fuel _ _ hf
  exact ⟨a, by
    have := RepF.agg (w := w) (M := fun _ => False) (f a) cs.toList R.1 one R.2
    simpa using this⟩
end
end Go.Ab
namespace Go.Ab
open Go Go.RowKit Go.Shelf Go.Proofs
section
variable {C : Ctx} {N : Nat}
theorem run_idxA {P : Program} {T E b off n s : Nat} {k : IntKind} {z : Int} {i : TypeInfo} {w : World} (hu : P.underlying T = some (.array n E)) (hi : P.info? E = some i) (hs : i.size = s) (h0 : 0 ≤ z) (hn : z < n) :
    (Instr.indexAt T (.pointer (some ⟨b, off, none⟩)) (.int k z)).run P w = .ok (.pointer (some ⟨b, off + z.toNat * s, none⟩)) w := by
  subst hs
  simp [Instr.indexAt, asIntOf, run_underlying hu, h0, hn, sizeOf, typeInfo, hi, addr_add, Instr.sureAddr]
theorem v_idxA {o : Oper} {st : St} {T E n s q : Nat} {x y : Operand} {cs : List FV} {k : IntKind} {z : Int} {i : TypeInfo} (ho : o.op = .indexAddr T x y) (hd : dstB N o.dst = true) (hu : C.P.underlying T = some (.array n E)) (hi : C.P.info? E = some i) (hs : i.size = s)
    (hx : st.ev C x = .f (.pt cs q)) (hy : st.ev C y = .f (.v (.int k z))) (h0 : 0 ≤ z) (hn : z < n) : ValOp C N o st (.f (.pt cs (q + z.toNat * s))) :=
  valop_run hd fun w0 a w J st' hA S => by
    have e1 := evF S ((hA.ev x (by simp [ho, Op.operands])).trans hx)
    have e2 := evV S ((hA.ev y (by simp [ho, Op.operands])).trans hy)
    generalize hv : a.eval x = v at e1
    cases e1 with
    | pt b off _ _ us h1 h2 h3 h4 =>
      refine ⟨.pointer (some ⟨b, off + q + z.toNat * s, none⟩), w, by simp [execOp, ho, hv, e2, run_idxA hu hi hs h0 hn], Ext.refl _, ?_⟩
      rw [Nat.add_assoc]
      exact RepF.pt b off _ _ us h1 h2 h3 h4
variable {Q : Exit → St → Prop} {st : St} {ops : Array Oper} {pr : Bool} {K : St → Prop} {rest : List Oper}
theorem s_idxA {d : Option Tmp} {T0 : TypeId} {pos : String} {af : Array Edge} {T E n s q : Nat} {x y : Operand} {cs : List FV} {k : IntKind} {z : Int} {i : TypeInfo} (hu : C.P.underlying T = some (.array n E)) (hi : C.P.info? E = some i) (hs : i.size = s) (hd : dstB N d = true) (hx : st.ev C x = .f (.pt cs q)) (hy : st.ev C y = .f (.v (.int k z))) (h0 : 0 ≤ z) (hn : z < n) (h : R C N ops pr K rest (st.put d (.f (.pt cs (q + z.toNat * s))))) : R C N ops pr K (⟨d, .indexAddr T x y, T0, pos, af, none⟩ :: rest) st := ⟨r_val rfl (v_idxA rfl hd hu hi hs hx hy h0 hn) h.out⟩
end
end Go.Ab
namespace Go.Ab
open Go Go.RowKit Go.Shelf Go.Proofs
section
variable {C : Ctx} {N : Nat} {Q : Exit → St → Prop} {st : St} {ops : Array Oper} {pr : Bool} {K : St → Prop} {rest : List Oper}
theorem ndT {p : Prop} [Decidable p] (h : ¬ p) : (!decide p) = true := by simp [h]
end
end Go.Ab
namespace Go.Ab
open Go Go.RowKit Go.Shelf Go.Proofs
section
variable {C : Ctx} {N : Nat} {st : St}
def aLoad (C : Ctx) (ty : TyD) (st : St) (x : Operand) : Option AV := match st.ev C x with
  | .f (.pt cs off) => match ty.scal with
    | true => match cs[off]? with
      | some c => some (.f c)
      | none => none
    | false => match ty.agg with
      | some n => match Nat.beq ((cs.drop off).take n).length n with
        | true => some (.f (.agg ((cs.drop off).take n)))
        | false => none
      | none => none
  | .bx i off => match st.h i with
    | some (.box cs) => match ty.scal with
      | true => cs[off]?
      | false => match ty.agg with
        | some n => match unL ((cs.drop off).take n) with
          | some sub => match Nat.beq sub.length n with
            | true => some (.f (.agg sub))
            | false => none
          | none => none
        | none => none
    | some (.row _ _ _ cs) => match ty.scal with
      | true => match cs[off]? with
        | some c => some (.f c)
        | none => none
      | false => none
    | _ => none
  | _ => none
theorem aLoad_ok {o : Oper} {T : TypeId} {x : Operand} {r : AV} (ty : Ty C.P) (ho : o.op = .load T x) (hd : dstB N o.dst = true) (h : aLoad C (ty.ty T) st x = some r) : ValOp C N o st r := by
  unfold aLoad at h
  split at h
  · rename_i cs off hx
    split at h
    · rename_i hT
      split at h
      · rename_i c hc
        cases h; exact v_load_pt ty ho hd hT hx hc
      · cases h
    · split at h
      · rename_i n hn
        split at h
        · rename_i hb
          cases h; exact v_load_pts ty ho hd hn hx rfl (Nat.eq_of_beq_eq_true hb)
        · cases h
      · cases h
  · rename_i i off hx
    split at h
    · rename_i cs hi
      split at h
      · rename_i hT
        exact v_load_bx ty ho hd hT hx hi h
      · split at h
        · rename_i n hn
          split at h
          · rename_i sub hs
            split at h
            · rename_i hb
              cases h; exact v_load_bxs ty ho hd hn hx hi (unL_spec hs) (Nat.eq_of_beq_eq_true hb)
            · cases h
          · cases h
        · cases h
    · rename_i cs hi
      split at h
      · rename_i hT
        split at h
        · rename_i c hc
          cases h; exact v_load_row ty ho hd hT hx hi hc
        · cases h
      · cases h
    · cases h
  · cases h
def aFld (C : Ctx) (ty : TyD) (st : St) (x : Operand) (f : Nat) : Option AV := match ty.fld[f]? with
  | some fo => match st.ev C x with
    | .f (.pt cs off) => some (.f (.pt cs (off + fo)))
    | .bx i off => some (.bx i (off + fo))
    | _ => none
  | none => none
theorem aFld_ok {o : Oper} {T f : Nat} {x : Operand} {r : AV} (ty : Ty C.P) (ho : o.op = .fieldAddr T x f) (hd : dstB N o.dst = true) (h : aFld C (ty.ty T) st x f = some r) : ValOp C N o st r := by
  unfold aFld at h
  split at h
  · rename_i fo hf
    split at h
    · rename_i cs off hx
      cases h; exact v_fld_pt ty ho hd hf hx
    · rename_i i off hx
      cases h; exact v_fld_bx ty ho hd hf hx
    · cases h
  · cases h
def aMv : AV → Option AV
  | .f (.v x) => some (.f (.v x))
  | .f (.sl n cs) => some (.f (.sl n cs))
  | .f (.pt cs o) => some (.f (.pt cs o))
  | .f (.agg cs) => some (.f (.agg cs))
  | .f y => some (.f y)
  | .bx i o => some (.bx i o)
  | .ow i => some (.ow i)
  | .bot => some .bot
  | .sv i off n => some (.sv i off n)
  | .ag l => some (.ag l)
  | .tp l => some (.tp l)
  | .fb f l => some (.fb f l)
theorem aMv_eq : ∀ a : AV, aMv a = some a := fun a => by
  unfold aMv; split <;> rfl
def aPick (C : Ctx) (st : St) (c x y : Operand) : Option AV := match st.ev C c with
  | .f (.v (.bool true)) => aMv (st.ev C x)
  | .f (.v (.bool false)) => aMv (st.ev C y)
  | _ => none
theorem aPick_ok {o : Oper} {c x y : Operand} {r : AV} (ho : o.op = .pick c x y) (hd : dstB N o.dst = true) (h : aPick C st c x y = some r) : ValOp C N o st r := by
  unfold aPick at h
  split at h
  · rename_i hc; rw [aMv_eq] at h; cases h; exact v_pickT ho hd hc rfl
  · rename_i hc; rw [aMv_eq] at h; cases h; exact v_pickF ho hd hc rfl
  · cases h
def aExt (C : Ctx) (st : St) (x : Operand) (i : Nat) : Option AV := match st.ev C x with
  | .f (.tup l) => match l[i]? with
    | some y => some (.f y)
    | none => none
  | _ => none
theorem aExt_ok {o : Oper} {x : Operand} {i : Nat} {r : AV} (ho : o.op = .extract x i) (hd : dstB N o.dst = true) (h : aExt C st x i = some r) : ValOp C N o st r := by
  unfold aExt at h
  split at h
  · rename_i l hx
    split at h
    · rename_i y hy; cases h; exact v_extract ho hd hx hy
    · cases h
  · cases h
def aNot (C : Ctx) (st : St) (x : Operand) : Option AV := match st.ev C x with
  | .f (.v (.bool b)) => some (.f (.v (.bool (!b))))
  | _ => none
theorem aNot_ok {o : Oper} {T : TypeId} {x : Operand} {r : AV} (ho : o.op = .unOp .not T x) (hd : dstB N o.dst = true) (h : aNot C st x = some r) : ValOp C N o st r := by
  unfold aNot at h
  split at h
  · rename_i b hx; cases h; exact v_un ho hd hx u_not
  · cases h
def aLen (C : Ctx) (ty : TyD) (st : St) (x : Operand) : Option AV := match ty.sl with
  | some _ => match st.ev C x with
    | .f (.sl n _) => some (.f (.v (.int .i64 n)))
    | .f (.v (.slice _ n _)) => some (.f (.v (.int .i64 n)))
    | .ow i => match st.h i with
      | some (.row _ _ n _) => some (.f (.v (.int .i64 n)))
      | _ => none
    | _ => none
  | none => match ty.str with
    | true => match st.ev C x with
      | .f (.v (.string s)) => some (.f (.v (.int .i64 s.size)))
      | _ => none
    | false => none
theorem aLen_ok {o : Oper} {T : TypeId} {x : Operand} {r : AV} (ty : Ty C.P) (ho : o.op = .call { callee := .builtin .len, args := #[x], argTypes := #[T] }) (hd : dstB N o.dst = true) (h : aLen C (ty.ty T) st x = some r) : ValOp C N o st r := by
  unfold aLen at h
  split at h
  · rename_i p hT
    obtain ⟨E, s, bs⟩ := p
    split at h
    · rename_i n cs hx; cases h; exact v_len ty ho hd hT hx
    · rename_i a n c hx; cases h; exact v_len_nil ty ho hd hT hx
    · rename_i i hx
      split at h
      · rename_i e sz n cs hi; cases h; exact v_len_ow ty ho hd hT hx hi
      · cases h
    · cases h
  · split at h
    · rename_i hs
      split at h
      · rename_i s hx; cases h; exact v_len_str ty hs ho hd hx
      · cases h
    · cases h
def aMM (C : Ctx) (st : St) (mn : Bool) (x y : Operand) : Option AV := match st.ev C x with
  | .f (.v (.int k p)) => match st.ev C y with
    | .f (.v (.int _ q)) => match mn with
      | true => some (.f (.v (.int k (min p q))))
      | false => some (.f (.v (.int k (max p q))))
    | _ => none
  | _ => none
def aCall (C : Ctx) (ty : Nat → TyD) (st : St) (b : Builtin) (l : List Operand) (ts : List TypeId) : Option AV := match b with
  | .len => match l with
    | [x] => match ts with
      | [T] => aLen C (ty T) st x
      | _ => none
    | _ => none
  | .min => match l with
    | [x, y] => match ts with
      | [_, _] => aMM C st true x y
      | _ => none
    | _ => none
  | .max => match l with
    | [x, y] => match ts with
      | [_, _] => aMM C st false x y
      | _ => none
    | _ => none
  | _ => none
theorem arr_of {α : Type} {a : Array α} {l : List α} (h : a.toList = l) : a = l.toArray := by
  subst h; simp
theorem aCall_ok {o : Oper} {b : Builtin} {args : Array Operand} {ts : Array TypeId} {r : AV} (ty : Ty C.P) (ho : o.op = .call { callee := .builtin b, args := args, argTypes := ts }) (hd : dstB N o.dst = true) (h : aCall C ty.ty st b args.toList ts.toList = some r) : ValOp C N o st r := by
  unfold aCall at h
  split at h
  · split at h
    · rename_i x hx
      split at h
      · rename_i T hT
        have e1 := arr_of hx
        have e2 := arr_of hT
        subst e1; subst e2
        exact aLen_ok ty ho hd h
      · cases h
    · cases h
  · split at h
    · rename_i x y hx
      split at h
      · rename_i T T' hT
        have e1 := arr_of hx
        have e2 := arr_of hT
        subst e1; subst e2
        unfold aMM at h
        split at h
        · rename_i k p hx
          split at h
          · rename_i k' q hy
            cases h; exact v_min2 ho hd hx hy
          · cases h
        · cases h
      · cases h
    · cases h
  · split at h
    · rename_i x y hx
      split at h
      · rename_i T T' hT
        have e1 := arr_of hx
        have e2 := arr_of hT
        subst e1; subst e2
        unfold aMM at h
        split at h
        · rename_i k p hx
          split at h
          · rename_i k' q hy
            cases h; exact v_max2 ho hd hx hy
          · cases h
        · cases h
      · cases h
    · cases h
  · cases h
def aBuild (C : Ctx) (ty : TyD) (st : St) (parts : List (Nat × Operand)) : Option AV := match ty.pl with
  | some pl => match ty.zero with
    | some zs => match st.evP C parts with
      | some xs => match fillF (fun i => pl[i]?) (zs.map .v) xs with
        | some cs => some (.f (.agg cs))
        | none => none
      | none => none
    | none => none
  | none => none
theorem aBuild_ok {o : Oper} {T : TypeId} {parts : Array (Nat × Operand)} {r : AV} (ty : Ty C.P) (ho : o.op = .build T parts) (hd : dstB N o.dst = true) (h : aBuild C (ty.ty T) st parts.toList = some r) : ValOp C N o st r := by
  unfold aBuild at h
  split at h
  · rename_i pl hpl
    split at h
    · rename_i zs hz
      split at h
      · rename_i xs hp
        split at h
        · rename_i cs hf; cases h; exact v_build ty ho hd hpl hz hp hf
        · cases h
      · cases h
    · cases h
  · cases h
def aBSl (C : Ctx) (ty : Nat → TyD) (st : St) (T len : Nat) (parts : List (Nat × Operand)) : Option AV := match (ty T).sl with
  | some (E, s, _) => match (ty E).zero with
    | some zs => match Nat.ble (len * s) 16777216 with
      | true => match st.evP C parts with
        | some xs => match fillF (fun i => some (i * s, s)) (initF zs (len * s)) xs with
          | some cs => some (.f (.sl len cs))
          | none => none
        | none => none
      | false => none
    | none => none
  | none => none
theorem aBSl_ok {o : Oper} {T len : TypeId} {parts : Array (Nat × Operand)} {r : AV} (ty : Ty C.P) (ho : o.op = .buildSlice T len parts) (hd : dstB N o.dst = true) (h : aBSl C ty.ty st T len parts.toList = some r) : ValOp C N o st r := by
  unfold aBSl at h
  split at h
  · rename_i E s bs hT
    split at h
    · rename_i zs hz
      split at h
      · rename_i hs
        split at h
        · rename_i xs hp
          split at h
          · rename_i cs hf; cases h; exact v_bslice ty ho hd hT hz (Nat.le_of_ble_eq_true hs) hp hf
          · cases h
        · cases h
      · cases h
    · cases h
  · cases h
def aBox (C : Ctx) (st : St) (x : Operand) : Option AV := match st.ev C x with
  | .f y => match cellsF y with
    | some cs => some (.f (.pt cs 0))
    | none => none
  | _ => none
theorem aBox_ok {o : Oper} {T : TypeId} {x : Operand} {r : AV} (ho : o.op = .box T x) (hd : dstB N o.dst = true) (h : aBox C st x = some r) : ValOp C N o st r := by
  unfold aBox at h
  split at h
  · rename_i y hx
    split at h
    · rename_i cs hc; cases h; exact v_box ho hd hx hc
    · cases h
  · cases h
def autoV (C : Ctx) (ty : Nat → TyD) (st : St) : Op → Option AV
  | .move x => aMv (st.ev C x)
  | .assign x => aMv (st.ev C x)
  | .load T x => aLoad C (ty T) st x
  | .fieldAddr T x f => aFld C (ty T) st x f
  | .pick c x y => aPick C st c x y
  | .extract x i => aExt C st x i
  | .unOp u _ x => match u with
    | .not => aNot C st x
    | _ => none
  | .build T parts => aBuild C (ty T) st parts.toList
  | .buildSlice T len parts => aBSl C ty st T len parts.toList
  | .box _ x => aBox C st x
  | .call c => match c with
    | ⟨.builtin b, args, ts⟩ => aCall C ty st b args.toList ts.toList
    | _ => none
  | _ => none
theorem autoV_ok {o : Oper} {r : AV} (ty : Ty C.P) (hd : dstB N o.dst = true) (h : autoV C ty.ty st o.op = some r) : ValOp C N o st r := by
  obtain ⟨d, op, T0, pos, af, g⟩ := o
  unfold autoV at h
  split at h
  · rename_i x e; rw [aMv_eq] at h; cases h; exact v_move e hd
  · rename_i x e; rw [aMv_eq] at h; cases h; exact v_assign e hd
  · rename_i T x e; exact aLoad_ok ty e hd h
  · rename_i T x f e; exact aFld_ok ty e hd h
  · rename_i c x y e; exact aPick_ok e hd h
  · rename_i x i e; exact aExt_ok e hd h
  · rename_i u T x e
    split at h
    · exact aNot_ok e hd h
    · cases h
  · rename_i T parts e; exact aBuild_ok ty e hd h
  · rename_i T len parts e; exact aBSl_ok ty e hd h
  · rename_i T x e; exact aBox_ok e hd h
  · rename_i c e
    split at h
    · rename_i b args ts; exact aCall_ok ty e hd h
    · cases h
  · cases h
end
end Go.Ab
namespace Go.Ab
open Go Go.RowKit Go.Shelf Go.Proofs
section
variable {C : Ctx} {N : Nat} {st : St}
def cArith (op : BinOp) (p q : Int) : Option (Int × Prop) := match op with
  | .add => some (p + q, -9223372036854775808 ≤ p + q ∧ p + q ≤ 9223372036854775807)
  | .sub => some (p - q, -9223372036854775808 ≤ p - q ∧ p - q ≤ 9223372036854775807)
  | .mul => some (p * q, -9223372036854775808 ≤ p * q ∧ p * q ≤ 9223372036854775807)
  | .quo => some (p / q, 0 ≤ p ∧ p ≤ 9223372036854775807 ∧ 1 ≤ q)
  | .rem => some (p % q, 0 ≤ p ∧ 1 ≤ q)
  | _ => none
def cBin (C : Ctx) (st : St) (op : BinOp) (x y : Operand) : Option (AV × Prop) := match st.ev C x with
  | .f (.v (.int .i64 p)) => match st.ev C y with
    | .f (.v (.int .i64 q)) => match cArith op p q with
      | some (z, P) => some (.f (.v (.int .i64 z)), P)
      | none => none
    | _ => none
  | _ => none
theorem cBin_ok {o : Oper} {op : BinOp} {T T' : TypeId} {x y : Operand} {r : AV} {P : Prop} (ho : o.op = .binOp op T x y T') (hd : dstB N o.dst = true) (h : cBin C st op x y = some (r, P)) (hp : P) : ValOp C N o st r := by
  unfold cBin at h
  split at h
  · rename_i p hx
    split at h
    · rename_i q hy
      split at h
      · rename_i z P' hz
        cases h
        unfold cArith at hz
        split at hz
        · cases hz; exact v_bin ho hd hx hy (b_add hp)
        · cases hz; exact v_bin ho hd hx hy (b_sub hp)
        · cases hz; exact v_bin ho hd hx hy (b_mul hp)
        · cases hz; exact v_bin ho hd hx hy (b_quo hp)
        · cases hz; exact v_bin ho hd hx hy (b_rem hp)
        · cases hz
      · cases h
    · cases h
  · cases h
def cNeg (C : Ctx) (st : St) (x : Operand) : Option (AV × Prop) := match st.ev C x with
  | .f (.v (.int .i64 p)) => some (.f (.v (.int .i64 (-p))), -9223372036854775807 ≤ p ∧ p ≤ 9223372036854775807)
  | _ => none
def natOf : Int → Option Nat
  | .ofNat m => some m
  | .negSucc _ => none
def cIdx (C : Ctx) (ty : TyD) (st : St) (x y : Operand) : Option (AV × Prop) := match ty.sl with
  | some (_, s, _) => match st.ev C y with
    | .f (.v (.int _ z)) => match st.ev C x with
      | .f (.sl n cs) => some (.f (.pt cs (z.toNat * s)), (0 ≤ z ∧ z < n) ∧ cs ≠ [])
      | .ow i => match st.h i with
        | some (.row _ _ n _) => some (.bx i (z.toNat * s), 0 ≤ z ∧ z < n)
        | _ => none
      | _ => none
    | _ => none
  | none => none
theorem cIdx_ok {o : Oper} {T : TypeId} {x y : Operand} {r : AV} {P : Prop} (ty : Ty C.P) (ho : o.op = .indexAddr T x y) (hd : dstB N o.dst = true) (h : cIdx C (ty.ty T) st x y = some (r, P)) (hp : P) : ValOp C N o st r := by
  unfold cIdx at h
  split at h
  · rename_i E s bs hT
    split at h
    · rename_i k z hy
      split at h
      · rename_i n cs hx
        cases h; exact v_idx ty ho hd hT hx hy hp.1.1 hp.1.2 hp.2
      · rename_i i hx
        split at h
        · rename_i e sz n cs hi
          cases h; exact v_idx_ow ty ho hd hT hx hi hy hp.1 hp.2
        · cases h
      · cases h
    · cases h
  · cases h
def cIdxN (C : Ctx) (ty : TyD) (st : St) (x y : Operand) : Option (AV × Prop) := match ty.sl with
  | some (_, s, _) => match st.ev C y with
    | .f (.v (.int _ z)) => match natOf z with
      | some m => match st.ev C x with
        | .f (.sl n cs) => some (.f (.pt cs (m * s)), m < n ∧ cs ≠ [])
        | .ow i => match st.h i with
          | some (.row _ _ n _) => some (.bx i (m * s), m < n)
          | _ => none
        | _ => none
      | none => none
    | _ => none
  | none => none
theorem natOf_spec {z : Int} {m : Nat} (h : natOf z = some m) : z = (m : Int) := by
  cases z with
  | ofNat k => simp [natOf] at h; subst h; rfl
  | negSucc k => simp [natOf] at h
theorem cIdxN_ok {o : Oper} {T : TypeId} {x y : Operand} {r : AV} {P : Prop} (ty : Ty C.P) (ho : o.op = .indexAddr T x y) (hd : dstB N o.dst = true) (h : cIdxN C (ty.ty T) st x y = some (r, P)) (hp : P) : ValOp C N o st r := by
  unfold cIdxN at h
  split at h
  · rename_i E s bs hT
    split at h
    · rename_i k z hy
      split at h
      · rename_i m hm
        have e := natOf_spec hm
        split at h
        · rename_i n cs hx
          cases h
          have := v_idx ty ho hd hT hx hy (by omega) (by omega) hp.2
          rw [e] at this
          exact this
        · rename_i i hx
          split at h
          · rename_i e' sz n cs hi
            cases h
            have := v_idx_ow ty ho hd hT hx hi hy (by omega) (by omega)
            rw [e] at this
            exact this
          · cases h
        · cases h
      · cases h
    · cases h
  · cases h
def condV (C : Ctx) (ty : Nat → TyD) (st : St) : Op → Option (AV × Prop)
  | .binOp op _ x y _ => cBin C st op x y
  | .unOp u _ x => match u with
    | .neg => cNeg C st x
    | _ => none
  | .indexAddr T x y => cIdxN C (ty T) st x y
  | _ => none
theorem condV_ok {o : Oper} {r : AV} {P : Prop} (ty : Ty C.P) (hd : dstB N o.dst = true) (h : condV C ty.ty st o.op = some (r, P)) (hp : P) : ValOp C N o st r := by
  obtain ⟨d, op, T0, pos, af, g⟩ := o
  unfold condV at h
  split at h
  · rename_i op T x y T' e; exact cBin_ok e hd h hp
  · rename_i u T x e
    split at h
    · unfold cNeg at h
      split at h
      · rename_i p hx; cases h; exact v_un e hd hx (u_neg hp)
      · cases h
    · cases h
  · rename_i T x y e
    exact cIdxN_ok ty e hd h hp
  · cases h
def cRel (op : BinOp) (p q : Int) : Option (Bool × Prop) := match op with
  | .lss => some (true, p < q)
  | .leq => some (true, p ≤ q)
  | .gtr => some (true, q < p)
  | .geq => some (true, q ≤ p)
  | .eql => some (true, p = q)
  | .neq => some (false, p = q)
  | _ => none
def cmpV (C : Ctx) (st : St) : Op → Option (Bool × Prop)
  | .binOp op _ x y _ => match st.ev C x with
    | .f (.v (.int k p)) => match st.ev C y with
      | .f (.v (.int k' q)) => match decEq k k' with
        | .isTrue _ => cRel op p q
        | .isFalse _ => none
      | _ => none
    | _ => none
  | _ => none
theorem cmpV_ok {o : Oper} {b : Bool} {P : Prop} (hd : dstB N o.dst = true) (h : cmpV C st o.op = some (b, P)) : ∃ D : Decidable P, ValOp C N o st (.f (.v (.bool (if @decide P D then b else !b)))) := by
  obtain ⟨d, op, T0, pos, af, g⟩ := o
  unfold cmpV at h
  split at h
  · rename_i op2 T x y T' e
    split at h
    · rename_i k p hx
      split at h
      · rename_i k' q hy
        split at h
        · rename_i hk _
          subst hk
          have key : ∀ (D : Decidable P) (bb : Bool), ValOp C N (⟨d, op, T0, pos, af, g⟩ : Oper) st (.f (.v (.bool bb))) → bb = (if @decide P D then b else !b) → ∃ D : Decidable P, ValOp C N (⟨d, op, T0, pos, af, g⟩ : Oper) st (.f (.v (.bool (if @decide P D then b else !b)))) := fun D bb hv hb => ⟨D, hb ▸ hv⟩
          unfold cRel at h
          split at h
          · cases h; exact key inferInstance _ (v_bin e hd hx hy b_lss) (by simp)
          · cases h; exact key inferInstance _ (v_bin e hd hx hy b_leq) (by simp)
          · cases h; exact key inferInstance _ (v_bin e hd hx hy b_gtr) (by simp)
          · cases h; exact key inferInstance _ (v_bin e hd hx hy b_geq) (by simp)
          · cases h; exact key inferInstance _ (v_bin e hd hx hy b_eql) (by simp)
          · cases h; exact key inferInstance _ (v_bin e hd hx hy b_neq) (by by_cases hpq : p = q <;> simp [hpq])
          · cases h
        · cases h
      · cases h
    · cases h
  · cases h
variable {ops : Array Oper} {pr : Bool} {K : St → Prop} {rest : List Oper} {d : Option Tmp} {op : Op} {T0 : TypeId} {pos : String} {af : Array Edge} {g : Option (Nat × Bool)}
theorem s_auto (ty : Ty C.P) {r : AV} (hw : wantB st ops ⟨d, op, T0, pos, af, g⟩ = some true) (hd : dstB N d = true) (h : autoV C ty.ty st op = some r) (k : R C N ops pr K rest (st.put d r)) : R C N ops pr K (⟨d, op, T0, pos, af, g⟩ :: rest) st := ⟨r_val hw (autoV_ok ty hd h) k.out⟩
theorem s_skip (hw : wantB st ops ⟨d, op, T0, pos, af, g⟩ = some false) (hd : dstB N d = true) (k : R C N ops pr K rest (st.put d (.f (.v undef)))) : R C N ops pr K (⟨d, op, T0, pos, af, g⟩ :: rest) st := ⟨r_skip hw hd k.out⟩
theorem s_cond (ty : Ty C.P) {r : AV} {P : Prop} (hw : wantB st ops ⟨d, op, T0, pos, af, g⟩ = some true) (hd : dstB N d = true) (h : condV C ty.ty st op = some (r, P)) (hp : P) (k : R C N ops pr K rest (st.put d r)) : R C N ops pr K (⟨d, op, T0, pos, af, g⟩ :: rest) st := ⟨r_val hw (condV_ok ty hd h hp) k.out⟩
theorem s_idxz (ty : Ty C.P) {T : TypeId} {x y : Operand} {r : AV} {P : Prop} (hw : wantB st ops ⟨d, .indexAddr T x y, T0, pos, af, g⟩ = some true) (hd : dstB N d = true) (h : cIdx C (ty.ty T) st x y = some (r, P)) (hp : P) (k : R C N ops pr K rest (st.put d r)) : R C N ops pr K (⟨d, .indexAddr T x y, T0, pos, af, g⟩ :: rest) st := ⟨r_val hw (cIdx_ok ty rfl hd h hp) k.out⟩
theorem s_cmpt {b : Bool} {P : Prop} (hw : wantB st ops ⟨d, op, T0, pos, af, g⟩ = some true) (hd : dstB N d = true) (h : cmpV C st op = some (b, P)) (hp : P) (k : R C N ops pr K rest (st.put d (.f (.v (.bool b))))) : R C N ops pr K (⟨d, op, T0, pos, af, g⟩ :: rest) st := by
  obtain ⟨D, hv⟩ := cmpV_ok (o := ⟨d, op, T0, pos, af, g⟩) hd h
  rw [if_pos (decide_eq_true hp)] at hv
  exact ⟨r_val hw hv k.out⟩
theorem s_cmpf {b : Bool} {P : Prop} (hw : wantB st ops ⟨d, op, T0, pos, af, g⟩ = some true) (hd : dstB N d = true) (h : cmpV C st op = some (b, P)) (hp : ¬ P) (k : R C N ops pr K rest (st.put d (.f (.v (.bool (!b)))))) : R C N ops pr K (⟨d, op, T0, pos, af, g⟩ :: rest) st := by
  obtain ⟨D, hv⟩ := cmpV_ok (o := ⟨d, op, T0, pos, af, g⟩) hd h
  rw [if_neg (by rw [decide_eq_false hp]; simp)] at hv
  exact ⟨r_val hw hv k.out⟩
theorem s_cl {f : Operand} {args : Array Operand} {ts : Array TypeId} {gf : Nat} {caps xs ys : List FV} {r : FV} (S : Summ C.P C.G gf ys r) (hw : wantB st ops ⟨d, .call { callee := .value f, args := args, argTypes := ts }, T0, pos, af, g⟩ = some true) (hd : dstB N d = true) (hf : st.ev C f = .f (.fn gf caps)) (hxs : st.evL C args.toList = some xs) (hys : xs ++ caps = ys) (k : R C N ops pr K rest (st.put d (.f r))) : R C N ops pr K (⟨d, .call { callee := .value f, args := args, argTypes := ts }, T0, pos, af, g⟩ :: rest) st := ⟨r_val hw (v_call S rfl hd hf hxs hys) k.out⟩
theorem s_ld (ty : Ty C.P) {T : TypeId} {x : Operand} {cs : List FV} {off : Nat} {c : FV} (hw : wantB st ops ⟨d, .load T x, T0, pos, af, g⟩ = some true) (hd : dstB N d = true) (hT : (ty.ty T).scal = true) (hx : st.ev C x = .f (.pt cs off)) (hc : cs[off]? = some c) (k : R C N ops pr K rest (st.put d (.f c))) : R C N ops pr K (⟨d, .load T x, T0, pos, af, g⟩ :: rest) st := ⟨r_val hw (v_load_pt ty rfl hd hT hx hc) k.out⟩
theorem s_lds (ty : Ty C.P) {T n : TypeId} {x : Operand} {cs sub : List FV} {off : Nat} (hw : wantB st ops ⟨d, .load T x, T0, pos, af, g⟩ = some true) (hd : dstB N d = true) (hT : (ty.ty T).agg = some n) (hx : st.ev C x = .f (.pt cs off)) (hc : (cs.drop off).take n = sub) (hl : sub.length = n) (k : R C N ops pr K rest (st.put d (.f (.agg sub)))) : R C N ops pr K (⟨d, .load T x, T0, pos, af, g⟩ :: rest) st := ⟨r_val hw (v_load_pts ty rfl hd hT hx hc hl) k.out⟩
end
end Go.Ab
namespace Go.Ab
open Go Go.RowKit Go.Shelf Go.Proofs
structure SeqS {α : Type} (P : Program) (G : Nat → Option FV) (gf : Nat) (caps : List FV) (encs : α → Array Value) (L : List α) : Prop where
  enters : Enters P gf
  seq : ∀ (w : World) (M : Nat → Prop) (us : List Value), (∀ b, M b → b < w.heap.size) → (∀ g cs, G g = some cs → RepF w M (.pointer (some ⟨g, 0, none⟩)) cs) → RepL w M us caps →
    SeqL P gf us.toArray encs L (fun A => w.heap.size ≤ A.heap.size ∧ ∀ b, b < w.heap.size → ¬ M b → A.heap[b]? = w.heap[b]?)
theorem Marks.mono {B B' : Nat} (h : B ≤ B') {W : World} : ∀ {ds : List Deferred}, Marks B' W ds → Marks B W ds
  | [], _ => trivial
  | _ :: _, ⟨⟨D, e, hB, r⟩, hs⟩ => ⟨⟨D, e, Nat.le_trans h hB, r⟩, Marks.mono h hs⟩
theorem Marks.lt {B : Nat} {W : World} : ∀ {ds : List Deferred}, Marks B W ds → ∀ D, markOf D ∈ ds → D < W.heap.size
  | [], _, _, h => by cases h
  | _ :: _, ⟨⟨D', e, _, h3, _⟩, hs⟩, D, h => by
    rcases List.mem_cons.1 h with h | h
    · rw [e] at h
      have : D = D' := by simpa [markOf] using h
      subst this
      exact (Array.getElem?_eq_some_iff.1 h3).1
    · exact Marks.lt hs D h
def ownM (h : Nat → Option Blk) (J : Nat → Value) (b : Nat) : Prop := ∃ i, (h i).isSome = true ∧ bk (J i) = some b
def rdC (C : Ctx) (nx : Nat) (X : Nat → Prop) (l : Option Nat) (p : Nat → Value) : Ctx := ⟨C.P, C.G, C.M0, X, l, fun i => bif Nat.blt i nx then some (p i) else none⟩
section
variable {C : Ctx} {N nx : Nat} {l : Option Nat} {p : Nat → Value}
theorem Grew.keepsFrom {X : Nat → Prop} {w w' : World} {B : Nat} (g : Grew X w w') (hX : ∀ b, X b → B ≤ b → ∃ us T, w.heap[b]? = some (.cells us T (0, 0))) : KeepsFrom B w w' :=
  ⟨g.le, fun k o hB hk ho => (g.block k (Array.getElem?_eq_some_iff.1 hk).1 (fun hx => by
    obtain ⟨us, T, h⟩ := hX k hx hB
    rw [hk] at h; cases h; cases ho)).trans hk⟩
theorem Sim.ownCells {w0 : World} {st : St} {a : Act} {w : World} {J : Nat → Value} (S : Sim C w0 N st a w J) {b : Nat} (h : ownM st.h J b) : ∃ o, w.heap[b]? = some o ∧ o.stays = true := by
  obtain ⟨i, hi, hb⟩ := h
  obtain ⟨B, hB⟩ := Option.isSome_iff_exists.1 hi
  exact (S.blk i B hB).obj hb
def Blk.isM : Blk → Bool
  | .map _ => true
  | .it .. => true
  | _ => false
theorem RepB.cellsN {w : World} {base : Nat} {h : Nat → Option Blk} {J : Nat → Value} {v : Value} {B : Blk} (r : RepB C w base h J v B) (hm : B.isM = false) {b : Nat} (hb : bk v = some b) : ∃ us T, w.heap[b]? = some (.cells us T (0, 0)) := by
  cases B with
  | box cells =>
    obtain ⟨b', T, us, rfl, h1, h2, _⟩ := r
    simp [bk] at hb; subst hb
    exact ⟨us, T, h2⟩
  | row e sz n cells => obtain ⟨xs, h1, _⟩ := r; exact row_cells h1 hb
  | rowA e sz n cells => obtain ⟨xs, h1, _⟩ := r; exact row_cells h1 hb
  | arr e sz n cells => obtain ⟨xs, h1, _⟩ := r; exact row_cells h1 hb
  | map G => cases hm
  | it x G => cases hm
def mapsOk (nx : Nat) (F0 h : Nat → Option Blk) : Prop := ∀ i B, h i = some B → B.isM = true → i < nx ∧ (F0 i).isSome = true
theorem mo_nil {nx : Nat} {F0 : Nat → Option Blk} : mapsOk nx F0 (fun _ => none) := fun i B h => by cases h
theorem mo_upd {nx k : Nat} {F0 h : Nat → Option Blk} {B : Blk} (hB : B.isM = false) (hh : mapsOk nx F0 h) : mapsOk nx F0 (upd h k (some B)) := fun i G e hm => by
  by_cases ei : i = k
  · subst ei; rw [upd_same] at e; cases e; rw [hB] at hm; cases hm
  · rw [upd_other _ _ ei] at e; exact hh i G e hm
theorem repA_ctx {C C' : Ctx} {w : World} {h : Nat → Option Blk} {J : Nat → Value} (hM : C'.M0 = C.M0) {v : Value} {x : AV} (r : RepA C w h J v x) : RepA C' w h J v x := by
  exact r.same fun _ _ q => q.conv (fun _ hi => ⟨hi, rfl⟩) fun _ _ q => RepF.ext q (Ext.refl _) (fun b _ hb => by unfold Mb at hb ⊢; rwa [hM] at hb)
theorem repF_ctx {C C' : Ctx} {w : World} {h : Nat → Option Blk} {J : Nat → Value} (hM : C'.M0 = C.M0) {v : Value} {x : FV} (r : RepF w (Mb C h J) v x) : RepF w (Mb C' h J) v x :=
  RepF.ext r (Ext.refl _) (fun b _ hb => by unfold Mb at hb ⊢; rwa [hM] at hb)
theorem Sim.into {w0 : World} {X : Nat → Prop} {st : St} {a : Act} {w : World} {J : Nat → Value} {l' : Option Nat} (S : Sim (rdC C nx X l p) w0 N st a w J) (hd : a.defers = []) : Sim (rdC C nx (ownM st.h J) l' p) w N st a w J := by
  refine ⟨Grew.refl _ _, S.size, by rw [hd]; exact ⟨trivial, fun _ => rfl⟩, fun t => repA_ctx rfl (S.slot t), fun i B hB => ?_, S.apart, fun b hb => ⟨Nat.lt_of_lt_of_le (S.old b hb).1 S.ext.le, fun ⟨i, hi, h⟩ => ?_⟩, fun g cs hg => repF_ctx rfl (S.glob g cs hg), S.fix⟩
  · exact (S.blk i B hB).conv0 (fun _ _ => rfl) (fun b hb _ => .inr ⟨i, by rw [hB]; rfl, hb⟩) (fun _ _ => repA_ctx rfl) (fun _ _ => repF_ctx rfl)
  · rcases (S.own_at hi h).1 with h2 | h2
    · have := (S.old b hb).1; omega
    · exact (S.old b hb).2 h2
theorem Sim.outOf {w0 : World} {X : Nat → Prop} {st st' : St} {a a' : Act} {w w' : World} {J J' : Nat → Value} {l' : Option Nat} (S : Sim (rdC C nx X l p) w0 N st a w J) (S' : Sim (rdC C nx (ownM st.h J) l' p) w N st' a' w' J') (hl : l'.isSome = true) : Sim (rdC C nx X l' p) w0 N st' a' w' J' := by
  have hx : ∀ b, w.heap.size ≤ b ∨ ownM st.h J b → w0.heap.size ≤ b ∨ X b := fun b h => by
    rcases h with h | ⟨i, hi, hb⟩
    · exact .inl (Nat.le_trans S.ext.le h)
    · exact (S.own_at hi hb).1
  refine ⟨⟨S'.ext.os.trans S.ext.os, S'.ext.tape.trans S.ext.tape, S'.ext.output.trans S.ext.output, Nat.le_trans S.ext.le S'.ext.le, fun k hk hX => ?_⟩, S'.size, by rw [S'.defs.2 hl]; exact ⟨trivial, fun _ => rfl⟩, fun t => repA_ctx rfl (S'.slot t), fun i B hB => ?_, S'.apart, S.old, fun g cs hg => repF_ctx rfl (S'.glob g cs hg), S'.fix⟩
  · have h1 := S.ext.block k hk hX
    have hkw : k < w.heap.size := Nat.lt_of_lt_of_le hk S.ext.le
    refine (S'.ext.block k hkw (fun ho => ?_)).trans h1
    rcases hx k (.inr ho) with h | h
    · omega
    · exact hX h
  · exact (S'.blk i B hB).conv0 (fun _ _ => rfl) (fun b _ h => hx b h) (fun _ _ => repA_ctx rfl) (fun _ _ => repF_ctx rfl)
def kept (nx : Nat) (s : Nat → AV) (ok : Nat → Prop) : Prop := ∀ t, match s t with
  | .f _ => True
  | .bot => True
  | .bx i _ => i < nx ∧ ok i
  | .ow i => i < nx ∧ ok i
  | .sv .. => False
  | .ag _ => False
  | .tp _ => False
  | .fb .. => False
theorem kept_nil (nx : Nat) (ok : Nat → Prop) : kept nx (fun _ => .bot) ok := fun _ => trivial
theorem kept_f {nx : Nat} {s : Nat → AV} {ok : Nat → Prop} {k : Nat} {x : FV} (h : kept nx s ok) : kept nx (upd s k (.f x)) ok := fun t => by
  by_cases e : t = k
  · subst e; rw [upd_same]; trivial
  · rw [upd_other _ _ e]; exact h t
theorem kept_x {nx : Nat} {s : Nat → AV} {ok : Nat → Prop} {k i off : Nat} (hi : Nat.blt i nx = true) (ho : ok i) (h : kept nx s ok) : kept nx (upd s k (.bx i off)) ok := fun t => by
  by_cases e : t = k
  · subst e; rw [upd_same]; exact ⟨Nat.le_of_ble_eq_true hi, ho⟩
  · rw [upd_other _ _ e]; exact h t
def boxAt (h : Nat → Option Blk) (i : Nat) : Prop := ∃ B, h i = some B ∧ B.stays = true
theorem Sim.again {w0 w wk : World} {h0 : Nat → Option Blk} {s : Nat → AV} {a a' : Act} {J J' : Nat → Value} {st' : St} {ok : Nat → Prop} (S : Sim C w0 N ⟨s, h0, nx⟩ a w J) (hp : p = J) (hk : kept nx s ok)
    (S' : Sim (rdC C nx (ownM h0 J) l p) w N st' a' wk J') (hb : ∀ i, ok i → boxAt st'.h i) : Sim (rdC C nx (ownM h0 J) none p) w N ⟨s, st'.h, nx⟩ { a with defers := [] } wk J' := by
  subst hp
  have hM : ∀ b, b < w.heap.size → Mb (rdC C nx (ownM h0 p) l p) st'.h J' b → Mb C h0 p b := by
    rintro b hlt (h | ⟨i, hi, hbi⟩)
    · exact .inl h
    · rcases (S'.own_at hi hbi).1 with h2 | h2
      · omega
      · exact .inr h2
  have same : ∀ b, b < w.heap.size → ¬ Mb C h0 p b → wk.heap[b]? = w.heap[b]? := fun b hlt hm => S'.ext.block b hlt (fun h => hm (.inr h))
  refine ⟨S'.ext, S.size, ⟨trivial, fun _ => rfl⟩, fun t => ?_, fun i B hB => ?_, S'.apart, S'.old, fun g cs hg => repF_ctx rfl (S'.glob g cs hg), S'.fix⟩
  · have h1 := S.slot t
    have h2 := hk t
    show RepA _ wk st'.h J' (a.tmps.getD t undef) (s t)
    simp only at h1
    cases hs : s t with
    | f x =>
      rw [hs] at h1
      exact RepF.mono h1 same S'.ext.le (fun b hlt hm => hM b hlt hm)
    | bx i off =>
      rw [hs] at h1 h2
      obtain ⟨hlt, hoki⟩ := h2
      obtain ⟨cells, hc, hs⟩ := hb i hoki
      obtain ⟨_, b, hbb, hv⟩ := h1
      have e : J' i = p i := S'.fix i (p i) cells (by show (bif Nat.blt i nx then some (p i) else none) = some (p i); rw [show Nat.blt i nx = true from Nat.ble_eq_true_of_le hlt]; rfl) hc hs
      exact ⟨by rw [hc]; rfl, b, by rw [e]; exact hbb, hv⟩
    | ow i =>
      rw [hs] at h1 h2
      obtain ⟨hlt, hoki⟩ := h2
      obtain ⟨cells, hc, hs⟩ := hb i hoki
      obtain ⟨_, hv⟩ := h1
      have e : J' i = p i := S'.fix i (p i) cells (by show (bif Nat.blt i nx then some (p i) else none) = some (p i); rw [show Nat.blt i nx = true from Nat.ble_eq_true_of_le hlt]; rfl) hc hs
      exact ⟨by rw [hc]; rfl, by rw [e]; exact hv⟩
    | bot => trivial
    | sv i off n => rw [hs] at h2; exact h2.elim
    | ag l => rw [hs] at h2; exact h2.elim
    | tp l => rw [hs] at h2; exact h2.elim
    | fb f l => rw [hs] at h2; exact h2.elim
  · exact (S'.blk i B hB).conv0 (fun _ _ => rfl) (fun _ _ h => h) (fun _ _ => repA_ctx rfl) (fun _ _ => repF_ctx rfl)
def putAll (s : Nat → AV) : List (Nat × FV) → Nat → AV
  | [] => s
  | (t, x) :: r => putAll (upd s t (.f x)) r
theorem Sim.puts {w0 : World} {h : Nat → Option Blk} {w : World} {J : Nat → Value} : ∀ {pv : List (Nat × Value)} {px : List (Nat × FV)} {s : Nat → AV} {a : Act}, Sim C w0 N ⟨s, h, nx⟩ a w J → pv.map (·.1) = px.map (·.1) → (∀ q ∈ px, Nat.blt q.1 N = true) →
    (∀ (k : Nat) (v : Nat × Value) (x : Nat × FV), pv[k]? = some v → px[k]? = some x → RepF w (Mb C h J) v.2 x.2) → Sim C w0 N ⟨putAll s px, h, nx⟩ { a with tmps := pv.foldl (fun t (p, v) => t.setIfInBounds p v) a.tmps } w J
  | [], [], _, _, S, _, _, _ => S
  | [], _ :: _, _, _, _, he, _, _ => by cases he
  | _ :: _, [], _, _, _, he, _, _ => by cases he
  | (t, v) :: pv, (t', x) :: px, s, a, S, he, hN, hr => by
    simp only [List.map_cons, List.cons.injEq] at he
    obtain ⟨rfl, he⟩ := he
    have S1 := S.put (d := some t) (v := v) (r := .f x) (hN (t, x) (by simp)) (hr 0 (t, v) (t, x) rfl rfl)
    exact Sim.puts (pv := pv) (px := px) (s := upd s t (.f x)) (a := a.put (some t) v) S1 he (fun q hq => hN q (by simp [hq])) (fun k u y h1 h2 => hr (k + 1) u y (by simpa using h1) (by simpa using h2))
def Rng (N nx : Nat) (s : Nat → AV) (ok : Nat → Prop) (Q : Exit → St → Prop) (Cr : Ctx) (P1 : Prop) (F1 : Nat → Option Blk) : Exit → St → Prop
  | .normal, st => P1 ∧ Gh Cr N st ⟨fun _ => .bot, F1, nx⟩
  | .ret, st => ∃ h, Gh Cr N st ⟨fun _ => .bot, h, nx⟩ ∧ (∀ i, ok i → boxAt h i) ∧ Q .ret ⟨s, h, nx⟩
  | .exit id, st => ∃ h, Gh Cr N st ⟨fun _ => .bot, h, nx⟩ ∧ (∀ i, ok i → boxAt h i) ∧ Q (.exit id) ⟨s, h, nx⟩
  | _, _ => False
theorem Sim.endLoop {w0 w wk : World} {h0 h : Nat → Option Blk} {s : Nat → AV} {a : Act} {J J' : Nat → Value} (hro : C.ro = none) (hJ0 : ∀ i, C.J0 i = none) (S : Sim C w0 N ⟨s, h0, nx⟩ a w J) (S' : Sim (rdC C nx (ownM h0 J) none p) w N ⟨s, h, nx⟩ { a with defers := [] } wk J')
    {D : Nat} (hD : w.heap.size ≤ D) (hd : wk.heap[D]? = some (.deferred (some []))) : Sim C w0 N ⟨s, h, nx⟩ { a with defers := markOf D :: a.defers } wk J' := by
  have hx : ∀ b, w.heap.size ≤ b ∨ ownM h0 J b → w0.heap.size ≤ b ∨ C.X b := fun b hb => by
    rcases hb with hb | ⟨i, hi, hbi⟩
    · exact .inl (Nat.le_trans S.ext.le hb)
    · exact (S.own_at hi hbi).1
  refine ⟨⟨S'.ext.os.trans S.ext.os, S'.ext.tape.trans S.ext.tape, S'.ext.output.trans S.ext.output, Nat.le_trans S.ext.le S'.ext.le, fun k hk hX => ?_⟩, S.size, ⟨⟨⟨D, rfl, Nat.le_trans S.ext.le hD, hd, fun hm => ?_⟩, ?_⟩, fun h => by rw [hro] at h; cases h⟩, fun t => repA_ctx rfl (S'.slot t), fun i B hB => ?_, S'.apart, S.old, fun g cs hg => repF_ctx rfl (S'.glob g cs hg), fun i q cells h1 _ => by rw [hJ0 i] at h1; cases h1⟩
  · have h1 := S.ext.block k hk hX
    refine (S'.ext.block k (Nat.lt_of_lt_of_le hk S.ext.le) (fun ho => ?_)).trans h1
    rcases hx k (.inr ho) with h | h
    · omega
    · exact hX h
  · have := Marks.lt S.defs.1 D hm; omega
  · exact S.defs.1.keeps fun D' hm h => (S'.ext.block D' (Marks.lt S.defs.1 D' hm) (fun ho => by
      obtain ⟨o, h2, h3⟩ := S.ownCells ho
      rw [h] at h2; cases h2; cases h3)).trans h
  · exact (S'.blk i B hB).conv0 (fun _ _ => rfl) (fun b _ h => hx b h) (fun _ _ => repA_ctx rfl) (fun _ _ => repF_ctx rfl)
end
end Go.Ab
namespace Go.Ab
open Go Go.RowKit Go.Shelf Go.Proofs
section
variable {C : Ctx} {N : Nat} {st : St}
theorem v_bind {o : Oper} {op : BinOp} {T T' : TypeId} {x y : Operand} {a b : FV} {va vb v : Value} (ho : o.op = .binOp op T x y T') (hd : dstB N o.dst = true) (hx : st.ev C x = .f a) (hy : st.ev C y = .f b) (ha : detF a = some va) (hb : detF b = some vb)
    (hrun : ∀ w, (do eqGuard op T x y va vb; binOp op T va vb : Sem Value).run C.P w = .ok v w) : ValOp C N o st (.f (.v v)) :=
  valop_run hd fun w0 a w J st' hA S => by
    have e1 := detF_spec (evF S ((hA.ev x (by simp [ho, Op.operands])).trans hx)) ha
    have e2 := detF_spec (evF S ((hA.ev y (by simp [ho, Op.operands])).trans hy)) hb
    have := hrun w
    refine ⟨v, w, ?_, Ext.refl _, RepF.v v⟩
    simp only [execOp, ho, e1, e2, Sem.run_bind] at this ⊢
    rw [this]
    rfl
variable {ops : Array Oper} {pr : Bool} {K : St → Prop} {rest : List Oper} {d : Option Tmp} {op : BinOp} {T0 T T' : TypeId} {pos : String} {af : Array Edge} {g : Option (Nat × Bool)} {x y : Operand}
theorem s_bind {a b : FV} {va vb v : Value} (hw : wantB st ops ⟨d, .binOp op T x y T', T0, pos, af, g⟩ = some true) (hd : dstB N d = true) (hx : st.ev C x = .f a) (hy : st.ev C y = .f b) (ha : detF a = some va) (hb : detF b = some vb)
    (hrun : ∀ w, (do eqGuard op T x y va vb; binOp op T va vb : Sem Value).run C.P w = .ok v w) (k : R C N ops pr K rest (st.put d (.f (.v v)))) : R C N ops pr K (⟨d, .binOp op T x y T', T0, pos, af, g⟩ :: rest) st := ⟨r_val hw (v_bind rfl hd hx hy ha hb hrun) k.out⟩
end
section
variable {C : Ctx} {N : Nat} {st : St} {ops : Array Oper} {pr : Bool} {K : St → Prop} {rest : List Oper} {d : Option Tmp} {op : Op} {T0 : TypeId} {pos : String} {af : Array Edge} {g : Option (Nat × Bool)}
def gate (N : Nat) (st : St) (ops : Array Oper) (o : Oper) : Bool := match wantB st ops o with
  | some true => dstB N o.dst
  | _ => false
theorem gate_spec {o : Oper} (h : gate N st ops o = true) : wantB st ops o = some true ∧ dstB N o.dst = true := by
  unfold gate at h
  split at h
  · rename_i h1; exact ⟨h1, h⟩
  · cases h
def gated {α : Type} (b : Bool) (x : Option α) : Option α := match b with
  | true => x
  | false => none
theorem gated_spec {α : Type} {b : Bool} {x : Option α} {y : α} (h : gated b x = some y) : b = true ∧ x = some y := by
  unfold gated at h
  split at h
  · exact ⟨rfl, h⟩
  · cases h
theorem s_a (ty : Ty C.P) {r : AV} (h : gated (gate N st ops ⟨d, op, T0, pos, af, g⟩) (autoV C ty.ty st op) = some r) (k : R C N ops pr K rest (st.put d r)) : R C N ops pr K (⟨d, op, T0, pos, af, g⟩ :: rest) st :=
  let ⟨h1, h2⟩ := gated_spec h; let ⟨h3, h4⟩ := gate_spec h1; s_auto ty h3 h4 h2 k
theorem s_c (ty : Ty C.P) {r : AV} {P : Prop} (h : gated (gate N st ops ⟨d, op, T0, pos, af, g⟩) (condV C ty.ty st op) = some (r, P)) (hp : P) (k : R C N ops pr K rest (st.put d r)) : R C N ops pr K (⟨d, op, T0, pos, af, g⟩ :: rest) st :=
  let ⟨h1, h2⟩ := gated_spec h; let ⟨h3, h4⟩ := gate_spec h1; s_cond ty h3 h4 h2 hp k
theorem s_z (ty : Ty C.P) {T : TypeId} {x y : Operand} {r : AV} {P : Prop} (h : gated (gate N st ops ⟨d, .indexAddr T x y, T0, pos, af, g⟩) (cIdx C (ty.ty T) st x y) = some (r, P)) (hp : P) (k : R C N ops pr K rest (st.put d r)) : R C N ops pr K (⟨d, .indexAddr T x y, T0, pos, af, g⟩ :: rest) st :=
  let ⟨h1, h2⟩ := gated_spec h; let ⟨h3, h4⟩ := gate_spec h1; s_idxz ty h3 h4 h2 hp k
theorem s_t {b : Bool} {P : Prop} (h : gated (gate N st ops ⟨d, op, T0, pos, af, g⟩) (cmpV C st op) = some (b, P)) (hp : P) (k : R C N ops pr K rest (st.put d (.f (.v (.bool b))))) : R C N ops pr K (⟨d, op, T0, pos, af, g⟩ :: rest) st :=
  let ⟨h1, h2⟩ := gated_spec h; let ⟨h3, h4⟩ := gate_spec h1; s_cmpt h3 h4 h2 hp k
theorem s_f {b : Bool} {P : Prop} (h : gated (gate N st ops ⟨d, op, T0, pos, af, g⟩) (cmpV C st op) = some (b, P)) (hp : ¬ P) (k : R C N ops pr K rest (st.put d (.f (.v (.bool (!b)))))) : R C N ops pr K (⟨d, op, T0, pos, af, g⟩ :: rest) st :=
  let ⟨h1, h2⟩ := gated_spec h; let ⟨h3, h4⟩ := gate_spec h1; s_cmpf h3 h4 h2 hp k
def skB (N : Nat) (st : St) (ops : Array Oper) (o : Oper) : Bool := match wantB st ops o with
  | some false => dstB N o.dst
  | _ => false
theorem s_s (h : skB N st ops ⟨d, op, T0, pos, af, g⟩ = true) (k : R C N ops pr K rest (st.put d (.f (.v undef)))) : R C N ops pr K (⟨d, op, T0, pos, af, g⟩ :: rest) st := by
  unfold skB at h
  split at h
  · rename_i h1; exact s_skip h1 h k
  · cases h
def callOf (C : Ctx) (st : St) (f : Operand) (args : List Operand) : Option (Nat × List FV) := match st.ev C f with
  | .f (.fn g caps) => match st.evL C args with
    | some xs => some (g, xs ++ caps)
    | none => none
  | _ => none
theorem callOf_spec {f : Operand} {args : List Operand} {gf : Nat} {ys : List FV} (h : callOf C st f args = some (gf, ys)) : ∃ caps xs, st.ev C f = .f (.fn gf caps) ∧ st.evL C args = some xs ∧ xs ++ caps = ys := by
  unfold callOf at h
  split at h
  · rename_i g caps hf
    split at h
    · rename_i xs hx; cases h; exact ⟨caps, xs, hf, hx, rfl⟩
    · cases h
  · cases h
theorem s_k {f : Operand} {args : Array Operand} {ts : Array TypeId} {gf : Nat} {ys : List FV} {r : FV} (S : Summ C.P C.G gf ys r) (h : gated (gate N st ops ⟨d, .call { callee := .value f, args := args, argTypes := ts }, T0, pos, af, g⟩) (callOf C st f args.toList) = some (gf, ys)) (k : R C N ops pr K rest (st.put d (.f r))) : R C N ops pr K (⟨d, .call { callee := .value f, args := args, argTypes := ts }, T0, pos, af, g⟩ :: rest) st :=
  let ⟨h1, h2⟩ := gated_spec h; let ⟨h3, h4⟩ := gate_spec h1; let ⟨_, _, q1, q2, q3⟩ := callOf_spec h2; s_cl S h3 h4 q1 q2 q3 k
theorem s_k1 {f : Operand} {args : Array Operand} {ts : Array TypeId} {gf : Nat} {ys : List FV} {r : FV} {P0 : Prop} (S : P0 → Summ C.P C.G gf ys r) (h : gated (gate N st ops ⟨d, .call { callee := .value f, args := args, argTypes := ts }, T0, pos, af, g⟩) (callOf C st f args.toList) = some (gf, ys)) (p0 : P0) (k : R C N ops pr K rest (st.put d (.f r))) : R C N ops pr K (⟨d, .call { callee := .value f, args := args, argTypes := ts }, T0, pos, af, g⟩ :: rest) st := s_k (S p0) h k
theorem s_k2 {f : Operand} {args : Array Operand} {ts : Array TypeId} {gf : Nat} {ys : List FV} {r : FV} {P0 P1 : Prop} (S : P0 → P1 → Summ C.P C.G gf ys r) (h : gated (gate N st ops ⟨d, .call { callee := .value f, args := args, argTypes := ts }, T0, pos, af, g⟩) (callOf C st f args.toList) = some (gf, ys)) (p0 : P0) (p1 : P1) (k : R C N ops pr K rest (st.put d (.f r))) : R C N ops pr K (⟨d, .call { callee := .value f, args := args, argTypes := ts }, T0, pos, af, g⟩ :: rest) st := s_k (S p0 p1) h k
def ldOf (C : Ctx) (ty : TyD) (st : St) (x : Operand) : Option (List FV × Nat) := match ty.scal with
  | true => match st.ev C x with
    | .f (.pt cs off) => some (cs, off)
    | _ => none
  | false => none
theorem s_l (ty : Ty C.P) {T : TypeId} {x : Operand} {cs : List FV} {off : Nat} {c : FV} (h : gated (gate N st ops ⟨d, .load T x, T0, pos, af, g⟩) (ldOf C (ty.ty T) st x) = some (cs, off)) (hc : cs[off]? = some c) (k : R C N ops pr K rest (st.put d (.f c))) : R C N ops pr K (⟨d, .load T x, T0, pos, af, g⟩ :: rest) st := by
  obtain ⟨h1, h2⟩ := gated_spec h
  obtain ⟨h3, h4⟩ := gate_spec h1
  unfold ldOf at h2
  split at h2
  · rename_i hT
    split at h2
    · rename_i cs' off' hx; cases h2; exact s_ld ty h3 h4 hT hx hc k
    · cases h2
  · cases h2
def ldsOf (C : Ctx) (ty : TyD) (st : St) (x : Operand) : Option (List FV × Nat × Nat) := match ty.agg with
  | some n => match st.ev C x with
    | .f (.pt cs off) => some (cs, off, n)
    | _ => none
  | none => none
theorem s_m (ty : Ty C.P) {T n : TypeId} {x : Operand} {cs sub : List FV} {off : Nat} (h : gated (gate N st ops ⟨d, .load T x, T0, pos, af, g⟩) (ldsOf C (ty.ty T) st x) = some (cs, off, n)) (hc : (cs.drop off).take n = sub) (hl : sub.length = n) (k : R C N ops pr K rest (st.put d (.f (.agg sub)))) : R C N ops pr K (⟨d, .load T x, T0, pos, af, g⟩ :: rest) st := by
  obtain ⟨h1, h2⟩ := gated_spec h
  obtain ⟨h3, h4⟩ := gate_spec h1
  unfold ldsOf at h2
  split at h2
  · rename_i n' hT
    split at h2
    · rename_i cs' off' hx; cases h2; exact s_lds ty h3 h4 hT hx hc hl k
    · cases h2
  · cases h2
end
end Go.Ab
namespace Go.Ab
open Go Go.RowKit Go.Shelf Go.Proofs
section
variable {C : Ctx} {N : Nat} {st : St} {ops : Array Oper} {pr : Bool} {K : St → Prop} {rest : List Oper}
theorem Sim.less {w0 : World} {a : Act} {w : World} {J : Nat → Value} {s : Nat → AV} {h : Nat → Option Blk} {n k : Nat} {B B' : Blk} (S : Sim C w0 N ⟨s, upd h k (some B'), n⟩ a w J) (m : More B B') : Sim C w0 N ⟨s, upd h k (some B), n⟩ a w J := by
  have live : ∀ i, (upd h k (some B) i).isSome = (upd h k (some B') i).isSome := fun i => by
    by_cases e : i = k
    · subst e; rw [upd_same, upd_same]; rfl
    · rw [upd_other _ _ e, upd_other _ _ e]
  have hM : ∀ b, b < w.heap.size → Mb C (upd h k (some B)) J b → Mb C (upd h k (some B')) J b := fun b _ q => q.imp id fun ⟨i, hi, hb⟩ => ⟨i, by rw [← live]; exact hi, hb⟩
  have conv : ∀ (v : Value) (x : AV), RepA C w (upd h k (some B')) J v x → RepA C w (upd h k (some B)) J v x := fun v x q => by
    exact q.same fun _ _ q => q.conv (fun i hi => ⟨by rw [live]; exact hi, rfl⟩) fun _ _ q => RepF.ext q (Ext.refl _) hM
  have cB : ∀ {i : Nat} {D : Blk}, RepB C w w0.heap.size (upd h k (some B')) J (J i) D → RepB C w w0.heap.size (upd h k (some B)) J (J i) D := fun q => q.conv0 (fun _ _ => rfl) (fun _ _ h => h) conv (fun _ _ q => RepF.ext q (Ext.refl _) hM)
  refine ⟨S.ext, S.size, S.defs, fun t => conv _ _ (S.slot t), fun i D hD => ?_, fun i j b hi hj => S.apart i j b (by rw [← live]; exact hi) (by rw [← live]; exact hj), S.old, fun g cs hg => RepF.ext (S.glob g cs hg) (Ext.refl _) hM, fun i p cells hp hc hs => ?_⟩
  · by_cases e : i = k
    · subst e
      simp only [upd_same, Option.some.injEq] at hD
      subst hD
      exact m.rep (cB (S.blk i B' (upd_same _ _ _)))
    · simp only [upd_other _ _ e] at hD
      exact cB (S.blk i D (by simp only [upd_other _ _ e]; exact hD))
  · by_cases e : i = k
    · subst e
      simp only [upd_same, Option.some.injEq] at hc
      rcases m with e2 | ⟨cs, cs', _, e2, _⟩
      · exact S.fix i p cells hp (by simp only [upd_same]; rw [e2, hc]) hs
      · exact S.fix i p _ hp (by simp only [upd_same]; rw [e2]) rfl
    · simp only [upd_other _ _ e] at hc
      exact S.fix i p cells hp (by simp only [upd_other _ _ e]; exact hc) hs
structure SD (C : Ctx) (N : Nat) (o : Oper) (K : St → Prop) (st : St) : Prop where
  out : ∃ k B, StoOp C N o st k B ∧ K { st with h := upd st.h k (some B) }
end
end Go.Ab
namespace Go.Ab
open Go Go.RowKit Go.Shelf Go.Proofs
section
variable {C : Ctx} {N : Nat} {st : St} {ops : Array Oper} {pr : Bool} {K : St → Prop} {rest : List Oper}
theorem Sim.swap {w0 : World} {a : Act} {w : World} {J : Nat → Value} {h' : Nat → Option Blk} (S : Sim C w0 N st a w J) (live : ∀ i, (h' i).isSome = (st.h i).isSome) (hB : ∀ i B, h' i = some B → RepB C w w0.heap.size st.h J (J i) B)
    (hfix : ∀ i B, h' i = some B → B.stays = true → ∃ B', st.h i = some B' ∧ B'.stays = true) : Sim C w0 N { st with h := h' } a w J := by
  have hM : ∀ b, b < w.heap.size → Mb C h' J b → Mb C st.h J b := fun b _ q => q.imp id fun ⟨i, hi, hb⟩ => ⟨i, by rw [← live]; exact hi, hb⟩
  have conv : ∀ (v : Value) (x : AV), RepA C w st.h J v x → RepA C w h' J v x := fun v x q => by
    exact q.same fun _ _ q => q.conv (fun i hi => ⟨by rw [live]; exact hi, rfl⟩) fun _ _ q => RepF.ext q (Ext.refl _) hM
  refine ⟨S.ext, S.size, S.defs, fun t => conv _ _ (S.slot t), fun i D hD => ?_, fun i j b hi hj => S.apart i j b (by rw [← live]; exact hi) (by rw [← live]; exact hj), S.old, fun g cs hg => RepF.ext (S.glob g cs hg) (Ext.refl _) hM, fun i p cells hp hc hs => ?_⟩
  · exact (hB i D hD).conv0 (fun _ _ => rfl) (fun _ _ h => h) conv (fun _ _ q => RepF.ext q (Ext.refl _) hM)
  · obtain ⟨B', hc', hs'⟩ := hfix i cells hc hs
    exact S.fix i p B' hp hc' hs'
variable {d : Option Tmp} {T0 : TypeId} {pos : String} {af : Array Edge} {g : Option (Nat × Bool)}
end
section
variable {C : Ctx} {N : Nat}
end
end Go.Ab
namespace Go.Ab
open Go Go.RowKit Go.Shelf Go.Proofs
def blkF (k : Nat) : List Blk → Nat → Option Blk
  | [] => fun _ => none
  | B :: L => upd (blkF (k + 1) L) k (some B)
def blkL (L : List Blk) : Nat → Option Blk := blkF 0 L
theorem blkF_eq : ∀ (L : List Blk) (k i : Nat), blkF k L i = if k ≤ i then L[i - k]? else none
  | [], k, i => by simp [blkF]
  | B :: L, k, i => by
    unfold blkF
    by_cases e : i = k
    · subst e; rw [upd_same]; simp
    · rw [upd_other _ _ e, blkF_eq L (k + 1) i]
      by_cases h : k ≤ i
      · rw [if_pos h, if_pos (by omega), show i - k = (i - (k + 1)) + 1 by omega, List.getElem?_cons_succ]
      · rw [if_neg h, if_neg (by omega)]
theorem blkL_eq (L : List Blk) (i : Nat) : blkL L i = L[i]? := by rw [blkL, blkF_eq]; simp
theorem blkL_live {L : List Blk} {i : Nat} : (blkL L i).isSome = true ↔ i < L.length := by rw [blkL_eq]; simp
def pinL (k : Nat) (J : Nat → Value) : List Blk → Nat → Option Value
  | [] => fun _ => none
  | B :: L => upd (pinL (k + 1) J L) k (bif B.stays then some (J k) else none)
theorem pinL_eq (J : Nat → Value) : ∀ (L : List Blk) (k i : Nat) (p : Value), pinL k J L i = some p → p = J i ∧ k ≤ i ∧ ∃ B, L[i - k]? = some B ∧ B.stays = true
  | [], k, i, p, h => by simp [pinL] at h
  | B :: L, k, i, p, h => by
    unfold pinL at h
    by_cases e : i = k
    · subst e
      rw [upd_same] at h
      cases hs : B.stays with
      | true => rw [hs] at h; simp at h; exact ⟨h.symm, Nat.le_refl _, B, by simp, hs⟩
      | false => rw [hs] at h; simp at h
    · rw [upd_other _ _ e] at h
      obtain ⟨h1, h2, B', h3, h4⟩ := pinL_eq J L (k + 1) i p h
      exact ⟨h1, by omega, B', by rw [show i - k = (i - (k + 1)) + 1 by omega, List.getElem?_cons_succ]; exact h3, h4⟩
theorem pinL_some (J : Nat → Value) : ∀ (L : List Blk) (k i : Nat) (B : Blk), L[i]? = some B → B.stays = true → pinL k J L (k + i) = some (J (k + i))
  | [], _, _, _, h, _ => by simp at h
  | B0 :: L, k, 0, B, h, hs => by
    simp at h; subst h
    show upd (pinL (k + 1) J L) k (bif B0.stays then some (J k) else none) k = some (J k)
    rw [upd_same, hs]; rfl
  | B0 :: L, k, i + 1, B, h, hs => by
    unfold pinL
    rw [upd_other _ _ (by omega), show k + (i + 1) = (k + 1) + i by omega]
    exact pinL_some J L (k + 1) i B (by simpa using h) hs
def lentX (n : Nat) (J : Nat → Value) (b : Nat) : Prop := ∃ i, i < n ∧ bk (J i) = some b
def cxG (P : Program) (G : Nat → Option FV) (M X : Nat → Prop) (L : List Blk) (J : Nat → Value) : Ctx := ⟨P, G, M, X, none, pinL 0 J L⟩
def RepAs (C : Ctx) (w : World) (h : Nat → Option Blk) (J : Nat → Value) (us : List Value) (l : List AV) : Prop := us.length = l.length ∧ ∀ (k : Nat) (u : Value) (x : AV), us[k]? = some u → l[k]? = some x → RepA C w h J u x
structure Lent (C : Ctx) (w : World) (base : Nat) (L : List Blk) (J : Nat → Value) : Prop where
  blk : ∀ (i : Nat) (B : Blk), L[i]? = some B → RepB C w base (blkL L) J (J i) B
  apart : ∀ i j b, i < L.length → j < L.length → bk (J i) = some b → bk (J j) = some b → i = j
structure SummG (P : Program) (G : Nat → Option FV) (g : Nat) (L : List Blk) (args : List AV) (ret : AV) (L' : List Blk) : Prop where
  enters : Enters P g
  le : L.length ≤ L'.length
  kinds : ∀ (i : Nat) (B B' : Blk), L[i]? = some B → L'[i]? = some B' → B.stays = B'.stays
  call : ∀ (w : World) (M X : Nat → Prop) (us : List Value) (J : Nat → Value), (∀ b, X b ↔ lentX L.length J b) → (∀ b, M b → b < w.heap.size ∧ ¬ X b) →
    (∀ g cs, G g = some cs → RepF w (Mb (cxG P G M X L J) (blkL L) J) (.pointer (some ⟨g, 0, none⟩)) cs) →
    RepAs (cxG P G M X L J) w (blkL L) J us args → Lent (cxG P G M X L J) w w.heap.size L J →
    Calls P g us.toArray w fun en w' => ∃ v J', en = .returned v ∧ RepA (cxG P G M X L J) w' (blkL L') J' v ret ∧ Lent (cxG P G M X L J) w' w.heap.size L' J' ∧ Grew X w w' ∧ ∀ (i : Nat) (B : Blk), L[i]? = some B → B.stays = true → J' i = J i
def Cap.ren (σ : Nat → Nat) : Cap → Cap
  | .f x => .f x
  | .bx i off => .bx (σ i) off
  | .ow i => .ow (σ i)
  | .sv i off n => .sv (σ i) off n
def AV.ren (σ : Nat → Nat) : AV → AV
  | .f x => .f x
  | .bx i off => .bx (σ i) off
  | .ow i => .ow (σ i)
  | .bot => .bot
  | .sv i off n => .sv (σ i) off n
  | .ag l => .ag (l.map (Cap.ren σ))
  | .tp l => .tp (l.map (Cap.ren σ))
  | .fb g l => .fb g (l.map (Cap.ren σ))
def Blk.ren (σ : Nat → Nat) (B : Blk) : Blk := B.mapA (AV.ren σ)
theorem Blk.ren_stays (σ : Nat → Nat) (B : Blk) : (B.ren σ).stays = B.stays := by cases B <;> rfl
section
variable {C C' : Ctx} {w w' : World} {h h' : Nat → Option Blk} {J J' : Nat → Value}
theorem RepC.ren {σ : Nat → Nat} {v : Value} {c : Cap} (r : RepC C w h J v c) (hl : ∀ i, (h i).isSome = true → (h' (σ i)).isSome = true ∧ J' (σ i) = J i) (hF : ∀ u x, RepF w (Mb C h J) u x → RepF w' (Mb C' h' J') u x) : RepC C' w' h' J' v (c.ren σ) := by
  cases c with
  | f x => exact hF _ _ r
  | bx i off => exact ⟨(hl i r.1).1, by rw [(hl i r.1).2]; exact r.2⟩
  | ow i => exact ⟨(hl i r.1).1, by rw [(hl i r.1).2]; exact r.2⟩
  | sv i off n => exact ⟨(hl i r.1).1, by rw [(hl i r.1).2]; exact r.2⟩
theorem RepCs.ren {σ : Nat → Nat} {us : List Value} {l : List Cap} (r : RepCs C w h J us l) (hl : ∀ i, (h i).isSome = true → (h' (σ i)).isSome = true ∧ J' (σ i) = J i) (hF : ∀ u x, RepF w (Mb C h J) u x → RepF w' (Mb C' h' J') u x) : RepCs C' w' h' J' us (l.map (Cap.ren σ)) :=
  ⟨by simpa using r.1, fun k u c h1 h2 => by
    rw [List.getElem?_map] at h2
    cases hk : l[k]? with
    | none => simp [hk] at h2
    | some y => simp [hk] at h2; subst h2; exact (r.2 k u y h1 hk).ren hl hF⟩
theorem RepA.ren {σ : Nat → Nat} {v : Value} {x : AV} (r : RepA C w h J v x) (hl : ∀ i, (h i).isSome = true → (h' (σ i)).isSome = true ∧ J' (σ i) = J i) (hF : ∀ u x, RepF w (Mb C h J) u x → RepF w' (Mb C' h' J') u x) : RepA C' w' h' J' v (x.ren σ) := by
  cases x with
  | f x => exact hF _ _ r
  | bx i off => exact RepC.ren (c := .bx i off) r hl hF
  | ow i => exact RepC.ren (c := .ow i) r hl hF
  | bot => trivial
  | sv i off n => exact RepC.ren (c := .sv i off n) r hl hF
  | ag l => obtain ⟨us, e, ho, q⟩ := r; exact ⟨us, e, ho, q.ren hl hF⟩
  | tp l => obtain ⟨us, e, q⟩ := r; exact ⟨us, e, q.ren hl hF⟩
  | fb f l => obtain ⟨us, e, q⟩ := r; exact ⟨us, e, q.ren hl hF⟩
theorem RepC.unren {σ : Nat → Nat} {v : Value} {c : Cap} (r : RepC C w h J v (c.ren σ)) (hl : ∀ i, (h (σ i)).isSome = true → (h' i).isSome = true ∧ J' i = J (σ i)) (hF : ∀ u x, RepF w (Mb C h J) u x → RepF w' (Mb C' h' J') u x) : RepC C' w' h' J' v c := by
  cases c with
  | f x => exact hF _ _ r
  | bx i off => exact ⟨(hl i r.1).1, by rw [(hl i r.1).2]; exact r.2⟩
  | ow i => exact ⟨(hl i r.1).1, by rw [(hl i r.1).2]; exact r.2⟩
  | sv i off n => exact ⟨(hl i r.1).1, by rw [(hl i r.1).2]; exact r.2⟩
theorem RepCs.unren {σ : Nat → Nat} {us : List Value} {l : List Cap} (r : RepCs C w h J us (l.map (Cap.ren σ))) (hl : ∀ i, (h (σ i)).isSome = true → (h' i).isSome = true ∧ J' i = J (σ i)) (hF : ∀ u x, RepF w (Mb C h J) u x → RepF w' (Mb C' h' J') u x) : RepCs C' w' h' J' us l :=
  ⟨by simpa using r.1, fun k u c h1 h2 => RepC.unren (r.2 k u (c.ren σ) h1 (by simp [h2])) hl hF⟩
theorem RepA.unren {σ : Nat → Nat} {v : Value} {x : AV} (r : RepA C w h J v (x.ren σ)) (hl : ∀ i, (h (σ i)).isSome = true → (h' i).isSome = true ∧ J' i = J (σ i)) (hF : ∀ u x, RepF w (Mb C h J) u x → RepF w' (Mb C' h' J') u x) : RepA C' w' h' J' v x := by
  cases x with
  | f x => exact hF _ _ r
  | bx i off => exact RepC.unren (c := .bx i off) r hl hF
  | ow i => exact RepC.unren (c := .ow i) r hl hF
  | bot => trivial
  | sv i off n => exact RepC.unren (c := .sv i off n) r hl hF
  | ag l => obtain ⟨us, e, ho, q⟩ := r; exact ⟨us, e, ho, q.unren hl hF⟩
  | tp l => obtain ⟨us, e, q⟩ := r; exact ⟨us, e, q.unren hl hF⟩
  | fb f l => obtain ⟨us, e, q⟩ := r; exact ⟨us, e, q.unren hl hF⟩
theorem RepB.unmap {base base' : Nat} {v : Value} {B : Blk} {f : AV → AV} (r : RepB C w base h J v (B.mapA f)) (hh : ∀ b, bk v = some b → w'.heap[b]? = w.heap[b]?)
    (hb : ∀ b, bk v = some b → (base ≤ b ∨ C.X b) → (base' ≤ b ∨ C'.X b)) (hA : ∀ v x, RepA C w h J v (f x) → RepA C' w' h' J' v x) (hF : ∀ v x, RepF w (Mb C h J) v x → RepF w' (Mb C' h' J') v x) : RepB C' w' base' h' J' v B := by
  have cs : ∀ {xs : List Value} {cells : List AV}, (∀ (k : Nat) (u : Value) (x : AV), xs[k]? = some u → (cells.map f)[k]? = some x → RepA C w h J u x) → ∀ (k : Nat) (u : Value) (x : AV), xs[k]? = some u → cells[k]? = some x → RepA C' w' h' J' u x := by
    intro xs cells hc k u x h1 h2
    exact hA _ _ (hc k u (f x) h1 (by simp [h2]))
  cases B with
  | box cells =>
    obtain ⟨b, T, us, q1, q2, q3, q4, q5, q6⟩ := r
    have hv : bk v = some b := by rw [q1]; rfl
    exact ⟨b, T, us, q1, hb b hv q2, (hh b hv).trans q3, by simpa using q4, q5, fun k u x h1 h2 => cs (xs := us.toList) (fun k u x a c => q6 k u x (by simpa using a) c) k u x (by simpa using h1) h2⟩
  | row e sz n cells =>
    obtain ⟨xs, q1, q0, q2, q3⟩ := r
    exact ⟨xs, row_same q1 hh, fun b hv => hb b hv (q0 b hv), q2, q3.1, fun k u x h1 h2 => hF _ _ (q3.2 k u x h1 h2)⟩
  | rowA e sz n cells =>
    obtain ⟨xs, q1, q0, q2, q3, q4⟩ := r
    exact ⟨xs, row_same q1 hh, fun b hv => hb b hv (q0 b hv), q2, by simpa using q3, cs q4⟩
  | arr e sz n cells =>
    obtain ⟨xs, q1, q0, q2, q3, q4⟩ := r
    exact ⟨xs, row_same q1 hh, fun b hv => hb b hv (q0 b hv), q2, by simpa using q3, cs q4⟩
  | map G =>
    obtain ⟨b, o, q1, q2, q3, q4⟩ := r
    have hv : bk v = some b := by rw [q1]; rfl
    exact ⟨b, o, q1, hb b hv q2, (hh b hv).trans q3, q4⟩
  | it x G =>
    obtain ⟨b, o, m, q1, q2, q3, q4, q5⟩ := r
    have hv : bk v = some b := by rw [q1]; rfl
    exact ⟨b, o, m, q1, hb b hv q2, (hh b hv).trans q3, hA _ _ q4, q5⟩
end
def sg (σ : List Nat) (d : Nat) (i : Nat) : Nat := match σ[i]? with | some j => j | none => d
theorem sg_lt {σ : List Nat} {d i : Nat} (h : i < σ.length) : sg σ d i = σ[i] := by simp [sg, h]
theorem sg_ge {σ : List Nat} {d i : Nat} (h : σ.length ≤ i) : sg σ d i = d := by simp [sg, h]
def inK (κ : List Nat) (i : Nat) : Bool := match κ with
  | [] => false
  | k :: r => bif Nat.beq i k then true else inK r i
theorem inK_iff : ∀ {κ : List Nat} {i : Nat}, inK κ i = true ↔ i ∈ κ
  | [], i => by simp [inK]
  | k :: r, i => by
    unfold inK
    by_cases e : i = k
    · subst e; simp
    · simp [killA_ne e, e, inK_iff]
def killsC (κ : List Nat) : Cap → Option Cap
  | .f x => some (.f x)
  | .bx j off => bif inK κ j then none else some (.bx j off)
  | .ow j => bif inK κ j then none else some (.ow j)
  | .sv j off n => bif inK κ j then none else some (.sv j off n)
def killsA (κ : List Nat) : AV → AV := AV.tr (killsC κ)
def killsB (κ : List Nat) (B : Blk) : Blk := B.mapA (killsA κ)
theorem killsB_stays (κ : List Nat) (B : Blk) : (killsB κ B).stays = B.stays := by cases B <;> rfl
theorem RepA.kills {C C' : Ctx} {w w' : World} {h h' : Nat → Option Blk} {J J' : Nat → Value} (κ : List Nat) (hl : ∀ j, j ∉ κ → (h j).isSome = true → (h' j).isSome = true ∧ J' j = J j) (hF : ∀ u x, RepF w (Mb C h J) u x → RepF w' (Mb C' h' J') u x) {v : Value} {x : AV} (r : RepA C w h J v x) : RepA C' w' h' J' v (killsA κ x) :=
  r.tr fun v c c' e q => by
    have key : ∀ j, inK κ j = false → (h j).isSome = true → (h' j).isSome = true ∧ J' j = J j := fun j hj hs => hl j (fun hm => by rw [inK_iff.2 hm] at hj; cases hj) hs
    cases c with
    | f x => simp only [killsC, Option.some.injEq] at e; subst e; exact hF _ _ q
    | bx j off =>
      cases hk : inK κ j with
      | true => simp [killsC, hk] at e
      | false => simp [killsC, hk] at e; subst e; exact ⟨(key j hk q.1).1, by rw [(key j hk q.1).2]; exact q.2⟩
    | ow j =>
      cases hk : inK κ j with
      | true => simp [killsC, hk] at e
      | false => simp [killsC, hk] at e; subst e; exact ⟨(key j hk q.1).1, by rw [(key j hk q.1).2]; exact q.2⟩
    | sv j off n =>
      cases hk : inK κ j with
      | true => simp [killsC, hk] at e
      | false => simp [killsC, hk] at e; subst e; exact ⟨(key j hk q.1).1, by rw [(key j hk q.1).2]; exact q.2⟩
def killH (κ : List Nat) (h : Nat → Option Blk) : Nat → Option Blk := match κ with
  | [] => h
  | i :: r => fun j => (h j).map (killsB (i :: r))
def killS (κ : List Nat) (s : Nat → AV) : Nat → AV := match κ with
  | [] => s
  | i :: r => fun t => killsA (i :: r) (s t)
theorem killH_some {κ : List Nat} {h : Nat → Option Blk} {j : Nat} {B : Blk} (e : killH κ h j = some B) : ∃ B0, h j = some B0 ∧ B.stays = B0.stays := by
  cases κ with
  | nil => exact ⟨B, e, rfl⟩
  | cons i r =>
    simp only [killH, Option.map_eq_some_iff] at e
    obtain ⟨B0, h0, rfl⟩ := e
    exact ⟨B0, h0, killsB_stays _ _⟩
theorem killH_live (κ : List Nat) (h : Nat → Option Blk) (j : Nat) : (killH κ h j).isSome = (h j).isSome := by
  cases κ with
  | nil => rfl
  | cons i r => simp [killH]
def laidV (J J' : Nat → Value) : Nat → List Nat → Nat → Value
  | k, j :: σ => upd (laidV J J' (k + 1) σ) j (J' k)
  | _, [] => J
theorem laidV_other {J J' : Nat → Value} : ∀ {σ : List Nat} {k j : Nat}, j ∉ σ → laidV J J' k σ j = J j
  | [], _, _, _ => rfl
  | i :: σ, k, j, hj => by
    unfold laidV
    rw [upd_other _ _ (fun e => hj (by simp [e])), laidV_other (fun h => hj (by simp [h]))]
theorem laidV_at {J J' : Nat → Value} : ∀ {σ : List Nat} {k i j : Nat}, σ.Nodup → σ[i]? = some j → laidV J J' k σ j = J' (k + i)
  | [], _, _, _, _, h => by simp at h
  | a :: σ, k, 0, j, hn, h => by simp at h; subst h; unfold laidV; rw [upd_same, Nat.add_zero]
  | a :: σ, k, i + 1, j, hn, h => by
    have h' : σ[i]? = some j := by simpa using h
    have hj : j ≠ a := fun e => by subst e; exact (List.nodup_cons.1 hn).1 (List.mem_of_getElem? h')
    unfold laidV
    rw [upd_other _ _ hj, laidV_at (List.nodup_cons.1 hn).2 h', show k + 1 + i = k + (i + 1) by omega]
def moved : List Nat → List Blk → List Nat
  | j :: σ, B :: L => bif B.stays then moved σ L else j :: moved σ L
  | _, _ => []
theorem mem_moved : ∀ {σ : List Nat} {L : List Blk} {i : Nat} {B : Blk} {j : Nat}, σ[i]? = some j → L[i]? = some B → B.stays = false → j ∈ moved σ L
  | [], _, i, _, _, h, _, _ => by simp at h
  | _ :: _, [], i, _, _, _, h, _ => by simp at h
  | k :: σ, A :: L, 0, B, j, h1, h2, h3 => by
    simp at h1 h2; subst h1; subst h2
    simp [moved, h3]
  | k :: σ, A :: L, i + 1, B, j, h1, h2, h3 => by
    have := mem_moved (σ := σ) (L := L) (i := i) (by simpa using h1) (by simpa using h2) h3
    unfold moved
    cases A.stays <;> simp [this]
def laidB (h : Nat → Option Blk) (f : Blk → Blk) : List Nat → List Blk → Nat → Option Blk
  | j :: σ, B :: L => upd (laidB h f σ L) j (some (f B))
  | _, _ => h
theorem laidB_other {h : Nat → Option Blk} {f : Blk → Blk} : ∀ {σ : List Nat} {L : List Blk} {j : Nat}, j ∉ σ → laidB h f σ L j = h j
  | [], [], _, _ => rfl
  | [], _ :: _, _, _ => rfl
  | _ :: _, [], _, _ => rfl
  | k :: σ, B :: L, j, hj => by
    unfold laidB
    rw [upd_other _ _ (fun e => hj (by simp [e])), laidB_other (fun h => hj (by simp [h]))]
theorem laidB_at {h : Nat → Option Blk} {f : Blk → Blk} : ∀ {σ : List Nat} {L : List Blk} {i j : Nat} {B : Blk}, σ.Nodup → σ[i]? = some j → L[i]? = some B → laidB h f σ L j = some (f B)
  | [], _, _, _, _, _, h, _ => by simp at h
  | _ :: _, [], _, _, _, _, _, h => by simp at h
  | k :: σ, A :: L, 0, j, B, hn, h1, h2 => by
    simp at h1 h2; subst h1; subst h2
    unfold laidB; rw [upd_same]
  | k :: σ, A :: L, i + 1, j, B, hn, h1, h2 => by
    have h1' : σ[i]? = some j := by simpa using h1
    have hj : j ≠ k := fun e => by subst e; exact (List.nodup_cons.1 hn).1 (List.mem_of_getElem? h1')
    unfold laidB
    rw [upd_other _ _ hj]
    exact laidB_at (List.nodup_cons.1 hn).2 h1' (by simpa using h2)
def sgAll (σ : List Nat) (nx : Nat) (m : Nat) : List Nat := σ ++ (List.range m).map (nx + ·)
def St.afterG (st : St) (σ : List Nat) (L L' : List Blk) (d : Option Tmp) (ret : AV) : St :=
  { s := ((⟨killS (moved σ L) st.s, st.h, st.nx⟩ : St).put d (ret.ren (sg (sgAll σ st.nx (L'.length - L.length)) (st.nx + (L'.length - L.length))))).s,
    h := laidB (killH (moved σ L) st.h) (Blk.ren (sg (sgAll σ st.nx (L'.length - L.length)) (st.nx + (L'.length - L.length)))) (sgAll σ st.nx (L'.length - L.length)) L',
    nx := st.nx + (L'.length - L.length) }
structure LendOk (C : Ctx) (st : St) (σ : List Nat) (L : List Blk) (m : Nat) : Prop where
  len : σ.length = L.length
  nodup : σ.Nodup
  at_ : ∀ (i : Nat) (B : Blk) (j : Nat), L[i]? = some B → σ[i]? = some j → st.h j = some (B.ren (sg σ st.nx))
  free : ∀ i, i ≤ m → st.h (st.nx + i) = none ∧ C.J0 (st.nx + i) = none
section
variable {C : Ctx} {N : Nat} {st : St} {w0 : World} {a : Act} {w : World} {J : Nat → Value} {σ : List Nat} {L : List Blk} {m : Nat}
theorem LendOk.dead (o : LendOk C st σ L m) : st.h st.nx = none := (o.free 0 (Nat.zero_le _)).1
theorem LendOk.live (o : LendOk C st σ L m) {i : Nat} (hi : i < L.length) : (st.h (sg σ st.nx i)).isSome = true := by
  have hs : i < σ.length := by rw [o.len]; exact hi
  rw [sg_lt hs, o.at_ i L[i] σ[i] (List.getElem?_eq_getElem hi) (List.getElem?_eq_getElem hs)]; rfl
theorem LendOk.back (o : LendOk C st σ L m) {i : Nat} (h : (st.h (sg σ st.nx i)).isSome = true) : i < L.length := by
  by_cases hs : i < σ.length
  · rw [← o.len]; exact hs
  · rw [sg_ge (by omega), o.dead] at h; cases h
theorem LendOk.own (o : LendOk C st σ L m) {b : Nat} (h : lentX L.length (fun i => J (sg σ st.nx i)) b) : Mb C st.h J b :=
  let ⟨i, hi, hb⟩ := h; .inr ⟨sg σ st.nx i, o.live hi, hb⟩
theorem LendOk.inj (o : LendOk C st σ L m) {i k : Nat} (hi : i < L.length) (hk : k < L.length) (e : sg σ st.nx i = sg σ st.nx k) : i = k := by
  have h1 : i < σ.length := by rw [o.len]; exact hi
  have h2 : k < σ.length := by rw [o.len]; exact hk
  rw [sg_lt h1, sg_lt h2] at e
  have hp := List.pairwise_iff_getElem.1 o.nodup
  rcases Nat.lt_trichotomy i k with h | h | h
  · exact absurd e (hp i k h1 h2 h)
  · exact h
  · exact absurd e.symm (hp k i h2 h1 h)
theorem LendOk.give (o : LendOk C st σ L m) (S : Sim C w0 N st a w J) {X M : Nat → Prop} (hX : ∀ b, X b ↔ lentX L.length (fun i => J (sg σ st.nx i)) b) (hM : ∀ b, M b ↔ Mb C st.h J b ∧ ¬ X b) :
    (∀ b, M b → b < w.heap.size ∧ ¬ X b) ∧ (∀ u x, RepF w (Mb C st.h J) u x → RepF w (Mb (cxG C.P C.G M X L fun i => J (sg σ st.nx i)) (blkL L) fun i => J (sg σ st.nx i)) u x) ∧
    (∀ v x, RepA C w st.h J v (x.ren (sg σ st.nx)) → RepA (cxG C.P C.G M X L fun i => J (sg σ st.nx i)) w (blkL L) (fun i => J (sg σ st.nx i)) v x) ∧
    Lent (cxG C.P C.G M X L fun i => J (sg σ st.nx i)) w w.heap.size L fun i => J (sg σ st.nx i) := by
  have hF : ∀ u x, RepF w (Mb C st.h J) u x → RepF w (Mb (cxG C.P C.G M X L fun i => J (sg σ st.nx i)) (blkL L) fun i => J (sg σ st.nx i)) u x := fun u x q => q.ext (Ext.refl _) fun b _ h => by
    rcases h with h | ⟨i, hi, hb⟩
    · exact ((hM b).1 h).1
    · exact .inr ⟨_, o.live (blkL_live.1 hi), hb⟩
  have hA : ∀ v x, RepA C w st.h J v (x.ren (sg σ st.nx)) → RepA (cxG C.P C.G M X L fun i => J (sg σ st.nx i)) w (blkL L) (fun i => J (sg σ st.nx i)) v x := fun v x q => q.unren (fun i hi => ⟨blkL_live.2 (o.back hi), rfl⟩) hF
  refine ⟨fun b hb => ⟨S.mb ((hM b).1 hb).1, ((hM b).1 hb).2⟩, hF, hA, fun i B hB => ?_, fun i j b hi hj hbi hbj => o.inj hi hj (S.apart _ _ b (o.live hi) (o.live hj) hbi hbj)⟩
  have hi : i < L.length := (List.getElem?_eq_some_iff.1 hB).1
  have hs : i < σ.length := by rw [o.len]; exact hi
  have h1 := o.at_ i B σ[i] hB (List.getElem?_eq_getElem hs)
  rw [← sg_lt (d := st.nx) hs] at h1
  exact RepB.unmap (S.blk _ _ h1) (fun _ _ => rfl) (fun b hb _ => .inr ((hX b).2 ⟨i, hi, hb⟩)) hA hF
theorem LendOk.take (o : LendOk C st σ L m) (S : Sim C w0 N st a w J) {X M : Nat → Prop} (hX : ∀ b, X b ↔ lentX L.length (fun i => J (sg σ st.nx i)) b) (hM : ∀ b, M b ↔ Mb C st.h J b ∧ ¬ X b) {L' : List Blk} (hm : L'.length = L.length + m) (hkind : ∀ (i : Nat) (B B' : Blk), L[i]? = some B → L'[i]? = some B' → B.stays = B'.stays)
    {w' : World} {J' : Nat → Value} {v : Value} {ret : AV} (hret : RepA (cxG C.P C.G M X L fun i => J (sg σ st.nx i)) w' (blkL L') J' v ret) (hL : Lent (cxG C.P C.G M X L fun i => J (sg σ st.nx i)) w' w.heap.size L' J') (hg : Grew X w w')
    (hpin : ∀ (i : Nat) (B : Blk), L[i]? = some B → B.stays = true → J' i = J (sg σ st.nx i)) {d : Option Tmp} (hd : dstB N d = true) : Sim C w0 N (st.afterG σ L L' d ret) (a.put d v) w' (laidV J J' 0 (sgAll σ st.nx m)) := by
  have hm' : L'.length - L.length = m := by omega
  obtain ⟨τ, hτ⟩ : ∃ τ, τ = sgAll σ st.nx m := ⟨_, rfl⟩
  have hlen : τ.length = L'.length := by rw [hτ, sgAll, List.length_append, List.length_map, List.length_range, o.len, hm]
  have hold : ∀ i j, i < L.length → τ[i]? = some j → σ[i]? = some j := fun i j hi h => by
    rw [hτ, sgAll, List.getElem?_append_left (by rw [o.len]; exact hi)] at h; exact h
  have hnew : ∀ i j, L.length ≤ i → τ[i]? = some j → j = st.nx + (i - L.length) ∧ i - L.length < m := fun i j hi h => by
    rw [hτ, sgAll, List.getElem?_append_right (by rw [o.len]; exact hi), List.getElem?_map, o.len] at h
    cases hk : (List.range m)[i - L.length]? with
    | none => rw [hk] at h; cases h
    | some k =>
      rw [hk] at h; simp at h
      obtain ⟨h1, h2⟩ := List.getElem?_eq_some_iff.1 hk
      simp at h1 h2; subst h2
      exact ⟨h.symm, by omega⟩
  have hlive : ∀ i j, i < L.length → τ[i]? = some j → (st.h j).isSome = true ∧ J j = J (sg σ st.nx i) := fun i j hi h => by
    have h1 := hold i j hi h
    have h2 : i < σ.length := by rw [o.len]; exact hi
    have h3 : sg σ st.nx i = j := by rw [sg_lt h2]; rw [List.getElem?_eq_getElem h2] at h1; exact Option.some.inj h1
    rw [← h3]
    exact ⟨o.live hi, rfl⟩
  have hdead : ∀ i j, L.length ≤ i → τ[i]? = some j → st.h j = none ∧ C.J0 j = none := fun i j hi h => by
    obtain ⟨rfl, hk⟩ := hnew i j hi h
    exact o.free _ (by omega)
  have hnd : τ.Nodup := by
    rw [hτ, sgAll]
    refine List.nodup_append.2 ⟨o.nodup, ?_, fun x hx y hy e => ?_⟩
    · exact List.Pairwise.map _ (fun p q h1 h2 => h1 (by omega)) List.nodup_range
    · subst e
      obtain ⟨i, hi, rfl⟩ := List.getElem_of_mem hx
      have h1 := o.at_ i (L[i]'(by rw [← o.len]; exact hi)) σ[i] (List.getElem?_eq_getElem _) (List.getElem?_eq_getElem hi)
      simp at hy
      obtain ⟨k, hk, e⟩ := hy
      rw [← e, (o.free k (by omega)).1] at h1; cases h1
  rw [← hτ]
  unfold St.afterG
  rw [hm', ← hτ]
  obtain ⟨ρ, hρ⟩ : ∃ ρ, ρ = sg τ (st.nx + m) := ⟨_, rfl⟩
  have hρi : ∀ i, i < L'.length → τ[i]? = some (ρ i) := fun i hi => by
    rw [hρ, sg_lt (by rw [hlen]; exact hi)]; exact List.getElem?_eq_getElem _
  rw [← hρ]
  obtain ⟨κ, hκ⟩ : ∃ κ, κ = moved σ L := ⟨_, rfl⟩
  rw [← hκ]
  obtain ⟨H, hH⟩ : ∃ H, H = laidB (killH κ st.h) (Blk.ren ρ) τ L' := ⟨_, rfl⟩
  obtain ⟨K, hK⟩ : ∃ K, K = laidV J J' 0 τ := ⟨_, rfl⟩
  rw [← hH, ← hK]
  have Hin : ∀ (i j : Nat) (B : Blk), τ[i]? = some j → L'[i]? = some B → H j = some (B.ren ρ) := fun i j B h1 h2 => by rw [hH]; exact laidB_at hnd h1 h2
  have Hout : ∀ j, j ∉ τ → H j = killH κ st.h j := fun j hj => by rw [hH]; exact laidB_other hj
  have Kin : ∀ i j, τ[i]? = some j → K j = J' i := fun i j h => by rw [hK, laidV_at hnd h, Nat.zero_add]
  have Kout : ∀ j, j ∉ τ → K j = J j := fun j hj => by rw [hK]; exact laidV_other hj
  have mem : ∀ j, j ∈ τ → ∃ i B, τ[i]? = some j ∧ L'[i]? = some B := fun j hj => by
    obtain ⟨i, hi, rfl⟩ := List.getElem_of_mem hj
    exact ⟨i, L'[i]'(by rw [← hlen]; exact hi), List.getElem?_eq_getElem hi, List.getElem?_eq_getElem _⟩
  have newB : ∀ i b, i < L'.length → bk (J' i) = some b → w.heap.size ≤ b ∨ X b := fun i b hi hb => (hL.blk i L'[i] (List.getElem?_eq_getElem hi)).ge hb |>.1
  have notX : ∀ b, ¬ Mb C st.h J b → ¬ X b := fun b h hx => h (o.own ((hX b).1 hx))
  have hMold : ∀ b, b < w.heap.size → Mb C H K b → Mb C st.h J b := fun b hlt h => by
    rcases h with h | ⟨j, hj, hb⟩
    · exact .inl h
    by_cases hjt : j ∈ τ
    · obtain ⟨i, B, h1, h2⟩ := mem j hjt
      rw [Kin i j h1] at hb
      rcases newB i b (List.getElem?_eq_some_iff.1 h2).1 hb with h | h
      · omega
      · exact o.own ((hX b).1 h)
    · rw [Hout j hjt, killH_live] at hj; rw [Kout j hjt] at hb
      exact .inr ⟨j, hj, hb⟩
  have mono : ∀ u x, RepF w (Mb C st.h J) u x → RepF w' (Mb C H K) u x := fun u x q => q.mono (fun b hb hn => hg.block b hb (notX b hn)) hg.le hMold
  have keep : ∀ j, j ∉ κ → (st.h j).isSome = true → (H j).isSome = true ∧ K j = J j := fun j hj hs => by
    by_cases hjt : j ∈ τ
    · obtain ⟨i, B, h1, h2⟩ := mem j hjt
      have hi : i < L.length := by
        by_cases hi : i < L.length
        · exact hi
        · rw [(hdead i j (by omega) h1).1] at hs; cases hs
      refine ⟨by rw [Hin i j B h1 h2]; rfl, ?_⟩
      rw [Kin i j h1, (hlive i j hi h1).2]
      refine hpin i L[i] (List.getElem?_eq_getElem hi) ?_
      cases hst : L[i].stays with
      | true => rfl
      | false => exact absurd (hκ ▸ mem_moved (hold i j hi h1) (List.getElem?_eq_getElem hi) hst) hj
    · exact ⟨by rw [Hout j hjt, killH_live]; exact hs, Kout j hjt⟩
  have conv : ∀ v x, RepA C w st.h J v x → RepA C w' H K v (killsA κ x) := fun v x q => q.kills κ keep mono
  have hMnew : ∀ b, Mb C H K b → Mb (cxG C.P C.G M X L fun i => J (sg σ st.nx i)) (blkL L') J' b := fun b h => by
    rcases h with h | ⟨j, hj, hb⟩
    · refine .inl ((hM b).2 ⟨.inl h, fun hx => ?_⟩)
      obtain ⟨i, hi, hb⟩ := (hX b).1 hx
      have h1 := S.own_at (o.live hi) hb
      rcases h1.1 with h2 | h2
      · have := (S.old b h).1; omega
      · exact (S.old b h).2 h2
    by_cases hjt : j ∈ τ
    · obtain ⟨i, B, h1, h2⟩ := mem j hjt
      rw [Kin i j h1] at hb
      exact .inr ⟨i, blkL_live.2 (List.getElem?_eq_some_iff.1 h2).1, hb⟩
    · rw [Hout j hjt, killH_live] at hj; rw [Kout j hjt] at hb
      refine .inl ((hM b).2 ⟨.inr ⟨j, hj, hb⟩, fun hx => ?_⟩)
      obtain ⟨i, hi, hb2⟩ := (hX b).1 hx
      have e := S.apart j _ b hj (o.live hi) hb hb2
      refine hjt ?_
      rw [hτ, sgAll, e, sg_lt (by rw [o.len]; exact hi)]
      exact List.mem_append_left _ (List.getElem_mem _)
  have fromF : ∀ u x, RepF w' (Mb (cxG C.P C.G M X L fun i => J (sg σ st.nx i)) (blkL L') J') u x → RepF w' (Mb C H K) u x := fun u x q => q.ext (Ext.refl _) fun b _ h => hMnew b h
  have fromA : ∀ v x, RepA (cxG C.P C.G M X L fun i => J (sg σ st.nx i)) w' (blkL L') J' v x → RepA C w' H K v (x.ren ρ) := fun v x q => q.ren (fun i hi => by
    have hi' := blkL_live.1 hi
    exact ⟨by rw [Hin i (ρ i) L'[i] (hρi i hi') (List.getElem?_eq_getElem hi')]; rfl, Kin i _ (hρi i hi')⟩) fromF
  have base : ∀ b, w.heap.size ≤ b ∨ X b → w0.heap.size ≤ b ∨ C.X b := fun b h => by
    rcases h with h | h
    · exact .inl (Nat.le_trans S.ext.le h)
    · obtain ⟨i, hi, hb⟩ := (hX b).1 h
      exact (S.own_at (o.live hi) hb).1
  have S2 : Sim C w0 N ⟨killS κ st.s, H, st.nx + m⟩ a w' K := by
    refine ⟨⟨hg.os.trans S.ext.os, hg.tape.trans S.ext.tape, hg.output.trans S.ext.output, Nat.le_trans S.ext.le hg.le, fun k hk hx => ?_⟩, S.size, ⟨S.defs.1.keeps fun D _ h => ?_, S.defs.2⟩, fun t => ?_, fun j B hB => ?_, fun j k b hj hk hjb hkb => ?_, S.old, fun g cs h => mono _ _ (S.glob g cs h), fun j p B hp hB hs => ?_⟩
    · refine (hg.block k (Nat.lt_of_lt_of_le hk S.ext.le) (fun h => ?_)).trans (S.ext.block k hk hx)
      rcases base k (.inr h) with h | h
      · omega
      · exact hx h
    · refine (hg.block D (Array.getElem?_eq_some_iff.1 h).1 (fun hx => ?_)).trans h
      obtain ⟨i, hi, hb⟩ := (hX D).1 hx
      obtain ⟨B, hB⟩ := Option.isSome_iff_exists.1 (o.live hi)
      obtain ⟨ob, h2, h3⟩ := (S.blk _ B hB).obj hb
      rw [h] at h2; cases h2; cases h3
    · show RepA C w' H K _ (killS κ st.s t)
      cases κ with
      | nil =>
        refine (S.slot t).same fun u c q => q.conv (fun j hj => keep j (by simp) hj) mono
      | cons i r => exact conv _ _ (S.slot t)
    · by_cases hjt : j ∈ τ
      · obtain ⟨i, B', h1, h2⟩ := mem j hjt
        have hB' : H j = some B := hB
        rw [Hin i j B' h1 h2] at hB'; cases hB'
        rw [Kin i j h1]
        exact (hL.blk i B' h2).conv (AV.ren ρ) (fun _ _ => rfl) (fun b _ h => base b h) fromA fromF
      · have hB' : H j = some B := hB
        rw [Hout j hjt] at hB'
        rw [Kout j hjt]
        have same : ∀ b B0, st.h j = some B0 → bk (J j) = some b → w'.heap[b]? = w.heap[b]? := fun b B0 hB0 hb => hg.block b ((S.blk j B0 hB0).ge hb).2 fun hx => by
          obtain ⟨i, hi, hb2⟩ := (hX b).1 hx
          have e := S.apart j _ b (by rw [hB0]; rfl) (o.live hi) hb hb2
          refine hjt ?_
          rw [hτ, sgAll, e, sg_lt (by rw [o.len]; exact hi)]
          exact List.mem_append_left _ (List.getElem_mem _)
        cases κ with
        | nil =>
          have hB0 : st.h j = some B := hB'
          exact (S.blk j B hB0).conv0 (fun b hb => same b B hB0 hb) (fun _ _ h => h) (fun _ _ q => q.same fun u c q => q.conv (fun j hj => keep j (by simp) hj) mono) mono
        | cons i r =>
          simp only [killH, Option.map_eq_some_iff] at hB'
          obtain ⟨B0, hB0, rfl⟩ := hB'
          exact (S.blk j B0 hB0).conv (killsA (i :: r)) (fun b hb => same b B0 hB0 hb) (fun _ _ h => h) conv mono
    · have split : ∀ j, (H j).isSome = true → bk (K j) = some b → (∃ i, i < L'.length ∧ τ[i]? = some j ∧ bk (J' i) = some b) ∨ (j ∉ τ ∧ (st.h j).isSome = true ∧ bk (J j) = some b) := fun j hj hb => by
        by_cases hjt : j ∈ τ
        · obtain ⟨i, B', h1, h2⟩ := mem j hjt
          rw [Kin i j h1] at hb
          exact .inl ⟨i, (List.getElem?_eq_some_iff.1 h2).1, h1, hb⟩
        · rw [Hout j hjt, killH_live] at hj; rw [Kout j hjt] at hb
          exact .inr ⟨hjt, hj, hb⟩
      have cross : ∀ i j k, i < L'.length → τ[i]? = some j → bk (J' i) = some b → k ∉ τ → (st.h k).isSome = true → bk (J k) = some b → False := fun i j k hi _ hb hk hks hkb => by
        rcases newB i b hi hb with h | h
        · have := (S.own_at hks hkb).2; omega
        · obtain ⟨q, hq, hqb⟩ := (hX b).1 h
          have e := S.apart k _ b hks (o.live hq) hkb hqb
          refine hk ?_
          rw [hτ, sgAll, e, sg_lt (by rw [o.len]; exact hq)]
          exact List.mem_append_left _ (List.getElem_mem _)
      rcases split j hj hjb with ⟨i, hi, h1, h2⟩ | ⟨h1, h2, h3⟩ <;> rcases split k hk hkb with ⟨i', hi', k1, k2⟩ | ⟨k1, k2, k3⟩
      · have e := hL.apart i i' b hi hi' h2 k2
        subst e; rw [h1] at k1; exact Option.some.inj k1
      · exact (cross i j k hi h1 h2 k1 k2 k3).elim
      · exact (cross i' k j hi' k1 k2 h1 h2 h3).elim
      · exact S.apart j k b h2 k2 h3 k3
    · have hB' : H j = some B := hB
      by_cases hjt : j ∈ τ
      · obtain ⟨i, B', h1, h2⟩ := mem j hjt
        rw [Hin i j B' h1 h2] at hB'; cases hB'
        rw [Blk.ren_stays] at hs
        rw [Kin i j h1]
        by_cases hi : i < L.length
        · have hst : L[i].stays = true := by rw [hkind i L[i] B' (List.getElem?_eq_getElem hi) h2]; exact hs
          rw [hpin i L[i] (List.getElem?_eq_getElem hi) hst, ← (hlive i j hi h1).2]
          have h3 := o.at_ i L[i] j (List.getElem?_eq_getElem hi) (hold i j hi h1)
          exact S.fix j p _ hp h3 (by rw [Blk.ren_stays]; exact hst)
        · rw [(hdead i j (by omega) h1).2] at hp; cases hp
      · rw [Hout j hjt] at hB'
        obtain ⟨B0, h0, e⟩ := killH_some hB'
        rw [Kout j hjt]
        exact S.fix j p B0 hp h0 (by rw [← e]; exact hs)
  have S3 := S2.put hd (fromA _ _ hret)
  cases d <;> exact S3
end
end Go.Ab
