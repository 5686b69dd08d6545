/- Laws on which the proofs of this seat stand. No condition. -/
import Derived.Test.YtienhiloecfgnaaDoorK4
namespace Go.Ab
open Go Go.RowKit Go.Shelf Go.Proofs
section
variable {C : Ctx} {N : Nat}
theorem run_idxA {P : Program} {T E b off n s : Nat} {k : IntKind} {z : Int} {i : TypeInfo} {w : World} (hu : P.underlying T = some (.array n E)) (hi : P.info? E = some i) (hs : i.size = s) (h0 : 0 ≤ z) (hn : z < n) :
    (Instr.indexAt T (.pointer (some ⟨b, off, none⟩)) (.int k z)).run P w = .ok (.pointer (some ⟨b, off + z.toNat * s, none⟩)) w := by
  subst hs
  simp [Instr.indexAt, asIntOf, run_underlying hu, h0, hn, sizeOf, typeInfo, hi, addr_add, Instr.sureAddr]
theorem v_idxA {o : Oper} {st : St} {T E n s q : Nat} {x y : Operand} {cs : List FV} {k : IntKind} {z : Int} {i : TypeInfo} (ho : o.op = .indexAddr T x y) (hd : dstB N o.dst = true) (hu : C.P.underlying T = some (.array n E)) (hi : C.P.info? E = some i) (hs : i.size = s)
    (hx : st.ev C x = .f (.pt cs q)) (hy : st.ev C y = .f (.v (.int k z))) (h0 : 0 ≤ z) (hn : z < n) : ValOp C N o st (.f (.pt cs (q + z.toNat * s))) :=
  valop_run hd fun w0 a w J st' hA S => by
    have e1 := evF S ((hA.ev x (by simp [ho, Op.operands])).trans hx)
    have e2 := evV S ((hA.ev y (by simp [ho, Op.operands])).trans hy)
    generalize hv : a.eval x = v at e1
    cases e1 with
    | pt b off _ _ us h1 h2 h3 h4 =>
      refine ⟨.pointer (some ⟨b, off + q + z.toNat * s, none⟩), w, by simp [execOp, ho, hv, e2, run_idxA hu hi hs h0 hn], Ext.refl _, ?_⟩
      rw [Nat.add_assoc]
      exact RepF.pt b off _ _ us h1 h2 h3 h4
variable {Q : Exit → St → Prop} {st : St} {ops : Array Oper} {pr : Bool} {K : St → Prop} {rest : List Oper}
theorem s_idxA {d : Option Tmp} {T0 : TypeId} {pos : String} {af : Array Edge} {T E n s q : Nat} {x y : Operand} {cs : List FV} {k : IntKind} {z : Int} {i : TypeInfo} (hu : C.P.underlying T = some (.array n E)) (hi : C.P.info? E = some i) (hs : i.size = s) (hd : dstB N d = true) (hx : st.ev C x = .f (.pt cs q)) (hy : st.ev C y = .f (.v (.int k z))) (h0 : 0 ≤ z) (hn : z < n) (h : R C N ops pr K rest (st.put d (.f (.pt cs (q + z.toNat * s))))) : R C N ops pr K (⟨d, .indexAddr T x y, T0, pos, af, none⟩ :: rest) st := ⟨r_val rfl (v_idxA rfl hd hu hi hs hx hy h0 hn) h.out⟩
end
end Go.Ab
namespace Go.Ab
open Go Go.RowKit Go.Shelf Go.Proofs
section
variable {C : Ctx} {N : Nat} {Q : Exit → St → Prop} {st : St} {ops : Array Oper} {pr : Bool} {K : St → Prop} {rest : List Oper}
theorem ndT {p : Prop} [Decidable p] (h : ¬ p) : (!decide p) = true := by simp [h]
theorem ndF {p : Prop} [Decidable p] (h : p) : (!decide p) = false := by simp [h]
theorem s_lss_t {d : Option Tmp} {T0 : TypeId} {pos : String} {af : Array Edge} {T T' : TypeId} {x y : Operand} {k : IntKind} {p q : Int} (hd : dstB N d = true) (hx : st.ev C x = .f (.v (.int k p))) (hy' : st.ev C y = .f (.v (.int k q))) (hp : p < q) (h : R C N ops pr K rest (st.put d (.f (.v (.bool true))))) : R C N ops pr K (⟨d, .binOp .lss T x y T', T0, pos, af, none⟩ :: rest) st := s_lss hd hx hy' (by rw [decide_eq_true hp]; exact h)
theorem g_lss_t {d : Option Tmp} {T0 : TypeId} {pos : String} {af : Array Edge} {T T' : TypeId} {x y : Operand} {k : IntKind} {p q : Int} {j : Nat} {want bb : Bool} (hy : yl st ops j = some bb) (hb : bb = want) (hd : dstB N d = true) (hx : st.ev C x = .f (.v (.int k p))) (hy' : st.ev C y = .f (.v (.int k q))) (hp : p < q) (h : R C N ops pr K rest (st.put d (.f (.v (.bool true))))) : R C N ops pr K (⟨d, .binOp .lss T x y T', T0, pos, af, some (j, want)⟩ :: rest) st := g_lss hy hb hd hx hy' (by rw [decide_eq_true hp]; exact h)
theorem s_lss_f {d : Option Tmp} {T0 : TypeId} {pos : String} {af : Array Edge} {T T' : TypeId} {x y : Operand} {k : IntKind} {p q : Int} (hd : dstB N d = true) (hx : st.ev C x = .f (.v (.int k p))) (hy' : st.ev C y = .f (.v (.int k q))) (hp : ¬ (p < q)) (h : R C N ops pr K rest (st.put d (.f (.v (.bool false))))) : R C N ops pr K (⟨d, .binOp .lss T x y T', T0, pos, af, none⟩ :: rest) st := s_lss hd hx hy' (by rw [decide_eq_false hp]; exact h)
theorem g_lss_f {d : Option Tmp} {T0 : TypeId} {pos : String} {af : Array Edge} {T T' : TypeId} {x y : Operand} {k : IntKind} {p q : Int} {j : Nat} {want bb : Bool} (hy : yl st ops j = some bb) (hb : bb = want) (hd : dstB N d = true) (hx : st.ev C x = .f (.v (.int k p))) (hy' : st.ev C y = .f (.v (.int k q))) (hp : ¬ (p < q)) (h : R C N ops pr K rest (st.put d (.f (.v (.bool false))))) : R C N ops pr K (⟨d, .binOp .lss T x y T', T0, pos, af, some (j, want)⟩ :: rest) st := g_lss hy hb hd hx hy' (by rw [decide_eq_false hp]; exact h)
theorem s_leq_t {d : Option Tmp} {T0 : TypeId} {pos : String} {af : Array Edge} {T T' : TypeId} {x y : Operand} {k : IntKind} {p q : Int} (hd : dstB N d = true) (hx : st.ev C x = .f (.v (.int k p))) (hy' : st.ev C y = .f (.v (.int k q))) (hp : p ≤ q) (h : R C N ops pr K rest (st.put d (.f (.v (.bool true))))) : R C N ops pr K (⟨d, .binOp .leq T x y T', T0, pos, af, none⟩ :: rest) st := s_leq hd hx hy' (by rw [decide_eq_true hp]; exact h)
theorem g_leq_t {d : Option Tmp} {T0 : TypeId} {pos : String} {af : Array Edge} {T T' : TypeId} {x y : Operand} {k : IntKind} {p q : Int} {j : Nat} {want bb : Bool} (hy : yl st ops j = some bb) (hb : bb = want) (hd : dstB N d = true) (hx : st.ev C x = .f (.v (.int k p))) (hy' : st.ev C y = .f (.v (.int k q))) (hp : p ≤ q) (h : R C N ops pr K rest (st.put d (.f (.v (.bool true))))) : R C N ops pr K (⟨d, .binOp .leq T x y T', T0, pos, af, some (j, want)⟩ :: rest) st := g_leq hy hb hd hx hy' (by rw [decide_eq_true hp]; exact h)
theorem s_leq_f {d : Option Tmp} {T0 : TypeId} {pos : String} {af : Array Edge} {T T' : TypeId} {x y : Operand} {k : IntKind} {p q : Int} (hd : dstB N d = true) (hx : st.ev C x = .f (.v (.int k p))) (hy' : st.ev C y = .f (.v (.int k q))) (hp : ¬ (p ≤ q)) (h : R C N ops pr K rest (st.put d (.f (.v (.bool false))))) : R C N ops pr K (⟨d, .binOp .leq T x y T', T0, pos, af, none⟩ :: rest) st := s_leq hd hx hy' (by rw [decide_eq_false hp]; exact h)
theorem g_leq_f {d : Option Tmp} {T0 : TypeId} {pos : String} {af : Array Edge} {T T' : TypeId} {x y : Operand} {k : IntKind} {p q : Int} {j : Nat} {want bb : Bool} (hy : yl st ops j = some bb) (hb : bb = want) (hd : dstB N d = true) (hx : st.ev C x = .f (.v (.int k p))) (hy' : st.ev C y = .f (.v (.int k q))) (hp : ¬ (p ≤ q)) (h : R C N ops pr K rest (st.put d (.f (.v (.bool false))))) : R C N ops pr K (⟨d, .binOp .leq T x y T', T0, pos, af, some (j, want)⟩ :: rest) st := g_leq hy hb hd hx hy' (by rw [decide_eq_false hp]; exact h)
theorem s_gtr_t {d : Option Tmp} {T0 : TypeId} {pos : String} {af : Array Edge} {T T' : TypeId} {x y : Operand} {k : IntKind} {p q : Int} (hd : dstB N d = true) (hx : st.ev C x = .f (.v (.int k p))) (hy' : st.ev C y = .f (.v (.int k q))) (hp : q < p) (h : R C N ops pr K rest (st.put d (.f (.v (.bool true))))) : R C N ops pr K (⟨d, .binOp .gtr T x y T', T0, pos, af, none⟩ :: rest) st := s_gtr hd hx hy' (by rw [decide_eq_true hp]; exact h)
theorem g_gtr_t {d : Option Tmp} {T0 : TypeId} {pos : String} {af : Array Edge} {T T' : TypeId} {x y : Operand} {k : IntKind} {p q : Int} {j : Nat} {want bb : Bool} (hy : yl st ops j = some bb) (hb : bb = want) (hd : dstB N d = true) (hx : st.ev C x = .f (.v (.int k p))) (hy' : st.ev C y = .f (.v (.int k q))) (hp : q < p) (h : R C N ops pr K rest (st.put d (.f (.v (.bool true))))) : R C N ops pr K (⟨d, .binOp .gtr T x y T', T0, pos, af, some (j, want)⟩ :: rest) st := g_gtr hy hb hd hx hy' (by rw [decide_eq_true hp]; exact h)
theorem s_gtr_f {d : Option Tmp} {T0 : TypeId} {pos : String} {af : Array Edge} {T T' : TypeId} {x y : Operand} {k : IntKind} {p q : Int} (hd : dstB N d = true) (hx : st.ev C x = .f (.v (.int k p))) (hy' : st.ev C y = .f (.v (.int k q))) (hp : ¬ (q < p)) (h : R C N ops pr K rest (st.put d (.f (.v (.bool false))))) : R C N ops pr K (⟨d, .binOp .gtr T x y T', T0, pos, af, none⟩ :: rest) st := s_gtr hd hx hy' (by rw [decide_eq_false hp]; exact h)
theorem g_gtr_f {d : Option Tmp} {T0 : TypeId} {pos : String} {af : Array Edge} {T T' : TypeId} {x y : Operand} {k : IntKind} {p q : Int} {j : Nat} {want bb : Bool} (hy : yl st ops j = some bb) (hb : bb = want) (hd : dstB N d = true) (hx : st.ev C x = .f (.v (.int k p))) (hy' : st.ev C y = .f (.v (.int k q))) (hp : ¬ (q < p)) (h : R C N ops pr K rest (st.put d (.f (.v (.bool false))))) : R C N ops pr K (⟨d, .binOp .gtr T x y T', T0, pos, af, some (j, want)⟩ :: rest) st := g_gtr hy hb hd hx hy' (by rw [decide_eq_false hp]; exact h)
theorem s_geq_t {d : Option Tmp} {T0 : TypeId} {pos : String} {af : Array Edge} {T T' : TypeId} {x y : Operand} {k : IntKind} {p q : Int} (hd : dstB N d = true) (hx : st.ev C x = .f (.v (.int k p))) (hy' : st.ev C y = .f (.v (.int k q))) (hp : q ≤ p) (h : R C N ops pr K rest (st.put d (.f (.v (.bool true))))) : R C N ops pr K (⟨d, .binOp .geq T x y T', T0, pos, af, none⟩ :: rest) st := s_geq hd hx hy' (by rw [decide_eq_true hp]; exact h)
theorem g_geq_t {d : Option Tmp} {T0 : TypeId} {pos : String} {af : Array Edge} {T T' : TypeId} {x y : Operand} {k : IntKind} {p q : Int} {j : Nat} {want bb : Bool} (hy : yl st ops j = some bb) (hb : bb = want) (hd : dstB N d = true) (hx : st.ev C x = .f (.v (.int k p))) (hy' : st.ev C y = .f (.v (.int k q))) (hp : q ≤ p) (h : R C N ops pr K rest (st.put d (.f (.v (.bool true))))) : R C N ops pr K (⟨d, .binOp .geq T x y T', T0, pos, af, some (j, want)⟩ :: rest) st := g_geq hy hb hd hx hy' (by rw [decide_eq_true hp]; exact h)
theorem s_geq_f {d : Option Tmp} {T0 : TypeId} {pos : String} {af : Array Edge} {T T' : TypeId} {x y : Operand} {k : IntKind} {p q : Int} (hd : dstB N d = true) (hx : st.ev C x = .f (.v (.int k p))) (hy' : st.ev C y = .f (.v (.int k q))) (hp : ¬ (q ≤ p)) (h : R C N ops pr K rest (st.put d (.f (.v (.bool false))))) : R C N ops pr K (⟨d, .binOp .geq T x y T', T0, pos, af, none⟩ :: rest) st := s_geq hd hx hy' (by rw [decide_eq_false hp]; exact h)
theorem g_geq_f {d : Option Tmp} {T0 : TypeId} {pos : String} {af : Array Edge} {T T' : TypeId} {x y : Operand} {k : IntKind} {p q : Int} {j : Nat} {want bb : Bool} (hy : yl st ops j = some bb) (hb : bb = want) (hd : dstB N d = true) (hx : st.ev C x = .f (.v (.int k p))) (hy' : st.ev C y = .f (.v (.int k q))) (hp : ¬ (q ≤ p)) (h : R C N ops pr K rest (st.put d (.f (.v (.bool false))))) : R C N ops pr K (⟨d, .binOp .geq T x y T', T0, pos, af, some (j, want)⟩ :: rest) st := g_geq hy hb hd hx hy' (by rw [decide_eq_false hp]; exact h)
theorem s_eql_t {d : Option Tmp} {T0 : TypeId} {pos : String} {af : Array Edge} {T T' : TypeId} {x y : Operand} {k : IntKind} {p q : Int} (hd : dstB N d = true) (hx : st.ev C x = .f (.v (.int k p))) (hy' : st.ev C y = .f (.v (.int k q))) (hp : p = q) (h : R C N ops pr K rest (st.put d (.f (.v (.bool true))))) : R C N ops pr K (⟨d, .binOp .eql T x y T', T0, pos, af, none⟩ :: rest) st := s_eql hd hx hy' (by rw [decide_eq_true hp]; exact h)
theorem g_eql_t {d : Option Tmp} {T0 : TypeId} {pos : String} {af : Array Edge} {T T' : TypeId} {x y : Operand} {k : IntKind} {p q : Int} {j : Nat} {want bb : Bool} (hy : yl st ops j = some bb) (hb : bb = want) (hd : dstB N d = true) (hx : st.ev C x = .f (.v (.int k p))) (hy' : st.ev C y = .f (.v (.int k q))) (hp : p = q) (h : R C N ops pr K rest (st.put d (.f (.v (.bool true))))) : R C N ops pr K (⟨d, .binOp .eql T x y T', T0, pos, af, some (j, want)⟩ :: rest) st := g_eql hy hb hd hx hy' (by rw [decide_eq_true hp]; exact h)
theorem s_eql_f {d : Option Tmp} {T0 : TypeId} {pos : String} {af : Array Edge} {T T' : TypeId} {x y : Operand} {k : IntKind} {p q : Int} (hd : dstB N d = true) (hx : st.ev C x = .f (.v (.int k p))) (hy' : st.ev C y = .f (.v (.int k q))) (hp : ¬ (p = q)) (h : R C N ops pr K rest (st.put d (.f (.v (.bool false))))) : R C N ops pr K (⟨d, .binOp .eql T x y T', T0, pos, af, none⟩ :: rest) st := s_eql hd hx hy' (by rw [decide_eq_false hp]; exact h)
theorem g_eql_f {d : Option Tmp} {T0 : TypeId} {pos : String} {af : Array Edge} {T T' : TypeId} {x y : Operand} {k : IntKind} {p q : Int} {j : Nat} {want bb : Bool} (hy : yl st ops j = some bb) (hb : bb = want) (hd : dstB N d = true) (hx : st.ev C x = .f (.v (.int k p))) (hy' : st.ev C y = .f (.v (.int k q))) (hp : ¬ (p = q)) (h : R C N ops pr K rest (st.put d (.f (.v (.bool false))))) : R C N ops pr K (⟨d, .binOp .eql T x y T', T0, pos, af, some (j, want)⟩ :: rest) st := g_eql hy hb hd hx hy' (by rw [decide_eq_false hp]; exact h)
theorem s_neq_t {d : Option Tmp} {T0 : TypeId} {pos : String} {af : Array Edge} {T T' : TypeId} {x y : Operand} {k : IntKind} {p q : Int} (hd : dstB N d = true) (hx : st.ev C x = .f (.v (.int k p))) (hy' : st.ev C y = .f (.v (.int k q))) (hp : ¬ (p = q)) (h : R C N ops pr K rest (st.put d (.f (.v (.bool true))))) : R C N ops pr K (⟨d, .binOp .neq T x y T', T0, pos, af, none⟩ :: rest) st := s_neq hd hx hy' (by rw [ndT hp]; exact h)
theorem g_neq_t {d : Option Tmp} {T0 : TypeId} {pos : String} {af : Array Edge} {T T' : TypeId} {x y : Operand} {k : IntKind} {p q : Int} {j : Nat} {want bb : Bool} (hy : yl st ops j = some bb) (hb : bb = want) (hd : dstB N d = true) (hx : st.ev C x = .f (.v (.int k p))) (hy' : st.ev C y = .f (.v (.int k q))) (hp : ¬ (p = q)) (h : R C N ops pr K rest (st.put d (.f (.v (.bool true))))) : R C N ops pr K (⟨d, .binOp .neq T x y T', T0, pos, af, some (j, want)⟩ :: rest) st := g_neq hy hb hd hx hy' (by rw [ndT hp]; exact h)
theorem s_neq_f {d : Option Tmp} {T0 : TypeId} {pos : String} {af : Array Edge} {T T' : TypeId} {x y : Operand} {k : IntKind} {p q : Int} (hd : dstB N d = true) (hx : st.ev C x = .f (.v (.int k p))) (hy' : st.ev C y = .f (.v (.int k q))) (hp : p = q) (h : R C N ops pr K rest (st.put d (.f (.v (.bool false))))) : R C N ops pr K (⟨d, .binOp .neq T x y T', T0, pos, af, none⟩ :: rest) st := s_neq hd hx hy' (by rw [ndF hp]; exact h)
theorem g_neq_f {d : Option Tmp} {T0 : TypeId} {pos : String} {af : Array Edge} {T T' : TypeId} {x y : Operand} {k : IntKind} {p q : Int} {j : Nat} {want bb : Bool} (hy : yl st ops j = some bb) (hb : bb = want) (hd : dstB N d = true) (hx : st.ev C x = .f (.v (.int k p))) (hy' : st.ev C y = .f (.v (.int k q))) (hp : p = q) (h : R C N ops pr K rest (st.put d (.f (.v (.bool false))))) : R C N ops pr K (⟨d, .binOp .neq T x y T', T0, pos, af, some (j, want)⟩ :: rest) st := g_neq hy hb hd hx hy' (by rw [ndF hp]; exact h)
end
end Go.Ab
namespace Go.Ab
open Go Go.RowKit Go.Shelf Go.Proofs
section
variable {C : Ctx} {N : Nat} {st : St}
def aLoad (C : Ctx) (ty : TyD) (st : St) (x : Operand) : Option AV := match st.ev C x with
  | .f (.pt cs off) => match ty.scal with
    | true => match cs[off]? with
      | some c => some (.f c)
      | none => none
    | false => match ty.agg with
      | some n => match Nat.beq ((cs.drop off).take n).length n with
        | true => some (.f (.agg ((cs.drop off).take n)))
        | false => none
      | none => none
  | .bx i off => match st.h i with
    | some (.box cs) => match ty.scal with
      | true => cs[off]?
      | false => match ty.agg with
        | some n => match unL ((cs.drop off).take n) with
          | some sub => match Nat.beq sub.length n with
            | true => some (.f (.agg sub))
            | false => none
          | none => none
        | none => none
    | some (.row _ _ _ cs) => match ty.scal with
      | true => match cs[off]? with
        | some c => some (.f c)
        | none => none
      | false => none
    | some (.rowA _ _ _ _) => none
    | none => none
  | _ => none
theorem aLoad_ok {o : Oper} {T : TypeId} {x : Operand} {r : AV} (ty : Ty C.P) (ho : o.op = .load T x) (hd : dstB N o.dst = true) (h : aLoad C (ty.ty T) st x = some r) : ValOp C N o st r := by
  unfold aLoad at h
  split at h
  · rename_i cs off hx
    split at h
    · rename_i hT
      split at h
      · rename_i c hc
        cases h; exact v_load_pt ty ho hd hT hx hc
      · cases h
    · split at h
      · rename_i n hn
        split at h
        · rename_i hb
          cases h; exact v_load_pts ty ho hd hn hx rfl (Nat.eq_of_beq_eq_true hb)
        · cases h
      · cases h
  · rename_i i off hx
    split at h
    · rename_i cs hi
      split at h
      · rename_i hT
        exact v_load_bx ty ho hd hT hx hi h
      · split at h
        · rename_i n hn
          split at h
          · rename_i sub hs
            split at h
            · rename_i hb
              cases h; exact v_load_bxs ty ho hd hn hx hi (unL_spec hs) (Nat.eq_of_beq_eq_true hb)
            · cases h
          · cases h
        · cases h
    · rename_i cs hi
      split at h
      · rename_i hT
        split at h
        · rename_i c hc
          cases h; exact v_load_row ty ho hd hT hx hi hc
        · cases h
      · cases h
    · cases h
    · cases h
  · cases h
def aFld (C : Ctx) (ty : TyD) (st : St) (x : Operand) (f : Nat) : Option AV := match ty.fld[f]? with
  | some fo => match st.ev C x with
    | .f (.pt cs off) => some (.f (.pt cs (off + fo)))
    | .bx i off => some (.bx i (off + fo))
    | _ => none
  | none => none
theorem aFld_ok {o : Oper} {T f : Nat} {x : Operand} {r : AV} (ty : Ty C.P) (ho : o.op = .fieldAddr T x f) (hd : dstB N o.dst = true) (h : aFld C (ty.ty T) st x f = some r) : ValOp C N o st r := by
  unfold aFld at h
  split at h
  · rename_i fo hf
    split at h
    · rename_i cs off hx
      cases h; exact v_fld_pt ty ho hd hf hx
    · rename_i i off hx
      cases h; exact v_fld_bx ty ho hd hf hx
    · cases h
  · cases h
def aMv : AV → Option AV
  | .f (.v x) => some (.f (.v x))
  | .f (.sl n cs) => some (.f (.sl n cs))
  | .f (.pt cs o) => some (.f (.pt cs o))
  | .f (.agg cs) => some (.f (.agg cs))
  | .f y => some (.f y)
  | .bx i o => some (.bx i o)
  | .ow i => some (.ow i)
  | .bot => some .bot
  | .ag i cs => some (.ag i cs)
  | .fb f cs i => some (.fb f cs i)
theorem aMv_eq : ∀ a : AV, aMv a = some a := fun a => by
  unfold aMv; split <;> rfl
def aPick (C : Ctx) (st : St) (c x y : Operand) : Option AV := match st.ev C c with
  | .f (.v (.bool true)) => aMv (st.ev C x)
  | .f (.v (.bool false)) => aMv (st.ev C y)
  | _ => none
theorem aPick_ok {o : Oper} {c x y : Operand} {r : AV} (ho : o.op = .pick c x y) (hd : dstB N o.dst = true) (h : aPick C st c x y = some r) : ValOp C N o st r := by
  unfold aPick at h
  split at h
  · rename_i hc; rw [aMv_eq] at h; cases h; exact v_pickT ho hd hc rfl
  · rename_i hc; rw [aMv_eq] at h; cases h; exact v_pickF ho hd hc rfl
  · cases h
def aExt (C : Ctx) (st : St) (x : Operand) (i : Nat) : Option AV := match st.ev C x with
  | .f (.tup l) => match l[i]? with
    | some y => some (.f y)
    | none => none
  | _ => none
theorem aExt_ok {o : Oper} {x : Operand} {i : Nat} {r : AV} (ho : o.op = .extract x i) (hd : dstB N o.dst = true) (h : aExt C st x i = some r) : ValOp C N o st r := by
  unfold aExt at h
  split at h
  · rename_i l hx
    split at h
    · rename_i y hy; cases h; exact v_extract ho hd hx hy
    · cases h
  · cases h
def aNot (C : Ctx) (st : St) (x : Operand) : Option AV := match st.ev C x with
  | .f (.v (.bool b)) => some (.f (.v (.bool (!b))))
  | _ => none
theorem aNot_ok {o : Oper} {T : TypeId} {x : Operand} {r : AV} (ho : o.op = .unOp .not T x) (hd : dstB N o.dst = true) (h : aNot C st x = some r) : ValOp C N o st r := by
  unfold aNot at h
  split at h
  · rename_i b hx; cases h; exact v_un ho hd hx u_not
  · cases h
def aLen (C : Ctx) (ty : TyD) (st : St) (x : Operand) : Option AV := match ty.sl with
  | some _ => match st.ev C x with
    | .f (.sl n _) => some (.f (.v (.int .i64 n)))
    | .f (.v (.slice _ n _)) => some (.f (.v (.int .i64 n)))
    | .ow i => match st.h i with
      | some (.row _ _ n _) => some (.f (.v (.int .i64 n)))
      | _ => none
    | _ => none
  | none => match ty.str with
    | true => match st.ev C x with
      | .f (.v (.string s)) => some (.f (.v (.int .i64 s.size)))
      | _ => none
    | false => none
theorem aLen_ok {o : Oper} {T : TypeId} {x : Operand} {r : AV} (ty : Ty C.P) (ho : o.op = .call { callee := .builtin .len, args := #[x], argTypes := #[T] }) (hd : dstB N o.dst = true) (h : aLen C (ty.ty T) st x = some r) : ValOp C N o st r := by
  unfold aLen at h
  split at h
  · rename_i p hT
    obtain ⟨E, s, bs⟩ := p
    split at h
    · rename_i n cs hx; cases h; exact v_len ty ho hd hT hx
    · rename_i a n c hx; cases h; exact v_len_nil ty ho hd hT hx
    · rename_i i hx
      split at h
      · rename_i e sz n cs hi; cases h; exact v_len_ow ty ho hd hT hx hi
      · cases h
    · cases h
  · split at h
    · rename_i hs
      split at h
      · rename_i s hx; cases h; exact v_len_str ty hs ho hd hx
      · cases h
    · cases h
def aMM (C : Ctx) (st : St) (mn : Bool) (x y : Operand) : Option AV := match st.ev C x with
  | .f (.v (.int k p)) => match st.ev C y with
    | .f (.v (.int _ q)) => match mn with
      | true => some (.f (.v (.int k (min p q))))
      | false => some (.f (.v (.int k (max p q))))
    | _ => none
  | _ => none
def aCall (C : Ctx) (ty : Nat → TyD) (st : St) (b : Builtin) (l : List Operand) (ts : List TypeId) : Option AV := match b with
  | .len => match l with
    | [x] => match ts with
      | [T] => aLen C (ty T) st x
      | _ => none
    | _ => none
  | .min => match l with
    | [x, y] => match ts with
      | [_, _] => aMM C st true x y
      | _ => none
    | _ => none
  | .max => match l with
    | [x, y] => match ts with
      | [_, _] => aMM C st false x y
      | _ => none
    | _ => none
  | _ => none
theorem arr_of {α : Type} {a : Array α} {l : List α} (h : a.toList = l) : a = l.toArray := by
  subst h; simp
theorem aCall_ok {o : Oper} {b : Builtin} {args : Array Operand} {ts : Array TypeId} {r : AV} (ty : Ty C.P) (ho : o.op = .call { callee := .builtin b, args := args, argTypes := ts }) (hd : dstB N o.dst = true) (h : aCall C ty.ty st b args.toList ts.toList = some r) : ValOp C N o st r := by
  unfold aCall at h
  split at h
  · split at h
    · rename_i x hx
      split at h
      · rename_i T hT
        have e1 := arr_of hx
        have e2 := arr_of hT
        subst e1; subst e2
        exact aLen_ok ty ho hd h
      · cases h
    · cases h
  · split at h
    · rename_i x y hx
      split at h
      · rename_i T T' hT
        have e1 := arr_of hx
        have e2 := arr_of hT
        subst e1; subst e2
        unfold aMM at h
        split at h
        · rename_i k p hx
          split at h
          · rename_i k' q hy
            cases h; exact v_min2 ho hd hx hy
          · cases h
        · cases h
      · cases h
    · cases h
  · split at h
    · rename_i x y hx
      split at h
      · rename_i T T' hT
        have e1 := arr_of hx
        have e2 := arr_of hT
        subst e1; subst e2
        unfold aMM at h
        split at h
        · rename_i k p hx
          split at h
          · rename_i k' q hy
            cases h; exact v_max2 ho hd hx hy
          · cases h
        · cases h
      · cases h
    · cases h
  · cases h
def aBuild (C : Ctx) (ty : TyD) (st : St) (parts : List (Nat × Operand)) : Option AV := match ty.pl with
  | some pl => match ty.zero with
    | some zs => match st.evP C parts with
      | some xs => match fillF (fun i => pl[i]?) (zs.map .v) xs with
        | some cs => some (.f (.agg cs))
        | none => none
      | none => none
    | none => none
  | none => none
theorem aBuild_ok {o : Oper} {T : TypeId} {parts : Array (Nat × Operand)} {r : AV} (ty : Ty C.P) (ho : o.op = .build T parts) (hd : dstB N o.dst = true) (h : aBuild C (ty.ty T) st parts.toList = some r) : ValOp C N o st r := by
  unfold aBuild at h
  split at h
  · rename_i pl hpl
    split at h
    · rename_i zs hz
      split at h
      · rename_i xs hp
        split at h
        · rename_i cs hf; cases h; exact v_build ty ho hd hpl hz hp hf
        · cases h
      · cases h
    · cases h
  · cases h
def aBSl (C : Ctx) (ty : Nat → TyD) (st : St) (T len : Nat) (parts : List (Nat × Operand)) : Option AV := match (ty T).sl with
  | some (E, s, _) => match (ty E).zero with
    | some zs => match Nat.ble (len * s) 16777216 with
      | true => match st.evP C parts with
        | some xs => match fillF (fun i => some (i * s, s)) (initF zs (len * s)) xs with
          | some cs => some (.f (.sl len cs))
          | none => none
        | none => none
      | false => none
    | none => none
  | none => none
theorem aBSl_ok {o : Oper} {T len : TypeId} {parts : Array (Nat × Operand)} {r : AV} (ty : Ty C.P) (ho : o.op = .buildSlice T len parts) (hd : dstB N o.dst = true) (h : aBSl C ty.ty st T len parts.toList = some r) : ValOp C N o st r := by
  unfold aBSl at h
  split at h
  · rename_i E s bs hT
    split at h
    · rename_i zs hz
      split at h
      · rename_i hs
        split at h
        · rename_i xs hp
          split at h
          · rename_i cs hf; cases h; exact v_bslice ty ho hd hT hz (Nat.le_of_ble_eq_true hs) hp hf
          · cases h
        · cases h
      · cases h
    · cases h
  · cases h
def aBox (C : Ctx) (st : St) (x : Operand) : Option AV := match st.ev C x with
  | .f y => match cellsF y with
    | some cs => some (.f (.pt cs 0))
    | none => none
  | _ => none
theorem aBox_ok {o : Oper} {T : TypeId} {x : Operand} {r : AV} (ho : o.op = .box T x) (hd : dstB N o.dst = true) (h : aBox C st x = some r) : ValOp C N o st r := by
  unfold aBox at h
  split at h
  · rename_i y hx
    split at h
    · rename_i cs hc; cases h; exact v_box ho hd hx hc
    · cases h
  · cases h
def aFn (C : Ctx) (st : St) (f : Fn) (ms : List Value) (caps : List Operand) : Option AV := match f with
  | .func g => match ms with
    | [] => match st.evL C caps with
      | some xs => some (.f (.fn g xs))
      | none => none
    | _ => none
  | _ => none
def autoV (C : Ctx) (ty : Nat → TyD) (st : St) : Op → Option AV
  | .move x => aMv (st.ev C x)
  | .assign x => aMv (st.ev C x)
  | .load T x => aLoad C (ty T) st x
  | .fieldAddr T x f => aFld C (ty T) st x f
  | .pick c x y => aPick C st c x y
  | .extract x i => aExt C st x i
  | .unOp u _ x => match u with
    | .not => aNot C st x
    | _ => none
  | .build T parts => aBuild C (ty T) st parts.toList
  | .buildSlice T len parts => aBSl C ty st T len parts.toList
  | .box _ x => aBox C st x
  | .call c => match c with
    | ⟨.builtin b, args, ts⟩ => aCall C ty st b args.toList ts.toList
    | _ => none
  | _ => none
theorem autoV_ok {o : Oper} {r : AV} (ty : Ty C.P) (hd : dstB N o.dst = true) (h : autoV C ty.ty st o.op = some r) : ValOp C N o st r := by
  obtain ⟨d, op, T0, pos, af, g⟩ := o
  unfold autoV at h
  split at h
  · rename_i x e; rw [aMv_eq] at h; cases h; exact v_move e hd
  · rename_i x e; rw [aMv_eq] at h; cases h; exact v_assign e hd
  · rename_i T x e; exact aLoad_ok ty e hd h
  · rename_i T x f e; exact aFld_ok ty e hd h
  · rename_i c x y e; exact aPick_ok e hd h
  · rename_i x i e; exact aExt_ok e hd h
  · rename_i u T x e
    split at h
    · exact aNot_ok e hd h
    · cases h
  · rename_i T parts e; exact aBuild_ok ty e hd h
  · rename_i T len parts e; exact aBSl_ok ty e hd h
  · rename_i T x e; exact aBox_ok e hd h
  · rename_i c e
    split at h
    · rename_i b args ts; exact aCall_ok ty e hd h
    · cases h
  · cases h
end
end Go.Ab
namespace Go.Ab
open Go Go.RowKit Go.Shelf Go.Proofs
section
variable {C : Ctx} {N : Nat} {st : St}
def cArith (op : BinOp) (p q : Int) : Option (Int × Prop) := match op with
  | .add => some (p + q, -9223372036854775808 ≤ p + q ∧ p + q ≤ 9223372036854775807)
  | .sub => some (p - q, -9223372036854775808 ≤ p - q ∧ p - q ≤ 9223372036854775807)
  | .mul => some (p * q, -9223372036854775808 ≤ p * q ∧ p * q ≤ 9223372036854775807)
  | .quo => some (p / q, 0 ≤ p ∧ p ≤ 9223372036854775807 ∧ 1 ≤ q)
  | .rem => some (p % q, 0 ≤ p ∧ 1 ≤ q)
  | _ => none
def cBin (C : Ctx) (st : St) (op : BinOp) (x y : Operand) : Option (AV × Prop) := match st.ev C x with
  | .f (.v (.int .i64 p)) => match st.ev C y with
    | .f (.v (.int .i64 q)) => match cArith op p q with
      | some (z, P) => some (.f (.v (.int .i64 z)), P)
      | none => none
    | _ => none
  | _ => none
theorem cBin_ok {o : Oper} {op : BinOp} {T T' : TypeId} {x y : Operand} {r : AV} {P : Prop} (ho : o.op = .binOp op T x y T') (hd : dstB N o.dst = true) (h : cBin C st op x y = some (r, P)) (hp : P) : ValOp C N o st r := by
  unfold cBin at h
  split at h
  · rename_i p hx
    split at h
    · rename_i q hy
      split at h
      · rename_i z P' hz
        cases h
        unfold cArith at hz
        split at hz
        · cases hz; exact v_bin ho hd hx hy (b_add hp)
        · cases hz; exact v_bin ho hd hx hy (b_sub hp)
        · cases hz; exact v_bin ho hd hx hy (b_mul hp)
        · cases hz; exact v_bin ho hd hx hy (b_quo hp)
        · cases hz; exact v_bin ho hd hx hy (b_rem hp)
        · cases hz
      · cases h
    · cases h
  · cases h
def cNeg (C : Ctx) (st : St) (x : Operand) : Option (AV × Prop) := match st.ev C x with
  | .f (.v (.int .i64 p)) => some (.f (.v (.int .i64 (-p))), -9223372036854775807 ≤ p ∧ p ≤ 9223372036854775807)
  | _ => none
def natOf : Int → Option Nat
  | .ofNat m => some m
  | .negSucc _ => none
def cIdx (C : Ctx) (ty : TyD) (st : St) (x y : Operand) : Option (AV × Prop) := match ty.sl with
  | some (_, s, _) => match st.ev C y with
    | .f (.v (.int _ z)) => match st.ev C x with
      | .f (.sl n cs) => some (.f (.pt cs (z.toNat * s)), (0 ≤ z ∧ z < n) ∧ cs ≠ [])
      | .ow i => match st.h i with
        | some (.row _ _ n _) => some (.bx i (z.toNat * s), 0 ≤ z ∧ z < n)
        | _ => none
      | _ => none
    | _ => none
  | none => none
theorem cIdx_ok {o : Oper} {T : TypeId} {x y : Operand} {r : AV} {P : Prop} (ty : Ty C.P) (ho : o.op = .indexAddr T x y) (hd : dstB N o.dst = true) (h : cIdx C (ty.ty T) st x y = some (r, P)) (hp : P) : ValOp C N o st r := by
  unfold cIdx at h
  split at h
  · rename_i E s bs hT
    split at h
    · rename_i k z hy
      split at h
      · rename_i n cs hx
        cases h; exact v_idx ty ho hd hT hx hy hp.1.1 hp.1.2 hp.2
      · rename_i i hx
        split at h
        · rename_i e sz n cs hi
          cases h; exact v_idx_ow ty ho hd hT hx hi hy hp.1 hp.2
        · cases h
      · cases h
    · cases h
  · cases h
def cIdxN (C : Ctx) (ty : TyD) (st : St) (x y : Operand) : Option (AV × Prop) := match ty.sl with
  | some (_, s, _) => match st.ev C y with
    | .f (.v (.int _ z)) => match natOf z with
      | some m => match st.ev C x with
        | .f (.sl n cs) => some (.f (.pt cs (m * s)), m < n ∧ cs ≠ [])
        | .ow i => match st.h i with
          | some (.row _ _ n _) => some (.bx i (m * s), m < n)
          | _ => none
        | _ => none
      | none => none
    | _ => none
  | none => none
theorem natOf_spec {z : Int} {m : Nat} (h : natOf z = some m) : z = (m : Int) := by
  cases z with
  | ofNat k => simp [natOf] at h; subst h; rfl
  | negSucc k => simp [natOf] at h
theorem cIdxN_ok {o : Oper} {T : TypeId} {x y : Operand} {r : AV} {P : Prop} (ty : Ty C.P) (ho : o.op = .indexAddr T x y) (hd : dstB N o.dst = true) (h : cIdxN C (ty.ty T) st x y = some (r, P)) (hp : P) : ValOp C N o st r := by
  unfold cIdxN at h
  split at h
  · rename_i E s bs hT
    split at h
    · rename_i k z hy
      split at h
      · rename_i m hm
        have e := natOf_spec hm
        split at h
        · rename_i n cs hx
          cases h
          have := v_idx ty ho hd hT hx hy (by omega) (by omega) hp.2
          rw [e] at this
          exact this
        · rename_i i hx
          split at h
          · rename_i e' sz n cs hi
            cases h
            have := v_idx_ow ty ho hd hT hx hi hy (by omega) (by omega)
            rw [e] at this
            exact this
          · cases h
        · cases h
      · cases h
    · cases h
  · cases h
def condV (C : Ctx) (ty : Nat → TyD) (st : St) : Op → Option (AV × Prop)
  | .binOp op _ x y _ => cBin C st op x y
  | .unOp u _ x => match u with
    | .neg => cNeg C st x
    | _ => none
  | .indexAddr T x y => cIdxN C (ty T) st x y
  | _ => none
theorem condV_ok {o : Oper} {r : AV} {P : Prop} (ty : Ty C.P) (hd : dstB N o.dst = true) (h : condV C ty.ty st o.op = some (r, P)) (hp : P) : ValOp C N o st r := by
  obtain ⟨d, op, T0, pos, af, g⟩ := o
  unfold condV at h
  split at h
  · rename_i op T x y T' e; exact cBin_ok e hd h hp
  · rename_i u T x e
    split at h
    · unfold cNeg at h
      split at h
      · rename_i p hx; cases h; exact v_un e hd hx (u_neg hp)
      · cases h
    · cases h
  · rename_i T x y e
    exact cIdxN_ok ty e hd h hp
  · cases h
def cRel (op : BinOp) (p q : Int) : Option (Bool × Prop) := match op with
  | .lss => some (true, p < q)
  | .leq => some (true, p ≤ q)
  | .gtr => some (true, q < p)
  | .geq => some (true, q ≤ p)
  | .eql => some (true, p = q)
  | .neq => some (false, p = q)
  | _ => none
def cmpV (C : Ctx) (st : St) : Op → Option (Bool × Prop)
  | .binOp op _ x y _ => match st.ev C x with
    | .f (.v (.int k p)) => match st.ev C y with
      | .f (.v (.int k' q)) => match decEq k k' with
        | .isTrue _ => cRel op p q
        | .isFalse _ => none
      | _ => none
    | _ => none
  | _ => none
theorem cmpV_ok {o : Oper} {b : Bool} {P : Prop} (hd : dstB N o.dst = true) (h : cmpV C st o.op = some (b, P)) : ∃ D : Decidable P, ValOp C N o st (.f (.v (.bool (if @decide P D then b else !b)))) := by
  obtain ⟨d, op, T0, pos, af, g⟩ := o
  unfold cmpV at h
  split at h
  · rename_i op2 T x y T' e
    split at h
    · rename_i k p hx
      split at h
      · rename_i k' q hy
        split at h
        · rename_i hk _
          subst hk
          have key : ∀ (D : Decidable P) (bb : Bool), ValOp C N (⟨d, op, T0, pos, af, g⟩ : Oper) st (.f (.v (.bool bb))) → bb = (if @decide P D then b else !b) → ∃ D : Decidable P, ValOp C N (⟨d, op, T0, pos, af, g⟩ : Oper) st (.f (.v (.bool (if @decide P D then b else !b)))) := fun D bb hv hb => ⟨D, hb ▸ hv⟩
          unfold cRel at h
          split at h
          · cases h; exact key inferInstance _ (v_bin e hd hx hy b_lss) (by simp)
          · cases h; exact key inferInstance _ (v_bin e hd hx hy b_leq) (by simp)
          · cases h; exact key inferInstance _ (v_bin e hd hx hy b_gtr) (by simp)
          · cases h; exact key inferInstance _ (v_bin e hd hx hy b_geq) (by simp)
          · cases h; exact key inferInstance _ (v_bin e hd hx hy b_eql) (by simp)
          · cases h; exact key inferInstance _ (v_bin e hd hx hy b_neq) (by by_cases hpq : p = q <;> simp [hpq])
          · cases h
        · cases h
      · cases h
    · cases h
  · cases h
variable {ops : Array Oper} {pr : Bool} {K : St → Prop} {rest : List Oper} {d : Option Tmp} {op : Op} {T0 : TypeId} {pos : String} {af : Array Edge} {g : Option (Nat × Bool)}
theorem s_auto (ty : Ty C.P) {r : AV} (hw : wantB st ops ⟨d, op, T0, pos, af, g⟩ = some true) (hd : dstB N d = true) (h : autoV C ty.ty st op = some r) (k : R C N ops pr K rest (st.put d r)) : R C N ops pr K (⟨d, op, T0, pos, af, g⟩ :: rest) st := ⟨r_val hw (autoV_ok ty hd h) k.out⟩
theorem s_skip (hw : wantB st ops ⟨d, op, T0, pos, af, g⟩ = some false) (hd : dstB N d = true) (k : R C N ops pr K rest (st.put d (.f (.v undef)))) : R C N ops pr K (⟨d, op, T0, pos, af, g⟩ :: rest) st := ⟨r_skip hw hd k.out⟩
theorem s_cond (ty : Ty C.P) {r : AV} {P : Prop} (hw : wantB st ops ⟨d, op, T0, pos, af, g⟩ = some true) (hd : dstB N d = true) (h : condV C ty.ty st op = some (r, P)) (hp : P) (k : R C N ops pr K rest (st.put d r)) : R C N ops pr K (⟨d, op, T0, pos, af, g⟩ :: rest) st := ⟨r_val hw (condV_ok ty hd h hp) k.out⟩
theorem s_idxz (ty : Ty C.P) {T : TypeId} {x y : Operand} {r : AV} {P : Prop} (hw : wantB st ops ⟨d, .indexAddr T x y, T0, pos, af, g⟩ = some true) (hd : dstB N d = true) (h : cIdx C (ty.ty T) st x y = some (r, P)) (hp : P) (k : R C N ops pr K rest (st.put d r)) : R C N ops pr K (⟨d, .indexAddr T x y, T0, pos, af, g⟩ :: rest) st := ⟨r_val hw (cIdx_ok ty rfl hd h hp) k.out⟩
theorem s_cmpt {b : Bool} {P : Prop} (hw : wantB st ops ⟨d, op, T0, pos, af, g⟩ = some true) (hd : dstB N d = true) (h : cmpV C st op = some (b, P)) (hp : P) (k : R C N ops pr K rest (st.put d (.f (.v (.bool b))))) : R C N ops pr K (⟨d, op, T0, pos, af, g⟩ :: rest) st := by
  obtain ⟨D, hv⟩ := cmpV_ok (o := ⟨d, op, T0, pos, af, g⟩) hd h
  rw [if_pos (decide_eq_true hp)] at hv
  exact ⟨r_val hw hv k.out⟩
theorem s_cmpf {b : Bool} {P : Prop} (hw : wantB st ops ⟨d, op, T0, pos, af, g⟩ = some true) (hd : dstB N d = true) (h : cmpV C st op = some (b, P)) (hp : ¬ P) (k : R C N ops pr K rest (st.put d (.f (.v (.bool (!b)))))) : R C N ops pr K (⟨d, op, T0, pos, af, g⟩ :: rest) st := by
  obtain ⟨D, hv⟩ := cmpV_ok (o := ⟨d, op, T0, pos, af, g⟩) hd h
  rw [if_neg (by rw [decide_eq_false hp]; simp)] at hv
  exact ⟨r_val hw hv k.out⟩
theorem s_cl {f : Operand} {args : Array Operand} {ts : Array TypeId} {gf : Nat} {caps xs ys : List FV} {r : FV} (S : Summ C.P C.G gf ys r) (hw : wantB st ops ⟨d, .call { callee := .value f, args := args, argTypes := ts }, T0, pos, af, g⟩ = some true) (hd : dstB N d = true) (hf : st.ev C f = .f (.fn gf caps)) (hxs : st.evL C args.toList = some xs) (hys : xs ++ caps = ys) (k : R C N ops pr K rest (st.put d (.f r))) : R C N ops pr K (⟨d, .call { callee := .value f, args := args, argTypes := ts }, T0, pos, af, g⟩ :: rest) st := ⟨r_val hw (v_call S rfl hd hf hxs hys) k.out⟩
theorem s_cl1 {f : Operand} {args : Array Operand} {ts : Array TypeId} {gf : Nat} {caps xs ys : List FV} {r : FV} {P0 : Prop} (S : P0 → Summ C.P C.G gf ys r) (hw : wantB st ops ⟨d, .call { callee := .value f, args := args, argTypes := ts }, T0, pos, af, g⟩ = some true) (hd : dstB N d = true) (hf : st.ev C f = .f (.fn gf caps)) (hxs : st.evL C args.toList = some xs) (hys : xs ++ caps = ys) (p0 : P0) (k : R C N ops pr K rest (st.put d (.f r))) : R C N ops pr K (⟨d, .call { callee := .value f, args := args, argTypes := ts }, T0, pos, af, g⟩ :: rest) st := s_cl (S p0) hw hd hf hxs hys k
theorem s_cl2 {f : Operand} {args : Array Operand} {ts : Array TypeId} {gf : Nat} {caps xs ys : List FV} {r : FV} {P0 P1 : Prop} (S : P0 → P1 → Summ C.P C.G gf ys r) (hw : wantB st ops ⟨d, .call { callee := .value f, args := args, argTypes := ts }, T0, pos, af, g⟩ = some true) (hd : dstB N d = true) (hf : st.ev C f = .f (.fn gf caps)) (hxs : st.evL C args.toList = some xs) (hys : xs ++ caps = ys) (p0 : P0) (p1 : P1) (k : R C N ops pr K rest (st.put d (.f r))) : R C N ops pr K (⟨d, .call { callee := .value f, args := args, argTypes := ts }, T0, pos, af, g⟩ :: rest) st := s_cl (S p0 p1) hw hd hf hxs hys k
theorem s_cl3 {f : Operand} {args : Array Operand} {ts : Array TypeId} {gf : Nat} {caps xs ys : List FV} {r : FV} {P0 P1 P2 : Prop} (S : P0 → P1 → P2 → Summ C.P C.G gf ys r) (hw : wantB st ops ⟨d, .call { callee := .value f, args := args, argTypes := ts }, T0, pos, af, g⟩ = some true) (hd : dstB N d = true) (hf : st.ev C f = .f (.fn gf caps)) (hxs : st.evL C args.toList = some xs) (hys : xs ++ caps = ys) (p0 : P0) (p1 : P1) (p2 : P2) (k : R C N ops pr K rest (st.put d (.f r))) : R C N ops pr K (⟨d, .call { callee := .value f, args := args, argTypes := ts }, T0, pos, af, g⟩ :: rest) st := s_cl (S p0 p1 p2) hw hd hf hxs hys k
theorem s_ld (ty : Ty C.P) {T : TypeId} {x : Operand} {cs : List FV} {off : Nat} {c : FV} (hw : wantB st ops ⟨d, .load T x, T0, pos, af, g⟩ = some true) (hd : dstB N d = true) (hT : (ty.ty T).scal = true) (hx : st.ev C x = .f (.pt cs off)) (hc : cs[off]? = some c) (k : R C N ops pr K rest (st.put d (.f c))) : R C N ops pr K (⟨d, .load T x, T0, pos, af, g⟩ :: rest) st := ⟨r_val hw (v_load_pt ty rfl hd hT hx hc) k.out⟩
theorem s_lds (ty : Ty C.P) {T n : TypeId} {x : Operand} {cs sub : List FV} {off : Nat} (hw : wantB st ops ⟨d, .load T x, T0, pos, af, g⟩ = some true) (hd : dstB N d = true) (hT : (ty.ty T).agg = some n) (hx : st.ev C x = .f (.pt cs off)) (hc : (cs.drop off).take n = sub) (hl : sub.length = n) (k : R C N ops pr K rest (st.put d (.f (.agg sub)))) : R C N ops pr K (⟨d, .load T x, T0, pos, af, g⟩ :: rest) st := ⟨r_val hw (v_load_pts ty rfl hd hT hx hc hl) k.out⟩
theorem s_ldr (ty : Ty C.P) {T : TypeId} {x : Operand} {cs : List FV} {e sz m i off : Nat} {c : FV} (hw : wantB st ops ⟨d, .load T x, T0, pos, af, g⟩ = some true) (hd : dstB N d = true) (hT : (ty.ty T).scal = true) (hx : st.ev C x = .bx i off) (hi : st.h i = some (.row e sz m cs)) (hc : cs[off]? = some c) (k : R C N ops pr K rest (st.put d (.f c))) : R C N ops pr K (⟨d, .load T x, T0, pos, af, g⟩ :: rest) st := ⟨r_val hw (v_load_row ty rfl hd hT hx hi hc) k.out⟩
theorem nea {α : Type} {l : List α} (h : 0 < l.length) : l ≠ [] := fun e => by subst e; simp at h
end
end Go.Ab
namespace Go.Ab
open Go Go.RowKit Go.Shelf Go.Proofs
structure SeqS {α : Type} (P : Program) (G : Nat → Option (List FV)) (gf : Nat) (caps : List FV) (encs : α → Array Value) (L : List α) : Prop where
  enters : Enters P gf
  seq : ∀ (w : World) (M : Nat → Prop) (us : List Value), (∀ b, M b → b < w.heap.size) → (∀ g cs, G g = some cs → RepF w M (.pointer (some ⟨g, 0, none⟩)) (.pt cs 0)) → RepL w M us caps →
    SeqL P gf us.toArray encs L (fun A => w.heap.size ≤ A.heap.size ∧ ∀ b, b < w.heap.size → ¬ M b → A.heap[b]? = w.heap[b]?)
theorem Marks.mono {B B' : Nat} (h : B ≤ B') {W : World} : ∀ {ds : List Deferred}, Marks B' W ds → Marks B W ds
  | [], _ => trivial
  | _ :: _, ⟨⟨D, e, hB, r⟩, hs⟩ => ⟨⟨D, e, Nat.le_trans h hB, r⟩, Marks.mono h hs⟩
theorem Marks.lt {B : Nat} {W : World} : ∀ {ds : List Deferred}, Marks B W ds → ∀ D, markOf D ∈ ds → D < W.heap.size
  | [], _, _, h => by cases h
  | _ :: _, ⟨⟨D', e, _, h3, _⟩, hs⟩, D, h => by
    rcases List.mem_cons.1 h with h | h
    · rw [e] at h
      have : D = D' := by simpa [markOf] using h
      subst this
      exact (Array.getElem?_eq_some_iff.1 h3).1
    · exact Marks.lt hs D h
def ownM (h : Nat → Option Blk) (J : Nat → Value) (b : Nat) : Prop := ∃ i, (h i).isSome = true ∧ bk (J i) = some b
def rdC (C : Ctx) (nx : Nat) (X : Nat → Prop) (l : Option Nat) (p : Nat → Value) : Ctx := ⟨C.P, C.G, C.M0, X, l, fun i => bif Nat.blt i nx then some (p i) else none⟩
section
variable {C : Ctx} {N nx : Nat} {l : Option Nat} {p : Nat → Value}
theorem Grew.keepsFrom {X : Nat → Prop} {w w' : World} (g : Grew X w w') (hX : ∀ b, X b → ∃ us T, w.heap[b]? = some (.cells us T (0, 0))) (B : Nat) : KeepsFrom B w w' :=
  ⟨g.le, fun k o _ hk ho => (g.block k (Array.getElem?_eq_some_iff.1 hk).1 (fun hx => by
    obtain ⟨us, T, h⟩ := hX k hx
    rw [hk] at h; cases h; cases ho)).trans hk⟩
theorem Sim.ownCells {w0 : World} {st : St} {a : Act} {w : World} {J : Nat → Value} (S : Sim C w0 N st a w J) {b : Nat} (h : ownM st.h J b) : ∃ us T, w.heap[b]? = some (.cells us T (0, 0)) := by
  obtain ⟨i, hi, hb⟩ := h
  obtain ⟨B, hB⟩ := Option.isSome_iff_exists.1 hi
  exact (S.blk i B hB).cells hb
theorem repA_ctx {C C' : Ctx} {w : World} {h : Nat → Option Blk} {J : Nat → Value} (hM : C'.M0 = C.M0) {v : Value} {x : AV} (r : RepA C w h J v x) : RepA C' w h J v x := by
  cases x with
  | f x => exact RepF.ext r (Ext.refl _) (fun b _ hb => by unfold Mb at hb ⊢; rwa [hM] at hb)
  | bx i off => exact r
  | ow i => exact r
  | bot => trivial
  | ag i cs => obtain ⟨hs, us, hv, ho, R⟩ := r; exact ⟨hs, us, hv, ho, R.conv fun _ _ q => RepF.ext q (Ext.refl _) (fun b _ hb => by unfold Mb at hb ⊢; rwa [hM] at hb)⟩
  | fb f cs i => obtain ⟨hs, us, b, hv, hb, R⟩ := r; exact ⟨hs, us, b, hv, hb, R.conv fun _ _ q => RepF.ext q (Ext.refl _) (fun b _ hb => by unfold Mb at hb ⊢; rwa [hM] at hb)⟩
theorem repF_ctx {C C' : Ctx} {w : World} {h : Nat → Option Blk} {J : Nat → Value} (hM : C'.M0 = C.M0) {v : Value} {x : FV} (r : RepF w (Mb C h J) v x) : RepF w (Mb C' h J) v x :=
  RepF.ext r (Ext.refl _) (fun b _ hb => by unfold Mb at hb ⊢; rwa [hM] at hb)
theorem Sim.into {w0 : World} {X : Nat → Prop} {st : St} {a : Act} {w : World} {J : Nat → Value} {l' : Option Nat} (S : Sim (rdC C nx X l p) w0 N st a w J) (hd : a.defers = []) : Sim (rdC C nx (ownM st.h J) l' p) w N st a w J := by
  refine ⟨Grew.refl _ _, S.size, by rw [hd]; exact ⟨trivial, fun _ => rfl⟩, fun t => repA_ctx rfl (S.slot t), fun i B hB => ?_, S.apart, fun b hb => ⟨Nat.lt_of_lt_of_le (S.old b hb).1 S.ext.le, fun ⟨i, hi, h⟩ => ?_⟩, fun g cs hg => repF_ctx rfl (S.glob g cs hg), S.fix⟩
  · exact (S.blk i B hB).conv0 (fun _ _ => rfl) (fun b hb _ => .inr ⟨i, by rw [hB]; rfl, hb⟩) (fun _ _ => repA_ctx rfl) (fun _ _ => repF_ctx rfl)
  · rcases (S.own_at hi h).1 with h2 | h2
    · have := (S.old b hb).1; omega
    · exact (S.old b hb).2 h2
theorem Sim.outOf {w0 : World} {X : Nat → Prop} {st st' : St} {a a' : Act} {w w' : World} {J J' : Nat → Value} {l' : Option Nat} (S : Sim (rdC C nx X l p) w0 N st a w J) (S' : Sim (rdC C nx (ownM st.h J) l' p) w N st' a' w' J') (hl : l'.isSome = true) : Sim (rdC C nx X l' p) w0 N st' a' w' J' := by
  have hx : ∀ b, w.heap.size ≤ b ∨ ownM st.h J b → w0.heap.size ≤ b ∨ X b := fun b h => by
    rcases h with h | ⟨i, hi, hb⟩
    · exact .inl (Nat.le_trans S.ext.le h)
    · exact (S.own_at hi hb).1
  refine ⟨⟨S'.ext.os.trans S.ext.os, S'.ext.tape.trans S.ext.tape, S'.ext.output.trans S.ext.output, Nat.le_trans S.ext.le S'.ext.le, fun k hk hX => ?_⟩, S'.size, by rw [S'.defs.2 hl]; exact ⟨trivial, fun _ => rfl⟩, fun t => repA_ctx rfl (S'.slot t), fun i B hB => ?_, S'.apart, S.old, fun g cs hg => repF_ctx rfl (S'.glob g cs hg), S'.fix⟩
  · have h1 := S.ext.block k hk hX
    have hkw : k < w.heap.size := Nat.lt_of_lt_of_le hk S.ext.le
    refine (S'.ext.block k hkw (fun ho => ?_)).trans h1
    rcases hx k (.inr ho) with h | h
    · omega
    · exact hX h
  · exact (S'.blk i B hB).conv0 (fun _ _ => rfl) (fun b _ h => hx b h) (fun _ _ => repA_ctx rfl) (fun _ _ => repF_ctx rfl)
def kept (nx : Nat) (s : Nat → AV) (ok : Nat → Prop) : Prop := ∀ t, match s t with
  | .f _ => True
  | .bot => True
  | .bx i _ => i < nx ∧ ok i
  | .ow _ => False
  | .ag _ _ => False
  | .fb .. => False
theorem kept_nil (nx : Nat) (ok : Nat → Prop) : kept nx (fun _ => .bot) ok := fun _ => trivial
theorem kept_f {nx : Nat} {s : Nat → AV} {ok : Nat → Prop} {k : Nat} {x : FV} (h : kept nx s ok) : kept nx (upd s k (.f x)) ok := fun t => by
  by_cases e : t = k
  · subst e; rw [upd_same]; trivial
  · rw [upd_other _ _ e]; exact h t
theorem kept_x {nx : Nat} {s : Nat → AV} {ok : Nat → Prop} {k i off : Nat} (hi : Nat.blt i nx = true) (ho : ok i) (h : kept nx s ok) : kept nx (upd s k (.bx i off)) ok := fun t => by
  by_cases e : t = k
  · subst e; rw [upd_same]; exact ⟨Nat.le_of_ble_eq_true hi, ho⟩
  · rw [upd_other _ _ e]; exact h t
def boxAt (h : Nat → Option Blk) (i : Nat) : Prop := ∃ cells, h i = some (.box cells)
theorem Sim.again {w0 w wk : World} {h0 : Nat → Option Blk} {s : Nat → AV} {a a' : Act} {J J' : Nat → Value} {st' : St} {ok : Nat → Prop} (S : Sim C w0 N ⟨s, h0, nx⟩ a w J) (hp : p = J) (hk : kept nx s ok)
    (S' : Sim (rdC C nx (ownM h0 J) l p) w N st' a' wk J') (hb : ∀ i, ok i → boxAt st'.h i) : Sim (rdC C nx (ownM h0 J) none p) w N ⟨s, st'.h, nx⟩ { a with defers := [] } wk J' := by
  subst hp
  have hM : ∀ b, b < w.heap.size → Mb (rdC C nx (ownM h0 p) l p) st'.h J' b → Mb C h0 p b := by
    rintro b hlt (h | ⟨i, hi, hbi⟩)
    · exact .inl h
    · rcases (S'.own_at hi hbi).1 with h2 | h2
      · omega
      · exact .inr h2
  have same : ∀ b, b < w.heap.size → ¬ Mb C h0 p b → wk.heap[b]? = w.heap[b]? := fun b hlt hm => S'.ext.block b hlt (fun h => hm (.inr h))
  refine ⟨S'.ext, S.size, ⟨trivial, fun _ => rfl⟩, fun t => ?_, fun i B hB => ?_, S'.apart, S'.old, fun g cs hg => repF_ctx rfl (S'.glob g cs hg), S'.fix⟩
  · have h1 := S.slot t
    have h2 := hk t
    show RepA _ wk st'.h J' (a.tmps.getD t undef) (s t)
    simp only at h1
    cases hs : s t with
    | f x =>
      rw [hs] at h1
      exact RepF.mono h1 same S'.ext.le (fun b hlt hm => hM b hlt hm)
    | bx i off =>
      rw [hs] at h1 h2
      obtain ⟨hlt, hoki⟩ := h2
      obtain ⟨cells, hc⟩ := hb i hoki
      obtain ⟨_, b, hbb, hv⟩ := h1
      have e : J' i = p i := S'.fix i (p i) cells (by show (bif Nat.blt i nx then some (p i) else none) = some (p i); rw [show Nat.blt i nx = true from Nat.ble_eq_true_of_le hlt]; rfl) hc
      exact ⟨by rw [hc]; rfl, b, by rw [e]; exact hbb, hv⟩
    | ow i => rw [hs] at h2; exact h2.elim
    | bot => trivial
    | ag i cs => rw [hs] at h2; exact h2.elim
    | fb f cs i => rw [hs] at h2; exact h2.elim
  · exact (S'.blk i B hB).conv0 (fun _ _ => rfl) (fun _ _ h => h) (fun _ _ => repA_ctx rfl) (fun _ _ => repF_ctx rfl)
def putAll (s : Nat → AV) : List (Nat × FV) → Nat → AV
  | [] => s
  | (t, x) :: r => putAll (upd s t (.f x)) r
theorem Sim.puts {w0 : World} {h : Nat → Option Blk} {w : World} {J : Nat → Value} : ∀ {pv : List (Nat × Value)} {px : List (Nat × FV)} {s : Nat → AV} {a : Act}, Sim C w0 N ⟨s, h, nx⟩ a w J → pv.map (·.1) = px.map (·.1) → (∀ q ∈ px, Nat.blt q.1 N = true) →
    (∀ (k : Nat) (v : Nat × Value) (x : Nat × FV), pv[k]? = some v → px[k]? = some x → RepF w (Mb C h J) v.2 x.2) → Sim C w0 N ⟨putAll s px, h, nx⟩ { a with tmps := pv.foldl (fun t (p, v) => t.setIfInBounds p v) a.tmps } w J
  | [], [], _, _, S, _, _, _ => S
  | [], _ :: _, _, _, _, he, _, _ => by cases he
  | _ :: _, [], _, _, _, he, _, _ => by cases he
  | (t, v) :: pv, (t', x) :: px, s, a, S, he, hN, hr => by
    simp only [List.map_cons, List.cons.injEq] at he
    obtain ⟨rfl, he⟩ := he
    have S1 := S.put (d := some t) (v := v) (r := .f x) (hN (t, x) (by simp)) (hr 0 (t, v) (t, x) rfl rfl)
    exact Sim.puts (pv := pv) (px := px) (s := upd s t (.f x)) (a := a.put (some t) v) S1 he (fun q hq => hN q (by simp [hq])) (fun k u y h1 h2 => hr (k + 1) u y (by simpa using h1) (by simpa using h2))
def Rng (N nx : Nat) (s : Nat → AV) (ok : Nat → Prop) (Q : Exit → St → Prop) (Cr : Ctx) (P1 : Prop) (F1 : Nat → Option Blk) : Exit → St → Prop
  | .normal, st => P1 ∧ Gh Cr N st ⟨fun _ => .bot, F1, nx⟩
  | .ret, st => ∃ h, Gh Cr N st ⟨fun _ => .bot, h, nx⟩ ∧ (∀ i, ok i → boxAt h i) ∧ Q .ret ⟨s, h, nx⟩
  | .exit id, st => ∃ h, Gh Cr N st ⟨fun _ => .bot, h, nx⟩ ∧ (∀ i, ok i → boxAt h i) ∧ Q (.exit id) ⟨s, h, nx⟩
  | _, _ => False
theorem Sim.endLoop {w0 w wk : World} {h0 h : Nat → Option Blk} {s : Nat → AV} {a : Act} {J J' : Nat → Value} (hro : C.ro = none) (hJ0 : ∀ i, C.J0 i = none) (S : Sim C w0 N ⟨s, h0, nx⟩ a w J) (S' : Sim (rdC C nx (ownM h0 J) none p) w N ⟨s, h, nx⟩ { a with defers := [] } wk J')
    {D : Nat} (hD : w.heap.size ≤ D) (hd : wk.heap[D]? = some (.deferred (some []))) : Sim C w0 N ⟨s, h, nx⟩ { a with defers := markOf D :: a.defers } wk J' := by
  have hx : ∀ b, w.heap.size ≤ b ∨ ownM h0 J b → w0.heap.size ≤ b ∨ C.X b := fun b hb => by
    rcases hb with hb | ⟨i, hi, hbi⟩
    · exact .inl (Nat.le_trans S.ext.le hb)
    · exact (S.own_at hi hbi).1
  refine ⟨⟨S'.ext.os.trans S.ext.os, S'.ext.tape.trans S.ext.tape, S'.ext.output.trans S.ext.output, Nat.le_trans S.ext.le S'.ext.le, fun k hk hX => ?_⟩, S.size, ⟨⟨⟨D, rfl, Nat.le_trans S.ext.le hD, hd, fun hm => ?_⟩, ?_⟩, fun h => by rw [hro] at h; cases h⟩, fun t => repA_ctx rfl (S'.slot t), fun i B hB => ?_, S'.apart, S.old, fun g cs hg => repF_ctx rfl (S'.glob g cs hg), fun i q cells h1 => by rw [hJ0 i] at h1; cases h1⟩
  · have h1 := S.ext.block k hk hX
    refine (S'.ext.block k (Nat.lt_of_lt_of_le hk S.ext.le) (fun ho => ?_)).trans h1
    rcases hx k (.inr ho) with h | h
    · omega
    · exact hX h
  · have := Marks.lt S.defs.1 D hm; omega
  · exact S.defs.1.keeps fun D' hm h => (S'.ext.block D' (Marks.lt S.defs.1 D' hm) (fun ho => by
      obtain ⟨us, T, h2⟩ := S.ownCells ho
      rw [h] at h2; cases h2)).trans h
  · exact (S'.blk i B hB).conv0 (fun _ _ => rfl) (fun b _ h => hx b h) (fun _ _ => repA_ctx rfl) (fun _ _ => repF_ctx rfl)
theorem w_range {α : Type} {g : Operand} {ps : Array Tmp} {assign body : Code} {Q : Exit → St → Prop} {st : St} {s : Nat → AV} {gf : Nat} {caps : List FV} {encs : α → Array Value} {L : List α} (K : SeqS C.P C.G gf caps encs L) (F : Nat → Nat → Option Blk) (mid : Nat → α → Nat → Option Blk) (ms : Nat → α → Nat → AV) (nx mx : Nat) (ok : Nat → Prop) (fvs : α → List FV) (Pr : Nat → Prop) (p0 : Pr 0)
    (hro : C.ro = none) (hJ0 : ∀ i, C.J0 i = none) (h0 : Gh C N st ⟨s, F 0, nx⟩) (hgs : (⟨s, F 0, nx⟩ : St).ev C g = .f (.fn gf caps)) (hps : ∀ x, (encs x).size = ps.size) (hfv : ∀ x, (fvs x).length = ps.size) (hpN : ∀ q ∈ ps.toList, Nat.blt q N = true)
    (hen : ∀ (x : α) (w : World) (M : Nat → Prop), RepL w M (encs x).toList (fvs x)) (hk : kept nx s ok) (hF : ∀ k i, ok i → boxAt (F k) i) (hmid : ∀ k x, Le ⟨ms k x, mid k x, mx⟩ ⟨fun _ => .bot, F k, nx⟩)
    (hA : ∀ k (hk : k < L.length) X l p, W (rdC C nx X (some l) p) N assign (AT (fun st' => Gh (rdC C nx X (some l) p) N st' ⟨ms k L[k], mid k L[k], mx⟩) (fun _ _ => False)) ⟨putAll s (ps.toList.zip (fvs L[k])), F k, nx⟩)
    (hB : ∀ k (_ : k < L.length), Pr k → ∀ X l p, W (rdC C nx X (some l) p) N body (Rng N nx s ok Q (rdC C nx X (some l) p) (Pr (k + 1)) (F (k + 1))) ⟨ms k L[k], mid k L[k], mx⟩)
    (hQ : Pr L.length → Q .normal ⟨s, F L.length, nx⟩) : W C N (.rangeFunc g ps assign body) Q st := by
  refine ⟨fun w0 a w Qc S0 hq => ?_⟩
  obtain ⟨J, S⟩ := h0 w0 a w S0
  have eg := evF S hgs
  generalize hgv : a.eval g = gv at eg
  cases eg with
  | fn _ _ us u1 u2 =>
  have hseq := K.seq w (Mb C (F 0) J) us (mb_lt S) S.glob ⟨u1, u2⟩
  have S00 : Sim (rdC C nx (ownM (F 0) J) none J) w N ⟨s, F 0, nx⟩ { a with defers := [] } w J := by
    refine ⟨Grew.refl _ _, S.size, ⟨trivial, fun _ => rfl⟩, fun t => repA_ctx rfl (S.slot t), fun i B hB => ?_, S.apart, fun b hb => ⟨Nat.lt_of_lt_of_le (S.old b hb).1 S.ext.le, fun ⟨i, hi, h⟩ => ?_⟩, fun g cs hg => repF_ctx rfl (S.glob g cs hg), fun i q cells h1 h2 => ?_⟩
    · exact (S.blk i B hB).conv0 (fun _ _ => rfl) (fun b hb _ => .inr ⟨i, by rw [show F 0 i = some B from hB]; rfl, hb⟩) (fun _ _ => repA_ctx rfl) (fun _ _ => repF_ctx rfl)
    · rcases (S.own_at hi h).1 with h2 | h2
      · have := (S.old b hb).1; omega
      · exact (S.old b hb).2 h2
    · have : (bif Nat.blt i nx then some (J i) else none) = some q := h1
      cases hbl : Nat.blt i nx with
      | true => rw [hbl] at this; exact Option.some.inj this
      | false => rw [hbl] at this; cases this
  have key : (Code.rangeFunc g ps assign body).wp C.P Qc a w := by
    refine wp_rangeP (s := Obj.stays) (fun _ => rfl) (gf := gf) (lb := us.toArray) hgv K.enters hseq hps
      (fun k A => Pr k ∧ ∃ J', Sim (rdC C nx (ownM (F 0) J) none J) w N ⟨s, F k, nx⟩ { a with defers := [] } A J')
      (fun c k A => ∃ e h J', c = (match e with | Exit.ret => Code.ret | Exit.exit id => Code.exit id | _ => Code.skip) ∧ (match e with | Exit.ret => True | Exit.exit _ => True | _ => False) ∧ Q e ⟨s, h, nx⟩ ∧ Sim (rdC C nx (ownM (F 0) J) none J) w N ⟨s, h, nx⟩ { a with defers := [] } A J')
      (fun k A A' hK ⟨hp, J', S'⟩ => ⟨hp, J', S'.keeps0 hK (Nat.le_refl _) ⟨trivial, fun _ => rfl⟩⟩)
      (fun c k A A' hK ⟨e, h, J', e1, e2, e3, S'⟩ => ⟨e, h, J', e1, e2, e3, S'.keeps0 hK (Nat.le_refl _) ⟨trivial, fun _ => rfl⟩⟩)
      (fun k A ⟨_, J', S'⟩ => ⟨S'.ext.le, fun b hb hm => S'.ext.block b hb (fun h => hm (.inr h))⟩) ⟨p0, J, S00⟩
      (fun _ k a' A => a'.defers = [] ∧ ∃ (hk : k < L.length) (l : Nat) (J' : Nat → Value), Sim (rdC C nx (ownM (F 0) J) (some l) J) w N ⟨ms k L[k], mid k L[k], mx⟩ a' A J')
      (fun k a' A A' hK ⟨hd, hk, l, J', S'⟩ => ⟨hd, hk, l, J', by
        have := S'.keeps0 hK (Nat.le_refl _) (ds := []) ⟨trivial, fun _ => rfl⟩
        rw [show ({ a' with defers := [] } : Act) = a' by cases a'; simp only at hd; rw [hd]] at this
        exact this⟩) ?_ ?_ ?_ ?_
    · rintro l k hkl W K1 ⟨hpk, J1, S1⟩ hK1
      have pz : (ps.toList.zip (encs L[k]).toList).map (·.1) = (ps.toList.zip (fvs L[k])).map (·.1) := by
        rw [List.map_fst_zip (by simp [hps]), List.map_fst_zip (by simp [hfv])]
      have S2 := Sim.puts (a := { a with defers := [] }) (pv := ps.toList.zip (encs L[k]).toList) (px := ps.toList.zip (fvs L[k])) S1 pz (fun q hq => hpN q.1 (List.of_mem_zip hq).1) (fun j v x h1 h2 => by
        rw [List.getElem?_zip_eq_some] at h1 h2
        exact (hen L[k] W _).2 j v.2 x.2 h1.2 h2.2)
      have S3 := S2.into (l' := some l) rfl
      have hd3 : ({ ({ a with defers := [] } : Act) with tmps := (ps.toList.zip (encs L[k]).toList).foldl (fun t (p, v) => t.setIfInBounds p v) a.tmps } : Act) = { tmps := (ps.zip (encs L[k])).foldl (fun t (p, v) => t.setIfInBounds p v) a.tmps, defers := [] } := by
        congr 1
        rw [← Array.foldl_toList, Array.toList_zip]
      rw [hd3] at S3 S2
      refine (hA k hkl _ l J).out W _ W _ ⟨_, S3⟩ ?_
      intro e st' a' W' hat S4
      cases e with
      | normal =>
        obtain ⟨J5, S5⟩ := hat.out W a' W' S4
        have S6 := S2.outOf S5 rfl
        have S7 := S6.weaken (hmid k L[k])
        refine hK1 a' W' (S5.ext.keepsFrom (fun b hb => S2.ownCells hb) _) ⟨hpk, J5, ?_⟩ ⟨S6.defs.2 rfl, hkl, l, J5, S6⟩
        exact S.again rfl hk S7 (fun i hi => hF k i hi)
      | _ => exact hat.out.elim
    · rintro l k hk' a' W hl ⟨hpk, J1, S1⟩ ⟨hd, _, l', J2, S2⟩
      have S3 := S2.into (l' := some l) hd
      refine (hB k hk' hpk _ l J).out W _ W _ ⟨_, S3⟩ ?_
      intro e st' a'' W' hr S4
      have kf : ∀ {J4 : Nat → Value} {st4 : St}, Sim (rdC C nx (ownM (mid k L[k]) J2) (some l) J) W N st4 a'' W' J4 → KeepsFrom w.heap.size W W' := fun S5 => S5.ext.keepsFrom (fun b hb => S2.ownCells hb) _
      cases e with
      | normal =>
        obtain ⟨J5, S5⟩ := hr.2 W a'' W' S4
        exact ⟨kf S5, hr.1, J5, S.again rfl hk (S2.outOf S5 rfl) (fun i hi => hF (k + 1) i hi)⟩
      | ret =>
        obtain ⟨h, g1, g2, g3⟩ := hr
        obtain ⟨J5, S5⟩ := g1 W a'' W' S4
        exact ⟨kf S5, .ret, h, J5, rfl, trivial, g3, S.again rfl hk (S2.outOf S5 rfl) g2⟩
      | exit id =>
        obtain ⟨h, g1, g2, g3⟩ := hr
        obtain ⟨J5, S5⟩ := g1 W a'' W' S4
        exact ⟨kf S5, .exit id, h, J5, rfl, trivial, g3, S.again rfl hk (S2.outOf S5 rfl) g2⟩
      | _ => exact hr.elim
    · rintro D W hD ⟨hpk, J', S'⟩ hd
      exact hq .normal _ _ _ (hQ hpk) ⟨J', S.endLoop hro hJ0 S' hD hd⟩
    · rintro D c k W hD hkl ⟨e, h, J', rfl, he, hQe, S'⟩ hd
      have S'' := S.endLoop hro hJ0 S' hD hd
      cases e with
      | ret => exact wp_ret (hq .ret _ _ _ hQe ⟨J', S''⟩)
      | exit id => exact wp_exit (hq (.exit id) _ _ _ hQe ⟨J', S''⟩)
      | _ => exact he.elim
  rw [hro]
  exact wpIn_wide.2 key
end
end Go.Ab
namespace Go.Ab
open Go Go.RowKit Go.Shelf Go.Proofs
section
variable {C : Ctx} {N : Nat} {st : St}
theorem v_bind {o : Oper} {op : BinOp} {T T' : TypeId} {x y : Operand} {a b : FV} {va vb v : Value} (ho : o.op = .binOp op T x y T') (hd : dstB N o.dst = true) (hx : st.ev C x = .f a) (hy : st.ev C y = .f b) (ha : detF a = some va) (hb : detF b = some vb)
    (hrun : ∀ w, (do eqGuard op T x y va vb; binOp op T va vb : Sem Value).run C.P w = .ok v w) : ValOp C N o st (.f (.v v)) :=
  valop_run hd fun w0 a w J st' hA S => by
    have e1 := detF_spec (evF S ((hA.ev x (by simp [ho, Op.operands])).trans hx)) ha
    have e2 := detF_spec (evF S ((hA.ev y (by simp [ho, Op.operands])).trans hy)) hb
    have := hrun w
    refine ⟨v, w, ?_, Ext.refl _, RepF.v v⟩
    simp only [execOp, ho, e1, e2, Sem.run_bind] at this ⊢
    rw [this]
    rfl
variable {ops : Array Oper} {pr : Bool} {K : St → Prop} {rest : List Oper} {d : Option Tmp} {op : BinOp} {T0 T T' : TypeId} {pos : String} {af : Array Edge} {g : Option (Nat × Bool)} {x y : Operand}
theorem s_bind {a b : FV} {va vb v : Value} (hw : wantB st ops ⟨d, .binOp op T x y T', T0, pos, af, g⟩ = some true) (hd : dstB N d = true) (hx : st.ev C x = .f a) (hy : st.ev C y = .f b) (ha : detF a = some va) (hb : detF b = some vb)
    (hrun : ∀ w, (do eqGuard op T x y va vb; binOp op T va vb : Sem Value).run C.P w = .ok v w) (k : R C N ops pr K rest (st.put d (.f (.v v)))) : R C N ops pr K (⟨d, .binOp op T x y T', T0, pos, af, g⟩ :: rest) st := ⟨r_val hw (v_bind rfl hd hx hy ha hb hrun) k.out⟩
theorem run_eqlB {P : Program} {p q : Bool} (hu : P.underlying T = some .bool) (w : World) : (Op.equal T (.bool p) (.bool q)).run P w = .ok (p == q) w := by
  unfold Op.equal
  show (Op.equalIn (9999 + 1) T (.bool p) (.bool q)).run P w = _
  unfold Op.equalIn
  rw [Sem.run_bind, run_underlying hu w]
  rfl
theorem b_eqb {P : Program} {p q : Bool} (hu : P.underlying T = some .bool) (w : World) : (do eqGuard .eql T x y (.bool p) (.bool q); binOp .eql T (.bool p) (.bool q) : Sem Value).run P w = .ok (.bool (p == q)) w := by
  simp [eqGuard, binOp, run_eqlB hu]
theorem b_neb {P : Program} {p q : Bool} (hu : P.underlying T = some .bool) (w : World) : (do eqGuard .neq T x y (.bool p) (.bool q); binOp .neq T (.bool p) (.bool q) : Sem Value).run P w = .ok (.bool (p != q)) w := by
  simp [eqGuard, binOp, run_eqlB hu]
  cases p <;> cases q <;> rfl
theorem s_eqb {p q : Bool} (hu : C.P.underlying T = some .bool) (hw : wantB st ops ⟨d, .binOp .eql T x y T', T0, pos, af, g⟩ = some true) (hd : dstB N d = true) (hx : st.ev C x = .f (.v (.bool p))) (hy : st.ev C y = .f (.v (.bool q))) (k : R C N ops pr K rest (st.put d (.f (.v (.bool (p == q)))))) : R C N ops pr K (⟨d, .binOp .eql T x y T', T0, pos, af, g⟩ :: rest) st := ⟨r_val hw (v_bin rfl hd hx hy (b_eqb hu)) k.out⟩
theorem s_neb {p q : Bool} (hu : C.P.underlying T = some .bool) (hw : wantB st ops ⟨d, .binOp .neq T x y T', T0, pos, af, g⟩ = some true) (hd : dstB N d = true) (hx : st.ev C x = .f (.v (.bool p))) (hy : st.ev C y = .f (.v (.bool q))) (k : R C N ops pr K rest (st.put d (.f (.v (.bool (p != q)))))) : R C N ops pr K (⟨d, .binOp .neq T x y T', T0, pos, af, g⟩ :: rest) st := ⟨r_val hw (v_bin rfl hd hx hy (b_neb hu)) k.out⟩
end
section
variable {C : Ctx} {N : Nat} {st : St} {ops : Array Oper} {pr : Bool} {K : St → Prop} {rest : List Oper} {d : Option Tmp} {op : Op} {T0 : TypeId} {pos : String} {af : Array Edge} {g : Option (Nat × Bool)}
def gate (N : Nat) (st : St) (ops : Array Oper) (o : Oper) : Bool := match wantB st ops o with
  | some true => dstB N o.dst
  | _ => false
theorem gate_spec {o : Oper} (h : gate N st ops o = true) : wantB st ops o = some true ∧ dstB N o.dst = true := by
  unfold gate at h
  split at h
  · rename_i h1; exact ⟨h1, h⟩
  · cases h
def gated {α : Type} (b : Bool) (x : Option α) : Option α := match b with
  | true => x
  | false => none
theorem gated_spec {α : Type} {b : Bool} {x : Option α} {y : α} (h : gated b x = some y) : b = true ∧ x = some y := by
  unfold gated at h
  split at h
  · exact ⟨rfl, h⟩
  · cases h
theorem s_a (ty : Ty C.P) {r : AV} (h : gated (gate N st ops ⟨d, op, T0, pos, af, g⟩) (autoV C ty.ty st op) = some r) (k : R C N ops pr K rest (st.put d r)) : R C N ops pr K (⟨d, op, T0, pos, af, g⟩ :: rest) st :=
  let ⟨h1, h2⟩ := gated_spec h; let ⟨h3, h4⟩ := gate_spec h1; s_auto ty h3 h4 h2 k
theorem s_c (ty : Ty C.P) {r : AV} {P : Prop} (h : gated (gate N st ops ⟨d, op, T0, pos, af, g⟩) (condV C ty.ty st op) = some (r, P)) (hp : P) (k : R C N ops pr K rest (st.put d r)) : R C N ops pr K (⟨d, op, T0, pos, af, g⟩ :: rest) st :=
  let ⟨h1, h2⟩ := gated_spec h; let ⟨h3, h4⟩ := gate_spec h1; s_cond ty h3 h4 h2 hp k
theorem s_z (ty : Ty C.P) {T : TypeId} {x y : Operand} {r : AV} {P : Prop} (h : gated (gate N st ops ⟨d, .indexAddr T x y, T0, pos, af, g⟩) (cIdx C (ty.ty T) st x y) = some (r, P)) (hp : P) (k : R C N ops pr K rest (st.put d r)) : R C N ops pr K (⟨d, .indexAddr T x y, T0, pos, af, g⟩ :: rest) st :=
  let ⟨h1, h2⟩ := gated_spec h; let ⟨h3, h4⟩ := gate_spec h1; s_idxz ty h3 h4 h2 hp k
theorem s_t {b : Bool} {P : Prop} (h : gated (gate N st ops ⟨d, op, T0, pos, af, g⟩) (cmpV C st op) = some (b, P)) (hp : P) (k : R C N ops pr K rest (st.put d (.f (.v (.bool b))))) : R C N ops pr K (⟨d, op, T0, pos, af, g⟩ :: rest) st :=
  let ⟨h1, h2⟩ := gated_spec h; let ⟨h3, h4⟩ := gate_spec h1; s_cmpt h3 h4 h2 hp k
theorem s_f {b : Bool} {P : Prop} (h : gated (gate N st ops ⟨d, op, T0, pos, af, g⟩) (cmpV C st op) = some (b, P)) (hp : ¬ P) (k : R C N ops pr K rest (st.put d (.f (.v (.bool (!b)))))) : R C N ops pr K (⟨d, op, T0, pos, af, g⟩ :: rest) st :=
  let ⟨h1, h2⟩ := gated_spec h; let ⟨h3, h4⟩ := gate_spec h1; s_cmpf h3 h4 h2 hp k
def skB (N : Nat) (st : St) (ops : Array Oper) (o : Oper) : Bool := match wantB st ops o with
  | some false => dstB N o.dst
  | _ => false
theorem s_s (h : skB N st ops ⟨d, op, T0, pos, af, g⟩ = true) (k : R C N ops pr K rest (st.put d (.f (.v undef)))) : R C N ops pr K (⟨d, op, T0, pos, af, g⟩ :: rest) st := by
  unfold skB at h
  split at h
  · rename_i h1; exact s_skip h1 h k
  · cases h
def callOf (C : Ctx) (st : St) (f : Operand) (args : List Operand) : Option (Nat × List FV) := match st.ev C f with
  | .f (.fn g caps) => match st.evL C args with
    | some xs => some (g, xs ++ caps)
    | none => none
  | _ => none
theorem callOf_spec {f : Operand} {args : List Operand} {gf : Nat} {ys : List FV} (h : callOf C st f args = some (gf, ys)) : ∃ caps xs, st.ev C f = .f (.fn gf caps) ∧ st.evL C args = some xs ∧ xs ++ caps = ys := by
  unfold callOf at h
  split at h
  · rename_i g caps hf
    split at h
    · rename_i xs hx; cases h; exact ⟨caps, xs, hf, hx, rfl⟩
    · cases h
  · cases h
theorem s_k {f : Operand} {args : Array Operand} {ts : Array TypeId} {gf : Nat} {ys : List FV} {r : FV} (S : Summ C.P C.G gf ys r) (h : gated (gate N st ops ⟨d, .call { callee := .value f, args := args, argTypes := ts }, T0, pos, af, g⟩) (callOf C st f args.toList) = some (gf, ys)) (k : R C N ops pr K rest (st.put d (.f r))) : R C N ops pr K (⟨d, .call { callee := .value f, args := args, argTypes := ts }, T0, pos, af, g⟩ :: rest) st :=
  let ⟨h1, h2⟩ := gated_spec h; let ⟨h3, h4⟩ := gate_spec h1; let ⟨_, _, q1, q2, q3⟩ := callOf_spec h2; s_cl S h3 h4 q1 q2 q3 k
theorem s_k1 {f : Operand} {args : Array Operand} {ts : Array TypeId} {gf : Nat} {ys : List FV} {r : FV} {P0 : Prop} (S : P0 → Summ C.P C.G gf ys r) (h : gated (gate N st ops ⟨d, .call { callee := .value f, args := args, argTypes := ts }, T0, pos, af, g⟩) (callOf C st f args.toList) = some (gf, ys)) (p0 : P0) (k : R C N ops pr K rest (st.put d (.f r))) : R C N ops pr K (⟨d, .call { callee := .value f, args := args, argTypes := ts }, T0, pos, af, g⟩ :: rest) st := s_k (S p0) h k
theorem s_k2 {f : Operand} {args : Array Operand} {ts : Array TypeId} {gf : Nat} {ys : List FV} {r : FV} {P0 P1 : Prop} (S : P0 → P1 → Summ C.P C.G gf ys r) (h : gated (gate N st ops ⟨d, .call { callee := .value f, args := args, argTypes := ts }, T0, pos, af, g⟩) (callOf C st f args.toList) = some (gf, ys)) (p0 : P0) (p1 : P1) (k : R C N ops pr K rest (st.put d (.f r))) : R C N ops pr K (⟨d, .call { callee := .value f, args := args, argTypes := ts }, T0, pos, af, g⟩ :: rest) st := s_k (S p0 p1) h k
theorem s_k3 {f : Operand} {args : Array Operand} {ts : Array TypeId} {gf : Nat} {ys : List FV} {r : FV} {P0 P1 P2 : Prop} (S : P0 → P1 → P2 → Summ C.P C.G gf ys r) (h : gated (gate N st ops ⟨d, .call { callee := .value f, args := args, argTypes := ts }, T0, pos, af, g⟩) (callOf C st f args.toList) = some (gf, ys)) (p0 : P0) (p1 : P1) (p2 : P2) (k : R C N ops pr K rest (st.put d (.f r))) : R C N ops pr K (⟨d, .call { callee := .value f, args := args, argTypes := ts }, T0, pos, af, g⟩ :: rest) st := s_k (S p0 p1 p2) h k
def ldOf (C : Ctx) (ty : TyD) (st : St) (x : Operand) : Option (List FV × Nat) := match ty.scal with
  | true => match st.ev C x with
    | .f (.pt cs off) => some (cs, off)
    | _ => none
  | false => none
theorem s_l (ty : Ty C.P) {T : TypeId} {x : Operand} {cs : List FV} {off : Nat} {c : FV} (h : gated (gate N st ops ⟨d, .load T x, T0, pos, af, g⟩) (ldOf C (ty.ty T) st x) = some (cs, off)) (hc : cs[off]? = some c) (k : R C N ops pr K rest (st.put d (.f c))) : R C N ops pr K (⟨d, .load T x, T0, pos, af, g⟩ :: rest) st := by
  obtain ⟨h1, h2⟩ := gated_spec h
  obtain ⟨h3, h4⟩ := gate_spec h1
  unfold ldOf at h2
  split at h2
  · rename_i hT
    split at h2
    · rename_i cs' off' hx; cases h2; exact s_ld ty h3 h4 hT hx hc k
    · cases h2
  · cases h2
def ldsOf (C : Ctx) (ty : TyD) (st : St) (x : Operand) : Option (List FV × Nat × Nat) := match ty.agg with
  | some n => match st.ev C x with
    | .f (.pt cs off) => some (cs, off, n)
    | _ => none
  | none => none
theorem s_m (ty : Ty C.P) {T n : TypeId} {x : Operand} {cs sub : List FV} {off : Nat} (h : gated (gate N st ops ⟨d, .load T x, T0, pos, af, g⟩) (ldsOf C (ty.ty T) st x) = some (cs, off, n)) (hc : (cs.drop off).take n = sub) (hl : sub.length = n) (k : R C N ops pr K rest (st.put d (.f (.agg sub)))) : R C N ops pr K (⟨d, .load T x, T0, pos, af, g⟩ :: rest) st := by
  obtain ⟨h1, h2⟩ := gated_spec h
  obtain ⟨h3, h4⟩ := gate_spec h1
  unfold ldsOf at h2
  split at h2
  · rename_i n' hT
    split at h2
    · rename_i cs' off' hx; cases h2; exact s_lds ty h3 h4 hT hx hc hl k
    · cases h2
  · cases h2
def ldrOf (C : Ctx) (ty : TyD) (st : St) (x : Operand) : Option (List FV × Nat) := match ty.scal with
  | true => match st.ev C x with
    | .bx i off => match st.h i with
      | some (.row _ _ _ cs) => some (cs, off)
      | _ => none
    | _ => none
  | false => none
theorem s_r (ty : Ty C.P) {T : TypeId} {x : Operand} {cs : List FV} {off : Nat} {c : FV} (h : gated (gate N st ops ⟨d, .load T x, T0, pos, af, g⟩) (ldrOf C (ty.ty T) st x) = some (cs, off)) (hc : cs[off]? = some c) (k : R C N ops pr K rest (st.put d (.f c))) : R C N ops pr K (⟨d, .load T x, T0, pos, af, g⟩ :: rest) st := by
  obtain ⟨h1, h2⟩ := gated_spec h
  obtain ⟨h3, h4⟩ := gate_spec h1
  unfold ldrOf at h2
  split at h2
  · rename_i hT
    split at h2
    · rename_i i off' hx
      split at h2
      · rename_i e sz m cs' hi; cases h2; exact s_ldr ty h3 h4 hT hx hi hc k
      · cases h2
    · cases h2
  · cases h2
end
end Go.Ab
namespace Go.Proofs.YtienhiloecfgnaaDoor
open Go Go.RowKit Go.Proofs Go.Shelf Go.Ab
theorem laysF_ne {l : List Layer} (h : 0 < l.length) : laysF l ≠ [] := flat_ne (f := layF) (s := 3) (fun _ => rfl) (by decide) h
theorem laysF_sub {l : List Layer} {k : Nat} (h : k < l.length) : ((laysF l).drop (k * 3)).take 3 = layF l[k] := flat_sub (f := layF) (fun _ => rfl) h
theorem celsF_ne {l : List Cel} (h : 0 < l.length) : celsF l ≠ [] := flat_ne (f := celF) (s := 2) (fun _ => rfl) (by decide) h
theorem celsF_sub {l : List Cel} {k : Nat} (h : k < l.length) : ((celsF l).drop (k * 2)).take 2 = celF l[k] := flat_sub (f := celF) (fun _ => rfl) h
theorem rngsF_ne {l : List Rng} (h : 0 < l.length) : rngsF l ≠ [] := flat_ne (f := rngF) (s := 2) (fun _ => rfl) (by decide) h
theorem rngsF_sub {l : List Rng} {k : Nat} (h : k < l.length) : ((rngsF l).drop (k * 2)).take 2 = rngF l[k] := flat_sub (f := rngF) (fun _ => rfl) h
theorem flasF_ne {l : List Flash} (h : 0 < l.length) : flasF l ≠ [] := flat_ne (f := flaF) (s := 7) (fun _ => rfl) (by decide) h
theorem flasF_sub {l : List Flash} {k : Nat} (h : k < l.length) : ((flasF l).drop (k * 7)).take 7 = flaF l[k] := flat_sub (f := flaF) (fun _ => rfl) h
theorem intsF_ne {l : List (Int)} (h : 0 < l.length) : intsF l ≠ [] := map_ne h
theorem intsF_at {l : List (Int)} {k : Nat} (h : k < l.length) : (intsF l)[k * 1]? = some (iv l[k]) := map_at h
theorem matF_ne {l : List (List Int)} (h : 0 < l.length) : matF l ≠ [] := map_ne h
theorem boolsF_ne {l : List (Bool)} (h : 0 < l.length) : boolsF l ≠ [] := map_ne h
theorem boolsF_at {l : List (Bool)} {k : Nat} (h : k < l.length) : (boolsF l)[k * 1]? = some (.v (.bool l[k])) := map_at h
theorem le_set {cs ys : List FV} {o m : Nat} (h : m ≤ cs.length) : m ≤ (Ab.setAt cs o ys).length := by rw [setAt_length]; exact h
theorem le_int {l : List Int} {m : Nat} (h : m ≤ l.length) : m ≤ (intsF l).length := by simpa [intsF] using h
theorem le_ini {zs : List Value} {n m : Nat} (h : m ≤ n) : m ≤ (initF zs n).length := by simpa [initF] using h
theorem Within_t (n lo hi : Int) (h : lo ≤ n ∧ n ≤ hi) : Summ Tryd.prog GG 46 [iv n, iv lo, iv hi] (.v (.bool true)) := by
  have := Within_s n lo hi
  rwa [show withinB n lo hi = true by simp [withinB, h]] at this
theorem Within_f (n lo hi : Int) (h : ¬ (lo ≤ n ∧ n ≤ hi)) : Summ Tryd.prog GG 46 [iv n, iv lo, iv hi] (.v (.bool false)) := by
  have := Within_s n lo hi
  rwa [show withinB n lo hi = false by simp [withinB]; omega] at this
theorem within_T (n lo hi : Int) (h : lo ≤ n ∧ n ≤ hi) : Summ Tryd.prog GG 92 [iv n, iv lo, iv hi] (.v (.bool true)) := by
  have := within_s n lo hi
  rwa [show withinB n lo hi = true by simp [withinB, h]] at this
theorem within_F (n lo hi : Int) (h : ¬ (lo ≤ n ∧ n ≤ hi)) : Summ Tryd.prog GG 92 [iv n, iv lo, iv hi] (.v (.bool false)) := by
  have := within_s n lo hi
  rwa [show withinB n lo hi = false by simp [withinB]; omega] at this
theorem initF_ints (n : Nat) : initF [.int .i64 0] (n * 1) = intsF (List.replicate n 0) := by
  rw [Nat.mul_one, initF_one]; simp [intsF, iv]
theorem setI (s : List Int) (k : Nat) (z : Int) : Ab.setAt (intsF s) (k * 1) [iv z] = intsF (s.set k z) := by
  rw [Nat.mul_one]; simp [Ab.setAt, intsF, List.map_set]
theorem atI' {s : List Int} {k : Nat} (hk : k < s.length) : (intsF s)[k * 1]? = some (iv (s.getD k 0)) := by
  rw [getD_get hk]; exact map_at hk
theorem lay_at {x : Grid} {k : Int} (h0 : 0 ≤ k) (h1 : k < x.layers.length) : layerAtI x k = x.layers[k.toNat]'(by omega) := by
  have h : k.toNat < x.layers.length := by omega
  unfold layerAtI
  rw [List.getD_eq_getElem?_getD, List.getElem?_eq_getElem h, Option.getD_some]
theorem intsF_tk' {l : List Int} {k : Nat} (hk : k < l.length) : l.take (k + 1) = l.take k ++ [l[k]] := List.take_succ_eq_append_getElem hk
theorem max_to (k n : Nat) (hn : 0 < n) : (min ((k : Int) + 1) ((n : Int) - 1)).toNat = if k + 1 < n then k + 1 else n - 1 := by split <;> omega
theorem iceErr_s (x : Grid) (b : SmallG x) : Summ Tryd.prog GG 84 [gridF x] (iv (iceErrE x)) := by
  refine ⟨enters_of Tryd.func84 (by kernel_rfl) rfl, fun w M us hM hG R => ?_⟩
  obtain ⟨u1, us1, rfl, r1, R1⟩ := R.head
  have := R1.end; subst this
  obtain ⟨la, ta, lc, tc, rfl, hg⟩ := rep_gridF r1 b.nl b.nt
  exact (iceErr_any la ta lc tc x w hg).mono fun e w' ⟨h1, h2⟩ => ⟨_, h1, RepF.v _, h2⟩
theorem layersErr_s (x : Grid) (l : List Int) (b : SmallG x) (hm : l.length ≤ 140737488355328) : Summ Tryd.prog GG 109 [gridF x, .sl l.length (intsF l)] (iv (layersErrE x l)) := by
  refine ⟨enters_of Tryd.func109 (by kernel_rfl) rfl, fun w M us hM hG R => ?_⟩
  obtain ⟨u1, us1, rfl, r1, R1⟩ := R.head
  obtain ⟨u2, us2, rfl, r2, R2⟩ := R1.head
  have := R2.end; subst this
  obtain ⟨la, ta, lc, tc, rfl, hg⟩ := rep_gridF r1 b.nl b.nt
  obtain ⟨a, c, rfl, _, hr⟩ := rep_row r2 (detC_ints l)
  exact (layersErr_any la ta lc tc x a c l w hg hr hm).mono fun e w' ⟨h1, h2⟩ => ⟨_, h1, RepF.v _, h2⟩
theorem oddPhotons_s (l : List Int) (hm : l.length ≤ 140737488355328) : Summ Tryd.prog GG 106 [.sl l.length (intsF l), .fn 107 []] (bv (l.any fun n => !withinB n 0 1000000)) := by
  refine ⟨enters_of Tryd.func106 (by kernel_rfl) rfl, fun w M us hM hG R => ?_⟩
  obtain ⟨u1, us1, rfl, r1, R1⟩ := R.head
  obtain ⟨u2, us2, rfl, r2, R2⟩ := R1.head
  have := R2.end; subst this
  obtain ⟨a, c, rfl, _, hr⟩ := rep_row r1 (detC_ints l)
  cases r2 with
  | fn _ _ us h1 h2 =>
    have : us = [] := List.eq_nil_of_length_eq_zero (by simpa using h1)
    subst this
    exact (containsInt (fun n => !withinB n 0 1000000) 107 #[] (enters_of Tryd.func107 (by kernel_rfl) rfl) a l c w (by unfold maxLen; omega) hr (fun k w' _ _ => ckPhotons_any k w')).mono fun e w' ⟨h1, h2⟩ => ⟨_, h1, RepF.v _, h2⟩
structure SpreadOk (x : Grid) (t l : List Int) : Prop where
  v : Valid x
  n1 : 1 ≤ t.length
  n2 : t.length ≤ 1000
  l2 : l.length ≤ 1000
  lay : ∀ k ∈ l, 0 ≤ k ∧ k < x.layers.length
  nn : ∀ z ∈ t, 0 ≤ z
  sum : t.sum ≤ 1000000000
structure TabOk (t cur : List Int) : Prop where
  len : cur.length = t.length
  nn : ∀ z ∈ cur, 0 ≤ z
  sum : cur.sum ≤ 1000000000
theorem SpreadOk.tab {x : Grid} {t l : List Int} (h : SpreadOk x t l) (s : Nat) : TabOk t (spreadL x t (l.take s)) := by
  have := spreadL_bd h.v (l.take s) t (fun k hk => h.lay k (List.mem_of_mem_take hk)) h.nn
  exact ⟨spreadL_len _ _ _, this.1, Int.le_trans this.2 h.sum⟩
structure BinOk (y : Layer) (n : Int) : Prop where
  a : 0 ≤ n ∧ n ≤ 1000000000
  b : 0 ≤ n * y.loss ∧ n * y.loss ≤ 1000000000000
  c : 0 ≤ restOf y n ∧ restOf y n ≤ n
  d : 0 ≤ restOf y n * y.scatter ∧ restOf y n * y.scatter ≤ 1000000000000
  e : 0 ≤ lateOf y n ∧ lateOf y n ≤ restOf y n
theorem binOk {y : Layer} (v : LayerV y) {n : Int} (h : 0 ≤ n ∧ n ≤ 1000000000) : BinOk y n := by
  have r := rest_bd v h.1
  refine ⟨h, ⟨Int.mul_nonneg h.1 v.1.1, ?_⟩, r, ⟨Int.mul_nonneg r.1 v.2.1, ?_⟩, late_bd v h.1⟩
  · exact Int.le_trans (Int.mul_le_mul h.2 v.1.2 v.1.1 (by decide)) (by decide)
  · exact Int.le_trans (Int.mul_le_mul (Int.le_trans r.2 h.2) v.2.2 v.2.1 (by decide)) (by decide)
theorem TabOk.bin {t cur : List Int} (h : TabOk t cur) {k : Nat} (hk : k < cur.length) : 0 ≤ cur[k] ∧ cur[k] ≤ 1000000000 :=
  ⟨h.nn _ (List.getElem_mem hk), Int.le_trans (le_sum h.nn (List.getElem_mem hk)) h.sum⟩
theorem TabOk.next {t cur : List Int} (h : TabOk t cur) {y : Layer} (v : LayerV y) (k : Nat) (hk : k ≤ t.length) : TabOk t (spreadTo y cur k) := by
  have := spreadTo_bd v h.nn k (by rw [h.len]; exact hk)
  exact ⟨(spreadTo_len _ _ _).trans h.len, this.1, Int.le_trans this.2 (Int.le_trans (take_sum_le h.nn k) h.sum)⟩
theorem spread_at {y : Layer} {cur : List Int} {k n : Nat} (hn : cur.length = n) (hk : k < n) {v v2 : Int} (e1 : v = (spreadTo y cur k).getD k 0 + (restOf y cur[k] - lateOf y cur[k])) (e2 : v2 = ((spreadTo y cur k).set k v).getD (if k + 1 < n then k + 1 else n - 1) 0 + lateOf y cur[k]) :
    ((spreadTo y cur k).set k v).set (if k + 1 < n then k + 1 else n - 1) v2 = spreadTo y cur (k + 1) := by
  subst e2; subst e1; subst hn
  rw [spreadTo, spreadOne, getD_get hk]
set_option maxRecDepth 100000 in
theorem spread_s (x : Grid) (t l : List Int) (h : SpreadOk x t l) : Summ Tryd.prog GG 110 [gridF x, .sl t.length (intsF t), .sl l.length (intsF l)] (.sl t.length (intsF (spreadL x t l))) := by
  have n1 := h.n1; have n2 := h.n2; have l2 := h.l2
  refine summW Tryd.func110 rfl rfl 74 rfl (by simp) (fun M0 => ?_)
  repeat (first
    | (apply s_a TY; exact rfl)
    | apply w_seq
    | apply w_region
    | apply s_nil
    | apply t_norm
    | apply w_block)
  apply w_loop (fun s : Nat => ⟨(Ab.upd (Ab.upd (Ab.upd (Ab.upd (Ab.upd (fun _ => .bot) 1 (.f (.sl t.length (intsF (spreadL x t (l.take s)))))) 3 (.f (.pt (gridL x) 0))) 13 (.f (.sl l.length (intsF l)))) 14 (.f (iv l.length))) 15 (.f (iv (s : Nat)))), (fun _ => none), 0⟩) (fun s => s ≤ l.length) (fun s => l.length - s) 0 (Nat.zero_le _) (gh_le ⟨le_upd rfl trivial (le_upd rfl trivial (le_upd rfl trivial (le_upd rfl trivial (le_upd rfl trivial (le_nil _))))), le_h0 _ _⟩)
  intro s hs
  by_cases hsc : s < l.length
  · have hz := h.lay _ (List.getElem_mem hsc)
    have h0 := hz.1
    have h1 := hz.2
    have hy := lay_at h0 h1
    have hv := layerAtI_v h.v h0 h1
    have T := h.tab s
    have hsn : spreadL x t (l.take (s + 1)) = spreadStep (layerAtI x l[s]) (spreadL x t (l.take s)) := by rw [intsF_tk' hsc, spreadL_snoc]
    obtain ⟨y, ey⟩ : ∃ y, y = layerAtI x l[s] := ⟨_, rfl⟩
    have hcur : ∃ cur, cur = spreadL x t (l.take s) := ⟨_, rfl⟩
    obtain ⟨cur, ec⟩ := hcur
    rw [← ey, ← ec] at hsn
    rw [← ec] at T
    rw [← ey] at hv hy
    rw [← ec]
    have hlen := T.len
    have ya : (laysF x.layers)[l[s].toNat * 3 + 1]? = some (iv y.loss) := by rw [hy]; exact flat_at (f := layF) (fun _ => rfl) (by omega) (by decide)
    have yb : (laysF x.layers)[l[s].toNat * 3 + 2]? = some (iv y.scatter) := by rw [hy]; exact flat_at (f := layF) (fun _ => rfl) (by omega) (by decide)
    have yc : ((laysF x.layers).drop (l[s].toNat * 3)).take 3 = layF y := by rw [hy]; exact flat_sub (f := layF) (fun _ => rfl) (by omega)
    clear ec ey
    repeat (first
    | (apply s_a TY; exact rfl)
    | (apply s_t; exact rfl; (first | assumption | omega))
    | apply w_seq
    | apply w_region
    | apply s_nil
    | apply t_norm
    | apply w_block
    | apply w_skip
    | (apply w_condT; exact rfl; exact rfl)
    | (apply s_c TY; exact rfl; (first | omega | exact ⟨by omega, by (first | with_reducible assumption | ((with_reducible apply laysF_ne); omega) | ((with_reducible apply intsF_ne); omega) | assumption)⟩))
    | (apply s_l TY; exact rfl; (first | exact rfl | with_reducible assumption | ((with_reducible apply intsF_at); omega) | assumption))
    | (apply s_make TY; exact rfl; exact rfl; exact rfl; exact rfl; exact rfl; exact rfl; omega; omega; omega; omega))
    apply w_loop (fun k : Nat => ⟨(Ab.upd (Ab.upd (Ab.upd (Ab.upd (Ab.upd (Ab.upd (Ab.upd (Ab.upd (Ab.upd (Ab.upd (fun _ => .bot) 1 (.f (.sl t.length (intsF cur)))) 3 (.f (.pt (gridL x) 0))) 8 (.f (iv (l[s])))) 9 (.ow 0)) 13 (.f (.sl l.length (intsF l)))) 14 (.f (iv l.length))) 15 (.f (iv (s : Nat)))) 22 (.f (.sl t.length (intsF cur)))) 23 (.f (iv t.length))) 24 (.f (iv (k : Nat)))), (Ab.upd (fun _ => none) 0 (some (.row 3 1 t.length (intsF (spreadTo y cur k))))), 1⟩) (fun k => k ≤ t.length) (fun k => t.length - k) 0 (Nat.zero_le _) (gh_le ⟨le_upd rfl trivial (le_upd rfl trivial (le_upd rfl trivial (le_upd rfl trivial (le_upd rfl trivial (le_upd rfl trivial (le_upd rfl rfl (le_upd rfl trivial (le_upd rfl trivial (le_upd rfl trivial (le_nil _)))))))))), le_hupd (by rw [← hlen, initF_ints]; rfl) trivial (le_h0 _ _)⟩)
    intro k hk
    by_cases hkc : k < t.length
    · have hkl : k < cur.length := by omega
      have TK := T.next hv k hk
      have TL := T.next hv (k + 1) hkc
      have tl := TK.len
      have b := binOk hv (T.bin hkl)
      have b1 := b.a; have b2 := b.b; have b3 := b.c; have b5 := b.e
      have b4 : 0 ≤ (cur[k] - cur[k] * y.loss / 1000) * y.scatter ∧ (cur[k] - cur[k] * y.loss / 1000) * y.scatter ≤ 1000000000000 := b.d
      have u2 : restOf y cur[k] = cur[k] - cur[k] * y.loss / 1000 := rfl
      have u3 : lateOf y cur[k] = restOf y cur[k] * y.scatter / 1000 := rfl
      have sk := TK.bin (k := k) (by omega)
      have jz := max_to k t.length (by omega)
      have jl : (if k + 1 < t.length then k + 1 else t.length - 1) < t.length := by split <;> omega
      have jb : 0 ≤ ((spreadTo y cur k).set k ((spreadTo y cur k)[k] + (restOf y cur[k] - lateOf y cur[k]))).getD (if k + 1 < t.length then k + 1 else t.length - 1) 0 ∧ ((spreadTo y cur k).set k ((spreadTo y cur k)[k] + (restOf y cur[k] - lateOf y cur[k]))).getD (if k + 1 < t.length then k + 1 else t.length - 1) 0 ≤ 2000000000 :=
        getD_mem0 (P := fun z => 0 ≤ z ∧ z ≤ 2000000000) (set_all (fun z hz => ⟨TK.nn z hz, by have := le_sum TK.nn hz; have := TK.sum; omega⟩) (by omega)) (by decide)
      have a3 : (Ab.setAt (intsF (spreadTo y cur k)) (k * 1) [iv ((spreadTo y cur k)[k] + (restOf y cur[k] - lateOf y cur[k]))])[(min ((k : Int) + 1) ((t.length : Int) - 1)).toNat * 1]? = some (iv (((spreadTo y cur k).set k ((spreadTo y cur k)[k] + (restOf y cur[k] - lateOf y cur[k]))).getD (if k + 1 < t.length then k + 1 else t.length - 1) 0)) := by
        rw [setI, jz]; exact atI' (by simp; omega)
      have HF : Ab.setAt (Ab.setAt (intsF (spreadTo y cur k)) (k * 1) [iv ((spreadTo y cur k)[k] + (restOf y cur[k] - lateOf y cur[k]))]) ((min ((k : Int) + 1) ((t.length : Int) - 1)).toNat * 1) [iv (((spreadTo y cur k).set k ((spreadTo y cur k)[k] + (restOf y cur[k] - lateOf y cur[k]))).getD (if k + 1 < t.length then k + 1 else t.length - 1) 0 + lateOf y cur[k])] = intsF (spreadTo y cur (k + 1)) := by
        rw [setI, jz, setI, spread_at hlen hkc (by rw [getD_get (by omega)]) rfl]
      repeat (first
    | (apply s_a TY; exact rfl)
    | (apply s_t; exact rfl; (first | assumption | omega))
    | apply w_seq
    | apply w_region
    | apply s_nil
    | apply t_norm
    | apply k_norm
    | apply w_block
    | apply w_skip
    | (apply w_condT; exact rfl; exact rfl)
    | (apply s_c TY; exact rfl; (first | omega | exact ⟨by omega, by (first | with_reducible assumption | ((with_reducible apply laysF_ne); omega) | ((with_reducible apply intsF_ne); omega) | assumption)⟩))
    | (apply s_z TY; exact rfl; (first | omega | exact ⟨by omega, by (first | with_reducible assumption | ((with_reducible apply laysF_ne); omega) | ((with_reducible apply intsF_ne); omega) | assumption)⟩))
    | (apply s_l TY; exact rfl; (first | exact rfl | with_reducible assumption | ((with_reducible apply intsF_at); omega) | assumption))
    | (apply s_r TY; exact rfl; (first | exact rfl | with_reducible assumption | ((with_reducible apply intsF_at); omega) | assumption))
    | (apply s_storeR TY; exact rfl; exact rfl; exact rfl; exact rfl; exact rfl; (first | exact rfl | ((repeat apply le_set); (first | apply le_int | apply le_ini); show _ + 1 ≤ _; omega))))
      exact ⟨k + 1, by omega, by omega, gh_le ⟨le_upd rfl trivial (le_upd rfl trivial (le_upd rfl trivial (le_upd rfl trivial (le_upd rfl trivial (le_upd rfl trivial (le_upd rfl rfl (le_upd rfl trivial (le_upd rfl trivial (le_upd rfl trivial (le_nil _)))))))))), le_hupd (congrArg (fun z => some (Blk.row 3 1 t.length z)) HF) trivial (le_h0 _ _)⟩⟩
    have hke : k = t.length := by omega
    subst hke
    repeat (first
    | (apply s_a TY; exact rfl)
    | (apply s_f; exact rfl; (first | assumption | omega))
    | apply w_seq
    | apply w_region
    | apply s_nil
    | apply t_norm
    | apply t_exit
    | apply k_hit
    | apply k_norm
    | apply w_exit
    | (apply w_condF; exact rfl; exact rfl)
    | (apply s_c TY; exact rfl; (first | omega | exact ⟨by omega, by (first | with_reducible assumption | ((with_reducible apply laysF_ne); omega) | ((with_reducible apply intsF_ne); omega) | assumption)⟩)))
    refine ⟨s + 1, by omega, by omega, gh_trans (gh_row 0 rfl) ?_⟩
    exact gh_le ⟨le_upd rfl trivial (le_upd rfl trivial (le_upd rfl trivial (le_upd rfl trivial (le_upd (congrArg (fun z => AV.f (.sl t.length (intsF z))) (hsn.trans (by rw [spreadStep, hlen]))) trivial (le_nil _))))), le_h0 _ _⟩
  have hse : s = l.length := by omega
  subst hse
  repeat (first
    | (apply s_a TY; exact rfl)
    | (apply s_f; exact rfl; (first | assumption | omega))
    | apply w_seq
    | apply w_region
    | apply s_nil
    | apply t_norm
    | apply t_exit
    | apply k_hit
    | apply w_exit
    | apply w_ret
    | (apply w_condF; exact rfl; exact rfl))
  exact lv_ret (ret1 rfl (res_tmp (congrArg (fun z => AV.f (.sl t.length (intsF (spreadL x t z)))) (List.take_length))))
end Go.Proofs.YtienhiloecfgnaaDoor
namespace Go.Ab
open Go Go.RowKit Go.Shelf Go.Proofs
section
variable {C : Ctx} {N : Nat} {st : St} {ops : Array Oper} {pr : Bool} {K : St → Prop} {rest : List Oper}
theorem v_stay {o : Oper} {T i off : Nat} {x y : Operand} {cs ys : List AV} {av : AV} (ty : Ty C.P) (ho : o.op = .store T x y) (hd : o.dst = none) (hx : st.ev C x = .bx i off) (hy : st.ev C y = av) (hc : cellsA av = some ys) (hT : sizeB (ty.ty T) ys.length = true) (hl : off + ys.length ≤ cs.length) (hs : setAt cs off ys = cs) : StayOp C N o st i (.box cs) :=
  ⟨hd, fun w0 a w st' A hk S K Q hK => e_store ty ho hd ((A.ev x (by simp [ho, Op.operands])).trans hx) hk ((A.ev y (by simp [ho, Op.operands])).trans hy) hc hT hl w0 a w S K Q (fun v w' h => hK v w' (h.cast (fun _ => rfl) (fun k => by
    show st'.h k = upd st'.h i (some (.box (setAt cs off ys))) k
    rw [hs]
    by_cases e : k = i
    · subst e; rw [upd_same, hk]
    · rw [upd_other _ _ e])))⟩
theorem s_stay (ty : Ty C.P) {T0 : TypeId} {pos : String} {af : Array Edge} {T i off : Nat} {x y : Operand} {cs ys : List AV} {av : AV} (hx : st.ev C x = .bx i off) (hi : st.h i = some (.box cs)) (hy : st.ev C y = av) (hc : cellsA av = some ys) (hT : sizeB (ty.ty T) ys.length = true) (hl : Nat.ble (off + ys.length) cs.length = true) (hs : setAt cs off ys = cs) (hm : madeB ops ⟨none, .store T x y, T0, pos, af, none⟩ = true) (hn : saidB (.box cs) = true) (h : R C N ops pr K rest st) : R C N ops pr K (⟨none, .store T x y, T0, pos, af, none⟩ :: rest) st :=
  ⟨_, .stay i (.box cs) rfl (v_stay ty rfl rfl hx hy hc hT (Nat.le_of_ble_eq_true hl) hs) hi ⟨hm, hn⟩, h.out⟩
theorem Sim.less {w0 : World} {a : Act} {w : World} {J : Nat → Value} {s : Nat → AV} {h : Nat → Option Blk} {n k : Nat} {B B' : Blk} (S : Sim C w0 N ⟨s, upd h k (some B'), n⟩ a w J) (m : More B B') : Sim C w0 N ⟨s, upd h k (some B), n⟩ a w J := by
  have live : ∀ i, (upd h k (some B) i).isSome = (upd h k (some B') i).isSome := fun i => by
    by_cases e : i = k
    · subst e; rw [upd_same, upd_same]; rfl
    · rw [upd_other _ _ e, upd_other _ _ e]
  have hM : ∀ b, b < w.heap.size → Mb C (upd h k (some B)) J b → Mb C (upd h k (some B')) J b := fun b _ q => q.imp id fun ⟨i, hi, hb⟩ => ⟨i, by rw [← live]; exact hi, hb⟩
  have conv : ∀ (v : Value) (x : AV), RepA C w (upd h k (some B')) J v x → RepA C w (upd h k (some B)) J v x := fun v x q => by
    cases x with
    | f x => exact RepF.ext q (Ext.refl _) hM
    | bx i off => exact ⟨by rw [live]; exact q.1, q.2⟩
    | ow i => exact ⟨by rw [live]; exact q.1, q.2⟩
    | bot => trivial
    | ag i cs => obtain ⟨hs, us, hv, ho, R⟩ := q; exact ⟨by rw [live]; exact hs, us, hv, ho, R.conv fun _ _ q => RepF.ext q (Ext.refl _) hM⟩
    | fb f cs i => obtain ⟨hs, us, b, hv, hb, R⟩ := q; exact ⟨by rw [live]; exact hs, us, b, hv, hb, R.conv fun _ _ q => RepF.ext q (Ext.refl _) hM⟩
  have cB : ∀ {i : Nat} {D : Blk}, RepB C w w0.heap.size (upd h k (some B')) J (J i) D → RepB C w w0.heap.size (upd h k (some B)) J (J i) D := fun q => q.conv0 (fun _ _ => rfl) (fun _ _ h => h) conv (fun _ _ q => RepF.ext q (Ext.refl _) hM)
  refine ⟨S.ext, S.size, S.defs, fun t => conv _ _ (S.slot t), fun i D hD => ?_, fun i j b hi hj => S.apart i j b (by rw [← live]; exact hi) (by rw [← live]; exact hj), S.old, fun g cs hg => RepF.ext (S.glob g cs hg) (Ext.refl _) hM, fun i p cells hp hc => ?_⟩
  · by_cases e : i = k
    · subst e
      simp only [upd_same, Option.some.injEq] at hD
      subst hD
      exact m.rep (cB (S.blk i B' (upd_same _ _ _)))
    · simp only [upd_other _ _ e] at hD
      exact cB (S.blk i D (by simp only [upd_other _ _ e]; exact hD))
  · by_cases e : i = k
    · subst e
      simp only [upd_same, Option.some.injEq] at hc
      rcases m with e2 | ⟨cs, cs', _, e2, _⟩
      · exact S.fix i p cells hp (by simp only [upd_same]; rw [e2, hc])
      · exact S.fix i p cs' hp (by simp only [upd_same]; rw [e2])
    · simp only [upd_other _ _ e] at hc
      exact S.fix i p cells hp (by simp only [upd_other _ _ e]; exact hc)
theorem a_allocB {o : Oper} {T : TypeId} {zs : List Value} (ty : Ty C.P) (ho : o.op = .alloc T) (hd : dstB N o.dst = true) (hz : (ty.ty T).zero = some zs) (hJ : C.J0 st.nx = none) : AllOp C N o st (.bx st.nx 0) (.box (zs.map fun _ => .bot)) :=
  fun w0 a w st' hA hn S K Q hK => a_alloc ty ho hd hz hJ w0 a w st' hA hn S K Q (fun v w' ⟨J, S'⟩ => hK v w' ⟨J, S'.less (.inr ⟨_, _, rfl, rfl, by simp, fun k x hx => by
    rw [List.getElem?_map] at hx
    cases hk : zs[k]? with
    | none => simp [hk] at hx
    | some z => simp [hk] at hx; exact .inl hx.symm⟩)⟩)
theorem s_allocB (ty : Ty C.P) {d : Option Tmp} {T0 : TypeId} {pos : String} {af : Array Edge} {T : TypeId} {zs : List Value} (hd : dstB N d = true) (hn : st.frB C = true) (hz : (ty.ty T).zero = some zs) (h : R C N ops pr K rest ⟨(st.put d (.bx st.nx 0)).s, upd st.h st.nx (some (.box (zs.map fun _ => .bot))), st.nx + 1⟩) : R C N ops pr K (⟨d, .alloc T, T0, pos, af, none⟩ :: rest) st := ⟨r_all rfl rfl (frB_spec hn).1 (a_allocB ty rfl hd hz (frB_spec hn).2) h.out⟩
theorem v_sto {o : Oper} {T i off : Nat} {x y : Operand} {cs ys : List AV} {av : AV} (ty : Ty C.P) (ho : o.op = .store T x y) (hd : o.dst = none) (hg : o.guard = none) (hx : st.ev C x = .bx i off) (hi : st.h i = some (.box cs)) (hy : st.ev C y = av) (hc : cellsA av = some ys) (hT : sizeB (ty.ty T) ys.length = true) (hl : off + ys.length ≤ cs.length) (hs : saidB (.box cs) = false) : StoOp C N o st i (.box (setAt cs off ys)) :=
  ⟨hd, hg, ⟨_, hi, hs, .inr ⟨cs, _, rfl, rfl, setAt_length _ _ _, fun k x hk => .inl (by
    have := List.mem_of_getElem? hk
    have h2 := (List.any_eq_false.1 hs) x this
    cases x <;> first | rfl | exact absurd rfl h2)⟩⟩, fun w0 a w st' A hk S K Q hK => e_store ty ho hd ((A.ev x (by simp [ho, Op.operands])).trans hx) (hk.trans hi) ((A.ev y (by simp [ho, Op.operands])).trans hy) hc hT hl w0 a w S K Q hK⟩
structure SD (C : Ctx) (N : Nat) (o : Oper) (K : St → Prop) (st : St) : Prop where
  out : ∃ k B, StoOp C N o st k B ∧ K { st with h := upd st.h k (some B) }
theorem s_sto (ty : Ty C.P) {T0 : TypeId} {pos : String} {af : Array Edge} {T i off : Nat} {x y : Operand} {cs ys : List AV} {av : AV} (hx : st.ev C x = .bx i off) (hi : st.h i = some (.box cs)) (hy : st.ev C y = av) (hc : cellsA av = some ys) (hT : sizeB (ty.ty T) ys.length = true) (hl : Nat.ble (off + ys.length) cs.length = true) (hs : saidB (.box cs) = false) (h : K { st with h := upd st.h i (some (.box (setAt cs off ys))) }) : SD C N ⟨none, .store T x y, T0, pos, af, none⟩ K st :=
  ⟨i, _, v_sto ty rfl rfl rfl hx hi hy hc hT (Nat.le_of_ble_eq_true hl) hs, h⟩
theorem w_draw1 {Q : Exit → St → Prop} {id : Nat} {l : List Oper} (n0 : Nat) (hm : C.P.follows .mixedOrders = true) (hok : okReg l (n0 + 1) = true) {oo : Oper} (hoo : l[n0]? = some oo) (hmd : madeB l.toArray oo = true) (h : R C N l.toArray true (SD C N oo (R C N l.toArray false (Q .normal) (l.drop (n0 + 1)))) (l.take n0) st) : W C N (.region id l.toArray true) Q st :=
  ⟨fun _w0 _a _w _Qc S hq => draw_sound1 hm hok hoo hmd (Run.mono (fun _ ⟨k, B, h1, h2⟩ => ⟨k, B, h1, h2.out⟩) h.out) S (fun _st' _a' _w' q S' => hq _ _ _ _ q S')⟩
end
end Go.Ab
namespace Go.Ab
open Go Go.RowKit Go.Shelf Go.Proofs
section
variable {C : Ctx} {N : Nat} {st : St} {ops : Array Oper} {pr : Bool} {K : St → Prop} {rest : List Oper}
theorem Sim.swap {w0 : World} {a : Act} {w : World} {J : Nat → Value} {h' : Nat → Option Blk} (S : Sim C w0 N st a w J) (live : ∀ i, (h' i).isSome = (st.h i).isSome) (hB : ∀ i B, h' i = some B → RepB C w w0.heap.size st.h J (J i) B)
    (hfix : ∀ i cells, h' i = some (.box cells) → ∃ cells', st.h i = some (.box cells')) : Sim C w0 N { st with h := h' } a w J := by
  have hM : ∀ b, b < w.heap.size → Mb C h' J b → Mb C st.h J b := fun b _ q => q.imp id fun ⟨i, hi, hb⟩ => ⟨i, by rw [← live]; exact hi, hb⟩
  have conv : ∀ (v : Value) (x : AV), RepA C w st.h J v x → RepA C w h' J v x := fun v x q => by
    cases x with
    | f x => exact RepF.ext q (Ext.refl _) hM
    | bx i off => exact ⟨by rw [live]; exact q.1, q.2⟩
    | ow i => exact ⟨by rw [live]; exact q.1, q.2⟩
    | bot => trivial
    | ag i cs => obtain ⟨hs, us, hv, ho, R⟩ := q; exact ⟨by rw [live]; exact hs, us, hv, ho, R.conv fun _ _ q => RepF.ext q (Ext.refl _) hM⟩
    | fb f cs i => obtain ⟨hs, us, b, hv, hb, R⟩ := q; exact ⟨by rw [live]; exact hs, us, b, hv, hb, R.conv fun _ _ q => RepF.ext q (Ext.refl _) hM⟩
  refine ⟨S.ext, S.size, S.defs, fun t => conv _ _ (S.slot t), fun i D hD => ?_, fun i j b hi hj => S.apart i j b (by rw [← live]; exact hi) (by rw [← live]; exact hj), S.old, fun g cs hg => RepF.ext (S.glob g cs hg) (Ext.refl _) hM, fun i p cells hp hc => ?_⟩
  · exact (hB i D hD).conv0 (fun _ _ => rfl) (fun _ _ h => h) conv (fun _ _ q => RepF.ext q (Ext.refl _) hM)
  · obtain ⟨cells', hc'⟩ := hfix i cells hc
    exact S.fix i p cells' hp hc'
theorem gh_rowA (i : Nat) {e sz n : Nat} {cs : List FV} (hi : st.h i = some (.row e sz n cs)) : Gh C N st { st with h := upd st.h i (some (.rowA e sz n (cs.map .f))) } := fun w0 a w ⟨J, S⟩ => ⟨J, S.swap (fun j => by
    by_cases e : j = i
    · subst e; rw [upd_same, hi]; rfl
    · rw [upd_other _ _ e]) (fun j B hB => by
    by_cases e : j = i
    · subst e
      rw [upd_same] at hB; cases hB
      obtain ⟨xs, q1, q0, q2, q3⟩ := S.blk j _ hi
      refine ⟨xs, q1, q0, q2, q3.1.trans (by simp), fun k u x h1 h2 => ?_⟩
      rw [List.getElem?_map] at h2
      cases hk : cs[k]? with
      | none => simp [hk] at h2
      | some y => simp [hk] at h2; subst h2; exact q3.2 k u y h1 hk
    · rw [upd_other _ _ e] at hB; exact S.blk j B hB) (fun j cells hc => by
    by_cases e : j = i
    · subst e; rw [upd_same] at hc; cases hc
    · rw [upd_other _ _ e] at hc; exact ⟨cells, hc⟩)⟩
theorem gh_rowF (i : Nat) {e sz n : Nat} {cs : List FV} (hi : st.h i = some (.rowA e sz n (cs.map .f))) : Gh C N st { st with h := upd st.h i (some (.row e sz n cs)) } := fun w0 a w ⟨J, S⟩ => ⟨J, S.swap (fun j => by
    by_cases e : j = i
    · subst e; rw [upd_same, hi]; rfl
    · rw [upd_other _ _ e]) (fun j B hB => by
    by_cases e : j = i
    · subst e
      rw [upd_same] at hB; cases hB
      obtain ⟨xs, q1, q0, q2, q3, q4⟩ := S.blk j _ hi
      exact ⟨xs, q1, q0, q2, by simpa using q3, fun k u x h1 h2 => q4 k u (.f x) h1 (by simp [h2])⟩
    · rw [upd_other _ _ e] at hB; exact S.blk j B hB) (fun j cells hc => by
    by_cases e : j = i
    · subst e; rw [upd_same] at hc; cases hc
    · rw [upd_other _ _ e] at hc; exact ⟨cells, hc⟩)⟩
def mvA (i j : Nat) : AV → AV
  | .bx k off => bif Nat.beq k i then .bx j off else .bx k off
  | .ow k => bif Nat.beq k i then .ow j else .ow k
  | .ag k cs => bif Nat.beq k i then .ag j cs else .ag k cs
  | .fb f cs k => bif Nat.beq k i then .fb f cs j else .fb f cs k
  | x => x
def St.mv (st : St) (i j : Nat) (B : Blk) : St := { s := fun t => mvA i j (st.s t), h := fun k => bif Nat.beq k i then none else bif Nat.beq k j then some (B.map (mvA i j)) else (st.h k).map (Blk.map (mvA i j)), nx := st.nx }
theorem gh_mv (i j : Nat) {B : Blk} (hij : i ≠ j) (hi : st.h i = some B) (hj : st.h j = none) (hJ : ∀ k, C.J0 k = none) : Gh C N st (st.mv i j B) := fun w0 a w ⟨J, S⟩ => by
  refine ⟨upd J j (J i), ?_⟩
  have hji : Nat.beq j i = false := killA_ne (Ne.symm hij)
  have hat : (st.mv i j B).h j = some (B.map (mvA i j)) := by simp [St.mv, hji]
  have hgone : (st.mv i j B).h i = none := by simp [St.mv]
  have hoth : ∀ k, k ≠ i → k ≠ j → (st.mv i j B).h k = (st.h k).map (Blk.map (mvA i j)) := fun k h1 h2 => by simp [St.mv, killA_ne h1, killA_ne h2]
  have nj : ∀ k, (st.h k).isSome = true → k ≠ j := fun k h e => by subst e; rw [hj] at h; cases h
  have back : ∀ k b, ((st.mv i j B).h k).isSome = true → bk (upd J j (J i) k) = some b → ∃ k', (st.h k').isSome = true ∧ bk (J k') = some b ∧ (k' = i ↔ k = j) ∧ (k' ≠ i → k' = k) := fun k b h1 h2 => by
    by_cases e : k = j
    · subst e; rw [upd_same] at h2; exact ⟨i, by rw [hi]; rfl, h2, by simp, fun h => absurd rfl h⟩
    · rw [upd_other _ _ e] at h2
      have e2 : k ≠ i := fun e2 => by subst e2; rw [hgone] at h1; cases h1
      rw [hoth k e2 e] at h1
      exact ⟨k, by simpa using h1, h2, by simp [e, e2], fun _ => rfl⟩
  have hM : ∀ b, b < w.heap.size → Mb C (st.mv i j B).h (upd J j (J i)) b → Mb C st.h J b := by
    rintro b _ (h0 | ⟨k, hk, hb⟩)
    · exact .inl h0
    · obtain ⟨k', h1, h2, _⟩ := back k b hk hb
      exact .inr ⟨k', h1, h2⟩
  have conv : ∀ (v : Value) (x : AV), RepA C w st.h J v x → RepA C w (st.mv i j B).h (upd J j (J i)) v (mvA i j x) := fun v x q => by
    cases x with
    | f x => exact RepF.ext q (Ext.refl _) hM
    | bx k off =>
      by_cases e : k = i
      · subst e; simp only [mvA, Nat.beq_refl, cond_true]; exact ⟨by rw [hat]; rfl, by rw [upd_same]; exact q.2⟩
      · simp only [mvA, killA_ne e, cond_false]; exact ⟨by rw [hoth k e (nj k q.1)]; simpa using q.1, by rw [upd_other _ _ (nj k q.1)]; exact q.2⟩
    | ow k =>
      by_cases e : k = i
      · subst e; simp only [mvA, Nat.beq_refl, cond_true]; exact ⟨by rw [hat]; rfl, by rw [upd_same]; exact q.2⟩
      · simp only [mvA, killA_ne e, cond_false]; exact ⟨by rw [hoth k e (nj k q.1)]; simpa using q.1, by rw [upd_other _ _ (nj k q.1)]; exact q.2⟩
    | bot => trivial
    | fb f cs k =>
      obtain ⟨hs, us, b, hv, hb, R⟩ := q
      have R' : RepL w (Mb C (st.mv i j B).h (upd J j (J i))) us cs := R.conv fun _ _ q => RepF.ext q (Ext.refl _) hM
      by_cases e : k = i
      · subst e; simp only [mvA, Nat.beq_refl, cond_true]; exact ⟨by rw [hat]; rfl, us, b, hv, by rw [upd_same]; exact hb, R'⟩
      · simp only [mvA, killA_ne e, cond_false]; exact ⟨by rw [hoth k e (nj k hs)]; simpa using hs, us, b, hv, by rw [upd_other _ _ (nj k hs)]; exact hb, R'⟩
    | ag k cs =>
      obtain ⟨hs, us, hv, ho, R⟩ := q
      have R' : RepL w (Mb C (st.mv i j B).h (upd J j (J i))) us cs := R.conv fun _ _ q => RepF.ext q (Ext.refl _) hM
      by_cases e : k = i
      · subst e; simp only [mvA, Nat.beq_refl, cond_true]; exact ⟨by rw [hat]; rfl, us, by rw [upd_same]; exact hv, ho, R'⟩
      · simp only [mvA, killA_ne e, cond_false]; exact ⟨by rw [hoth k e (nj k hs)]; simpa using hs, us, by rw [upd_other _ _ (nj k hs)]; exact hv, ho, R'⟩
  have cB : ∀ {v : Value} {D : Blk}, RepB C w w0.heap.size st.h J v D → RepB C w w0.heap.size (st.mv i j B).h (upd J j (J i)) v (D.map (mvA i j)) := fun q => q.conv (mvA i j) (fun _ _ => rfl) (fun _ _ h => h) conv (fun _ _ q => RepF.ext q (Ext.refl _) hM)
  refine ⟨S.ext, S.size, S.defs, fun t => conv _ _ (S.slot t), fun k D hD => ?_, fun k l b hk hl hkb hlb => ?_, S.old, fun g cs hg => RepF.ext (S.glob g cs hg) (Ext.refl _) hM, fun k p cells hp _ => by rw [hJ] at hp; cases hp⟩
  · by_cases e : k = j
    · subst e; rw [hat] at hD; cases hD; rw [upd_same]; exact cB (S.blk i B hi)
    · have e2 : k ≠ i := fun e2 => by subst e2; rw [hgone] at hD; cases hD
      rw [hoth k e2 e, Option.map_eq_some_iff] at hD
      obtain ⟨B0, hB0, rfl⟩ := hD
      rw [upd_other _ _ e]; exact cB (S.blk k B0 hB0)
  · obtain ⟨k', p1, p2, p3, p4⟩ := back k b hk hkb
    obtain ⟨l', r1, r2, r3, r4⟩ := back l b hl hlb
    have e := S.apart k' l' b p1 r1 p2 r2
    by_cases ek : k' = i
    · rw [p3.1 ek, r3.1 (e ▸ ek)]
    · rw [← p4 ek, ← r4 (e ▸ ek), e]
theorem a_bsliceA {o : Oper} {T E bs i : Nat} {x : Operand} {zs : List Value} (ty : Ty C.P) (ho : o.op = .buildSlice T 1 #[(0, x)]) (hd : dstB N o.dst = true) (hT : (ty.ty T).sl = some (E, 1, bs)) (hz : (ty.ty E).zero = some zs) (hzl : zs.length = 1) (hx : st.ev C x = .ow i) : AllOp C N o st (.ow st.nx) (.rowA E 1 1 [.ow i]) := by
  intro w0 a w st' hA hn ⟨J, S⟩ K Q hK
  have e1 := S.eval x
  rw [hA.ev x (by simp [ho, Op.operands]), hx] at e1
  obtain ⟨hlv, hv⟩ := e1
  have hne : i ≠ st.nx := fun e => by subst e; rw [hn] at hlv; cases hlv
  obtain ⟨ad, n, c, hsl⟩ : ∃ ad n c, J i = .slice ad n c ∨ ∃ p, J i = .pointer p := by
    obtain ⟨B, hB⟩ := Option.isSome_iff_exists.1 hlv
    have r := S.blk i B hB
    cases B with
    | box cells => obtain ⟨b, T, us, q, _⟩ := r; exact ⟨none, 0, 0, .inr ⟨_, q⟩⟩
    | row => obtain ⟨xs, q, _⟩ := r; obtain ⟨ad, c, q⟩ := q.isSlice; exact ⟨ad, _, c, .inl q⟩
    | rowA => obtain ⟨xs, q, _⟩ := r; obtain ⟨ad, c, q⟩ := q.isSlice; exact ⟨ad, _, c, .inl q⟩
  have hcells : (J i).cells = #[J i] ∧ (J i).oneCell' = true := by
    rcases hsl with h | ⟨p, h⟩ <;> rw [h] <;> exact ⟨rfl, rfl⟩
  have hrun := run_buildSlice (w := w) (len := 1) (parts := #[((0 : Nat), J i)]) (us := #[J i]) ((ty.ok T).sl _ hT) ((ty.ok E).zero zs hz) (by decide) (fun z' hz' => by
    have e : z'.cells.size = 1 := by rw [← hzl, ← hz']; simp
    have e2 : (madeCells z'.cells (1 * 1)).size = 1 := by simp [size_madeCells]
    obtain ⟨y, hy⟩ : ∃ y, madeCells z'.cells (1 * 1) = #[y] := Array.size_eq_one_iff.1 e2
    rw [hy]
    simp [Instr.fill, hcells.1])
  refine op_value (show (execOp a.eval o).run C.P w = .ok (.value (.slice (some ⟨w.heap.size, 0, none⟩) 1 1)) (w.alloc (.cells #[J i] E)) by
    simp only [execOp, ho, Sem.run_bind, List.map_toArray, List.map_cons, List.map_nil, hv]
    rw [hrun]; rfl) ?_
  refine hK _ _ ⟨upd J st.nx (.slice (some ⟨w.heap.size, 0, none⟩) 1 1), S.al hn hd (Ext.alloc _ _) (fun c hc => by simp [bk] at hc; omega) ?_ ?_ (fun _ e => by cases e)⟩
  · refine ⟨[J i], ⟨by simp, .inr ⟨w.heap.size, 1, #[J i], rfl, Nat.zero_le _, World.alloc_heap_new _ _, Nat.le_refl _, by decide, by simp, by simp⟩⟩, fun b hb => .inl (by simp [bk] at hb; rw [← hb]; exact S.ext.le), by simpa using hcells.2, rfl, fun k u y h1 h2 => ?_⟩
    cases k with
    | zero =>
      simp at h1 h2; subst h1; subst h2
      exact ⟨by rw [upd_other _ _ hne]; exact hlv, by rw [upd_other _ _ hne]⟩
    | succ k => simp at h1
  · exact ⟨by rw [upd_same]; rfl, by rw [upd_same]⟩
theorem growA_conv {w0 : World} {a : Act} {w w' : World} {J : Nat → Value} (_S : Sim C w0 N st a w J) {i : Nat} (hi : (st.h i).isSome = true) {v' : Value} (g : w.grownBy w' (bk (J i))) (hv : ∀ c, bk v' = some c → bk (J i) = some c ∨ w.heap.size ≤ c) (B : Blk) {v : Value} {x : AV} (h : RepA C w st.h J v x) :
    RepA C w' (st.grow i B).h (upd J i v') v (killA i x) := by
  have hM : ∀ b, b < w.heap.size → Mb C (st.grow i B).h (upd J i v') b → Mb C st.h J b := by
    rintro b hb (h0 | ⟨j, hj, hjb⟩)
    · exact .inl h0
    by_cases e : j = i
    · subst e
      rw [upd_same] at hjb
      rcases hv b hjb with h | h
      · exact .inr ⟨j, hi, h⟩
      · omega
    · rw [upd_other _ _ e] at hjb
      refine .inr ⟨j, ?_, hjb⟩
      simpa [St.grow, killA_ne e] using hj
  have live : ∀ j, j ≠ i → ((st.grow i B).h j).isSome = (st.h j).isSome := fun j e => by simp [St.grow, killA_ne e]
  cases x with
  | f x => exact RepF.mono h (fun c hc hm => g.block c hc (fun e => hm (.inr ⟨i, hi, e.symm⟩))) g.size hM
  | bx j off =>
    by_cases e : j = i
    · subst e; simp [killA, RepA]
    · simp only [killA, killA_ne e, cond_false]; exact ⟨by rw [live j e]; exact h.1, by rw [upd_other _ _ e]; exact h.2⟩
  | ow j =>
    by_cases e : j = i
    · subst e; simp [killA, RepA]
    · simp only [killA, killA_ne e, cond_false]; exact ⟨by rw [live j e]; exact h.1, by rw [upd_other _ _ e]; exact h.2⟩
  | bot => trivial
  | fb f cs j =>
    by_cases e : j = i
    · subst e; simp [killA, RepA]
    · obtain ⟨hs, us, b, hv, hb, R⟩ := h
      simp only [killA, killA_ne e, cond_false]; exact ⟨by rw [live j e]; exact hs, us, b, hv, by rw [upd_other _ _ e]; exact hb, R.conv fun _ _ q => RepF.mono q (fun c hc hm => g.block c hc (fun e => hm (.inr ⟨i, hi, e.symm⟩))) g.size hM⟩
  | ag j cs =>
    by_cases e : j = i
    · subst e; simp [killA, RepA]
    · obtain ⟨hs, us, hv, ho, R⟩ := h
      simp only [killA, killA_ne e, cond_false]; exact ⟨by rw [live j e]; exact hs, us, by rw [upd_other _ _ e]; exact hv, ho, R.conv fun _ _ q => RepF.mono q (fun c hc hm => g.block c hc (fun e => hm (.inr ⟨i, hi, e.symm⟩))) g.size hM⟩
theorem e_appendA {o : Oper} {T i j n m e bs d : Nat} {x y : Operand} {cs ys : List AV} {zs : List Value} (ty : Ty C.P) (ho : o.op = .call { callee := .builtin .append, args := #[x, y], argTypes := #[T, T] }) (hd : o.dst = some d) (hdN : dstB N o.dst = true)
    (hT : (ty.ty T).sl = some (e, 1, bs)) (hz : (ty.ty e).zero = some zs) (hzl : zs.length = 1) (hx : st.ev C x = .ow i) (hi : st.h i = some (.rowA e 1 n cs)) (hy : st.ev C y = .ow j) (hj : st.h j = some (.rowA e 1 m ys))
    (h63 : n + m ≤ maxLen) (hbs : (n + m) * bs ≤ 140737488355328) : EffOp C N o st ((st.grow i (.rowA e 1 (n + m) ((cs ++ ys).map (killA i)))).put (some d) (.ow i)) :=
  effop_run fun w0 a w J S => by
    have e1 := S.eval x
    rw [hx] at e1
    obtain ⟨hlv, hv⟩ := e1
    have e2 := S.eval y
    rw [hy] at e2
    obtain ⟨hlj, hyv⟩ := e2
    obtain ⟨xs, q1, q0, q2, q3, q4⟩ := S.blk i _ hi
    obtain ⟨us, p1, p0, p2, p3, p4⟩ := S.blk j _ hj
    obtain ⟨hu, it, hi1, hi2, hi3⟩ := slE_spec ((ty.ok T).sl _ hT)
    obtain ⟨it', z, hi4, hzz, hzl'⟩ := zero_spec ((ty.ok e).zero zs hz)
    rw [hi1] at hi4; cases hi4
    have hzs : z.cells.size = 1 := by rw [← hzl, ← hzl']; simp
    have hul : us.length = m * 1 := p1.1
    obtain ⟨v', w', hrun, r1, r2, r3⟩ : ∃ v' w', (Builtin.append_ #[T, T] o.type #[J i, J j]).run C.P w = .ok v' w' ∧ w'.ownsRow 0 e 1 v' (n + m) (xs ++ us) ∧ w.grownBy w' (J i).ownBlock ∧ (v'.ownBlock = (J i).ownBlock ∨ v'.ownBlock = some w.heap.size) := by
      rcases p1.2 with ⟨ej, rfl⟩ | ⟨g, cap, cur, ej, _⟩
      · have hus : us = [] := List.eq_nil_of_length_eq_zero (by simpa using hul)
        subst hus
        rw [ej]
        exact ⟨J i, w, run_append_none C.P w _ T o.type e it 1 0 hu hi1 (J i) n xs q1, by simpa using q1, World.grownBy.refl _ _, .inl rfl⟩
      · have hown : (J j).ownBlock = some g := by rw [ej]; rfl
        rw [ej]
        obtain ⟨v', w', h1, h2, h3, _, h5⟩ := run_append_own_at (P := C.P) w 0 T o.type e it z 1 bs hu hi1 hzz hi2 hi3 hzs (by decide) (J i) n xs q1 ⟨g, 0, none⟩ m cap us hul (fun k u hk => p1.cells hown k u hk) p2 h63 hbs (Nat.zero_le _)
        exact ⟨v', w', h1, h2, h3, h5⟩
    refine ⟨.value v', v', w', ?_, .inl rfl, upd J i v', ?_⟩
    · simp only [execOp, ho, resolve, invoke, builtin, Sem.run_bind, Sem.run_pure, Result.andThen_ok, List.map_toArray, List.map_cons, List.map_nil, hv, hyv, hrun]
    · rw [← own_bk q1] at r2 r3
      rw [← own_bk r1] at r3
      have hvc : ∀ c, bk v' = some c → bk (J i) = some c ∨ w.heap.size ≤ c := fun c hc => by
        rcases r3 with h | h
        · left; rw [← h]; exact hc
        · right; rw [h] at hc; cases hc; exact Nat.le_refl _
      have G : Sim C w0 N (st.grow i (.rowA e 1 (n + m) ((cs ++ ys).map (killA i)))) a w' (upd J i v') := S.regrow hlv r2 hvc ⟨xs ++ us, r1, fun b hb => by
          rcases r3 with h | h
          · exact q0 b (by rw [← h]; exact hb)
          · rw [h] at hb; cases hb; exact .inl S.ext.le, fun u hu => by
          rcases List.mem_append.1 hu with h | h
          · exact q2 u h
          · exact p2 u h, by simp [q3, p3], fun k u y h1 h2 => by
          rw [List.getElem?_map, Option.map_eq_some_iff] at h2
          obtain ⟨y0, h2, rfl⟩ := h2
          refine growA_conv S hlv r2 hvc _ ?_
          by_cases hk : k < xs.length
          · rw [List.getElem?_append_left hk] at h1
            rw [List.getElem?_append_left (by omega)] at h2
            exact q4 k u y0 h1 h2
          · rw [List.getElem?_append_right (by omega)] at h1
            rw [List.getElem?_append_right (by omega), ← q3] at h2
            exact p4 _ u y0 h1 h2⟩ (fun _ e => by cases e)
      rw [hd] at hdN ⊢
      refine G.put hdN ?_
      refine ⟨?_, ?_⟩
      · show ((st.grow i _).h i).isSome = true
        simp [St.grow]
      · rw [upd_same]
theorem v_idx_owA {o : Oper} {T : TypeId} {x y : Operand} {cs : List AV} {i n e sz E s bs : Nat} {k : IntKind} {z : Int} (ty : Ty C.P) (ho : o.op = .indexAddr T x y) (hd : dstB N o.dst = true) (hT : (ty.ty T).sl = some (E, s, bs)) (hx : st.ev C x = .ow i) (hi : st.h i = some (.rowA e sz n cs)) (hy : st.ev C y = .f (.v (.int k z)))
    (h0 : 0 ≤ z) (hn : z < n) : ValOp C N o st (.bx i (z.toNat * s)) :=
  valop_run hd fun w0 a w J st' hA S => by
    have e1 := S.eval x
    rw [hA.ev x (by simp [ho, Op.operands]), hx] at e1
    have e2 := evV S ((hA.ev y (by simp [ho, Op.operands])).trans hy)
    obtain ⟨hl, hv⟩ := e1
    obtain ⟨xs, q1, q0, q2, q3⟩ := blkOf hA S hi hl
    rcases q1.2 with ⟨_, h⟩ | ⟨g, cap, cur, hj, _⟩
    · omega
    · refine ⟨_, w, by simp [execOp, ho, hv, e2, hj, run_idx ((ty.ok T).sl _ hT) h0 hn]; rfl, Ext.refl _, hl, g, by rw [hj]; rfl, by simp⟩
theorem v_load_rowA {o : Oper} {T : TypeId} {x : Operand} {cs : List AV} {e sz m i off : Nat} {c : AV} (ty : Ty C.P) (ho : o.op = .load T x) (hd : dstB N o.dst = true) (hT : (ty.ty T).scal = true) (hx : st.ev C x = .bx i off) (hi : st.h i = some (.rowA e sz m cs)) (hc : cs[off]? = some c) : ValOp C N o st c :=
  valop_run hd fun w0 a w J st' hA S => by
    have e1 := S.eval x
    rw [hA.ev x (by simp [ho, Op.operands]), hx] at e1
    obtain ⟨hl, b, hb, hv⟩ := e1
    obtain ⟨xs, q1, q0, q2, q3, q4⟩ := blkOf hA S hi hl
    have hlt : off < xs.length := by rw [q3]; exact (List.getElem?_eq_some_iff.1 hc).1
    have hu := List.getElem?_eq_getElem hlt
    have hown : (J i).ownBlock = some b := by
      obtain ⟨a1, c1, e2⟩ := q1.isSlice
      rw [e2] at hb ⊢
      cases a1 <;> simp [bk, Value.ownBlock] at hb ⊢; exact hb
    have hcell := q1.cells hown off _ hu
    rw [addr_add, Nat.zero_add] at hcell
    exact ⟨_, w, by simp [execOp, ho, hv, run_load_scal ((ty.ok T).scal hT) hcell], Ext.refl _, q4 off _ _ hu hc⟩
variable {d : Option Tmp} {T0 : TypeId} {pos : String} {af : Array Edge} {g : Option (Nat × Bool)}
theorem s_bsliceA (ty : Ty C.P) {T E bs i : Nat} {x : Operand} {zs : List Value} (hd : dstB N d = true) (hn : st.h st.nx = none) (hT : (ty.ty T).sl = some (E, 1, bs)) (hz : (ty.ty E).zero = some zs) (hzl : zs.length = 1) (hx : st.ev C x = .ow i) (k : R C N ops pr K rest ⟨(st.put d (.ow st.nx)).s, upd st.h st.nx (some (.rowA E 1 1 [.ow i])), st.nx + 1⟩) : R C N ops pr K (⟨d, .buildSlice T 1 #[(0, x)], T0, pos, af, none⟩ :: rest) st :=
  ⟨r_all rfl rfl hn (a_bsliceA ty rfl hd hT hz hzl hx) k.out⟩
theorem s_appendA (ty : Ty C.P) {T i j n m e bs d : Nat} {x y : Operand} {cs ys : List AV} {zs : List Value} (hdN : dstB N (some d) = true) (hT : (ty.ty T).sl = some (e, 1, bs)) (hz : (ty.ty e).zero = some zs) (hzl : zs.length = 1) (hx : st.ev C x = .ow i) (hi : st.h i = some (.rowA e 1 n cs)) (hy : st.ev C y = .ow j) (hj : st.h j = some (.rowA e 1 m ys))
    (h63 : n + m ≤ maxLen) (hbs : (n + m) * bs ≤ 140737488355328) (k : R C N ops false K rest ((st.grow i (.rowA e 1 (n + m) ((cs ++ ys).map (killA i)))).put (some d) (.ow i))) : R C N ops false K (⟨some d, .call { callee := .builtin .append, args := #[x, y], argTypes := #[T, T] }, T0, pos, af, none⟩ :: rest) st :=
  ⟨r_eff rfl (e_appendA ty rfl rfl hdN hT hz hzl hx hi hy hj h63 hbs) k.out⟩
theorem s_idxOA (ty : Ty C.P) {T : TypeId} {x y : Operand} {cs : List AV} {i n e sz E s bs : Nat} {ik : IntKind} {z : Int} (hw : wantB st ops ⟨d, .indexAddr T x y, T0, pos, af, g⟩ = some true) (hd : dstB N d = true) (hT : (ty.ty T).sl = some (E, s, bs)) (hx : st.ev C x = .ow i) (hi : st.h i = some (.rowA e sz n cs)) (hy : st.ev C y = .f (.v (.int ik z)))
    (h0 : 0 ≤ z) (hn : z < n) (k : R C N ops pr K rest (st.put d (.bx i (z.toNat * s)))) : R C N ops pr K (⟨d, .indexAddr T x y, T0, pos, af, g⟩ :: rest) st := ⟨r_val hw (v_idx_owA ty rfl hd hT hx hi hy h0 hn) k.out⟩
theorem s_ldA (ty : Ty C.P) {T : TypeId} {x : Operand} {cs : List AV} {i off n e sz : Nat} {c : AV} (hw : wantB st ops ⟨d, .load T x, T0, pos, af, g⟩ = some true) (hd : dstB N d = true) (hT : (ty.ty T).scal = true) (hx : st.ev C x = .bx i off) (hi : st.h i = some (.rowA e sz n cs)) (hc : cs[off]? = some c) (k : R C N ops pr K rest (st.put d c)) : R C N ops pr K (⟨d, .load T x, T0, pos, af, g⟩ :: rest) st := ⟨r_val hw (v_load_rowA ty rfl hd hT hx hi hc) k.out⟩
theorem s_idxR (ty : Ty C.P) {T : TypeId} {x y : Operand} {cs : List FV} {i n e sz E s bs : Nat} {ik : IntKind} {z : Int} (hw : wantB st ops ⟨d, .indexAddr T x y, T0, pos, af, g⟩ = some true) (hd : dstB N d = true) (hT : (ty.ty T).sl = some (E, s, bs)) (hx : st.ev C x = .ow i) (hi : st.h i = some (.row e sz n cs)) (hy : st.ev C y = .f (.v (.int ik z)))
    (h0 : 0 ≤ z) (hn : z < n) (k : R C N ops pr K rest (st.put d (.bx i (z.toNat * s)))) : R C N ops pr K (⟨d, .indexAddr T x y, T0, pos, af, g⟩ :: rest) st := ⟨r_val hw (v_idx_ow ty rfl hd hT hx hi hy h0 hn) k.out⟩
theorem s_ldR (ty : Ty C.P) {T : TypeId} {x : Operand} {cs : List FV} {i off n e sz : Nat} {c : FV} (hw : wantB st ops ⟨d, .load T x, T0, pos, af, g⟩ = some true) (hd : dstB N d = true) (hT : (ty.ty T).scal = true) (hx : st.ev C x = .bx i off) (hi : st.h i = some (.row e sz n cs)) (hc : cs[off]? = some c) (k : R C N ops pr K rest (st.put d (.f c))) : R C N ops pr K (⟨d, .load T x, T0, pos, af, g⟩ :: rest) st := ⟨r_val hw (v_load_row ty rfl hd hT hx hi hc) k.out⟩
end
def mRow (e : Nat) (rs : List (List FV)) (i : Nat) : Option Blk := (rs[i]?).map fun r => .row e 1 r.length r
def mR (e : Nat) (rs : List (List FV)) : Nat → Option Blk := fun i => bif Nat.ble 100 i then mRow e rs (i - 100) else none
def mOut (E : Nat) (rs : List (List FV)) : Blk := .rowA E 1 rs.length ((List.range rs.length).map fun r => .ow (r + 100))
def rowsF (rs : List (List FV)) : List FV := rs.map fun r => .sl r.length r
section
variable {C : Ctx} {N : Nat}
theorem mR_hi {e : Nat} {rs : List (List FV)} {i : Nat} (h : 100 ≤ i) : mR e rs i = mRow e rs (i - 100) := by
  unfold mR; rw [Nat.ble_eq_true_of_le h]; rfl
theorem mR_lo {e : Nat} {rs : List (List FV)} {i : Nat} (h : i < 100) : mR e rs i = none := by
  unfold mR
  have : Nat.ble 100 i = false := by
    cases e : Nat.ble 100 i
    · rfl
    · have := Nat.le_of_ble_eq_true e; omega
  rw [this]; rfl
theorem mR_at {e : Nat} {rs : List (List FV)} {r : Nat} (h : r < rs.length) : mR e rs (r + 100) = some (.row e 1 rs[r].length rs[r]) := by
  rw [mR_hi (by omega)]; simp [mRow, h]
theorem mR_out {e : Nat} {rs : List (List FV)} {r : Nat} (h : rs.length ≤ r) : mR e rs (r + 100) = none := by
  rw [mR_hi (by omega)]; simp [mRow, h]
theorem le_mR {e : Nat} {rs : List (List FV)} {h hc : Nat → Option Blk} (hh : ∀ r, r < rs.length → h (r + 100) = mR e rs (r + 100)) : ∀ i, mR e rs i = none ∨ ∃ B, mR e rs i = some B ∧ h i = some B ∧ closedB hc B := fun i => by
  by_cases h1 : 100 ≤ i
  · obtain ⟨r, rfl⟩ : ∃ r, i = r + 100 := ⟨i - 100, by omega⟩
    by_cases h2 : r < rs.length
    · exact .inr ⟨_, mR_at h2, (hh r h2).trans (mR_at h2), trivial⟩
    · exact .inl (mR_out (by omega))
  · exact .inl (mR_lo (by omega))
theorem mR_set {e r0 n : Nat} {rs : List (List FV)} {cs : List FV} {h : Nat → Option Blk} (h0 : r0 < rs.length) (hn : n = cs.length) (hh : ∀ r, r < rs.length → h (r + 100) = mR e rs (r + 100)) : ∀ r, r < (rs.set r0 cs).length → upd h (r0 + 100) (some (.row e 1 n cs)) (r + 100) = mR e (rs.set r0 cs) (r + 100) := fun r hr => by
  have hr' : r < rs.length := by simpa using hr
  rw [mR_at hr]
  by_cases e1 : r = r0
  · subst e1; rw [upd_same, hn]; simp
  · rw [upd_other _ _ (by omega), hh r hr', mR_at hr', List.getElem_set_ne (by omega)]
theorem mOut_closed {E : Nat} {rs : List (List FV)} {h : Nat → Option Blk} (hh : ∀ r, r < rs.length → (h (r + 100)).isSome = true) : closedB h (mOut E rs) := fun x hx => by
  obtain ⟨r, hr, rfl⟩ := List.mem_map.1 hx
  exact hh r (List.mem_range.1 hr)
theorem mOut_set {E r : Nat} {rs : List (List FV)} {cs : List FV} : mOut E (rs.set r cs) = mOut E rs := by simp [mOut]
theorem mOut_cl0 {e E : Nat} {rs : List (List FV)} {B0 : Option Blk} : closedB (upd (mR e rs) 0 B0) (mOut E rs) := mOut_closed fun r hr => by
  rw [upd_other _ _ (by omega), mR_at hr]; rfl
theorem mOut_cl1 {e E : Nat} {rs : List (List FV)} {B0 B1 : Option Blk} : closedB (upd (upd (mR e rs) 0 B0) 1 B1) (mOut E rs) := mOut_closed fun r hr => by
  rw [upd_other _ _ (by omega), upd_other _ _ (by omega), mR_at hr]; rfl
theorem mAdd_cl {e E : Nat} {rs : List (List FV)} {B0 : Option Blk} {B1 : Blk} {n : Nat} : closedB (upd (upd (mR e rs) 0 B0) 1 (some B1)) (.rowA E 1 n ((List.range rs.length).map (fun r => .ow (r + 100)) ++ [.ow 1])) := fun x hx => by
  rcases List.mem_append.1 hx with h | h
  · obtain ⟨r, hr, rfl⟩ := List.mem_map.1 h
    show (upd (upd (mR e rs) 0 B0) 1 (some B1) (r + 100)).isSome = true
    rw [upd_other _ _ (by omega), upd_other _ _ (by omega), mR_at (List.mem_range.1 hr)]; rfl
  · rw [List.mem_singleton.1 h]
    show (upd (upd (mR e rs) 0 B0) 1 (some B1) 1).isSome = true
    rw [upd_same]; rfl
theorem mv_bot {i j : Nat} : ∀ t, mvA i j ((fun _ : Nat => AV.bot) t) = (fun _ : Nat => AV.bot) t := fun _ => rfl
theorem mv_upd {i j k : Nat} {a : AV} {s : Nat → AV} (ha : mvA i j a = a) (hs : ∀ t, mvA i j (s t) = s t) : ∀ t, mvA i j (upd s k a t) = upd s k a t := fun t => by
  by_cases e : t = k
  · subst e; rw [upd_same]; exact ha
  · rw [upd_other _ _ e]; exact hs t
theorem kill_out {E i : Nat} (hi : i < 100) {rs : List (List FV)} : killB i (mOut E rs) = mOut E rs := by
  unfold killB mOut
  simp only [Blk.map, List.map_map]
  congr 1
  refine List.map_congr_left fun r _ => ?_
  simp only [Function.comp, killA, killA_ne (show r + 100 ≠ i by omega), cond_false]
theorem kill_hi' {e r i : Nat} {rs : List (List FV)} {o : Option Blk} (hr : r < rs.length) (h : o = mR e rs (r + 100)) : o.map (killB i) = mR e rs (r + 100) := by rw [h, mR_at hr]; rfl
theorem grow_hi {e r i : Nat} {rs : List (List FV)} {st : St} {B : Blk} (hi : i < 100) (hr : r < rs.length) (h : st.h (r + 100) = mR e rs (r + 100)) : (st.grow i B).h (r + 100) = mR e rs (r + 100) := by
  show (bif Nat.beq (r + 100) i then some B else (st.h (r + 100)).map (killB i)) = _
  rw [killA_ne (by omega), cond_false]
  exact kill_hi' hr h
theorem kill_cells (n : Nat) : ((List.range n).map (fun r => AV.ow (r + 100)) ++ [AV.ow 1]).map (killA 0) = (List.range n).map (fun r => AV.ow (r + 100)) ++ [AV.ow 1] := by
  rw [List.map_append, List.map_map]
  rfl
theorem kill_hi {e r : Nat} {rs : List (List FV)} {o : Option Blk} (hr : r < rs.length) (h : o = mR e rs (r + 100)) : o.map (killB 0) = mR e rs (r + 100) := by rw [h, mR_at hr]; rfl
theorem gh_addrow {e E nx : Nat} {rs : List (List FV)} {row : List FV} {s : Nat → AV} (hs : ∀ t, mvA 1 (rs.length + 100) (s t) = s t) (hJ : ∀ k, C.J0 k = none) :
    Gh C N ⟨s, upd (upd (mR e rs) 0 (some (.rowA E 1 (rs.length + 1) ((List.range rs.length).map (fun r => .ow (r + 100)) ++ [.ow 1])))) 1 (some (.row e 1 row.length row)), nx⟩ ⟨s, upd (mR e (rs ++ [row])) 0 (some (mOut E (rs ++ [row]))), nx⟩ := fun w0 a w S => by
  refine (gh_mv 1 (rs.length + 100) (B := .row e 1 row.length row) (by omega) (by simp only [upd_same]) (by simp only []; rw [upd_other _ _ (by omega), upd_other _ _ (by omega)]; exact mR_out (Nat.le_refl _)) hJ w0 a w S).cast (fun t => (hs t).symm) (fun i => ?_)
  show upd (mR e (rs ++ [row])) 0 (some (mOut E (rs ++ [row]))) i = bif Nat.beq i 1 then none else bif Nat.beq i (rs.length + 100) then some ((Blk.row e 1 row.length row).map (mvA 1 (rs.length + 100))) else (upd (upd (mR e rs) 0 (some (.rowA E 1 (rs.length + 1) ((List.range rs.length).map (fun r => .ow (r + 100)) ++ [.ow 1])))) 1 (some (.row e 1 row.length row)) i).map (Blk.map (mvA 1 (rs.length + 100)))
  by_cases e1 : i = 1
  · subst e1; rw [upd_other _ _ (by omega), mR_lo (by omega)]; rfl
  rw [killA_ne e1, cond_false, upd_other _ _ e1]
  by_cases e0 : i = 0
  · subst e0
    rw [upd_same, upd_same, killA_ne (show 0 ≠ rs.length + 100 by omega), cond_false]
    simp only [Option.map_some, Blk.map, mOut, List.map_append, List.map_map, List.length_append, List.length_cons, List.length_nil, List.range_succ, List.map_cons, List.map_nil]
    rfl
  rw [upd_other _ _ e0, upd_other _ _ e0]
  by_cases e2 : i = rs.length + 100
  · subst e2
    rw [Nat.beq_refl, cond_true, mR_at (by simp)]
    simp [Blk.map]
  rw [killA_ne e2, cond_false]
  by_cases h1 : 100 ≤ i
  · obtain ⟨r, rfl⟩ : ∃ r, i = r + 100 := ⟨i - 100, by omega⟩
    by_cases h2 : r < rs.length
    · rw [mR_at h2, mR_at (by simp; omega), List.getElem_append_left h2]; rfl
    · have e3 : r ≠ rs.length := fun e => e2 (by rw [e])
      rw [mR_out (rs := rs) (by omega), mR_out (rs := rs ++ [row]) (by rw [List.length_append]; simp; omega)]; rfl
  · rw [mR_lo (by omega), mR_lo (by omega)]; rfl
theorem mOut_at {rs : List (List FV)} {r : Nat} (h : r < rs.length) : ((List.range rs.length).map fun r => AV.ow (r + 100))[r * 1]? = some (.ow (r + 100)) := by
  rw [Nat.mul_one]; simp [h]
def mOutK (E k : Nat) (rs : List (List FV)) : Blk := .rowA E 1 rs.length ((List.range rs.length).map fun r => if r < k then .f (.sl (rs.getD r []).length (rs.getD r [])) else .ow (r + 100))
def mFK (e E t k : Nat) (rs : List (List FV)) (nx : Nat) : St := ⟨upd (fun _ => .bot) t (.ow 0), fun i => if i = 0 then some (mOutK E k rs) else if k + 100 ≤ i then mRow e rs (i - 100) else none, nx⟩
theorem mFK_step {e E t k nx : Nat} {rs : List (List FV)} (hk : k < rs.length) : Gh C N (mFK e E t k rs nx) (mFK e E t (k + 1) rs nx) := fun w0 a w S => by
  have hrow : (mFK e E t k rs nx).h (k + 100) = some (.row e 1 rs[k].length rs[k]) := by simp [mFK, mRow, hk]
  refine (gh_row (k + 100) hrow w0 a w S).cast (fun u => ?_) (fun i => ?_)
  · show upd (fun _ => AV.bot) t (.ow 0) u = frzA (k + 100) (some (.sl rs[k].length rs[k])) rs[k] (upd (fun _ => AV.bot) t (.ow 0) u)
    by_cases e1 : u = t
    · subst e1; rw [upd_same]; simp only [frzA, killA_ne (show 0 ≠ k + 100 by omega), cond_false]
    · rw [upd_other _ _ e1]; rfl
  · show (if i = 0 then some (mOutK E (k + 1) rs) else if k + 1 + 100 ≤ i then mRow e rs (i - 100) else none) = bif Nat.beq i (k + 100) then none else ((if i = 0 then some (mOutK E k rs) else if k + 100 ≤ i then mRow e rs (i - 100) else none).map (frzB (k + 100) (some (.sl rs[k].length rs[k])) rs[k]))
    by_cases h0 : i = 0
    · subst h0
      rw [killA_ne (show 0 ≠ k + 100 by omega)]
      simp only [if_true, cond_false, Option.map_some, mOutK, frzB, Blk.map, List.map_map]
      congr 2
      refine List.map_congr_left fun r hr => ?_
      have hr := List.mem_range.1 hr
      simp only [Function.comp]
      by_cases h1 : r < k
      · rw [if_pos h1, if_pos (by omega)]; rfl
      · rw [if_neg h1]
        by_cases h2 : r = k
        · subst h2; rw [if_pos (by omega)]; simp [frzA, hk]
        · rw [if_neg (by omega)]; simp only [frzA, killA_ne (show r + 100 ≠ k + 100 by omega), cond_false]
    · rw [if_neg h0, if_neg h0]
      by_cases h1 : i = k + 100
      · subst h1; rw [if_neg (by omega)]; simp
      · rw [killA_ne h1, cond_false]
        by_cases h2 : k + 1 + 100 ≤ i
        · rw [if_pos h2, if_pos (by omega)]
          unfold mRow
          cases rs[i - 100]? <;> rfl
        · rw [if_neg h2, if_neg (by omega)]; rfl
theorem gh_toF {e E t : Nat} {rs : List (List FV)} {st : St} (ht : st.s t = .ow 0) (h0 : st.h 0 = some (mOut E rs)) (hh : ∀ r, r < rs.length → st.h (r + 100) = mR e rs (r + 100)) : Gh C N st (mFK e E t 0 rs 0) := by
  have hK : mOutK E 0 rs = mOut E rs := rfl
  refine gh_le ⟨le_upd ht.symm rfl (le_nil _), fun i => ?_⟩
  show (if i = 0 then some (mOutK E 0 rs) else if 0 + 100 ≤ i then mRow e rs (i - 100) else none) = none ∨ ∃ B, (if i = 0 then some (mOutK E 0 rs) else if 0 + 100 ≤ i then mRow e rs (i - 100) else none) = some B ∧ _
  by_cases e0 : i = 0
  · subst e0
    rw [if_pos rfl]
    refine .inr ⟨_, rfl, by rw [h0, hK], ?_⟩
    rw [hK]
    refine mOut_closed fun r hr => ?_
    simp [mFK, mRow, hr]
  rw [if_neg e0]
  by_cases h1 : 100 ≤ i
  · rw [if_pos (by omega), ← mR_hi h1]
    exact le_mR hh i
  · rw [if_neg (by omega)]; exact .inl rfl
theorem gh_mfrz {e E t nx : Nat} {rs : List (List FV)} : Gh C N (mFK e E t 0 rs nx) ⟨upd (fun _ => .bot) t (.f (.sl rs.length (rowsF rs))), fun _ => none, nx⟩ := by
  have go : ∀ k, k ≤ rs.length → Gh C N (mFK e E t 0 rs nx) (mFK e E t k rs nx) := fun k => by
    induction k with
    | zero => intro _; exact gh_refl _
    | succ k ih => intro hk; exact gh_trans (ih (by omega)) (mFK_step hk)
  refine gh_trans (go rs.length (Nat.le_refl _)) ?_
  have h0 : (mFK e E t rs.length rs nx).h 0 = some (.rowA E 1 rs.length ((rowsF rs).map .f)) := by
    show some (mOutK E rs.length rs) = _
    unfold mOutK rowsF
    rw [List.map_map]
    congr 2
    apply List.ext_getElem
    · simp
    · intro r h1 h2
      simp at h1
      simp [h1]
  refine gh_trans (gh_rowF 0 h0) (gh_trans (gh_row (e := E) (sz := 1) (n := rs.length) (cs := rowsF rs) 0 (by simp only [upd_same])) ?_)
  refine fun w0 a w S => S.cast (fun u => ?_) (fun i => ?_)
  · show upd (fun _ => AV.bot) t (.f (.sl rs.length (rowsF rs))) u = frzA 0 (some (.sl rs.length (rowsF rs))) (rowsF rs) (upd (fun _ => AV.bot) t (.ow 0) u)
    by_cases e1 : u = t
    · subst e1; rw [upd_same, upd_same]; rfl
    · rw [upd_other _ _ e1, upd_other _ _ e1]; rfl
  · show none = bif Nat.beq i 0 then none else ((upd (mFK e E t rs.length rs nx).h 0 (some (.row E 1 rs.length (rowsF rs))) i).map (frzB 0 (some (.sl rs.length (rowsF rs))) (rowsF rs)))
    by_cases e1 : i = 0
    · subst e1; rfl
    · rw [killA_ne e1, cond_false, upd_other _ _ e1]
      show none = Option.map _ (if i = 0 then some (mOutK E rs.length rs) else if rs.length + 100 ≤ i then mRow e rs (i - 100) else none)
      rw [if_neg e1]
      by_cases h2 : rs.length + 100 ≤ i
      · rw [if_pos h2]; unfold mRow; rw [List.getElem?_eq_none (by omega)]; rfl
      · rw [if_neg h2]; rfl
end
end Go.Ab
namespace Go.Ab
open Go Go.RowKit Go.Shelf Go.Proofs
section
variable {C : Ctx} {N : Nat} {st : St} {ops : Array Oper} {pr : Bool} {K : St → Prop} {rest : List Oper}
theorem ag_of {w : World} {h : Nat → Option Blk} {J : Nat → Value} {L : List Value} {j : Nat} {sub : List FV} (hl : L.length = sub.length + 1) (ho : ∀ u ∈ L, u.oneCell' = true) (hr : ∀ (k : Nat) (u : Value) (x : AV), L[k]? = some u → (AV.ow j :: sub.map .f)[k]? = some x → RepA C w h J u x) : RepA C w h J (.agg L.toArray) (.ag j sub) := by
  cases L with
  | nil => simp at hl
  | cons x us =>
    have h0 := hr 0 x (.ow j) rfl rfl
    refine ⟨h0.1, us, by rw [h0.2], fun u hu => ho u (List.mem_cons_of_mem _ hu), by simpa using hl, fun k u y h1 h2 => hr (k + 1) u (.f y) (by simpa using h1) (by simp [h2])⟩
theorem v_load_ag {o : Oper} {T : TypeId} {x : Operand} {cs : List AV} {i off n j : Nat} {sub : List FV} (ty : Ty C.P) (ho : o.op = .load T x) (hd : dstB N o.dst = true) (hT : (ty.ty T).agg = some n) (hx : st.ev C x = .bx i off) (hi : st.h i = some (.box cs)) (hc : (cs.drop off).take n = .ow j :: sub.map AV.f) (hn : sub.length + 1 = n) : ValOp C N o st (.ag j sub) :=
  valop_run hd fun w0 a w J st' hA S => by
    have e1 := S.eval x
    rw [hA.ev x (by simp [ho, Op.operands]), hx] at e1
    obtain ⟨hl, b, hb, hv⟩ := e1
    obtain ⟨b', T', us, q1, q2, q3, q4, q5, q6⟩ := blkOf hA S hi hl
    rw [q1] at hb; simp [bk] at hb; subst hb
    have hlen : ((us.toList.drop off).take n).length = n := by
      have := congrArg List.length hc
      simp [List.length_take, List.length_drop] at this ⊢
      omega
    refine ⟨.agg ((us.toList.drop off).take n).toArray, w, ?_, Ext.refl _, ag_of (hlen.trans hn.symm) (fun u hu => q5 u (List.mem_of_mem_drop (List.mem_of_mem_take hu))) (fun k u x h1 h2 => ?_)⟩
    · simp only [execOp, ho, hv, Sem.run_bind]
      rw [run_load_agg ((ty.ok T).agg n hT) ((us.toList.drop off).take n) hlen (fun k hk => ?_)]
      · rfl
      · rw [hlen] at hk
        rw [List.getElem?_take, if_pos hk, List.getElem?_drop]
        simp [World.cell?, q3]
    · rw [← hc, List.getElem?_take] at h2
      rw [List.getElem?_take] at h1
      split at h1
      · rename_i hk
        rw [if_pos hk, List.getElem?_drop] at h2
        rw [List.getElem?_drop] at h1
        exact q6 _ u x (by simpa using h1) h2
      · cases h1
structure SummS (P : Program) (G : Nat → Option (List FV)) (g : Nat) (args : List FV) (e sz n : Nat) (cs tl : List FV) : Prop where
  enters : Enters P g
  call : ∀ (w : World) (M : Nat → Prop) (us : List Value), (∀ b, M b → b < w.heap.size) → (∀ g cs, G g = some cs → RepF w M (.pointer (some ⟨g, 0, none⟩)) (.pt cs 0)) → RepL w M us args →
    Calls P g us.toArray w fun en w' => ∃ v xs rs, en = .returned (.agg (v :: rs).toArray) ∧ w'.ownsRow w.heap.size e sz v n xs ∧ (∀ u ∈ xs, u.oneCell' = true) ∧ RepL w' (fun b => M b ∨ bk v = some b) xs cs ∧ (∀ u ∈ rs, u.oneCell' = true) ∧ RepL w' (fun b => M b ∨ bk v = some b) rs tl ∧ Ext w w'
theorem a_callS {o : Oper} {f : Operand} {args : Array Operand} {ts : Array TypeId} {g e sz n : Nat} {caps xs ys cs tl : List FV} (K : SummS C.P C.G g ys e sz n cs tl) (ho : o.op = .call { callee := .value f, args := args, argTypes := ts }) (hd : dstB N o.dst = true) (hf : st.ev C f = .f (.fn g caps)) (hxs : st.evL C args.toList = some xs) (hys : xs ++ caps = ys) : AllOp C N o st (.ag st.nx tl) (.row e sz n cs) := by
  intro w0 a w st' hA hn ⟨J, S⟩ K1 Q hK
  have e1 := evF S ((hA.ev f (by simp [ho, Op.operands, Call.operands])).trans hf)
  have R := evL_rep (st := st) S (fun x hx => hA.ev x (by simp [ho, Op.operands, Call.operands]; exact .inr (by simpa using hx))) hxs
  generalize hv : a.eval f = v at e1
  cases e1 with
  | fn _ _ us h1 h2 =>
    subst hys
    refine op_enter (callEnter K.enters ho hv) ?_
    refine Calls.mono (K.call w (Mb C st'.h J) _ (mb_lt S) S.glob (RepL.append R ⟨h1, h2⟩)) ?_
    rintro en w' ⟨v', zs, rs, rfl, hown, hone, hr, hone2, hr2, he⟩
    have hlt : ∀ c, bk v' = some c → w.heap.size ≤ c := fun c hc => (hown.lt c (by rw [← own_bk hown]; exact hc)).1
    have hMM : ∀ b, b < w'.heap.size → Mb C (upd st'.h st.nx (some (.row e sz n cs))) (upd J st.nx v') b → Mb C st'.h J b ∨ bk v' = some b := by
      rintro b _ (h0 | ⟨i, hi, hbi⟩)
      · exact .inl (.inl h0)
      by_cases e : i = st.nx
      · subst e; rw [upd_same] at hbi; exact .inr hbi
      · rw [upd_other _ _ e] at hi hbi; exact .inl (.inr ⟨i, hi, hbi⟩)
    exact hK _ w' ⟨upd J st.nx v', S.al hn hd he hlt ⟨zs, hown.below (Nat.zero_le _), fun b hb => .inl (Nat.le_trans S.ext.le (hlt b hb)), hone, hr.mono (fun _ _ _ => rfl) (Nat.le_refl _) hMM⟩ ⟨by rw [upd_same]; rfl, rs, by rw [upd_same], hone2, hr2.mono (fun _ _ _ => rfl) (Nat.le_refl _) hMM⟩ (fun _ e => by cases e)⟩
theorem a_copy {o : Oper} {T m e sz bs : Nat} {x y : Operand} {ys : List FV} {zs : List Value} (ty : Ty C.P) (ho : o.op = .call { callee := .builtin .append, args := #[x, y], argTypes := #[T, T] }) (hd : dstB N o.dst = true)
    (hT : (ty.ty T).sl = some (e, sz, bs)) (hz : (ty.ty e).zero = some zs) (hzl : zs.length = sz) (hsz : 0 < sz) (hx : st.ev C x = .f (.slc 0 [])) (hy : st.ev C y = .f (.sl m ys)) (hm : 0 < m) (hl : ys.length = m * sz)
    (h63 : m ≤ maxLen) (hbs : m * bs ≤ 140737488355328) : AllOp C N o st (.ow st.nx) (.row e sz m ys) := by
  intro w0 a w st' hA hn ⟨J, S⟩ K1 Q hK
  have e1 := evF S ((hA.ev x (by simp [ho, Op.operands, Call.operands])).trans hx)
  have e2 := evF S ((hA.ev y (by simp [ho, Op.operands, Call.operands])).trans hy)
  obtain ⟨hu, it, hi1, hi2, hi3⟩ := slE_spec ((ty.ok T).sl _ hT)
  obtain ⟨it', z, hi4, hzz, hzl'⟩ := zero_spec ((ty.ok e).zero zs hz)
  rw [hi1] at hi4; cases hi4
  have hzs : z.cells.size = sz := by rw [← hzl, ← hzl']; simp
  generalize hxv : a.eval x = xv at e1
  generalize hyv : a.eval y = yv at e2
  cases e1 with
  | slc ad1 _ _ vs o1 o1' o2 o3 o4 =>
  cases e2 with
  | sl ad _ c _ us p0 p1 p2 p3 p4 =>
    have hul : us.length = m * sz := p1.trans hl
    have hus : us ≠ [] := fun e => by
      have hp : 0 < m * sz := Nat.mul_pos hm hsz
      rw [e] at hul; simp at hul; omega
    obtain ⟨b, off, rfl, hlies⟩ := p3 hus
    have hnews : ∀ j u, us[j]? = some u → w.cell? ((⟨b, off, none⟩ : Addr).add j) = some u := fun j u hj => by
      rw [addr_add, hlies.at_ j (List.getElem?_eq_some_iff.1 hj).1]; exact hj
    have hv0 : vs = [] := List.eq_nil_of_length_eq_zero (by simpa using o1)
    subst hv0
    obtain ⟨v', w', hrun, r1, r2⟩ : ∃ v' w', (Builtin.append_ #[T, T] o.type #[.slice ad1 0 0, .slice (some ⟨b, off, none⟩) m c]).run C.P w = .ok v' w' ∧ w'.ownsRow w.heap.size e sz v' m us ∧ w.grownBy w' none := by
      cases ad1 with
      | some ad1 =>
        have := run_append_arg_grows (P := C.P) w T o.type e it z sz bs hu hi1 hzz hi2 hi3 hzs hsz ad1 0 0 [] (by simp) (fun j u hj => by simp at hj) ⟨b, off, none⟩ m c us hul hnews (by omega) (by omega) (by rw [Nat.zero_add]; exact hbs)
        simpa using this
      | none =>
        obtain ⟨v', w', h1, h2, h3, _⟩ := run_append_own (P := C.P) w w.heap.size T o.type e it z sz bs hu hi1 hzz hi2 hi3 hzs hsz (.slice none 0 0) 0 [] (World.ownsRow_nil w _ e sz) ⟨b, off, none⟩ m c us hul hnews p2 (by omega) (by rw [Nat.zero_add]; exact hbs) (Nat.le_refl _)
        exact ⟨v', w', h1, by simpa using h2, h3⟩
    have hex : Ext w w' := Ext.of_grown r2
    have hlt : ∀ c, bk v' = some c → w.heap.size ≤ c := fun c hc => (r1.lt c (by rw [← own_bk r1]; exact hc)).1
    refine op_value (show (execOp a.eval o).run C.P w = .ok (.value v') w' by
      simp only [execOp, ho, resolve, invoke, builtin, Sem.run_bind, Sem.run_pure, Result.andThen_ok, List.map_toArray, List.map_cons, List.map_nil, hxv, hyv, hrun]) ?_
    have R : RepL w (Mb C st'.h J) us ys := ⟨p1, p4⟩
    exact hK v' w' ⟨upd J st.nx v', S.al hn hd hex hlt ⟨us, r1.below (Nat.zero_le _), fun b hb => .inl (Nat.le_trans S.ext.le (hlt b hb)), p2, R.ext hex (hM_new hlt)⟩ ⟨by rw [upd_same]; rfl, by rw [upd_same]⟩ (fun _ e => by cases e)⟩
def RetS (_C : Ctx) (_N : Nat) (ty : Nat → TyD) (fn : Func) (e sz n : Nat) (cs tl : List FV) (st : St) : Prop := ∃ t T i j l, fn.results = #[.cell t T] ∧ (ty T).agg = some (tl.length + 1) ∧ st.s t = .bx i 0 ∧ st.h i = some (.box l) ∧ l.take (tl.length + 1) = .ow j :: tl.map .f ∧ st.h j = some (.row e sz n cs)
def LeavesS (C : Ctx) (N : Nat) (ty : Nat → TyD) (fn : Func) (e sz n : Nat) (cs tl : List FV) : Exit → St → Prop
  | .normal, st => RetS C N ty fn e sz n cs tl st
  | .ret, st => RetS C N ty fn e sz n cs tl st
  | _, _ => False
theorem summS_of {P : Program} {G : Nat → Option (List FV)} {f : Nat} {fn : Func} {c : Code} {args cs tl : List FV} {e sz m : Nat} (ty : Ty P) (hf : P.funcs[f]? = some fn) (hb : fn.body = some c) (hname : (fn.name == "runtime.NumGoroutine") = false) (n : Nat) (hn : fn.ntmps = n) (hl : args.length ≤ n)
    (h : ∀ M0 : Nat → Prop, W ⟨P, G, M0, fun _ => False, none, fun _ => none⟩ n c (LeavesS ⟨P, G, M0, fun _ => False, none, fun _ => none⟩ n ty.ty fn e sz m cs tl) (st0 args)) : SummS P G f args e sz m cs tl := by
  refine ⟨enters_of hf hname hb, fun w M us hM hG R => ?_⟩
  refine calls_of_wp_marks hf hb (wpIn_wide.1 ((h M).out w _ w _ ⟨fun _ => undef, Grew.refl _ _, ?_, ⟨trivial, fun _ => rfl⟩, fun t => ?_, fun i B hB => (by cases hB), fun i j b hi => (by cases hi), fun b hb => ⟨hM b hb, id⟩, fun g cs hg => (hG g cs hg).ext (Ext.refl _) (fun b _ (h : Mb ⟨P, G, M, fun _ => False, none, fun _ => none⟩ (fun _ => none) (fun _ => undef) b) => h.elim id (fun ⟨_, hi, _⟩ => by cases hi)), fun _ _ _ h => (by cases h)⟩ ?_))
  · have := R.1; simp [hn]; omega
  · have hMM : ∀ b, b < w.heap.size → Mb ⟨P, G, M, fun _ => False, none, fun _ => none⟩ (fun _ => none) (fun _ => undef) b → M b := fun b _ h => h.elim id (fun ⟨_, hi, _⟩ => by cases hi)
    show RepA _ w _ _ ((us.toArray ++ Array.replicate (fn.ntmps - us.toArray.size) undef).getD t undef) (match args[t]? with | some x => .f x | none => .bot)
    cases ha : args[t]? with
    | none => trivial
    | some x =>
      obtain ⟨u, hu, hr⟩ := R.get ha
      have hlt : t < us.length := (List.getElem?_eq_some_iff.1 hu).1
      have : (us.toArray ++ Array.replicate (fn.ntmps - us.toArray.size) undef).getD t undef = u := by
        rw [Array.getD_eq_getD_getElem?, Array.getElem?_append_left (by simpa using hlt)]
        simp [hu]
      rw [this]
      exact hr.ext (Ext.refl _) hMM
  · intro en st' a' w' q S'
    have fin : RetS ⟨P, G, M, fun _ => False, none, fun _ => none⟩ n ty.ty fn e sz m cs tl st' → ∀ W', KeepsP Obj.stays w.heap.size w' W' → ∃ v1, (results fn a'.tmps).run P W' = .ok v1 W' ∧ ∃ v xs rs, Ending.returned v1 = .returned (.agg (v :: rs).toArray) ∧ W'.ownsRow w.heap.size e sz v m xs ∧ (∀ u ∈ xs, u.oneCell' = true) ∧ RepL W' (fun b => M b ∨ bk v = some b) xs cs ∧ (∀ u ∈ rs, u.oneCell' = true) ∧ RepL W' (fun b => M b ∨ bk v = some b) rs tl ∧ Ext w W' := fun ⟨t, T, i, j, l, q1, qT, q2, q3, q4, q5⟩ W' hk => by
      obtain ⟨J, S1⟩ := S'
      have S2 := S1.keeps0 hk (Nat.le_refl _) (ds := []) ⟨trivial, fun _ => rfl⟩
      have hs := S2.slot t
      rw [q2] at hs
      obtain ⟨_, b, hbb, hv⟩ := hs
      obtain ⟨b', T', us', p1, p2, p3, p4, p5, p6⟩ := S2.blk i _ q3
      rw [p1] at hbb; simp [bk] at hbb; subst hbb
      have hlen : (us'.toList.take (tl.length + 1)).length = tl.length + 1 := by
        have := congrArg List.length q4
        simp [List.length_take] at this ⊢
        omega
      have hag : RepA ⟨P, G, M, fun _ => False, none, fun _ => none⟩ W' st'.h J (.agg (us'.toList.take (tl.length + 1)).toArray) (.ag j tl) := ag_of (by simpa using hlen) (fun u hu => p5 u (List.mem_of_mem_take hu)) (fun k u x h1 h2 => by
        rw [← q4, List.getElem?_take] at h2
        rw [List.getElem?_take] at h1
        split at h1
        · rename_i hk
          rw [if_pos hk] at h2
          exact p6 k u x (by simpa using h1) h2
        · cases h1)
      obtain ⟨_, rs, hv2, hrs, hR⟩ := hag
      obtain ⟨xs, o1, o0, o2, o3⟩ := S2.blk j _ q5
      have hrun : (rvS a'.tmps (.cell t T)).run P W' = .ok (.agg (us'.toList.take (tl.length + 1)).toArray) W' := cell_run hv (run_load_agg ((ty.ok T).agg _ qT) (us'.toList.take (tl.length + 1)) hlen (fun k hk => by
        rw [hlen] at hk
        rw [List.getElem?_take, if_pos hk]
        simp [World.cell?, p3]))
      have hMM : ∀ b, b < W'.heap.size → (M b ∨ bk (J j) = some b) → Mb ⟨P, G, M, fun _ => False, none, fun _ => none⟩ st'.h J b := fun b _ h => h.imp id (fun h => ⟨j, by rw [q5]; rfl, h⟩)
      refine ⟨.agg (us'.toList.take (tl.length + 1)).toArray, by rw [results_eq, q1]; simp [hrun], J j, xs, rs, by rw [hv2], ⟨o1.1, ?_⟩, o2, o3.mono (fun _ _ _ => rfl) (Nat.le_refl _) hMM, hrs, hR.mono (fun _ _ _ => rfl) (Nat.le_refl _) hMM, S2.ext.toExt⟩
      rcases o1.2 with h | ⟨g, cap, cur, h1, h2, h3⟩
      · exact .inl h
      · refine .inr ⟨g, cap, cur, h1, ?_, h3⟩
        rcases o0 g (by rw [h1]; rfl) with h | h
        · exact h
        · exact h.elim
    have hm : Marks w.heap.size w' a'.defers := let ⟨_, S2⟩ := S'; S2.defs.1
    cases en with
    | normal => exact bodyPostM_marksP (s := Obj.stays) (fun _ => rfl) _ hm (fin q)
    | ret => exact bodyPostM_marksP (s := Obj.stays) (fun _ => rfl) _ hm (fin q)
    | _ => exact q.elim
variable {d : Option Tmp} {T0 : TypeId} {pos : String} {af : Array Edge} {g : Option (Nat × Bool)}
theorem s_ldg (ty : Ty C.P) {T : TypeId} {x : Operand} {cs : List AV} {i off n j : Nat} {sub : List FV} (hw : wantB st ops ⟨d, .load T x, T0, pos, af, g⟩ = some true) (hd : dstB N d = true) (hT : (ty.ty T).agg = some n) (hx : st.ev C x = .bx i off) (hi : st.h i = some (.box cs)) (hc : (cs.drop off).take n = .ow j :: sub.map AV.f) (hn : sub.length + 1 = n) (k : R C N ops pr K rest (st.put d (.ag j sub))) : R C N ops pr K (⟨d, .load T x, T0, pos, af, g⟩ :: rest) st := ⟨r_val hw (v_load_ag ty rfl hd hT hx hi hc hn) k.out⟩
theorem s_callS {f : Operand} {args : Array Operand} {ts : Array TypeId} {gf e sz n : Nat} {caps xs ys cs tl : List FV} (S : SummS C.P C.G gf ys e sz n cs tl) (hd : dstB N d = true) (hn : st.h st.nx = none) (hf : st.ev C f = .f (.fn gf caps)) (hxs : st.evL C args.toList = some xs) (hys : xs ++ caps = ys) (k : R C N ops pr K rest ⟨(st.put d (.ag st.nx tl)).s, upd st.h st.nx (some (.row e sz n cs)), st.nx + 1⟩) : R C N ops pr K (⟨d, .call { callee := .value f, args := args, argTypes := ts }, T0, pos, af, none⟩ :: rest) st := ⟨r_all rfl rfl hn (a_callS S rfl hd hf hxs hys) k.out⟩
theorem s_copy (ty : Ty C.P) {T m e sz bs : Nat} {x y : Operand} {ys : List FV} {zs : List Value} (hd : dstB N d = true) (hn : st.h st.nx = none) (hT : (ty.ty T).sl = some (e, sz, bs)) (hz : (ty.ty e).zero = some zs) (hzl : zs.length = sz) (hsz : Nat.blt 0 sz = true) (hx : st.ev C x = .f (.slc 0 [])) (hy : st.ev C y = .f (.sl m ys)) (hm : 0 < m) (hl : ys.length = m * sz) (h63 : m ≤ maxLen) (hbs : m * bs ≤ 140737488355328) (k : R C N ops pr K rest ⟨(st.put d (.ow st.nx)).s, upd st.h st.nx (some (.row e sz m ys)), st.nx + 1⟩) : R C N ops pr K (⟨d, .call { callee := .builtin .append, args := #[x, y], argTypes := #[T, T] }, T0, pos, af, none⟩ :: rest) st :=
  ⟨r_all rfl rfl hn (a_copy ty rfl hd hT hz hzl (Nat.lt_of_lt_of_le (Nat.zero_lt_succ 0) (Nat.le_of_ble_eq_true hsz)) hx hy hm hl h63 hbs) k.out⟩
end
end Go.Ab
namespace Go.Ab
open Go Go.RowKit Go.Shelf Go.Proofs
def LastOk (w : World) (M : Nat → Prop) (b : Nat) (u : Value) : AV → Prop
  | .bx _ off => u = .pointer (some ⟨b, off, none⟩)
  | .fb f cs _ => ∃ us : List Value, u = .func (.func f) #[] (us ++ [Value.pointer (some ⟨b, 0, none⟩)]).toArray ∧ RepL w M us cs
  | _ => False
structure SummX (P : Program) (G : Nat → Option (List FV)) (g : Nat) (args : List FV) (last : AV) (c1 r c2 : FV) : Prop where
  enters : Enters P g
  call : ∀ (w : World) (M : Nat → Prop) (us : List Value) (u : Value) (b : Nat) (T : TypeId) (v1 : Value), (∀ c, M c → c < w.heap.size) → ¬ M b → (∀ g cs, G g = some cs → RepF w (fun c => M c ∨ c = b) (.pointer (some ⟨g, 0, none⟩)) (.pt cs 0)) →
    RepL w (fun c => M c ∨ c = b) us args → LastOk w (fun c => M c ∨ c = b) b u last → w.heap[b]? = some (.cells #[v1] T (0, 0)) → v1.oneCell' = true → RepF w (fun c => M c ∨ c = b) v1 c1 →
    Calls P g (us ++ [u]).toArray w fun en w' => ∃ v v2 T2, en = .returned v ∧ RepF w' (fun c => M c ∨ c = b) v r ∧ w'.heap[b]? = some (.cells #[v2] T2 (0, 0)) ∧ v2.oneCell' = true ∧ RepF w' (fun c => M c ∨ c = b) v2 c2 ∧ w.grownBy w' (some b)
section
variable {C : Ctx} {N : Nat} {st : St} {ops : Array Oper} {pr : Bool} {K : St → Prop} {rest : List Oper}
theorem callX {P : Program} {G : Nat → Option (List FV)} {g i : Nat} {ys : List FV} {last : AV} {c1 r c2 : FV} (hP : C.P = P) (hG : C.G = G) (K : SummX P G g ys last c1 r c2) {w0 : World} {a : Act} {w : World} {J : Nat → Value} (S : Sim C w0 N st a w J) (hi : st.h i = some (.box [.f c1])) {us : List Value} {u : Value}
    (R : RepL w (Mb C st.h J) us ys) (hL : ∀ b, bk (J i) = some b → LastOk w (Mb C st.h J) b u last) {d : Option Tmp} (hd : dstB N d = true) {Kc : Act → World → Prop} (hK : ∀ v w', SimE C w0 N ({ st with h := upd st.h i (some (.box [.f c2])) }.put d (.f r)) (a.put d v) w' → Kc (a.put d v) w') :
    Calls P g (us ++ [u]).toArray w fun en w' => ∃ v, en = .returned v ∧ Kc (a.put d v) w' := by
  subst hP; subst hG
  have hlv : (st.h i).isSome = true := by rw [hi]; rfl
  obtain ⟨b, T, vs, q1, q2, q3, q4, q5, q6⟩ := S.blk i _ hi
  have hb : bk (J i) = some b := by rw [q1]; rfl
  obtain ⟨v1, rfl⟩ : ∃ v1, vs = #[v1] := Array.size_eq_one_iff.1 (by simpa using q4)
  have hMle : ∀ c, c < w.heap.size → ((Mb C st.h J c ∧ c ≠ b) ∨ c = b) → Mb C st.h J c := fun c _ h => h.elim (fun h => h.1) (fun h => .inr ⟨i, hlv, by rw [h]; exact hb⟩)
  have hLx : LastOk w (fun c => (Mb C st.h J c ∧ c ≠ b) ∨ c = b) b u last := by
    have := hL b hb
    cases last with
    | bx j off => exact this
    | fb f cs j => obtain ⟨zs, e, Rz⟩ := this; exact ⟨zs, e, Rz.ext (Ext.refl _) hMle⟩
    | f x => exact this
    | ow j => exact this
    | bot => exact this
    | ag j cs => exact this
  refine Calls.mono (K.call w (fun c => Mb C st.h J c ∧ c ≠ b) us u b T v1 (fun c h => S.mb h.1) (fun h => h.2 rfl) (fun g cs hg => (S.glob g cs hg).ext (Ext.refl _) hMle) (R.ext (Ext.refl _) hMle) hLx q3 (q5 v1 (by simp)) (RepF.ext (q6 0 v1 (.f c1) rfl rfl) (Ext.refl _) hMle)) ?_
  rintro en w' ⟨v, v2, T2, rfl, r1, r2, r3, r4, r5⟩
  have hMb : ∀ c, c < w'.heap.size → Mb C (upd st.h i (some (.box [.f c2]))) J c → (Mb C st.h J c ∧ c ≠ b) ∨ c = b := by
    rintro c _ h
    by_cases e : c = b
    · exact .inr e
    · refine .inl ⟨?_, e⟩
      rcases h with h0 | ⟨j, hj, hjb⟩
      · exact .inl h0
      · refine .inr ⟨j, ?_, hjb⟩
        by_cases ej : j = i
        · subst ej; exact hlv
        · rwa [upd_other _ _ ej] at hj
  refine ⟨v, rfl, hK v w' ⟨J, Sim.put (S.write (B := .box [.f c2]) hlv hb r5 ⟨b, T2, #[v2], q1, q2, r2, rfl, fun u hu => by simp at hu; subst hu; exact r3, fun k u x h1 h2 => ?_⟩ (fun cells _ => ⟨_, hi⟩)) hd (RepF.ext r1 (Ext.refl _) hMb)⟩⟩
  cases k with
  | zero => simp at h1 h2; subst h1; subst h2; exact RepF.ext r4 (Ext.refl _) hMb
  | succ k => simp at h1
theorem e_callX {o : Oper} {f x0 : Operand} {args : Array Operand} {ars : List Operand} {ts : Array TypeId} {g i : Nat} {fc : Nat} {caps ys : List FV} {c1 r c2 : FV} (K : SummX C.P C.G g ys (.fb fc caps 0) c1 r c2) (ho : o.op = .call { callee := .value f, args := args, argTypes := ts }) (hd : dstB N o.dst = true) (hf : st.ev C f = .f (.fn g [])) (ha : args.toList = ars ++ [x0]) (hx : st.ev C x0 = .fb fc caps i) (hi : st.h i = some (.box [.f c1])) (hxs : st.evL C ars = some ys) :
    EffOp C N o st ({ st with h := upd st.h i (some (.box [.f c2])) }.put o.dst (.f r)) := by
  intro w0 a w ⟨J, S⟩ K1 Q hK
  have e1 := evF S hf
  have e2 := S.eval x0
  rw [hx] at e2
  obtain ⟨_, zs, b, hv0, hb, Rz⟩ := e2
  have R := evL_rep (st := st) (st' := st) S (fun x _ => rfl) hxs
  generalize hv : a.eval f = v at e1
  cases e1 with
  | fn _ _ us h1 h2 =>
    have hus : us = [] := List.eq_nil_of_length_eq_zero h1
    subst hus
    have hrun := callEnter (w := w) K.enters ho hv
    rw [ha, List.append_nil, List.map_append, List.map_cons, List.map_nil] at hrun
    refine op_enter hrun ?_
    refine Calls.mono (callX rfl rfl K S hi R (fun b' hb' => by rw [hb] at hb'; cases hb'; exact ⟨zs, hv0, Rz⟩) hd hK) ?_
    rintro en w' ⟨v, rfl, h⟩
    exact h
theorem e_callY {o : Oper} {f : Operand} {args : Array Operand} {ts : Array TypeId} {g i : Nat} {caps ys zs : List FV} {c1 r c2 : FV} (K : SummX C.P C.G g zs (.bx 0 0) c1 r c2) (ho : o.op = .call { callee := .value f, args := args, argTypes := ts }) (hd : dstB N o.dst = true) (hf : st.ev C f = .fb g caps i) (hi : st.h i = some (.box [.f c1])) (hxs : st.evL C args.toList = some ys) (hz : ys ++ caps = zs) :
    EffOp C N o st ({ st with h := upd st.h i (some (.box [.f c2])) }.put o.dst (.f r)) := by
  intro w0 a w ⟨J, S⟩ K1 Q hK
  have e2 := S.eval f
  rw [hf] at e2
  obtain ⟨_, us, b, hv0, hb, Rz⟩ := e2
  have R := evL_rep (st := st) (st' := st) S (fun x _ => rfl) hxs
  subst hz
  have hrun := callEnter (w := w) K.enters ho hv0
  rw [← List.append_assoc] at hrun
  refine op_enter hrun ?_
  refine Calls.mono (callX rfl rfl K S hi (RepL.append R Rz) (fun b' hb' => by rw [hb] at hb'; cases hb'; rfl) hd hK) ?_
  rintro en w' ⟨v, rfl, h⟩
  exact h
theorem v_makefb {o : Oper} {g i : Nat} {caps : Array Operand} {cs : List Operand} {x0 : Operand} {xs : List FV} (ho : o.op = .makeFunc (.func g) #[] caps) (hd : dstB N o.dst = true) (hc : caps.toList = cs ++ [x0]) (hp : st.evL C cs = some xs) (hx : st.ev C x0 = .bx i 0) : ValOp C N o st (.fb g xs i) :=
  valop_run hd fun w0 a w J st' hA S => by
    have R := evL_rep (st := st) S (fun x hx => hA.ev x (by simp only [ho, Op.operands]; simp [hc, hx])) hp
    have e2 := S.eval x0
    rw [hA.ev x0 (by simp only [ho, Op.operands]; simp [hc]), hx] at e2
    obtain ⟨hl, b, hb, hv⟩ := e2
    have e3 : caps.map a.eval = (cs.map a.eval ++ [Value.pointer (some ⟨b, 0, none⟩)]).toArray := by apply Array.ext'; simp [hc, hv]
    exact ⟨.func (.func g) #[] (cs.map a.eval ++ [Value.pointer (some ⟨b, 0, none⟩)]).toArray, w, by simp [execOp, ho, Instr.makeFunc, e3], Ext.refl _, hl, _, b, rfl, hb, R⟩
def pinX (p : Value) : Nat → Option Value
  | 0 => some p
  | _ + 1 => none
def stX (args : List FV) (last : AV) (c1 : FV) : St := ⟨fun t => match (args.map AV.f ++ [last])[t]? with | some a => a | none => .bot, fun i => match i with | 0 => some (.box [.f c1]) | _ => none, 1⟩
def RetX (fn : Func) (r c2 : FV) (st : St) : Prop := ∃ t, fn.results = #[.tmp t] ∧ st.s t = .f r ∧ st.h 0 = some (.box [.f c2])
def LeavesX (fn : Func) (r c2 : FV) : Exit → St → Prop
  | .normal, st => RetX fn r c2 st
  | .ret, st => RetX fn r c2 st
  | _, _ => False
theorem summX_of {P : Program} {G : Nat → Option (List FV)} {f : Nat} {fn : Func} {c : Code} {args : List FV} {last : AV} {c1 r c2 : FV} (hf : P.funcs[f]? = some fn) (hb : fn.body = some c) (hname : (fn.name == "runtime.NumGoroutine") = false) (N : Nat) (hn : fn.ntmps = N) (hl : args.length + 1 ≤ N) (h0 : (∃ off, last = .bx 0 off) ∨ ∃ f cs, last = .fb f cs 0)
    (h : ∀ (M0 X : Nat → Prop) (p : Value), W ⟨P, G, M0, X, none, pinX p⟩ N c (LeavesX fn r c2) (stX args last c1)) : SummX P G f args last c1 r c2 := by
  refine ⟨enters_of hf hname hb, fun w M us u b T v1 hM hMb hG R hL hcell hone hc1 => ?_⟩
  obtain ⟨X, hX⟩ : ∃ X : Nat → Prop, X = fun c => c = b := ⟨_, rfl⟩
  have hMM : ∀ c, c < w.heap.size → Mb ⟨P, G, M, X, none, pinX (.pointer (some ⟨b, 0, none⟩))⟩ (stX args last c1).h (fun _ => .pointer (some ⟨b, 0, none⟩)) c → (M c ∨ c = b) := fun c _ h => h.imp id (fun ⟨_, _, h⟩ => by simp [bk] at h; exact h.symm)
  have hlive : ∀ i, ((stX args last c1).h i).isSome = true → i = 0 := fun i hi => by
    cases i with
    | zero => rfl
    | succ i => simp [stX] at hi
  refine calls_of_wp_marks hf hb (wpIn_wide.1 ((h M X (.pointer (some ⟨b, 0, none⟩))).out w _ w _ ⟨fun _ => .pointer (some ⟨b, 0, none⟩), Grew.refl _ _, ?_, ⟨trivial, fun _ => rfl⟩, fun t => ?_, fun i B hB => ?_, fun i j b hi hj _ _ => by rw [hlive i hi, hlive j hj], fun c hc => ⟨hM c hc, by rw [hX]; exact fun h => hMb (h ▸ hc)⟩, fun g cs hg => (hG g cs hg).ext (Ext.refl _) hMM, fun i p cells hp hc => ?_⟩ ?_))
  · have := R.1; simp [hn]; omega
  · show RepA _ w _ _ (((us ++ [u]).toArray ++ Array.replicate (fn.ntmps - (us ++ [u]).toArray.size) undef).getD t undef) (match (args.map AV.f ++ [last])[t]? with | some a => a | none => .bot)
    by_cases ht : t < us.length
    · have ha : t < args.length := by rw [← R.1]; exact ht
      have e1 : (args.map AV.f ++ [last])[t]? = some (.f args[t]) := by rw [List.getElem?_append_left (by simpa using ha)]; simp [ha]
      have e2 : ((us ++ [u]).toArray ++ Array.replicate (fn.ntmps - (us ++ [u]).toArray.size) undef).getD t undef = us[t] := by
        rw [Array.getD_eq_getD_getElem?, Array.getElem?_append_left (by simp; omega)]
        simp [List.getElem?_append_left ht, ht]
      rw [e1, e2]
      exact (R.2 t _ _ (List.getElem?_eq_getElem ht) (List.getElem?_eq_getElem ha)).ext (Ext.refl _) hMM
    · by_cases ht2 : t = us.length
      · subst ht2
        have e1 : (args.map AV.f ++ [last])[us.length]? = some last := by rw [R.1, List.getElem?_append_right (by simp)]; simp
        have e2 : ((us ++ [u]).toArray ++ Array.replicate (fn.ntmps - (us ++ [u]).toArray.size) undef).getD us.length undef = u := by
          rw [Array.getD_eq_getD_getElem?, Array.getElem?_append_left (by simp)]
          simp
        rw [e1, e2]
        rcases h0 with ⟨off, rfl⟩ | ⟨fc, cs, rfl⟩
        · exact ⟨rfl, b, rfl, hL⟩
        · obtain ⟨zs, e, Rz⟩ := hL
          exact ⟨rfl, zs, b, e, rfl, Rz.ext (Ext.refl _) hMM⟩
      · have e1 : (args.map AV.f ++ [last])[t]? = none := List.getElem?_eq_none (by simp; have := R.1; omega)
        rw [e1]; trivial
  · have hi0 : i = 0 := hlive i (by rw [hB]; rfl)
    subst hi0
    have : B = .box [.f c1] := by simpa [stX] using hB.symm
    subst this
    refine ⟨b, T, #[v1], rfl, .inr (by rw [hX]), hcell, rfl, fun z hz => by simp at hz; subst hz; exact hone, fun k z x h1 h2 => ?_⟩
    cases k with
    | zero => simp at h1 h2; subst h1; subst h2; exact RepF.ext hc1 (Ext.refl _) hMM
    | succ k => simp at h1
  · have hi0 : i = 0 := hlive i (by rw [hc]; rfl)
    subst hi0
    simpa [pinX] using hp
  · intro en st' a' w' q S'
    have fin : RetX fn r c2 st' → ∀ W', KeepsP Obj.stays w.heap.size w' W' → ∃ v1, (results fn a'.tmps).run P W' = .ok v1 W' ∧ ∃ v v2 T2, Ending.returned v1 = .returned v ∧ RepF W' (fun c => M c ∨ c = b) v r ∧ W'.heap[b]? = some (.cells #[v2] T2 (0, 0)) ∧ v2.oneCell' = true ∧ RepF W' (fun c => M c ∨ c = b) v2 c2 ∧ w.grownBy W' (some b) := fun ⟨t, q1, q2, q3⟩ W' hk => by
      obtain ⟨J, S1⟩ := S'
      have S2 := S1.keeps0 hk (Nat.le_refl _) (ds := []) ⟨trivial, fun _ => rfl⟩
      have hs := S2.slot t
      rw [q2] at hs
      have hJ : J 0 = .pointer (some ⟨b, 0, none⟩) := S2.fix 0 _ _ rfl q3
      obtain ⟨b', T', vs, p1, p2, p3, p4, p5, p6⟩ := S2.blk 0 _ q3
      rw [hJ] at p1; simp at p1; subst p1
      obtain ⟨v2, rfl⟩ : ∃ v2, vs = #[v2] := Array.size_eq_one_iff.1 (by simpa using p4)
      have hM2 : ∀ c, c < W'.heap.size → (M c ∨ c = b) → Mb ⟨P, G, M, X, none, pinX (.pointer (some ⟨b, 0, none⟩))⟩ st'.h J c := fun c _ h => h.imp id (fun h => ⟨0, by rw [q3]; rfl, by rw [hJ, h]; rfl⟩)
      exact ⟨a'.tmps.getD t undef, by rw [results_eq, q1]; simp [rvS], _, v2, T', rfl, RepF.ext hs (Ext.refl _) hM2, p3, p5 v2 (by simp), RepF.ext (p6 0 v2 (.f c2) rfl rfl) (Ext.refl _) hM2, ⟨S2.ext.os, S2.ext.tape, S2.ext.output, S2.ext.le, fun k hk hne => S2.ext.block k hk (by show ¬ X k; rw [hX]; exact fun h => hne (by rw [h]))⟩⟩
    have hm : Marks w.heap.size w' a'.defers := let ⟨_, S2⟩ := S'; S2.defs.1
    cases en with
    | normal => exact bodyPostM_marksP (s := Obj.stays) (fun _ => rfl) _ hm (fin q)
    | ret => exact bodyPostM_marksP (s := Obj.stays) (fun _ => rfl) _ hm (fin q)
    | _ => exact q.elim
variable {d : Option Tmp} {T0 : TypeId} {pos : String} {af : Array Edge}
theorem s_callX {f x0 : Operand} {args : Array Operand} {ars : List Operand} {ts : Array TypeId} {g i fc : Nat} {caps ys : List FV} {c1 r c2 : FV} (K1 : SummX C.P C.G g ys (.fb fc caps 0) c1 r c2) (hd : dstB N d = true) (hf : st.ev C f = .f (.fn g [])) (ha : args.toList = ars ++ [x0]) (hx : st.ev C x0 = .fb fc caps i) (hi : st.h i = some (.box [.f c1])) (hxs : st.evL C ars = some ys) (k : R C N ops false K rest ({ st with h := upd st.h i (some (.box [.f c2])) }.put d (.f r))) : R C N ops false K (⟨d, .call { callee := .value f, args := args, argTypes := ts }, T0, pos, af, none⟩ :: rest) st := ⟨r_eff rfl (e_callX K1 rfl hd hf ha hx hi hxs) k.out⟩
theorem s_callY {f : Operand} {args : Array Operand} {ts : Array TypeId} {g i : Nat} {caps ys zs : List FV} {c1 r c2 : FV} (K1 : SummX C.P C.G g zs (.bx 0 0) c1 r c2) (hd : dstB N d = true) (hf : st.ev C f = .fb g caps i) (hi : st.h i = some (.box [.f c1])) (hxs : st.evL C args.toList = some ys) (hz : ys ++ caps = zs) (k : R C N ops false K rest ({ st with h := upd st.h i (some (.box [.f c2])) }.put d (.f r))) : R C N ops false K (⟨d, .call { callee := .value f, args := args, argTypes := ts }, T0, pos, af, none⟩ :: rest) st := ⟨r_eff rfl (e_callY K1 rfl hd hf hi hxs hz) k.out⟩
theorem s_makefb {g i : Nat} {caps : Array Operand} {cs : List Operand} {x0 : Operand} {xs : List FV} (hd : dstB N d = true) (hc : caps.toList = cs ++ [x0]) (hp : st.evL C cs = some xs) (hx : st.ev C x0 = .bx i 0) (k : R C N ops pr K rest (st.put d (.fb g xs i))) : R C N ops pr K (⟨d, .makeFunc (.func g) #[] caps, T0, pos, af, none⟩ :: rest) st := ⟨r_val rfl (v_makefb rfl hd hc hp hx) k.out⟩
end
end Go.Ab
namespace Go.Proofs.YtienhiloecfgnaaDoor
open Go Go.RowKit Go.Proofs Go.Shelf Go.Ab
theorem firstAny {α : Type} (p : α → Bool) (L : List α) : L.any p = false ∨ ∃ n, ∃ h : n < L.length, p L[n] = true ∧ ∀ j (h : j < L.length), j < n → p L[j] = false := by
  by_cases h : ∀ n, ∀ hn : n < L.length, p L[n] = false
  · left
    refine List.any_eq_false.2 fun a ha => ?_
    obtain ⟨n, hn, rfl⟩ := List.mem_iff_getElem.1 ha
    rw [h n hn]; decide
  · right
    have hex : ∃ n, ∃ hn : n < L.length, p L[n] = true := by
      refine Classical.byContradiction fun hc => h fun n hn => ?_
      cases e : p L[n]
      · rfl
      · exact absurd ⟨n, hn, e⟩ hc
    obtain ⟨n, hn⟩ := hex
    induction n using Nat.strongRecOn with
    | _ n ih =>
      obtain ⟨h1, h2⟩ := hn
      by_cases hj : ∃ j, j < n ∧ ∃ hj : j < L.length, p L[j] = true
      · obtain ⟨j, hjn, hj⟩ := hj
        exact ih j hjn hj
      · exact ⟨n, h1, h2, fun j hj1 hjn => by
          cases e : p L[j]
          · rfl
          · exact absurd ⟨j, hjn, hj1, e⟩ hj⟩
theorem anyFalse {α : Type} {p : α → Bool} {L : List α} (h : L.any p = false) {n : Nat} (hn : n < L.length) : p L[n] = false := by
  have := List.any_eq_false.1 h L[n] (List.getElem_mem hn)
  cases e : p L[n]
  · rfl
  · exact absurd e this
theorem anyTrue {α : Type} {p : α → Bool} {L : List α} {n : Nat} (hn : n < L.length) (h : p L[n] = true) : L.any p = true := List.any_eq_true.2 ⟨L[n], List.getElem_mem hn, h⟩
theorem modelsF_ne {l : List (List Int × List Bool)} (h : 0 < l.length) : modelsF l ≠ [] := flat_ne (f := modF) (s := 2) (fun _ => rfl) (by decide) h
theorem modelsF_sub {l : List (List Int × List Bool)} {k : Nat} (h : k < l.length) : ((modelsF l).drop (k * 2)).take 2 = modF l[k] := flat_sub (f := modF) (fun _ => rfl) h
def missB (m : List Int × List Bool) (i : Int) : Bool := !(m.2.getD i.toNat false)
def explAll (m : List Int × List Bool) (set : List Int) : Bool := !(set.any (missB m))
def covB (set : List Int) (m : List Int × List Bool) : Bool := explAll m set
set_option maxRecDepth 100000 in
theorem miss_s (m : List Int × List Bool) (i : Int) (h0 : 0 ≤ i) (h1 : i < m.2.length) : Summ Tryd.prog GG 143 [iv i, .pt (modF m) 0] (bv (missB m i)) := by
  have hi : i.toNat < m.2.length := by omega
  have hb : (boolsF m.2)[i.toNat * 1]? = some (.v (.bool (m.2.getD i.toNat false))) := by
    rw [List.getD_eq_getElem?_getD, List.getElem?_eq_getElem hi, Option.getD_some]; exact map_at hi
  have hne : boolsF m.2 ≠ [] := map_ne (by omega)
  refine summW Tryd.func143 rfl rfl 10 rfl (by simp) (fun M0 => ?_)
  repeat (first
    | (apply s_a TY; exact rfl)
    | apply w_seq
    | apply w_region
    | apply s_nil
    | apply t_norm
    | apply w_ret
    | (apply s_z TY; exact rfl; (first | omega | exact ⟨by omega, by (first | with_reducible assumption | ((with_reducible apply boolsF_ne); omega) | assumption)⟩))
    | (apply s_l TY; exact rfl; (first | exact rfl | with_reducible assumption | ((with_reducible apply boolsF_at); omega) | assumption)))
  exact lv_ret (ret1 rfl (res_tmp rfl))
set_option maxRecDepth 100000 in
theorem missing_none (m : List Int × List Bool) (set : List Int) (hl : set.length ≤ 1000000) (hin : ∀ i ∈ set, 0 ≤ i ∧ i < m.2.length) (h : set.any (missB m) = false) : Summ Tryd.prog GG 103 [.sl set.length (intsF set), .fn 143 [.pt (modF m) 0]] (iv (-1)) := by
  refine summW Tryd.func103 rfl rfl 19 rfl (by simp) (fun M0 => ?_)
  repeat (first
    | (apply s_a TY; exact rfl)
    | apply w_seq
    | apply w_region
    | apply s_nil
    | apply t_norm
    | apply w_block)
  apply w_loop (fun k : Nat => ⟨(Ab.upd (Ab.upd (Ab.upd (Ab.upd (fun _ => .bot) 0 (.f (.sl set.length (intsF set)))) 1 (.f (.fn 143 [.pt (modF m) 0]))) 7 (.f (iv (set.length : Nat)))) 8 (.f (iv (k : Nat)))), (fun _ => none), 0⟩) (fun k => k ≤ set.length) (fun k => set.length - k) 0 (Nat.zero_le _) (gh_le ⟨le_upd rfl trivial (le_upd rfl trivial (le_upd rfl trivial (le_upd rfl trivial (le_nil _)))), le_h0 _ _⟩)
  intro k hk
  by_cases hkc : k < set.length
  case neg =>
    repeat (first
    | (apply s_a TY; exact rfl)
    | (apply s_f; exact rfl; (first | assumption | omega))
    | apply w_seq
    | apply w_region
    | apply s_nil
    | apply t_norm
    | apply t_exit
    | apply k_hit
    | apply w_exit
    | apply w_ret
    | (apply w_condF; exact rfl; exact rfl))
    exact lv_ret (ret1 rfl (res_tmp rfl))
  have hp := anyFalse h hkc
  have C := miss_s m set[k] (hin _ (List.getElem_mem hkc)).1 (hin _ (List.getElem_mem hkc)).2
  rw [hp] at C
  repeat (first
    | (apply s_a TY; exact rfl)
    | (apply s_t; exact rfl; (first | assumption | omega))
    | apply w_seq
    | apply w_region
    | apply s_nil
    | apply t_norm
    | apply k_norm
    | apply w_block
    | apply w_skip
    | (apply w_condT; exact rfl; exact rfl)
    | (apply w_condF; exact rfl; exact rfl)
    | (apply s_k (C); exact rfl)
    | (apply s_c TY; exact rfl; (first | omega | exact ⟨by omega, by (first | with_reducible assumption | ((with_reducible apply intsF_ne); omega) | assumption)⟩))
    | (apply s_l TY; exact rfl; (first | exact rfl | with_reducible assumption | ((with_reducible apply intsF_at); omega) | assumption)))
  exact ⟨k + 1, by omega, by omega, gh_le ⟨le_upd rfl trivial (le_upd rfl trivial (le_upd rfl trivial (le_upd rfl trivial (le_nil _)))), le_h0 _ _⟩⟩
set_option maxRecDepth 100000 in
theorem missing_some (m : List Int × List Bool) (set : List Int) (hl : set.length ≤ 1000000) (hin : ∀ i ∈ set, 0 ≤ i ∧ i < m.2.length) (n : Nat) (hn : n < set.length) (hu : missB m set[n] = true) (hb : ∀ j (h : j < set.length), j < n → missB m set[j] = false) : Summ Tryd.prog GG 103 [.sl set.length (intsF set), .fn 143 [.pt (modF m) 0]] (iv (n : Nat)) := by
  refine summW Tryd.func103 rfl rfl 19 rfl (by simp) (fun M0 => ?_)
  repeat (first
    | (apply s_a TY; exact rfl)
    | apply w_seq
    | apply w_region
    | apply s_nil
    | apply t_norm
    | apply w_block)
  apply w_loop (fun k : Nat => ⟨(Ab.upd (Ab.upd (Ab.upd (Ab.upd (fun _ => .bot) 0 (.f (.sl set.length (intsF set)))) 1 (.f (.fn 143 [.pt (modF m) 0]))) 7 (.f (iv (set.length : Nat)))) 8 (.f (iv (k : Nat)))), (fun _ => none), 0⟩) (fun k => k ≤ n) (fun k => n - k) 0 (Nat.zero_le _) (gh_le ⟨le_upd rfl trivial (le_upd rfl trivial (le_upd rfl trivial (le_upd rfl trivial (le_nil _)))), le_h0 _ _⟩)
  intro k hk
  have hkc : k < set.length := by omega
  have C := miss_s m set[k] (hin _ (List.getElem_mem hkc)).1 (hin _ (List.getElem_mem hkc)).2
  by_cases hkn : k = n
  · subst hkn
    rw [hu] at C
    repeat (first
    | (apply s_a TY; exact rfl)
    | (apply s_t; exact rfl; (first | assumption | omega))
    | apply w_seq
    | apply w_region
    | apply s_nil
    | apply t_norm
    | apply t_ret
    | apply k_ret
    | apply w_block
    | apply w_ret
    | apply w_skip
    | (apply w_condT; exact rfl; exact rfl)
    | (apply s_k (C); exact rfl)
    | (apply s_c TY; exact rfl; (first | omega | exact ⟨by omega, by (first | with_reducible assumption | ((with_reducible apply intsF_ne); omega) | assumption)⟩))
    | (apply s_l TY; exact rfl; (first | exact rfl | with_reducible assumption | ((with_reducible apply intsF_at); omega) | assumption)))
    exact lv_ret (ret1 rfl (res_tmp rfl))
  rw [hb k hkc (by omega)] at C
  repeat (first
    | (apply s_a TY; exact rfl)
    | (apply s_t; exact rfl; (first | assumption | omega))
    | apply w_seq
    | apply w_region
    | apply s_nil
    | apply t_norm
    | apply k_norm
    | apply w_block
    | apply w_skip
    | (apply w_condT; exact rfl; exact rfl)
    | (apply w_condF; exact rfl; exact rfl)
    | (apply s_k (C); exact rfl)
    | (apply s_c TY; exact rfl; (first | omega | exact ⟨by omega, by (first | with_reducible assumption | ((with_reducible apply intsF_ne); omega) | assumption)⟩))
    | (apply s_l TY; exact rfl; (first | exact rfl | with_reducible assumption | ((with_reducible apply intsF_at); omega) | assumption)))
  exact ⟨k + 1, by omega, by omega, gh_le ⟨le_upd rfl trivial (le_upd rfl trivial (le_upd rfl trivial (le_upd rfl trivial (le_nil _)))), le_h0 _ _⟩⟩
set_option maxRecDepth 100000 in
theorem missing_s (m : List Int × List Bool) (set : List Int) (hl : set.length ≤ 1000000) (hin : ∀ i ∈ set, 0 ≤ i ∧ i < m.2.length) : Summ Tryd.prog GG 106 [.sl set.length (intsF set), .fn 143 [.pt (modF m) 0]] (bv (set.any (missB m))) := by
  refine summW Tryd.func106 rfl rfl 9 rfl (by simp) (fun M0 => ?_)
  rcases firstAny (missB m) set with h | ⟨n, hn, hu, hj⟩
  · have I := missing_none m set hl hin h
    rw [h]
    repeat (first
    | (apply s_a TY; exact rfl)
    | (apply s_f; exact rfl; (first | assumption | omega))
    | apply w_seq
    | apply w_region
    | apply s_nil
    | apply t_norm
    | apply w_ret
    | (apply s_k (I); exact rfl))
    exact lv_ret (ret1 rfl (res_tmp rfl))
  · have I := missing_some m set hl hin n hn hu hj
    rw [anyTrue hn hu]
    repeat (first
    | (apply s_a TY; exact rfl)
    | (apply s_t; exact rfl; (first | assumption | omega))
    | apply w_seq
    | apply w_region
    | apply s_nil
    | apply t_norm
    | apply w_ret
    | (apply s_k (I); exact rfl))
    exact lv_ret (ret1 rfl (res_tmp rfl))
set_option maxRecDepth 100000 in
theorem explainsAll_s (m : List Int × List Bool) (set : List Int) (hl : set.length ≤ 1000000) (hin : ∀ i ∈ set, 0 ≤ i ∧ i < m.2.length) : Summ Tryd.prog GG 127 [.agg (modF m), .sl set.length (intsF set)] (bv (explAll m set)) := by
  have C := missing_s m set hl hin
  refine summW Tryd.func127 rfl rfl 9 rfl (by simp) (fun M0 => ?_)
  repeat (first
    | (apply s_a TY; exact rfl)
    | (apply s_makefn; exact rfl; exact rfl)
    | apply w_seq
    | apply w_region
    | apply s_nil
    | apply t_norm
    | apply w_ret
    | (apply s_k (C); exact rfl))
  exact lv_ret (ret1 rfl (res_tmp rfl))
set_option maxRecDepth 100000 in
theorem expl1_s (m : List Int × List Bool) (set : List Int) (hl : set.length ≤ 1000000) (hin : ∀ i ∈ set, 0 ≤ i ∧ i < m.2.length) : Summ Tryd.prog GG 126 [.agg (modF m), .pt [.sl set.length (intsF set)] 0] (bv (covB set m)) := by
  have C : Summ Tryd.prog GG 127 [.agg (modF m), .sl set.length (intsF set)] (bv (covB set m)) := explainsAll_s m set hl hin
  refine summW Tryd.func126 rfl rfl 7 rfl (by simp) (fun M0 => ?_)
  repeat (first
    | (apply s_a TY; exact rfl)
    | apply w_seq
    | apply w_region
    | apply s_nil
    | apply t_norm
    | apply w_ret
    | (apply s_k (C); exact rfl))
  exact lv_ret (ret1 rfl (res_tmp rfl))
set_option maxRecDepth 100000 in
theorem explained_none (ms : List (List Int × List Bool)) (set : List Int) (hl : ms.length ≤ 1000000) (hs : set.length ≤ 1000000) (hin : ∀ m ∈ ms, ∀ i ∈ set, 0 ≤ i ∧ i < m.2.length) (h : ms.any (covB set) = false) : Summ Tryd.prog GG 142 [.sl ms.length (modelsF ms), .fn 126 [.pt [.sl set.length (intsF set)] 0]] (iv (-1)) := by
  refine summW Tryd.func142 rfl rfl 19 rfl (by simp) (fun M0 => ?_)
  repeat (first
    | (apply s_a TY; exact rfl)
    | apply w_seq
    | apply w_region
    | apply s_nil
    | apply t_norm
    | apply w_block)
  apply w_loop (fun k : Nat => ⟨(Ab.upd (Ab.upd (Ab.upd (Ab.upd (fun _ => .bot) 0 (.f (.sl ms.length (modelsF ms)))) 1 (.f (.fn 126 [.pt [.sl set.length (intsF set)] 0]))) 7 (.f (iv (ms.length : Nat)))) 8 (.f (iv (k : Nat)))), (fun _ => none), 0⟩) (fun k => k ≤ ms.length) (fun k => ms.length - k) 0 (Nat.zero_le _) (gh_le ⟨le_upd rfl trivial (le_upd rfl trivial (le_upd rfl trivial (le_upd rfl trivial (le_nil _)))), le_h0 _ _⟩)
  intro k hk
  by_cases hkc : k < ms.length
  case neg =>
    repeat (first
    | (apply s_a TY; exact rfl)
    | (apply s_f; exact rfl; (first | assumption | omega))
    | apply w_seq
    | apply w_region
    | apply s_nil
    | apply t_norm
    | apply t_exit
    | apply k_hit
    | apply w_exit
    | apply w_ret
    | (apply w_condF; exact rfl; exact rfl))
    exact lv_ret (ret1 rfl (res_tmp rfl))
  have hp := anyFalse h hkc
  have C := expl1_s ms[k] set hs (hin _ (List.getElem_mem hkc))
  rw [hp] at C
  repeat (first
    | (apply s_a TY; exact rfl)
    | (apply s_t; exact rfl; (first | assumption | omega))
    | apply w_seq
    | apply w_region
    | apply s_nil
    | apply t_norm
    | apply k_norm
    | apply w_block
    | apply w_skip
    | (apply w_condT; exact rfl; exact rfl)
    | (apply w_condF; exact rfl; exact rfl)
    | (apply s_k (C); exact rfl)
    | (apply s_c TY; exact rfl; (first | omega | exact ⟨by omega, by (first | with_reducible assumption | ((with_reducible apply modelsF_ne); omega) | assumption)⟩))
    | (apply s_m TY; exact rfl; (first | with_reducible assumption | ((with_reducible apply modelsF_sub); omega) | exact rfl); exact rfl))
  exact ⟨k + 1, by omega, by omega, gh_le ⟨le_upd rfl trivial (le_upd rfl trivial (le_upd rfl trivial (le_upd rfl trivial (le_nil _)))), le_h0 _ _⟩⟩
set_option maxRecDepth 100000 in
theorem explained_some (ms : List (List Int × List Bool)) (set : List Int) (hl : ms.length ≤ 1000000) (hs : set.length ≤ 1000000) (hin : ∀ m ∈ ms, ∀ i ∈ set, 0 ≤ i ∧ i < m.2.length) (n : Nat) (hn : n < ms.length) (hu : covB set ms[n] = true) (hb : ∀ j (h : j < ms.length), j < n → covB set ms[j] = false) : Summ Tryd.prog GG 142 [.sl ms.length (modelsF ms), .fn 126 [.pt [.sl set.length (intsF set)] 0]] (iv (n : Nat)) := by
  refine summW Tryd.func142 rfl rfl 19 rfl (by simp) (fun M0 => ?_)
  repeat (first
    | (apply s_a TY; exact rfl)
    | apply w_seq
    | apply w_region
    | apply s_nil
    | apply t_norm
    | apply w_block)
  apply w_loop (fun k : Nat => ⟨(Ab.upd (Ab.upd (Ab.upd (Ab.upd (fun _ => .bot) 0 (.f (.sl ms.length (modelsF ms)))) 1 (.f (.fn 126 [.pt [.sl set.length (intsF set)] 0]))) 7 (.f (iv (ms.length : Nat)))) 8 (.f (iv (k : Nat)))), (fun _ => none), 0⟩) (fun k => k ≤ n) (fun k => n - k) 0 (Nat.zero_le _) (gh_le ⟨le_upd rfl trivial (le_upd rfl trivial (le_upd rfl trivial (le_upd rfl trivial (le_nil _)))), le_h0 _ _⟩)
  intro k hk
  have hkc : k < ms.length := by omega
  have C := expl1_s ms[k] set hs (hin _ (List.getElem_mem hkc))
  by_cases hkn : k = n
  · subst hkn
    rw [hu] at C
    repeat (first
    | (apply s_a TY; exact rfl)
    | (apply s_t; exact rfl; (first | assumption | omega))
    | apply w_seq
    | apply w_region
    | apply s_nil
    | apply t_norm
    | apply t_ret
    | apply k_ret
    | apply w_block
    | apply w_ret
    | apply w_skip
    | (apply w_condT; exact rfl; exact rfl)
    | (apply s_k (C); exact rfl)
    | (apply s_c TY; exact rfl; (first | omega | exact ⟨by omega, by (first | with_reducible assumption | ((with_reducible apply modelsF_ne); omega) | assumption)⟩))
    | (apply s_m TY; exact rfl; (first | with_reducible assumption | ((with_reducible apply modelsF_sub); omega) | exact rfl); exact rfl))
    exact lv_ret (ret1 rfl (res_tmp rfl))
  rw [hb k hkc (by omega)] at C
  repeat (first
    | (apply s_a TY; exact rfl)
    | (apply s_t; exact rfl; (first | assumption | omega))
    | apply w_seq
    | apply w_region
    | apply s_nil
    | apply t_norm
    | apply k_norm
    | apply w_block
    | apply w_skip
    | (apply w_condT; exact rfl; exact rfl)
    | (apply w_condF; exact rfl; exact rfl)
    | (apply s_k (C); exact rfl)
    | (apply s_c TY; exact rfl; (first | omega | exact ⟨by omega, by (first | with_reducible assumption | ((with_reducible apply modelsF_ne); omega) | assumption)⟩))
    | (apply s_m TY; exact rfl; (first | with_reducible assumption | ((with_reducible apply modelsF_sub); omega) | exact rfl); exact rfl))
  exact ⟨k + 1, by omega, by omega, gh_le ⟨le_upd rfl trivial (le_upd rfl trivial (le_upd rfl trivial (le_upd rfl trivial (le_nil _)))), le_h0 _ _⟩⟩
set_option maxRecDepth 100000 in
theorem explained_s (ms : List (List Int × List Bool)) (set : List Int) (hl : ms.length ≤ 1000000) (hs : set.length ≤ 1000000) (hin : ∀ m ∈ ms, ∀ i ∈ set, 0 ≤ i ∧ i < m.2.length) : Summ Tryd.prog GG 125 [.sl ms.length (modelsF ms), .fn 126 [.pt [.sl set.length (intsF set)] 0]] (bv (ms.any (covB set))) := by
  refine summW Tryd.func125 rfl rfl 9 rfl (by simp) (fun M0 => ?_)
  rcases firstAny (covB set) ms with h | ⟨n, hn, hu, hj⟩
  · have I := explained_none ms set hl hs hin h
    rw [h]
    repeat (first
    | (apply s_a TY; exact rfl)
    | (apply s_f; exact rfl; (first | assumption | omega))
    | apply w_seq
    | apply w_region
    | apply s_nil
    | apply t_norm
    | apply w_ret
    | (apply s_k (I); exact rfl))
    exact lv_ret (ret1 rfl (res_tmp rfl))
  · have I := explained_some ms set hl hs hin n hn hu hj
    rw [anyTrue hn hu]
    repeat (first
    | (apply s_a TY; exact rfl)
    | (apply s_t; exact rfl; (first | assumption | omega))
    | apply w_seq
    | apply w_region
    | apply s_nil
    | apply t_norm
    | apply w_ret
    | (apply s_k (I); exact rfl))
    exact lv_ret (ret1 rfl (res_tmp rfl))
set_option maxRecDepth 100000 in
theorem yield_t (ms : List (List Int × List Bool)) (set : List Int) (c1 : FV) (hm : ms.length ≤ 1000000) (hs : set.length ≤ 1000000) (hin : ∀ m ∈ ms, ∀ i ∈ set, 0 ≤ i ∧ i < m.2.length) (h : ms.any (covB set) = true) : SummX Tryd.prog GG 124 [.sl set.length (intsF set), .pt [.sl ms.length (modelsF ms)] 0] (.bx 0 0) c1 (bv true) c1 := by
  have C := explained_s ms set hm hs hin
  rw [h] at C
  refine summX_of Tryd.func124 rfl rfl 10 rfl (by simp) (.inl ⟨0, rfl⟩) (fun M0 X p => ?_)
  repeat (first
    | (apply s_a TY; exact rfl)
    | (apply s_makefn; exact rfl; exact rfl)
    | apply w_seq
    | apply w_region
    | apply s_nil
    | apply t_norm
    | apply t_ret
    | apply w_ret
    | (apply w_condT; exact rfl; exact rfl)
    | (apply s_k (C); exact rfl))
  exact ⟨4, rfl, rfl, rfl⟩
set_option maxRecDepth 100000 in
theorem yield_f (ms : List (List Int × List Bool)) (set : List Int) (c1 : FV) (hm : ms.length ≤ 1000000) (hs : set.length ≤ 1000000) (hin : ∀ m ∈ ms, ∀ i ∈ set, 0 ≤ i ∧ i < m.2.length) (h : ms.any (covB set) = false) (_h1 : ∃ y, cellsF c1 = some [y]) : SummX Tryd.prog GG 124 [.sl set.length (intsF set), .pt [.sl ms.length (modelsF ms)] 0] (.bx 0 0) c1 (bv false) (.sl set.length (intsF set)) := by
  have C := explained_s ms set hm hs hin
  rw [h] at C
  have CL := SummN.toSumm (cloneI_s set hs)
  refine summX_of Tryd.func124 rfl rfl 10 rfl (by simp) (.inl ⟨0, rfl⟩) (fun M0 X p => ?_)
  repeat (first
    | (apply s_a TY; exact rfl)
    | (apply s_makefn; exact rfl; exact rfl)
    | apply w_seq
    | apply w_region
    | apply s_nil
    | apply t_norm
    | apply w_ret
    | apply w_skip
    | (apply w_condF; exact rfl; exact rfl)
    | (apply s_k (C); exact rfl)
    | (apply s_k (CL); exact rfl)
    | (apply s_store TY; exact rfl; exact rfl; exact rfl; exact rfl; exact rfl; exact rfl))
  exact ⟨4, rfl, rfl, rfl⟩
end Go.Proofs.YtienhiloecfgnaaDoor
namespace Go.Proofs.YtienhiloecfgnaaDoor
open Go Go.RowKit Go.Proofs Go.Shelf Go.Ab
def setsL (n : Nat) : Nat → List Int → Nat → List (List Int)
  | 0, begun, _ => [begun]
  | d + 1, begun, fr => (List.range' fr (n - fr)).flatMap fun (i : Nat) => setsL n d (begun ++ [(i : Int)]) (i + 1)
def openOf (ms : List (List Int × List Bool)) (L : List (List Int)) : Option (List Int) := L.find? fun set => !(ms.any (covB set))
def outF (c1 : FV) : Option (List Int) → FV
  | none => c1
  | some s => .sl s.length (intsF s)
theorem openOf_none {ms : List (List Int × List Bool)} {n d fr : Nat} {begun : List Int} (h : ∀ i : Nat, fr ≤ i → i < n → openOf ms (setsL n d (begun ++ [(i : Int)]) (i + 1)) = none) : openOf ms (setsL n (d + 1) begun fr) = none := by
  unfold openOf
  rw [setsL, List.find?_flatMap, List.findSome?_eq_none_iff]
  intro i hi
  rw [List.mem_range'_1] at hi
  exact h i hi.1 (by omega)
theorem openOf_some {ms : List (List Int × List Bool)} {n d fr i : Nat} {begun s : List Int} (h0 : fr ≤ i) (h1 : i < n) (hs : openOf ms (setsL n d (begun ++ [(i : Int)]) (i + 1)) = some s) (h : ∀ j : Nat, fr ≤ j → j < i → openOf ms (setsL n d (begun ++ [(j : Int)]) (j + 1)) = none) : openOf ms (setsL n (d + 1) begun fr) = some s := by
  unfold openOf
  rw [setsL, List.find?_flatMap, List.findSome?_eq_some_iff]
  refine ⟨List.range' fr (i - fr), i, List.range' (i + 1) (n - i - 1), ?_, hs, fun j hj => ?_⟩
  · have e1 : n - fr = (i - fr) + ((n - i - 1) + 1) := by omega
    rw [e1, ← List.range'_append_1, List.range'_succ, show fr + (i - fr) = i by omega]
  · rw [List.mem_range'_1] at hj
    exact h j hj.1 (by omega)
def frOk (begun : List Int) (fr : Nat) : Prop := (begun = [] ∧ fr = 0) ∨ ∃ h : 0 < begun.length, begun[begun.length - 1] + 1 = (fr : Int)
set_option maxRecDepth 100000 in
set_option maxHeartbeats 4000000 in
theorem sets_s (ms : List (List Int × List Bool)) (n size : Nat) (hm : ms.length ≤ 1000000) (hn : n ≤ 8) (hsz : size ≤ n) (hml : ∀ m ∈ ms, m.2.length = n) : ∀ (d : Nat) (begun : List Int) (fr : Nat) (c1 : FV), begun.length + d = size → (∀ i ∈ begun, 0 ≤ i ∧ i < (n : Int)) → fr ≤ n → frOk begun fr → (∃ y, cellsF c1 = some [y]) →
    SummX Tryd.prog GG 123 [iv (n : Nat), iv (size : Nat), .sl begun.length (intsF begun)] (.fb 124 [.pt [.sl ms.length (modelsF ms)] 0] 0) c1 (bv (openOf ms (setsL n d begun fr)).isNone) (outF c1 (openOf ms (setsL n d begun fr))) := by
  intro d
  induction d with
  | zero =>
    intro begun fr c1 hl hb hfr hfo hc
    have hin : ∀ m ∈ ms, ∀ i ∈ begun, 0 ≤ i ∧ i < m.2.length := fun m hm i hi => by rw [hml m hm]; exact hb i hi
    refine summX_of Tryd.func123 rfl rfl 44 rfl (by simp) (.inr ⟨_, _, rfl⟩) (fun M0 X p => ?_)
    cases ha : ms.any (covB begun)
    · have e : openOf ms (setsL n 0 begun fr) = some begun := by unfold openOf setsL; simp [ha]
      have Y := yield_f ms begun c1 hm (by omega) hin ha hc
      rw [e]
      repeat (first
    | (apply s_callY Y; exact rfl; exact rfl; exact rfl; exact rfl; exact rfl)
    | (apply s_a TY; exact rfl)
    | (apply s_t; exact rfl; (first | assumption | omega))
    | apply w_seq
    | apply w_region
    | apply s_nil
    | apply t_norm
    | apply t_ret
    | apply w_ret
    | (apply w_condT; exact rfl; exact rfl))
      exact ⟨8, rfl, rfl, rfl⟩
    · have e : openOf ms (setsL n 0 begun fr) = none := by unfold openOf setsL; simp [ha]
      have Y := yield_t ms begun c1 hm (by omega) hin ha
      rw [e]
      repeat (first
    | (apply s_callY Y; exact rfl; exact rfl; exact rfl; exact rfl; exact rfl)
    | (apply s_a TY; exact rfl)
    | (apply s_t; exact rfl; (first | assumption | omega))
    | apply w_seq
    | apply w_region
    | apply s_nil
    | apply t_norm
    | apply t_ret
    | apply w_ret
    | (apply w_condT; exact rfl; exact rfl))
      exact ⟨8, rfl, rfl, rfl⟩
  | succ d ih =>
    intro begun fr c1 hl hb hfr hfo hc
    have hil := intsF_len begun
    refine summX_of Tryd.func123 rfl rfl 44 rfl (by simp) (.inr ⟨_, _, rfl⟩) (fun M0 X p => ?_)
    have CLP := clip_s begun (by omega)
    rcases hfo with ⟨e0, e1⟩ | ⟨hp, he⟩
    case' inl => subst e0; subst e1
    case' inl => have hz0 : ([] : List Int).length = 0 := rfl
    case' inr => have hq : (intsF begun)[((begun.length : Int) - 1).toNat * 1]? = some (iv ((fr : Int) - 1)) := by rw [show ((begun.length : Int) - 1).toNat = begun.length - 1 by omega, intsF_at (by omega)]; congr 2; omega
    case' inr => have hne : intsF begun ≠ [] := intsF_ne hp
    case' inl => repeat (first
    | (apply s_a TY; exact rfl)
    | (apply s_f; exact rfl; (first | assumption | omega))
    | apply w_seq
    | apply w_region
    | apply s_nil
    | apply t_norm
    | apply w_block
    | apply w_skip
    | (apply w_condF; exact rfl; exact rfl))
    case' inl => apply w_loop (fun i : Nat => ⟨(Ab.upd (Ab.upd (Ab.upd (Ab.upd (Ab.upd (fun _ => .bot) 0 (.f (iv (n : Nat)))) 1 (.f (iv (size : Nat)))) 2 (.f (.sl ([] : List Int).length (intsF ([] : List Int))))) 3 (.fb 124 [.pt [.sl ms.length (modelsF ms)] 0] 0)) 10 (.f (iv (i : Nat)))), (Ab.upd (fun _ => none) 0 (some (.box [.f c1]))), 1⟩) (fun i => i ≤ n ∧ ∀ j : Nat, 0 ≤ j → j < i → openOf ms (setsL n d ([] ++ [(j : Int)]) (j + 1)) = none) (fun i => n - i) 0 (⟨Nat.zero_le _, fun j _ h => absurd h (Nat.not_lt_zero j)⟩) (gh_le ⟨le_upd rfl trivial (le_upd rfl rfl (le_upd rfl trivial (le_upd rfl trivial (le_upd rfl trivial (le_nil _))))), le_hupd rfl (fun y hy => by simp at hy; subst hy; trivial) (le_h0 _ _)⟩)
    case' inr => repeat (first
    | (apply s_a TY; exact rfl)
    | (apply s_t; exact rfl; (first | assumption | omega))
    | (apply s_f; exact rfl; (first | assumption | omega))
    | apply w_seq
    | apply w_region
    | apply s_nil
    | apply t_norm
    | apply w_block
    | apply w_skip
    | (apply w_condT; exact rfl; exact rfl)
    | (apply w_condF; exact rfl; exact rfl)
    | (apply s_c TY; exact rfl; (first | omega | exact ⟨by omega, by (first | with_reducible assumption | ((with_reducible apply intsF_ne); omega) | assumption)⟩))
    | (apply s_z TY; exact rfl; (first | omega | exact ⟨by omega, by (first | with_reducible assumption | ((with_reducible apply intsF_ne); omega) | assumption)⟩))
    | (apply s_l TY; exact rfl; (first | exact rfl | with_reducible assumption | ((with_reducible apply intsF_at); omega) | assumption)))
    case' inr => apply w_loop (fun i : Nat => ⟨(Ab.upd (Ab.upd (Ab.upd (Ab.upd (Ab.upd (fun _ => .bot) 0 (.f (iv (n : Nat)))) 1 (.f (iv (size : Nat)))) 2 (.f (.sl begun.length (intsF begun)))) 3 (.fb 124 [.pt [.sl ms.length (modelsF ms)] 0] 0)) 10 (.f (iv (i : Nat)))), (Ab.upd (fun _ => none) 0 (some (.box [.f c1]))), 1⟩) (fun i => (fr ≤ i ∧ i ≤ n) ∧ ∀ j : Nat, fr ≤ j → j < i → openOf ms (setsL n d (begun ++ [(j : Int)]) (j + 1)) = none) (fun i => n - i) fr (⟨⟨Nat.le_refl _, hfr⟩, fun j h1 h2 => absurd h1 (by omega)⟩) (gh_le ⟨le_upd (congrArg (fun z => AV.f (iv z)) (by omega)) trivial (le_upd rfl rfl (le_upd rfl trivial (le_upd rfl trivial (le_upd rfl trivial (le_nil _))))), le_hupd rfl (fun y hy => by simp at hy; subst hy; trivial) (le_h0 _ _)⟩)
    case inl =>
      intro i ⟨hi, hall⟩
      by_cases hic : i < n
      · have I := ih ([] ++ [(i : Int)]) (i + 1) c1 (by simp at hl ⊢; omega) (fun z hz => by simp at hz; subst hz; omega) (by omega) (.inr ⟨by simp, by simp⟩) hc
        cases ho : openOf ms (setsL n d ([] ++ [(i : Int)]) (i + 1)) with
        | none =>
          rw [ho] at I
          repeat (first
    | (apply s_append_cl TY; exact rfl; exact rfl; exact rfl; exact rfl; exact rfl; exact rfl; exact rfl; omega; exact rfl; (unfold maxLen; omega); omega)
    | (apply s_callX (x0 := .tmp 41) (ars := [.tmp 34, .tmp 35, .tmp 40]) I; exact rfl; exact rfl; exact rfl; exact rfl; exact rfl; exact rfl)
    | (apply s_a TY; exact rfl)
    | (apply s_t; exact rfl; (first | assumption | omega))
    | apply w_seq
    | apply w_region
    | apply s_nil
    | apply t_norm
    | apply k_norm
    | apply w_block
    | apply w_skip
    | (apply w_condT; exact rfl; exact rfl)
    | (apply w_condF; exact rfl; exact rfl)
    | (apply s_k (CLP); exact rfl)
    | (apply s_c TY; exact rfl; (first | omega | exact ⟨by omega, by (first | with_reducible assumption | ((with_reducible apply intsF_ne); omega) | assumption)⟩)))
          exact ⟨i + 1, ⟨by omega, fun j _ hj => by
            by_cases e : j = i
            · subst e; exact ho
            · exact hall j (Nat.zero_le _) (by omega)⟩, by omega, gh_le ⟨le_upd rfl trivial (le_upd rfl rfl (le_upd rfl trivial (le_upd rfl trivial (le_upd rfl trivial (le_nil _))))), le_hupd rfl (fun y hy => by simp at hy; subst hy; trivial) (le_h0 _ _)⟩⟩
        | some s =>
          rw [ho] at I
          rw [openOf_some (Nat.zero_le _) hic ho hall]
          repeat (first
    | (apply s_append_cl TY; exact rfl; exact rfl; exact rfl; exact rfl; exact rfl; exact rfl; exact rfl; omega; exact rfl; (unfold maxLen; omega); omega)
    | (apply s_callX (x0 := .tmp 41) (ars := [.tmp 34, .tmp 35, .tmp 40]) I; exact rfl; exact rfl; exact rfl; exact rfl; exact rfl; exact rfl)
    | (apply s_a TY; exact rfl)
    | (apply s_t; exact rfl; (first | assumption | omega))
    | apply w_seq
    | apply w_region
    | apply s_nil
    | apply t_norm
    | apply t_ret
    | apply k_ret
    | apply w_block
    | apply w_ret
    | apply w_skip
    | (apply w_condT; exact rfl; exact rfl)
    | (apply s_k (CLP); exact rfl))
          exact ⟨8, rfl, rfl, rfl⟩
      · rw [openOf_none (fun j h1 h2 => hall j h1 (by omega))]
        repeat (first
    | (apply s_a TY; exact rfl)
    | (apply s_f; exact rfl; (first | assumption | omega))
    | apply w_seq
    | apply w_region
    | apply s_nil
    | apply t_norm
    | apply t_exit
    | apply k_hit
    | apply w_exit
    | apply w_ret
    | (apply w_condF; exact rfl; exact rfl))
        exact ⟨8, rfl, rfl, rfl⟩
    case inr =>
      intro i ⟨⟨hfi, hi⟩, hall⟩
      by_cases hic : i < n
      · have I := ih (begun ++ [(i : Int)]) (i + 1) c1 (by simp; omega) (fun z hz => by
          rcases List.mem_append.1 hz with h | h
          · exact hb z h
          · rw [List.mem_singleton.1 h]; omega) (by omega) (.inr ⟨by simp, by simp⟩) hc
        rw [show (begun ++ [(i : Int)]).length = begun.length + 1 by simp, show intsF (begun ++ [(i : Int)]) = intsF begun ++ [iv i] by simp [intsF]] at I
        cases ho : openOf ms (setsL n d (begun ++ [(i : Int)]) (i + 1)) with
        | none =>
          rw [ho] at I
          repeat (first
    | (apply s_append_cl TY; exact rfl; exact rfl; exact rfl; exact rfl; exact rfl; exact rfl; exact rfl; omega; exact rfl; (unfold maxLen; omega); omega)
    | (apply s_callX (x0 := .tmp 41) (ars := [.tmp 34, .tmp 35, .tmp 40]) I; exact rfl; exact rfl; exact rfl; exact rfl; exact rfl; exact rfl)
    | (apply s_a TY; exact rfl)
    | (apply s_t; exact rfl; (first | assumption | omega))
    | apply w_seq
    | apply w_region
    | apply s_nil
    | apply t_norm
    | apply k_norm
    | apply w_block
    | apply w_skip
    | (apply w_condT; exact rfl; exact rfl)
    | (apply w_condF; exact rfl; exact rfl)
    | (apply s_k (CLP); exact rfl)
    | (apply s_c TY; exact rfl; (first | omega | exact ⟨by omega, by (first | with_reducible assumption | ((with_reducible apply intsF_ne); omega) | assumption)⟩)))
          exact ⟨i + 1, ⟨⟨by omega, by omega⟩, fun j h1 hj => by
            by_cases e : j = i
            · subst e; exact ho
            · exact hall j h1 (by omega)⟩, by omega, gh_le ⟨le_upd rfl trivial (le_upd rfl rfl (le_upd rfl trivial (le_upd rfl trivial (le_upd rfl trivial (le_nil _))))), le_hupd rfl (fun y hy => by simp at hy; subst hy; trivial) (le_h0 _ _)⟩⟩
        | some s =>
          rw [ho] at I
          rw [openOf_some hfi hic ho hall]
          repeat (first
    | (apply s_append_cl TY; exact rfl; exact rfl; exact rfl; exact rfl; exact rfl; exact rfl; exact rfl; omega; exact rfl; (unfold maxLen; omega); omega)
    | (apply s_callX (x0 := .tmp 41) (ars := [.tmp 34, .tmp 35, .tmp 40]) I; exact rfl; exact rfl; exact rfl; exact rfl; exact rfl; exact rfl)
    | (apply s_a TY; exact rfl)
    | (apply s_t; exact rfl; (first | assumption | omega))
    | apply w_seq
    | apply w_region
    | apply s_nil
    | apply t_norm
    | apply t_ret
    | apply k_ret
    | apply w_block
    | apply w_ret
    | apply w_skip
    | (apply w_condT; exact rfl; exact rfl)
    | (apply s_k (CLP); exact rfl))
          exact ⟨8, rfl, rfl, rfl⟩
      · rw [openOf_none (fun j h1 h2 => hall j h1 (by omega))]
        repeat (first
    | (apply s_a TY; exact rfl)
    | (apply s_f; exact rfl; (first | assumption | omega))
    | apply w_seq
    | apply w_region
    | apply s_nil
    | apply t_norm
    | apply t_exit
    | apply k_hit
    | apply w_exit
    | apply w_ret
    | (apply w_condF; exact rfl; exact rfl))
        exact ⟨8, rfl, rfl, rfl⟩
end Go.Proofs.YtienhiloecfgnaaDoor
namespace Go.Proofs.YtienhiloecfgnaaDoor
open Go Go.RowKit Go.Proofs Go.Shelf Go.Ab
theorem sumX_nil {P : Program} {GG' : Nat → Option (List FV)} {g : Nat} {a b : FV} {last : AV} {c1 r c2 : FV} (K : SummX P GG' g [a, b, .sl 0 []] last c1 r c2) : SummX P GG' g [a, b, .v (.slice none 0 0)] last c1 r c2 :=
  ⟨K.enters, fun w M us u b T v1 hM hMb hG R hL h1 h2 h3 => K.call w M us u b T v1 hM hMb hG ⟨R.1, fun k z x hz hx => by
    match k, hx with
    | 0, hx => simp at hx; subst hx; exact R.2 0 z _ hz rfl
    | 1, hx => simp at hx; subst hx; exact R.2 1 z _ hz rfl
    | 2, hx => simp at hx; subst hx; exact rep_nil (R.2 2 z _ hz rfl)
    | k + 3, hx => simp at hx⟩ hL h1 h2 h3⟩
noncomputable def conK (x : Grid) (rs : List Rng) (l : List Flash) (k : Nat) : Option (List Int) := openOf (allMo x rs l) (setsL l.length k [] 0)
theorem sets_k (x : Grid) (rs : List Rng) (l : List Flash) (K : FlashesOk x rs l) (k : Nat) (hk : k ≤ l.length) : SummX Tryd.prog GG 123 [iv (l.length : Nat), iv (k : Nat), .v (.slice none 0 0)] (.fb 124 [.pt [.sl (allMo x rs l).length (modelsF (allMo x rs l))] 0] 0) (.v (.slice none 0 0)) (bv (conK x rs l k).isNone) (outF (.v (.slice none 0 0)) (conK x rs l k)) :=
  sumX_nil (sets_s (allMo x rs l) l.length k (by have := allMo_len K; omega) K.l8 hk (fun _ h => allMo_bools h) k [] 0 _ (by simp) (fun _ h => by cases h) (Nat.zero_le _) (.inl ⟨rfl, rfl⟩) ⟨_, rfl⟩)
set_option maxRecDepth 100000 in
theorem Contra_err (x : Grid) (rs : List Rng) (l : List Flash) (b : Small x rs l) (h : (checkFlashes x rs l).2 ≠ 0) : Summ Tryd.prog GG 70 [classF x rs, .sl l.length (flasF l)] (.tup [.v (.slice none 0 0), iv (checkFlashes x rs l).2]) := by
  have OE := openModels_err x rs l b h
  refine summW Tryd.func70 rfl rfl 35 rfl (by simp) (fun M0 => ?_)
  repeat (first
    | (apply s_a TY; exact rfl)
    | (apply s_f; exact rfl; (first | assumption | omega))
    | apply w_seq
    | apply w_region
    | apply s_nil
    | apply t_norm
    | apply t_ret
    | apply w_ret
    | (apply w_condT; exact rfl; exact rfl)
    | (apply s_k (OE); exact rfl)
    | (apply s_alloc TY; exact rfl; exact rfl; exact rfl)
    | (apply s_store TY; exact rfl; exact rfl; exact rfl; exact rfl; exact rfl; exact rfl))
  exact lv_ret (ret2 rfl (res_tmp rfl) (res_tmp rfl))
set_option maxRecDepth 100000 in
set_option maxHeartbeats 1000000 in
theorem Contra_some (x : Grid) (rs : List Rng) (l : List Flash) (b : Small x rs l) (h : (checkFlashes x rs l).2 = 0) (n : Nat) (s : List Int) (hn : n ≤ l.length) (hs : conK x rs l n = some s) (hb : ∀ j, j < n → conK x rs l j = none) : Summ Tryd.prog GG 70 [classF x rs, .sl l.length (flasF l)] (.tup [.sl s.length (intsF s), iv 0]) := by
  have OE := openModels_ok x rs l b h
  have K := flashesOk h
  have h8 := K.l8
  refine summW Tryd.func70 rfl rfl 35 rfl (by simp) (fun M0 => ?_)
  repeat (first
    | (apply s_a TY; exact rfl)
    | (apply s_t; exact rfl; (first | assumption | omega))
    | apply w_seq
    | apply w_region
    | apply s_nil
    | apply t_norm
    | apply w_block
    | apply w_skip
    | (apply w_condF; exact rfl; exact rfl)
    | (apply s_k (OE); exact rfl)
    | (apply s_c TY; exact rfl; omega)
    | (apply s_alloc TY; exact rfl; exact rfl; exact rfl)
    | (apply s_store TY; exact rfl; exact rfl; exact rfl; exact rfl; exact rfl; exact rfl))
  apply w_gh (gh_box (cs := [.sl (allMo x rs l).length (modelsF (allMo x rs l))]) 0 rfl rfl)
  apply w_loop (fun k : Nat => ⟨(Ab.upd (Ab.upd (Ab.upd (Ab.upd (fun _ => .bot) 1 (.f (.sl l.length (flasF l)))) 6 (.f (.pt [.sl (allMo x rs l).length (modelsF (allMo x rs l))] 0))) 22 (.f (iv ((l.length : Int) + 1)))) 23 (.f (iv (k : Nat)))), (fun _ => none), 0⟩) (fun k => k ≤ n) (fun k => n - k) 0 (Nat.zero_le _) (gh_le ⟨le_upd rfl trivial (le_upd rfl trivial (le_upd rfl trivial (le_upd rfl trivial (le_nil _)))), le_h0 _ _⟩)
  intro k hk
  by_cases hkn : k = n
  · subst hkn
    have I := sets_k x rs l K k hn
    rw [hs] at I
    repeat (first
    | (apply s_makefb (x0 := .tmp 9) (cs := [.tmp 6]); exact rfl; exact rfl; exact rfl; exact rfl)
    | (apply s_callX (x0 := .tmp 29) (ars := [.tmp 27, .tmp 28, .const (.slice none 0 0)]) I; exact rfl; exact rfl; exact rfl; exact rfl; exact rfl; exact rfl)
    | (apply s_a TY; exact rfl)
    | (apply s_t; exact rfl; (first | assumption | omega))
    | apply w_seq
    | apply w_region
    | apply s_nil
    | apply t_norm
    | apply t_ret
    | apply k_ret
    | apply w_block
    | apply w_ret
    | apply w_skip
    | (apply w_condT; exact rfl; exact rfl)
    | (apply s_alloc TY; exact rfl; exact rfl; exact rfl))
    exact lv_ret (ret2 rfl (res_tmp rfl) (res_tmp rfl))
  · have I := sets_k x rs l K k (by omega)
    rw [hb k (by omega)] at I
    repeat (first
    | (apply s_makefb (x0 := .tmp 9) (cs := [.tmp 6]); exact rfl; exact rfl; exact rfl; exact rfl)
    | (apply s_callX (x0 := .tmp 29) (ars := [.tmp 27, .tmp 28, .const (.slice none 0 0)]) I; exact rfl; exact rfl; exact rfl; exact rfl; exact rfl; exact rfl)
    | (apply s_a TY; exact rfl)
    | (apply s_t; exact rfl; (first | assumption | omega))
    | apply w_seq
    | apply w_region
    | apply s_nil
    | apply t_norm
    | apply k_norm
    | apply w_block
    | apply w_skip
    | (apply w_condT; exact rfl; exact rfl)
    | (apply w_condF; exact rfl; exact rfl)
    | (apply s_c TY; exact rfl; omega)
    | (apply s_alloc TY; exact rfl; exact rfl; exact rfl))
    exact ⟨k + 1, by omega, by omega, gh_le ⟨le_upd rfl trivial (le_upd rfl trivial (le_upd rfl trivial (le_upd rfl trivial (le_nil _)))), le_h0 _ _⟩⟩
set_option maxRecDepth 100000 in
set_option maxHeartbeats 1000000 in
theorem Contra_none (x : Grid) (rs : List Rng) (l : List Flash) (b : Small x rs l) (h : (checkFlashes x rs l).2 = 0) (hb : ∀ j, j ≤ l.length → conK x rs l j = none) : Summ Tryd.prog GG 70 [classF x rs, .sl l.length (flasF l)] (.tup [.v (.slice none 0 0), iv 12]) := by
  have OE := openModels_ok x rs l b h
  have K := flashesOk h
  have h8 := K.l8
  refine summW Tryd.func70 rfl rfl 35 rfl (by simp) (fun M0 => ?_)
  repeat (first
    | (apply s_a TY; exact rfl)
    | (apply s_t; exact rfl; (first | assumption | omega))
    | apply w_seq
    | apply w_region
    | apply s_nil
    | apply t_norm
    | apply w_block
    | apply w_skip
    | (apply w_condF; exact rfl; exact rfl)
    | (apply s_k (OE); exact rfl)
    | (apply s_c TY; exact rfl; omega)
    | (apply s_alloc TY; exact rfl; exact rfl; exact rfl)
    | (apply s_store TY; exact rfl; exact rfl; exact rfl; exact rfl; exact rfl; exact rfl))
  apply w_gh (gh_box (cs := [.sl (allMo x rs l).length (modelsF (allMo x rs l))]) 0 rfl rfl)
  apply w_loop (fun k : Nat => ⟨(Ab.upd (Ab.upd (Ab.upd (Ab.upd (fun _ => .bot) 1 (.f (.sl l.length (flasF l)))) 6 (.f (.pt [.sl (allMo x rs l).length (modelsF (allMo x rs l))] 0))) 22 (.f (iv ((l.length : Int) + 1)))) 23 (.f (iv (k : Nat)))), (fun _ => none), 0⟩) (fun k => k ≤ l.length + 1) (fun k => l.length + 1 - k) 0 (Nat.zero_le _) (gh_le ⟨le_upd rfl trivial (le_upd rfl trivial (le_upd rfl trivial (le_upd rfl trivial (le_nil _)))), le_h0 _ _⟩)
  intro k hk
  by_cases hkn : k = l.length + 1
  · subst hkn
    repeat (first
    | (apply s_a TY; exact rfl)
    | (apply s_f; exact rfl; (first | assumption | omega))
    | apply w_seq
    | apply w_region
    | apply s_nil
    | apply t_norm
    | apply t_exit
    | apply k_hit
    | apply w_exit
    | apply w_ret
    | (apply w_condF; exact rfl; exact rfl))
    exact lv_ret (ret2 rfl (res_tmp rfl) (res_tmp rfl))
  · have I := sets_k x rs l K k (by omega)
    rw [hb k (by omega)] at I
    repeat (first
    | (apply s_makefb (x0 := .tmp 9) (cs := [.tmp 6]); exact rfl; exact rfl; exact rfl; exact rfl)
    | (apply s_callX (x0 := .tmp 29) (ars := [.tmp 27, .tmp 28, .const (.slice none 0 0)]) I; exact rfl; exact rfl; exact rfl; exact rfl; exact rfl; exact rfl)
    | (apply s_a TY; exact rfl)
    | (apply s_t; exact rfl; (first | assumption | omega))
    | apply w_seq
    | apply w_region
    | apply s_nil
    | apply t_norm
    | apply k_norm
    | apply w_block
    | apply w_skip
    | (apply w_condT; exact rfl; exact rfl)
    | (apply w_condF; exact rfl; exact rfl)
    | (apply s_c TY; exact rfl; omega)
    | (apply s_alloc TY; exact rfl; exact rfl; exact rfl))
    exact ⟨k + 1, by omega, by omega, gh_le ⟨le_upd rfl trivial (le_upd rfl trivial (le_upd rfl trivial (le_upd rfl trivial (le_nil _)))), le_h0 _ _⟩⟩
end Go.Proofs.YtienhiloecfgnaaDoor
namespace Go.Proofs.YtienhiloecfgnaaDoor
open Go Go.RowKit Go.Proofs Go.Shelf
attribute [local go_sem] Oper.semAt_some
structure NbRdO (Bc oc Bx ox : Nat) (la ta : Option Addr) (lc tc : Nat) (x : Grid) (c : Cel) (w : World) : Prop where
  c0 : w.cell? ⟨Bc, oc, none⟩ = some (.int .i64 c.col)
  c1 : w.cell? ⟨Bc, oc + 1, none⟩ = some (.int .i64 c.row)
  x0 : w.cell? ⟨Bx, ox, none⟩ = some (.slice la x.layers.length lc)
  x1 : w.cell? ⟨Bx, ox + 1, none⟩ = some (.int .i64 x.rows)
  x2 : w.cell? ⟨Bx, ox + 2, none⟩ = some (.slice ta x.tilt.length tc)
  at_ : GridAt w la ta x
  sides : Sides w
structure CellsRdO (Bx ox : Nat) (ta : Option Addr) (tc : Nat) (x : Grid) (w : World) : Prop where
  x1 : w.cell? ⟨Bx, ox + 1, none⟩ = some (.int .i64 x.rows)
  x2 : w.cell? ⟨Bx, ox + 2, none⟩ = some (.slice ta x.tilt.length tc)
set_option maxRecDepth 100000 in
set_option maxHeartbeats 2000000 in
theorem nbs_seqO (Bc oc Bx ox : Nat) (la ta : Option Addr) (lc tc : Nat) (x : Grid) (c : Cel) (v : Valid x) (hin : InG x c) : SeqL Tryd.prog 139 #[.pointer (some ⟨Bc, oc, none⟩), .pointer (some ⟨Bx, ox, none⟩)] encNb (nbTimes x c) (NbRdO Bc oc Bx ox la ta lc tc x c) := by
  intro l J Jx W hJ hJx hRd hY h0
  have HV := Lib.hid v
  have HIN := Lib.hid hin
  have HJ := Lib.hid hJ
  have HY := Lib.hid hY
  have HRD := Lib.hid hRd
  have H0 := Lib.hid h0
  obtain ⟨⟨g1, g2⟩, g3, g4⟩ := hin
  have g5 := v.t8
  have g6 := v.r12
  obtain ⟨s0, s1, s2, s3, s4, s5, s6, s7⟩ := (hRd 0 W h0).sides
  clear hJ hJx hY hRd h0 v
  refine callsIn_of_wp Tryd.func139 rfl trivial ?_ rfl
  simp only [Tryd.ntmps139, List.size_toArray, List.length_cons, List.length_nil, Nat.reduceAdd, Nat.reduceSub, Array.replicate_succ, Array.replicate_zero, List.push_toArray, List.append_toArray, List.nil_append, List.cons_append]
  gi_wp2
  gi_loopw [8] (fun i wr => ∃ k : Nat, k ≤ 4 ∧ i = .int .i64 k ∧ Hid (J (nbNo x c k) wr)) (fun i _ => 4 - (intOf i).toNat)
  case atStart => exact ⟨0, Nat.zero_le _, rfl, H0⟩
  case round =>
    obtain ⟨k, hk, rfl, Hj⟩ := hrel
    clear s0 s1 s2 s3 s4 s5 s6 s7
    by_cases hlt : k < 4
    · skip
      obtain ⟨dc, dr, hi, hcd, d1, d2, d3, d4⟩ : ∃ dc dr : Int, (∀ w, (Instr.index 181 (.agg #[.int .i64 (-1), .int .i64 0, .int .i64 0, .int .i64 (-1), .int .i64 0, .int .i64 1, .int .i64 1, .int .i64 0]) (.int .i64 k)).run Tryd.prog w = .ok (.agg #[.int .i64 dc, .int .i64 dr]) w) ∧ (cand c)[k]'(by simpa [cand] using hlt) = ⟨c.col + dc, c.row + dr⟩ ∧ -1 ≤ dc ∧ dc ≤ 1 ∧ -1 ≤ dr ∧ dr ≤ 1 := by
        rcases (by omega : k = 0 ∨ k = 1 ∨ k = 2 ∨ k = 3) with rfl | rfl | rfl | rfl
        · exact ⟨-1, 0, fun _ => by kernel_rfl, rfl, by decide, by decide, by decide, by decide⟩
        · exact ⟨0, -1, fun _ => by kernel_rfl, rfl, by decide, by decide, by decide, by decide⟩
        · exact ⟨0, 1, fun _ => by kernel_rfl, rfl, by decide, by decide, by decide, by decide⟩
        · exact ⟨1, 0, fun _ => by kernel_rfl, rfl, by decide, by decide, by decide, by decide⟩
      have HCD := Lib.hid hcd
      have hr := HRD.out _ wr Hj.out
      obtain ⟨c0, c1, x0, x1, x2, hat, hsd⟩ := hr
      have HAT := Lib.hid hat
      clear hat hsd hcd
      have qc := World.block_lt_of_cell? _ _ c0
      have qx := World.block_lt_of_cell? _ _ x0
      simp only at qc qx
      gi_wp2
      generalize hW : World.alloc (World.alloc wr _) _ = W0
      have e0 := Lib.hid (show Ext wr W0 by rw [← hW]; exact (Ext.alloc _ _).toAlloc _)
      have n0 : W0.cell? ⟨wr.heap.size + 1, 0, none⟩ = some (.int .i64 (c.col + dc)) := by rw [← hW]; exact ((World.cell_at (by simp)).trans rfl)
      have n1 : W0.cell? ⟨wr.heap.size + 1, 1, none⟩ = some (.int .i64 (c.row + dr)) := by rw [← hW]; exact ((World.cell_at (by simp)).trans rfl)
      have qn : wr.heap.size + 1 < W0.heap.size := by rw [← hW]; simp
      clear hW hi
      replace c0 := e0.out.cell_of c0
      replace c1 := e0.out.cell_of c1
      replace x0 := e0.out.cell_of x0
      replace x1 := e0.out.cell_of x1
      replace x2 := e0.out.cell_of x2
      replace qc := Nat.lt_of_lt_of_le qc e0.out.le
      replace qx := Nat.lt_of_lt_of_le qx e0.out.le
      have LA : ∀ y, Calls Tryd.prog 85 #[.agg #[.slice la x.layers.length lc, .int .i64 x.rows, .slice ta x.tilt.length tc], .agg #[.int .i64 (c.col + dc), .int .i64 (c.row + dr)]] (W0.over y) fun e w' => e = .returned (.int .i64 (cellErrE x ⟨c.col + dc, c.row + dr⟩)) ∧ Ext (W0.over y) w' := fun y => cellErr_any la ta lc tc x ⟨c.col + dc, c.row + dr⟩ _ (HAT.out.ext (e0.out.trans (W0.over_ext y)))
      cases hb : cellB x ⟨c.col + dc, c.row + dr⟩
      · have hs1 : nbNo x c (k + 1) = nbNo x c k := by rw [nbNo_succ x c hlt, HCD.out, hb]; rfl
        have HS1 := Lib.hid hs1
        have hE : cellErrE x ⟨c.col + dc, c.row + dr⟩ = 6 := by unfold cellErrE; rw [hb]; rfl
        rw [hE] at LA
        replace LA := Lib.hid LA
        clear hs1 hb hE
        refine wpIn_region_over 11 (by kernel_rfl) (by kernel_rfl) ?_
        simp only [List.take_succ_cons, List.take_zero, List.drop_succ_cons, List.drop_zero]
        repeat (quiet_step ((go_at_call 85; exact Calls.over_ext (LA.out _))))
        refine wpQuiet_nil ?_
        rintro _ ⟨y, rfl⟩
        have Hj2 : Hid (J (nbNo x c (k + 1)) (W0.over y)) := Lib.hid (by rw [HS1.out]; exact HJ.out _ _ _ (e0.out.trans (W0.over_ext y)) Hj.out)
        gi_wp2
        refine ⟨fun _ h => (by cases h), ?_⟩
        gi_wp2
        go_roundw
        case rel => exact ⟨k + 1, by omega, by go_num, Hj2⟩
        case measure => simp [intOf]; omega
      · have hs1 : nbNo x c (k + 1) = nbNo x c k + 1 := by rw [nbNo_succ x c hlt, HCD.out, hb]; rfl
        have HS1 := Lib.hid hs1
        have hE : cellErrE x ⟨c.col + dc, c.row + dr⟩ = 0 := by unfold cellErrE; rw [hb]; rfl
        rw [hE] at LA
        replace LA := Lib.hid LA
        have HN := Lib.hid ((cellB_in HV.out).1 hb)
        have HG : Hid (∃ hl : nbNo x c k < (nbTimes x c).length, (nbTimes x c)[nbNo x c k] = (⟨c.col + dc, c.row + dr⟩, stepI x c ⟨c.col + dc, c.row + dr⟩)) := Lib.hid (by have := nbNo_get x c hlt (by rw [HCD.out]; exact hb); simpa only [HCD.out] using this)
        have LB : Hid (∀ y, Calls Tryd.prog 140 #[.agg #[.slice la x.layers.length lc, .int .i64 x.rows, .slice ta x.tilt.length tc], .agg #[.int .i64 c.col, .int .i64 c.row], .agg #[.int .i64 (c.col + dc), .int .i64 (c.row + dr)]] (W0.over y) fun e w' => e = .returned (.int .i64 (stepI x c ⟨c.col + dc, c.row + dr⟩)) ∧ Ext (W0.over y) w') := Lib.hid (fun y => step_any la ta lc tc x c ⟨c.col + dc, c.row + dr⟩ _ (HAT.out.ext (e0.out.trans (W0.over_ext y))) HV.out HIN.out.1.1 HIN.out.1.2 (by have := HIN.out.2.1; omega) (by have := HIN.out.2.2; omega) HN.out.1.1 HN.out.1.2 (by have := HN.out.2.1; omega) (by have := HN.out.2.2; omega))
        clear hs1 hb hE
        refine wpIn_region_over 11 (by kernel_rfl) (by kernel_rfl) ?_
        simp only [List.take_succ_cons, List.take_zero, List.drop_succ_cons, List.drop_zero]
        repeat (quiet_step ((first | (go_at_call 85; exact Calls.over_ext (LA.out _)) | (go_at_call 140; exact Calls.over_ext (LB.out _)))))
        refine wpQuiet_nil ?_
        rintro _ ⟨y, rfl⟩
        have Hj2 := Lib.hid (HJ.out _ _ _ (e0.out.trans (W0.over_ext y)) Hj.out)
        generalize W0.over y = w1 at Hj2
        obtain ⟨hl, hget⟩ := HG.out
        have HYk := HY.out _ hl w1 Hj2.out
        rw [hget, encNb] at HYk
        obtain ⟨fn, tmps, assign, body, hy, hR⟩ := HYk
        replace hR := Lib.hid hR
        have HGET := Lib.hid hget
        clear hget c0 c1 x0 x1 x2 n0 n1
        gi_wp2
        refine hR.out.mono ?_
        rintro e W' (⟨rfl, hJ'⟩ | ⟨rfl, hJx'⟩)
        · have Hj3 : Hid (J (nbNo x c (k + 1)) W') := Lib.hid (by rw [HS1.out]; exact hJ')
          clear hJ' hy
          gi_wp2
          go_roundw
          case rel => exact ⟨k + 1, by omega, by go_num, Hj3⟩
          case measure => simp [intOf]; omega
        · have Hx3 := Lib.hid hJx'
          clear hJx' hy
          gi_wp2
          refine bodyPost_ret (results_none rfl _ _ _) rfl ?_
          exact ⟨⟨_, rfl⟩, .inr ⟨_, hl, Hx3.out⟩⟩
    · have hk4 : k = 4 := by omega
      subst hk4
      gi_wp2
      refine bodyPost_end (results_none rfl _ _ _) rfl ?_
      exact ⟨⟨_, rfl⟩, .inl (by rw [← nbNo_all]; exact Hj.out)⟩
set_option maxRecDepth 100000 in
set_option maxHeartbeats 2000000 in
theorem cells_seqO (Bx ox : Nat) (ta : Option Addr) (tc : Nat) (x : Grid) (v : Valid x) : SeqL Tryd.prog 132 #[.pointer (some ⟨Bx, ox, none⟩)] encCel (cellsL x) (CellsRdO Bx ox ta tc x) := by
  intro l J Jx W hJ hJx hRd hY h0
  obtain ⟨R, hR⟩ := Int.eq_ofNat_of_zero_le (show 0 ≤ x.rows by have := v.r1; omega)
  have HRW := Lib.hid hR
  have g5 := v.t8
  have g1 := v.t1
  have g6 := v.r12
  rw [hR] at g6
  have HV := Lib.hid v
  have HJ := Lib.hid hJ
  have HY := Lib.hid hY
  have HRD := Lib.hid hRd
  have H0 := Lib.hid h0
  have x1 := (hRd 0 W h0).x1
  rw [hR] at x1
  clear hJ hJx hY hRd h0 v hR
  refine callsIn_of_wp Tryd.func132 rfl trivial ?_ rfl
  simp only [Tryd.ntmps132, List.size_toArray, List.length_cons, List.length_nil, Nat.reduceAdd, Nat.reduceSub, Array.replicate_succ, Array.replicate_zero, List.push_toArray, List.append_toArray, List.nil_append, List.cons_append]
  gi_wp2
  clear x1
  gi_loopw [7] (fun i wr => ∃ k : Nat, k ≤ R ∧ i = .int .i64 k ∧ Hid (J (k * x.tilt.length) wr)) (fun i _ => R - (intOf i).toNat)
  case atStart => exact ⟨0, Nat.zero_le _, rfl, by rw [Nat.zero_mul]; exact H0⟩
  case round =>
    obtain ⟨k, hk, rfl, Hj⟩ := hrel
    obtain ⟨wo, rfl⟩ : ∃ wo : World, wo = wr := ⟨_, rfl⟩
    by_cases hlt : k < R
    · have x2 := (HRD.out _ wo Hj.out).x2
      have hkR : k < x.rows.toNat := by rw [HRW.out, Int.toNat_natCast]; exact hlt
      gi_wp2
      clear x2
      gi_loopw [13] (fun i wr => ∃ j : Nat, j ≤ x.tilt.length ∧ i = .int .i64 j ∧ Hid (J (k * x.tilt.length + j) wr)) (fun i _ => x.tilt.length - (intOf i).toNat)
      case atStart => exact ⟨0, Nat.zero_le _, rfl, Hj⟩
      case round =>
        obtain ⟨j, hj, rfl, Hj2⟩ := hrel
        by_cases hjt : j < x.tilt.length
        · obtain ⟨hl, hget⟩ := cellsL_get hkR hjt
          have HYk := HY.out _ hl wr Hj2.out
          rw [hget, encCel] at HYk
          simp only at HYk
          obtain ⟨fn, tmps, assign, body, hy, hR⟩ := HYk
          replace hR := Lib.hid hR
          have HL := Lib.hid hl
          clear hget
          try clear hl
          gi_wp2
          refine hR.out.mono ?_
          rintro e W' (⟨rfl, hJ'⟩ | ⟨rfl, hJx'⟩)
          · have Hj3 := Lib.hid hJ'
            clear hJ' hy
            gi_wp2
            go_roundw
            case rel => exact ⟨j + 1, by omega, by go_num, Hj3⟩
            case measure => simp [intOf]; omega
          · have Hx3 := Lib.hid hJx'
            clear hJx' hy
            gi_wp2
            refine bodyPost_ret (results_none rfl _ _ _) rfl ?_
            exact ⟨⟨_, rfl⟩, .inr ⟨_, HL.out, Hx3.out⟩⟩
        · have Hj3 : Hid (J ((k + 1) * x.tilt.length) wr) := Lib.hid (by
            rw [Nat.add_mul, Nat.one_mul]
            have h2 := Hj2.out
            rwa [show j = x.tilt.length by omega] at h2)
          gi_wp2
          go_roundw
          case rel => exact ⟨k + 1, by omega, by go_num, Hj3⟩
          case measure => simp [intOf]; omega
    · have HE : Hid (J (cellsL x).length wo) := Lib.hid (by rw [cellsL_len, HRW.out, Int.toNat_natCast]; have := Hj.out; rwa [show k = R by omega] at this)
      gi_wp2
      refine bodyPost_end (results_none rfl _ _ _) rfl ?_
      exact ⟨⟨_, rfl⟩, .inl HE.out⟩
open Go.Ab
theorem lies_cell {w : World} {M : Nat → Prop} {b off k : Nat} {us : List Value} {v : Value} (h : Lies w M b off us) (hv : us[k]? = some v) : w.cell? ⟨b, off + k, none⟩ = some v := (h.at_ k (List.getElem?_eq_some_iff.1 hv).1).trans hv
theorem nbs_S (x : Grid) (c : Cel) (v : Valid x) (hin : InG x c) : SeqS Tryd.prog GG 139 [.pt (celF c) 0, .pt (gridL x) 0] encNb (nbTimes x c) := by
  have l6 := v.l6; have t8 := v.t8
  refine ⟨enters_of Tryd.func139 (by kernel_rfl) rfl, fun w M us hM hG R => ?_⟩
  obtain ⟨u1, us1, rfl, r1, R1⟩ := R.head
  obtain ⟨u2, us2, rfl, r2, R2⟩ := R1.head
  have := R2.end; subst this
  cases r1 with
  | pt Bc oc _ _ cv c1 c2 c3 c4 =>
  cases r2 with
  | pt Bx ox _ _ gv g1 g2 g3 g4 =>
  have ec : cv = [.int .i64 c.col, .int .i64 c.row] := detC_spec ⟨c1, c4⟩ rfl
  obtain ⟨la, ta, lc, tc, eg, _⟩ := rep_grid (w := w) (M := M) ⟨g1, g4⟩ (by omega) (by omega)
  subst ec; subst eg
  intro l J Jx W hJ hJx hRd hY h0
  refine nbs_seqO Bc oc Bx ox la ta lc tc x c v hin l J Jx W hJ hJx (fun k A hA => ?_) hY h0
  obtain ⟨hs, hk⟩ := hRd k A hA
  have mono : ∀ {u : Value} {y : FV}, RepF w M u y → RepF A M u y := fun h => h.mono hk hs (fun _ _ h => h)
  have lc1 := c3.mono (M' := M) hk hs (fun _ _ h => h)
  have lg1 := g3.mono (M' := M) hk hs (fun _ _ h => h)
  obtain ⟨la', ta', lc', tc', e2, gat⟩ := rep_grid (w := A) (M := M) (x := x) ⟨g1, fun k u y a b => mono (g4 k u y a b)⟩ (by omega) (by omega)
  simp only [List.cons.injEq, Value.slice.injEq, and_true, true_and] at e2
  obtain ⟨⟨rfl, rfl⟩, rfl, rfl⟩ := e2
  exact ⟨lies_cell (k := 0) lc1 rfl, lies_cell (k := 1) lc1 rfl, lies_cell (k := 0) lg1 rfl, lies_cell (k := 1) lg1 rfl, lies_cell (k := 2) lg1 rfl, gat, rep_sides (M := M) fun g cs hg => mono (hG g cs hg)⟩
theorem cells_S (x : Grid) (v : Valid x) : SeqS Tryd.prog GG 132 [.pt (gridL x) 0] encCel (cellsL x) := by
  have l6 := v.l6; have t8 := v.t8
  refine ⟨enters_of Tryd.func132 (by kernel_rfl) rfl, fun w M us hM hG R => ?_⟩
  obtain ⟨u2, us2, rfl, r2, R2⟩ := R.head
  have := R2.end; subst this
  cases r2 with
  | pt Bx ox _ _ gv g1 g2 g3 g4 =>
  obtain ⟨la, ta, lc, tc, eg, _⟩ := rep_grid (w := w) (M := M) ⟨g1, g4⟩ (by omega) (by omega)
  subst eg
  intro l J Jx W hJ hJx hRd hY h0
  refine cells_seqO Bx ox ta tc x v l J Jx W hJ hJx (fun k A hA => ?_) hY h0
  obtain ⟨hs, hk⟩ := hRd k A hA
  have lg1 := g3.mono (M' := M) hk hs (fun _ _ h => h)
  exact ⟨lies_cell (k := 1) lg1 rfl, lies_cell (k := 2) lg1 rfl⟩
end Go.Proofs.YtienhiloecfgnaaDoor
namespace Go.Proofs.YtienhiloecfgnaaDoor
open Go Go.RowKit Go.Proofs Go.Shelf Go.Ab
theorem eqc_run (x y : Operand) (a b : Cel) (w : World) : (do eqGuard .eql 27 x y (.agg #[.int .i64 a.col, .int .i64 a.row]) (.agg #[.int .i64 b.col, .int .i64 b.row]); binOp .eql 27 (.agg #[.int .i64 a.col, .int .i64 a.row]) (.agg #[.int .i64 b.col, .int .i64 b.row]) : Sem Value).run Tryd.prog w = .ok (.bool (decide (a = b))) w := by
  have hg : Tryd.prog.eqGuardType Tryd.prog.depth 27 = false := by kernel_rfl
  have := eql_cel a b w
  simp [eqGuard, hg, this]
theorem eqc_t {x y : Operand} {a b : Cel} (h : a = b) : ∀ w, (do eqGuard .eql 27 x y (.agg #[.int .i64 a.col, .int .i64 a.row]) (.agg #[.int .i64 b.col, .int .i64 b.row]); binOp .eql 27 (.agg #[.int .i64 a.col, .int .i64 a.row]) (.agg #[.int .i64 b.col, .int .i64 b.row]) : Sem Value).run Tryd.prog w = .ok (.bool true) w := fun w => by
  have := eqc_run x y a b w
  rwa [decide_eq_true h] at this
theorem eqc_f {x y : Operand} {a b : Cel} (h : ¬ a = b) : ∀ w, (do eqGuard .eql 27 x y (.agg #[.int .i64 a.col, .int .i64 a.row]) (.agg #[.int .i64 b.col, .int .i64 b.row]); binOp .eql 27 (.agg #[.int .i64 a.col, .int .i64 a.row]) (.agg #[.int .i64 b.col, .int .i64 b.row]) : Sem Value).run Tryd.prog w = .ok (.bool false) w := fun w => by
  have := eqc_run x y a b w
  rwa [decide_eq_false h] at this
theorem unless_T (k : Int) : Summ Tryd.prog GG 89 [.v (.bool true), iv k] (iv 0) := unless_s true k
theorem unless_F (k : Int) : Summ Tryd.prog GG 89 [.v (.bool false), iv k] (iv k) := unless_s false k
theorem first2_0 (a0 a1 : Int) (h : a0 ≠ 0) : Summ Tryd.prog GG 83 [.sl 2 [iv a0, iv a1]] (iv a0) := by
  have := first_s [a0, a1] (by simp)
  rwa [show firstE [a0, a1] = a0 by simp [firstE, h]] at this
theorem first2_1 (a0 a1 : Int) (h : a0 = 0) : Summ Tryd.prog GG 83 [.sl 2 [iv a0, iv a1]] (iv a1) := by
  have := first_s [a0, a1] (by simp)
  rwa [show firstE [a0, a1] = a1 by simp [firstE, h] <;> exact fun e => e.symm] at this
theorem first3_0 (a0 a1 a2 : Int) (h : a0 ≠ 0) : Summ Tryd.prog GG 83 [.sl 3 [iv a0, iv a1, iv a2]] (iv a0) := by
  have := first_s [a0, a1, a2] (by simp)
  rwa [show firstE [a0, a1, a2] = a0 by simp [firstE, h]] at this
theorem first3_1 (a0 a1 a2 : Int) (h : a0 = 0 ∧ a1 ≠ 0) : Summ Tryd.prog GG 83 [.sl 3 [iv a0, iv a1, iv a2]] (iv a1) := by
  have := first_s [a0, a1, a2] (by simp)
  rwa [show firstE [a0, a1, a2] = a1 by simp [firstE, h]] at this
theorem first3_2 (a0 a1 a2 : Int) (h : a0 = 0 ∧ a1 = 0) : Summ Tryd.prog GG 83 [.sl 3 [iv a0, iv a1, iv a2]] (iv a2) := by
  have := first_s [a0, a1, a2] (by simp)
  rwa [show firstE [a0, a1, a2] = a2 by simp [firstE, h] <;> exact fun e => e.symm] at this
theorem first4_0 (a0 a1 a2 a3 : Int) (h : a0 ≠ 0) : Summ Tryd.prog GG 83 [.sl 4 [iv a0, iv a1, iv a2, iv a3]] (iv a0) := by
  have := first_s [a0, a1, a2, a3] (by simp)
  rwa [show firstE [a0, a1, a2, a3] = a0 by simp [firstE, h]] at this
theorem first4_1 (a0 a1 a2 a3 : Int) (h : a0 = 0 ∧ a1 ≠ 0) : Summ Tryd.prog GG 83 [.sl 4 [iv a0, iv a1, iv a2, iv a3]] (iv a1) := by
  have := first_s [a0, a1, a2, a3] (by simp)
  rwa [show firstE [a0, a1, a2, a3] = a1 by simp [firstE, h]] at this
theorem first4_2 (a0 a1 a2 a3 : Int) (h : a0 = 0 ∧ a1 = 0 ∧ a2 ≠ 0) : Summ Tryd.prog GG 83 [.sl 4 [iv a0, iv a1, iv a2, iv a3]] (iv a2) := by
  have := first_s [a0, a1, a2, a3] (by simp)
  rwa [show firstE [a0, a1, a2, a3] = a2 by simp [firstE, h]] at this
theorem first4_3 (a0 a1 a2 a3 : Int) (h : a0 = 0 ∧ a1 = 0 ∧ a2 = 0) : Summ Tryd.prog GG 83 [.sl 4 [iv a0, iv a1, iv a2, iv a3]] (iv a3) := by
  have := first_s [a0, a1, a2, a3] (by simp)
  rwa [show firstE [a0, a1, a2, a3] = a3 by simp [firstE, h] <;> exact fun e => e.symm] at this
theorem first5_0 (a0 a1 a2 a3 a4 : Int) (h : a0 ≠ 0) : Summ Tryd.prog GG 83 [.sl 5 [iv a0, iv a1, iv a2, iv a3, iv a4]] (iv a0) := by
  have := first_s [a0, a1, a2, a3, a4] (by simp)
  rwa [show firstE [a0, a1, a2, a3, a4] = a0 by simp [firstE, h]] at this
theorem first5_1 (a0 a1 a2 a3 a4 : Int) (h : a0 = 0 ∧ a1 ≠ 0) : Summ Tryd.prog GG 83 [.sl 5 [iv a0, iv a1, iv a2, iv a3, iv a4]] (iv a1) := by
  have := first_s [a0, a1, a2, a3, a4] (by simp)
  rwa [show firstE [a0, a1, a2, a3, a4] = a1 by simp [firstE, h]] at this
theorem first5_2 (a0 a1 a2 a3 a4 : Int) (h : a0 = 0 ∧ a1 = 0 ∧ a2 ≠ 0) : Summ Tryd.prog GG 83 [.sl 5 [iv a0, iv a1, iv a2, iv a3, iv a4]] (iv a2) := by
  have := first_s [a0, a1, a2, a3, a4] (by simp)
  rwa [show firstE [a0, a1, a2, a3, a4] = a2 by simp [firstE, h]] at this
theorem first5_3 (a0 a1 a2 a3 a4 : Int) (h : a0 = 0 ∧ a1 = 0 ∧ a2 = 0 ∧ a3 ≠ 0) : Summ Tryd.prog GG 83 [.sl 5 [iv a0, iv a1, iv a2, iv a3, iv a4]] (iv a3) := by
  have := first_s [a0, a1, a2, a3, a4] (by simp)
  rwa [show firstE [a0, a1, a2, a3, a4] = a3 by simp [firstE, h]] at this
theorem first5_4 (a0 a1 a2 a3 a4 : Int) (h : a0 = 0 ∧ a1 = 0 ∧ a2 = 0 ∧ a3 = 0) : Summ Tryd.prog GG 83 [.sl 5 [iv a0, iv a1, iv a2, iv a3, iv a4]] (iv a4) := by
  have := first_s [a0, a1, a2, a3, a4] (by simp)
  rwa [show firstE [a0, a1, a2, a3, a4] = a4 by simp [firstE, h] <;> exact fun e => e.symm] at this
theorem first6_0 (a0 a1 a2 a3 a4 a5 : Int) (h : a0 ≠ 0) : Summ Tryd.prog GG 83 [.sl 6 [iv a0, iv a1, iv a2, iv a3, iv a4, iv a5]] (iv a0) := by
  have := first_s [a0, a1, a2, a3, a4, a5] (by simp)
  rwa [show firstE [a0, a1, a2, a3, a4, a5] = a0 by simp [firstE, h]] at this
theorem first6_1 (a0 a1 a2 a3 a4 a5 : Int) (h : a0 = 0 ∧ a1 ≠ 0) : Summ Tryd.prog GG 83 [.sl 6 [iv a0, iv a1, iv a2, iv a3, iv a4, iv a5]] (iv a1) := by
  have := first_s [a0, a1, a2, a3, a4, a5] (by simp)
  rwa [show firstE [a0, a1, a2, a3, a4, a5] = a1 by simp [firstE, h]] at this
theorem first6_2 (a0 a1 a2 a3 a4 a5 : Int) (h : a0 = 0 ∧ a1 = 0 ∧ a2 ≠ 0) : Summ Tryd.prog GG 83 [.sl 6 [iv a0, iv a1, iv a2, iv a3, iv a4, iv a5]] (iv a2) := by
  have := first_s [a0, a1, a2, a3, a4, a5] (by simp)
  rwa [show firstE [a0, a1, a2, a3, a4, a5] = a2 by simp [firstE, h]] at this
theorem first6_3 (a0 a1 a2 a3 a4 a5 : Int) (h : a0 = 0 ∧ a1 = 0 ∧ a2 = 0 ∧ a3 ≠ 0) : Summ Tryd.prog GG 83 [.sl 6 [iv a0, iv a1, iv a2, iv a3, iv a4, iv a5]] (iv a3) := by
  have := first_s [a0, a1, a2, a3, a4, a5] (by simp)
  rwa [show firstE [a0, a1, a2, a3, a4, a5] = a3 by simp [firstE, h]] at this
theorem first6_4 (a0 a1 a2 a3 a4 a5 : Int) (h : a0 = 0 ∧ a1 = 0 ∧ a2 = 0 ∧ a3 = 0 ∧ a4 ≠ 0) : Summ Tryd.prog GG 83 [.sl 6 [iv a0, iv a1, iv a2, iv a3, iv a4, iv a5]] (iv a4) := by
  have := first_s [a0, a1, a2, a3, a4, a5] (by simp)
  rwa [show firstE [a0, a1, a2, a3, a4, a5] = a4 by simp [firstE, h]] at this
theorem first6_5 (a0 a1 a2 a3 a4 a5 : Int) (h : a0 = 0 ∧ a1 = 0 ∧ a2 = 0 ∧ a3 = 0 ∧ a4 = 0) : Summ Tryd.prog GG 83 [.sl 6 [iv a0, iv a1, iv a2, iv a3, iv a4, iv a5]] (iv a5) := by
  have := first_s [a0, a1, a2, a3, a4, a5] (by simp)
  rwa [show firstE [a0, a1, a2, a3, a4, a5] = a5 by simp [firstE, h] <;> exact fun e => e.symm] at this
theorem nb_en (p : Cel × Int) (w : World) (M : Nat → Prop) : RepL w M (encNb p).toList [.agg (celF p.1), iv p.2] :=
  RepL.cons (RepF.agg (celF p.1) [.int .i64 p.1.col, .int .i64 p.1.row] rfl (by simp [Value.oneCell']) (repL_det (cs := celF p.1) rfl).2) (RepL.cons (RepF.v _) (RepL.nil _ _))
theorem cel_en (c : Cel) (w : World) (M : Nat → Prop) : RepL w M (encCel c).toList [.agg (celF c)] :=
  RepL.cons (RepF.agg (celF c) [.int .i64 c.col, .int .i64 c.row] rfl (by simp [Value.oneCell']) (repL_det (cs := celF c) rfl).2) (RepL.nil _ _)
theorem cellErr_s (x : Grid) (c : Cel) (b : SmallG x) : Summ Tryd.prog GG 85 [gridF x, .agg (celF c)] (iv (cellErrE x c)) := by
  refine ⟨enters_of Tryd.func85 (by kernel_rfl) rfl, fun w M us hM hG R => ?_⟩
  obtain ⟨u1, us1, rfl, r1, R1⟩ := R.head
  obtain ⟨u2, us2, rfl, r2, R2⟩ := R1.head
  have := R2.end; subst this
  obtain ⟨la, ta, lc, tc, rfl, hg⟩ := rep_gridF r1 b.nl b.nt
  have := rep_cel r2; subst this
  exact (cellErr_any la ta lc tc x c w hg).mono fun e w' ⟨h1, h2⟩ => ⟨_, h1, RepF.v _, h2⟩
set_option maxRecDepth 100000 in
theorem neighbours_s (x : Grid) (c : Cel) : Summ Tryd.prog GG 119 [gridF x, .agg (celF c)] (.fn 139 [.pt (celF c) 0, .pt (gridL x) 0]) := by
  refine summW Tryd.func119 rfl rfl 6 rfl (by simp) (fun M0 => ?_)
  repeat (first
    | (apply s_makefn; exact rfl; exact rfl)
    | (apply s_a TY; exact rfl)
    | apply w_seq
    | apply w_region
    | apply s_nil
    | apply t_norm
    | apply w_ret)
  exact lv_ret (ret1 rfl (res_tmp rfl))
set_option maxRecDepth 100000 in
theorem cells_s (x : Grid) : Summ Tryd.prog GG 87 [gridF x] (.fn 132 [.pt (gridL x) 0]) := by
  refine summW Tryd.func87 rfl rfl 4 rfl (by simp) (fun M0 => ?_)
  repeat (first
    | (apply s_makefn; exact rfl; exact rfl)
    | (apply s_a TY; exact rfl)
    | apply w_seq
    | apply w_region
    | apply s_nil
    | apply t_norm
    | apply w_ret)
  exact lv_ret (ret1 rfl (res_tmp rfl))
theorem Size_s (n : Int) (h : -1000000000 ≤ n ∧ n ≤ 1000000000) : Summ Tryd.prog GG 144 [iv n] (iv (max n (-n))) := by
  refine summW Tryd.func144 rfl rfl 7 rfl (by simp) (fun M0 => ?_)
  repeat (first
    | (apply s_a TY; exact rfl)
    | apply w_seq
    | apply w_region
    | apply s_nil
    | apply t_norm
    | apply w_ret
    | (apply s_c TY; exact rfl; omega))
  exact lv_ret (ret1 rfl (res_tmp rfl))
def adjE (a b : Cel) : Int := max (a.col - b.col) (-(a.col - b.col)) + max (a.row - b.row) (-(a.row - b.row))
theorem adj_nbrs {x : Grid} (v : Valid x) {a b : Cel} (hb : InG x b) : b ∈ nbrs x a ↔ adjE a b = 1 := by
  rw [mem_nbrs v]
  unfold adjE
  constructor
  · rintro ⟨_, h⟩; omega
  · intro h; exact ⟨hb, by omega⟩
theorem in_bd {x : Grid} (v : Valid x) {c : Cel} (h : InG x c) : (0 ≤ c.col ∧ c.col < 8) ∧ 0 ≤ c.row ∧ c.row < 12 := by
  have := v.t8; have := v.r12
  obtain ⟨⟨a, b⟩, c, d⟩ := h
  exact ⟨⟨a, by omega⟩, c, by omega⟩
theorem cellE_in {x : Grid} (v : Valid x) {c : Cel} : cellErrE x c = 0 ↔ InG x c := by
  unfold cellErrE; rw [unlessE_zero (by decide), cellB_in v]
theorem cellE_six {x : Grid} {c : Cel} (h : cellErrE x c ≠ 0) : cellErrE x c = 6 := by
  unfold cellErrE at h ⊢; cases hb : cellB x c <;> simp_all [unlessE]
set_option maxRecDepth 100000 in
theorem AreNeighbours_t (x : Grid) (v : Valid x) (a b : Cel) (ha : InG x a) (hb : InG x b) (h : adjE a b = 1) : Summ Tryd.prog GG 129 [.agg (celF a), .agg (celF b)] (bv true) := by
  have := in_bd v ha; have := in_bd v hb
  unfold adjE at h
  refine summW Tryd.func129 rfl rfl 19 rfl (by simp) (fun M0 => ?_)
  repeat (first
    | (apply s_a TY; exact rfl)
    | (apply s_t; exact rfl; (first | assumption | omega))
    | apply w_seq
    | apply w_region
    | (apply w_draw (id := 1) 11 rfl (by kernel_rfl))
    | apply s_nil
    | apply t_norm
    | apply w_ret
    | (apply s_k1 (Size_s _); exact rfl; (first | assumption | omega | decide))
    | (apply s_c TY; exact rfl; omega))
  exact lv_ret (ret1 rfl (res_tmp rfl))
set_option maxRecDepth 100000 in
theorem AreNeighbours_f (x : Grid) (v : Valid x) (a b : Cel) (ha : InG x a) (hb : InG x b) (h : adjE a b ≠ 1) : Summ Tryd.prog GG 129 [.agg (celF a), .agg (celF b)] (bv false) := by
  have := in_bd v ha; have := in_bd v hb
  unfold adjE at h
  refine summW Tryd.func129 rfl rfl 19 rfl (by simp) (fun M0 => ?_)
  repeat (first
    | (apply s_a TY; exact rfl)
    | (apply s_f; exact rfl; (first | assumption | omega))
    | apply w_seq
    | apply w_region
    | (apply w_draw (id := 1) 11 rfl (by kernel_rfl))
    | apply s_nil
    | apply t_norm
    | apply w_ret
    | (apply s_k1 (Size_s _); exact rfl; (first | assumption | omega | decide))
    | (apply s_c TY; exact rfl; omega))
  exact lv_ret (ret1 rfl (res_tmp rfl))
theorem delay_at {x : Grid} (v : Valid x) (c : Cel) : (laysF x.layers)[(layerI x c).toNat * 3 + 0]? = some (iv (delayAt x c)) := by
  obtain ⟨b0, b1⟩ := layerI_bd v c
  have hk : (layerI x c).toNat < x.layers.length := by omega
  unfold delayAt
  rw [List.getD_eq_getElem?_getD, List.getElem?_eq_getElem hk, Option.getD_some]
  exact flat_at (f := layF) (fun _ => rfl) hk (by decide)
set_option maxRecDepth 100000 in
theorem Step_s (x : Grid) (a b : Cel) (v : Valid x) (ha : InG x a) (hb : InG x b) : Summ Tryd.prog GG 121 [gridF x, .agg (celF a), .agg (celF b)] (iv (stepI x a b)) := by
  obtain ⟨a0, a1⟩ := layerI_bd v a
  obtain ⟨b0, b1⟩ := layerI_bd v b
  have da := delay_at v a
  have db := delay_at v b
  have ta := delayAt_bd v a
  have tb := delayAt_bd v b
  have La := Layer_s x a v ha
  have Lb := Layer_s x b v hb
  refine summW Tryd.func121 rfl rfl 24 rfl (by simp) (fun M0 => ?_)
  repeat (first
    | (apply s_a TY; exact rfl)
    | apply w_seq
    | apply w_region
    | (apply w_draw (id := 1) 16 rfl (by kernel_rfl))
    | apply s_nil
    | apply t_norm
    | apply w_ret
    | (apply s_k (La); exact rfl)
    | (apply s_k (Lb); exact rfl)
    | (apply s_c TY; exact rfl; (first | omega | exact ⟨by omega, by (first | with_reducible assumption | ((with_reducible apply laysF_ne); omega) | assumption)⟩))
    | (apply s_z TY; exact rfl; (first | omega | exact ⟨by omega, by (first | with_reducible assumption | ((with_reducible apply laysF_ne); omega) | assumption)⟩))
    | (apply s_l TY; exact rfl; (first | exact rfl | with_reducible assumption | assumption)))
  exact lv_ret (ret1 rfl (res_tmp rfl))
def celO : Cel := ⟨0, 0⟩
def wayAt (x : Grid) (way : List Cel) (i : Nat) : Int := if cellErrE x (way.getD i celO) ≠ 0 then 6 else if 0 < i ∧ adjE (way.getD (i - 1) celO) (way.getD i celO) ≠ 1 then 14 else 0
def wayErrE (x : Grid) (way : List Cel) : Int := if way.length = 0 then 10 else if 41 < way.length then 8 else firstE ((List.range way.length).map (wayAt x way))
def delayTo (x : Grid) (way : List Cel) : Nat → Int
  | 0 => 0
  | k + 1 => delayTo x way k + (if k = 0 then 0 else stepI x (way.getD (k - 1) celO) (way.getD k celO))
def wayV (x : Grid) (way : List Cel) : Int × Int := if wayErrE x way = 0 then (delayTo x way way.length, 0) else (0, wayErrE x way)
theorem delayTo_bd {x : Grid} (v : Valid x) (way : List Cel) : ∀ k : Nat, 0 ≤ delayTo x way k ∧ delayTo x way k ≤ k * 2000
  | 0 => ⟨Int.le_refl _, by simp [delayTo]⟩
  | k + 1 => by
    have := delayTo_bd v way k
    have s := stepI_bd v (way.getD (k - 1) celO) (way.getD k celO)
    rw [delayTo]
    split <;> omega
theorem wayE_none {x : Grid} {way : List Cel} (h : way.length = 0) : wayErrE x way = 10 := by unfold wayErrE; rw [if_pos h]
theorem wayE_many {x : Grid} {way : List Cel} (h : 41 < way.length) : wayErrE x way = 8 := by unfold wayErrE; rw [if_neg (by omega), if_pos h]
theorem wayE_bad {x : Grid} {way : List Cel} (h0 : 0 < way.length) (h1 : way.length ≤ 41) {k : Nat} (hk : k < way.length) (h : ∀ j, j < k → wayAt x way j = 0) (hne : wayAt x way k ≠ 0) : wayErrE x way = wayAt x way k := by
  unfold wayErrE
  rw [if_neg (by omega), if_neg (by omega)]
  have := firstE_at (l := (List.range way.length).map (wayAt x way)) (k := k) (by simpa using hk) (fun j hj hjk => by simpa using h j hjk) (by simpa using hne)
  simpa using this
theorem wayE_ok {x : Grid} {way : List Cel} (h0 : 0 < way.length) (h1 : way.length ≤ 41) (h : ∀ j, j < way.length → wayAt x way j = 0) : wayErrE x way = 0 := by
  unfold wayErrE
  rw [if_neg (by omega), if_neg (by omega)]
  exact firstE_zeros (fun j hj => by simpa using h j (by simpa using hj))
theorem getC {l : List Cel} {k : Nat} (h : k < l.length) : l.getD k celO = l[k] := by rw [List.getD_eq_getElem?_getD, List.getElem?_eq_getElem h, Option.getD_some]
theorem wayAt_out {x : Grid} {way : List Cel} {k : Nat} (hk : k < way.length) (h : cellErrE x way[k] ≠ 0) : wayAt x way k = 6 := by unfold wayAt; rw [getC hk, if_pos h]
theorem wayAt_gap {x : Grid} {way : List Cel} {k : Nat} (hk : k + 1 < way.length) (h : cellErrE x way[k + 1] = 0) (ha : adjE (way[k]'(by omega)) way[k + 1] ≠ 1) : wayAt x way (k + 1) = 14 := by
  unfold wayAt; rw [getC hk, if_neg (by simp [h]), if_pos ⟨by omega, by rw [show k + 1 - 1 = k by omega, getC (by omega)]; exact ha⟩]
theorem wayAt_ok0 {x : Grid} {way : List Cel} (hk : 0 < way.length) (h : cellErrE x way[0] = 0) : wayAt x way 0 = 0 := by
  unfold wayAt; rw [getC hk, if_neg (by simp [h]), if_neg (by simp)]
theorem wayAt_ok {x : Grid} {way : List Cel} {k : Nat} (hk : k + 1 < way.length) (h : cellErrE x way[k + 1] = 0) (ha : adjE (way[k]'(by omega)) way[k + 1] = 1) : wayAt x way (k + 1) = 0 := by
  unfold wayAt; rw [getC hk, if_neg (by simp [h]), if_neg (by rw [show k + 1 - 1 = k by omega, getC (by omega)]; simp [ha])]
theorem wayAt_in {x : Grid} {way : List Cel} {k : Nat} (hk : k < way.length) (h : wayAt x way k = 0) : cellErrE x way[k] = 0 := by
  unfold wayAt at h; rw [getC hk] at h
  refine Classical.byContradiction fun hc => ?_
  rw [if_pos hc] at h; cases h
theorem delayTo_succ {x : Grid} {way : List Cel} {k : Nat} (hk : k + 1 < way.length) : delayTo x way (k + 2) = delayTo x way (k + 1) + stepI x (way[k]'(by omega)) way[k + 1] := by
  rw [delayTo, if_neg (by omega), show k + 1 - 1 = k by omega, getC hk, getC (by omega)]
def bsN (L : List (Cel × Int)) (c : Cel) (m : Nat) : Bool := (L.take m).any fun p => decide (p.1 = c)
def dlN (L : List (Cel × Int)) (c : Cel) (m : Nat) : Int := ((L.take m).map fun p => if p.1 = c then p.2 else 0).sum
theorem bsN_succ {L : List (Cel × Int)} {c : Cel} {m : Nat} (h : m < L.length) : bsN L c (m + 1) = (bsN L c m || decide (L[m].1 = c)) := by
  unfold bsN; rw [List.take_succ_eq_append_getElem h, List.any_append]; simp
theorem dlN_succ {L : List (Cel × Int)} {c : Cel} {m : Nat} (h : m < L.length) : dlN L c (m + 1) = dlN L c m + (if L[m].1 = c then L[m].2 else 0) := by
  unfold dlN; rw [List.take_succ_eq_append_getElem h, List.map_append, List.sum_append]; simp
theorem bsN_end (x : Grid) (a c : Cel) : bsN (nbTimes x a) c (nbTimes x a).length = decide (c ∈ nbrs x a) := by
  unfold bsN
  rw [List.take_length]
  simp only [nbTimes, List.any_map, Function.comp_def]
  induction nbrs x a with
  | nil => simp
  | cons n l ih => simp only [List.any_cons, ih, List.mem_cons]; by_cases h : n = c; (subst h; simp); (have h' : ¬ c = n := fun e => h e.symm; simp [h, h'])
theorem sum_one {f : Cel → Int} {c : Cel} : ∀ {l : List Cel}, l.Nodup → ((l.map fun n => if n = c then f n else 0).sum = if c ∈ l then f c else 0)
  | [], _ => by simp
  | n :: l, h => by
    obtain ⟨h1, h2⟩ := List.nodup_cons.1 h
    rw [List.map_cons, List.sum_cons, sum_one h2]
    by_cases e : n = c
    · subst e; simp [h1]
    · have e' : ¬ c = n := fun h => e h.symm
      rw [if_neg e, Int.zero_add]
      have : (c ∈ n :: l) ↔ c ∈ l := by rw [List.mem_cons]; exact ⟨fun h => h.resolve_left e', .inr⟩
      by_cases hm : c ∈ l
      · rw [if_pos hm, if_pos (this.2 hm)]
      · rw [if_neg hm, if_neg (fun h => hm (this.1 h))]
theorem nbrs_nodup (x : Grid) (a : Cel) : (nbrs x a).Nodup := by
  unfold nbrs
  refine List.Pairwise.filter _ ?_
  unfold cand
  obtain ⟨p, q⟩ := a
  simp
  omega
theorem dlN_end (x : Grid) (a c : Cel) : dlN (nbTimes x a) c (nbTimes x a).length = if c ∈ nbrs x a then stepI x a c else 0 := by
  unfold dlN
  rw [List.take_length]
  simp only [nbTimes, List.map_map, Function.comp_def]
  exact sum_one (f := fun n => stepI x a n) (nbrs_nodup x a)
theorem dlN_bd {x : Grid} (v : Valid x) (a c : Cel) : ∀ m, 0 ≤ dlN (nbTimes x a) c m ∧ dlN (nbTimes x a) c m ≤ m * 2000
  | 0 => by simp [dlN]
  | m + 1 => by
    have := dlN_bd v a c m
    by_cases h : m < (nbTimes x a).length
    · rw [dlN_succ h]
      have e : (nbTimes x a)[m].2 = stepI x a (nbTimes x a)[m].1 := by simp [nbTimes]
      have s := stepI_bd v a (nbTimes x a)[m].1
      split <;> omega
    · have : dlN (nbTimes x a) c (m + 1) = dlN (nbTimes x a) c m := by unfold dlN; rw [List.take_of_length_le (by omega), List.take_of_length_le (by omega)]
      omega
theorem nbT_len (x : Grid) (a : Cel) : (nbTimes x a).length ≤ 4 := by
  have := List.length_filter_le (cellB x) (cand a)
  simp only [nbTimes, nbrs, List.length_map]
  simp only [cand, List.length_cons, List.length_nil] at this
  exact this
set_option maxRecDepth 100000 in
set_option maxHeartbeats 1000000 in
theorem wayErr_s (x : Grid) (way : List Cel) (v : Valid x) (hw : way.length ≤ 1000000) : Summ Tryd.prog GG 128 [gridF x, .sl way.length (celsF way)] (.tup [iv (wayV x way).1, iv (wayV x way).2]) := by
  have l6 := v.l6; have t8 := v.t8
  have b : SmallG x := ⟨by omega, by omega⟩
  refine summW Tryd.func128 rfl rfl 61 rfl (by simp) (fun M0 => ?_)
  by_cases h0 : way.length = 0
  · have e : wayV x way = (0, 10) := by unfold wayV; rw [wayE_none h0]; rfl
    rw [e]
    repeat (first
    | (apply s_a TY; exact rfl)
    | (apply s_t; exact rfl; (first | assumption | omega))
    | (apply s_f; exact rfl; (first | assumption | omega))
    | apply w_seq
    | apply w_region
    | apply s_nil
    | apply t_norm
    | apply t_ret
    | apply w_ret
    | (apply w_condT; exact rfl; exact rfl)
    | (apply s_k1 (first2_0 _ _); exact rfl; (first | assumption | omega | decide))
    | (apply s_k (unless_T _); exact rfl)
    | (apply s_k (unless_F _); exact rfl))
    exact lv_ret (ret2 rfl (res_tmp rfl) (res_tmp rfl))
  by_cases h1 : 41 < way.length
  · have e : wayV x way = (0, 8) := by unfold wayV; rw [wayE_many h1]; rfl
    rw [e]
    repeat (first
    | (apply s_a TY; exact rfl)
    | (apply s_t; exact rfl; (first | assumption | omega))
    | (apply s_f; exact rfl; (first | assumption | omega))
    | apply w_seq
    | apply w_region
    | apply s_nil
    | apply t_norm
    | apply t_ret
    | apply w_ret
    | (apply w_condT; exact rfl; exact rfl)
    | (apply s_k1 (first2_1 _ _); exact rfl; (first | assumption | omega | decide))
    | (apply s_k (unless_T _); exact rfl)
    | (apply s_k (unless_F _); exact rfl))
    exact lv_ret (ret2 rfl (res_tmp rfl) (res_tmp rfl))
  repeat (first
    | (apply s_a TY; exact rfl)
    | (apply s_t; exact rfl; (first | assumption | omega))
    | apply w_seq
    | apply w_region
    | apply s_nil
    | apply t_norm
    | apply w_block
    | apply w_skip
    | (apply w_condF; exact rfl; exact rfl)
    | (apply s_k1 (first2_1 _ _); exact rfl; (first | assumption | omega | decide))
    | (apply s_k (unless_T _); exact rfl)
    | (apply s_alloc TY; exact rfl; exact rfl; exact rfl)
    | (apply s_store TY; exact rfl; exact rfl; exact rfl; exact rfl; exact rfl; exact rfl))
  apply w_loop (fun k : Nat => ⟨(Ab.upd (Ab.upd (Ab.upd (Ab.upd (Ab.upd (Ab.upd (fun _ => .bot) 1 (.f (.sl way.length (celsF way)))) 2 (.f (.pt (gridL x) 0))) 7 (.bx 0 0)) 27 (.f (.sl way.length (celsF way)))) 28 (.f (iv way.length))) 29 (.f (iv (k : Nat)))), (Ab.upd (fun _ => none) 0 (some (.box [.f (iv (delayTo x way k))]))), 1⟩) (fun k => k ≤ way.length ∧ ∀ j, j < k → wayAt x way j = 0) (fun k => way.length - k) 0 (⟨Nat.zero_le _, fun j h => absurd h (Nat.not_lt_zero j)⟩) (gh_le ⟨le_upd rfl trivial (le_upd rfl trivial (le_upd rfl trivial (le_upd rfl rfl (le_upd rfl trivial (le_upd rfl trivial (le_nil _)))))), le_hupd rfl (fun y hy => by simp at hy; rcases hy with rfl <;> first | trivial | rfl) (le_h0 _ _)⟩)
  intro k ⟨hk, hall⟩
  by_cases hkc : k < way.length
  case neg =>
    have hke : k = way.length := by omega
    have e : wayV x way = (delayTo x way way.length, 0) := by unfold wayV; rw [wayE_ok (by omega) (by omega) (fun j hj => hall j (by omega)), if_pos rfl]
    rw [e]
    subst hke
    repeat (first
    | (apply s_a TY; exact rfl)
    | (apply s_f; exact rfl; (first | assumption | omega))
    | apply w_seq
    | apply w_region
    | apply s_nil
    | apply t_norm
    | apply t_exit
    | apply k_hit
    | apply w_exit
    | apply w_ret
    | (apply w_condF; exact rfl; exact rfl))
    exact lv_ret (ret2 rfl (res_tmp rfl) (res_tmp rfl))
  have db := delayTo_bd v way k
  by_cases he : cellErrE x way[k] = 0
  case neg =>
    have e : wayV x way = (0, 6) := by unfold wayV; rw [wayE_bad (by omega) (by omega) hkc hall (by rw [wayAt_out hkc he]; decide), wayAt_out hkc he]; rfl
    rw [e]
    have h6 := cellE_six he
    have CE := cellErr_s x way[k] b
    rw [h6] at CE
    repeat (first
    | (apply s_a TY; exact rfl)
    | (apply s_t; exact rfl; (first | assumption | omega))
    | (apply s_f; exact rfl; (first | assumption | omega))
    | apply w_seq
    | apply w_region
    | apply s_nil
    | apply t_norm
    | apply t_ret
    | apply k_ret
    | apply w_block
    | apply w_ret
    | apply w_skip
    | (apply w_condT; exact rfl; exact rfl)
    | (apply s_k (CE); exact rfl)
    | (apply s_c TY; exact rfl; (first | omega | exact ⟨by omega, by (first | with_reducible assumption | ((with_reducible apply celsF_ne); omega) | assumption)⟩))
    | (apply s_m TY; exact rfl; (first | with_reducible assumption | ((with_reducible apply celsF_sub); omega) | exact rfl); exact rfl)
    | (apply s_alloc TY; exact rfl; exact rfl; exact rfl)
    | (apply s_store TY; exact rfl; exact rfl; exact rfl; exact rfl; exact rfl; exact rfl))
    exact lv_ret (ret2 rfl (res_tmp rfl) (res_tmp rfl))
  have CE := cellErr_s x way[k] b
  rw [he] at CE
  cases k with
  | zero =>
    repeat (first
    | (apply s_a TY; exact rfl)
    | (apply s_t; exact rfl; (first | assumption | omega))
    | apply w_seq
    | apply w_region
    | apply s_nil
    | apply t_norm
    | apply t_exit
    | apply k_hit
    | apply w_block
    | apply w_exit
    | apply w_skip
    | (apply w_condT; exact rfl; exact rfl)
    | (apply w_condF; exact rfl; exact rfl)
    | (apply s_k (CE); exact rfl)
    | (apply s_c TY; exact rfl; (first | omega | exact ⟨by omega, by (first | with_reducible assumption | ((with_reducible apply celsF_ne); omega) | assumption)⟩))
    | (apply s_m TY; exact rfl; (first | with_reducible assumption | ((with_reducible apply celsF_sub); omega) | exact rfl); exact rfl)
    | (apply s_alloc TY; exact rfl; exact rfl; exact rfl)
    | (apply s_store TY; exact rfl; exact rfl; exact rfl; exact rfl; exact rfl; exact rfl))
    exact ⟨0 + 1, ⟨by omega, fun j hj => by rw [show j = 0 by omega]; exact wayAt_ok0 hkc he⟩, by omega, gh_le ⟨le_upd rfl trivial (le_upd rfl trivial (le_upd rfl trivial (le_upd rfl rfl (le_upd rfl trivial (le_upd rfl trivial (le_nil _)))))), le_hupd rfl (fun y hy => by simp at hy; rcases hy with rfl <;> first | trivial | rfl) (le_h0 _ _)⟩⟩
  | succ j =>
  have hjl : j < way.length := by omega
  have hin : InG x way[j + 1] := (cellE_in v).1 he
  have hpr : InG x way[j] := (cellE_in v).1 (wayAt_in hjl (hall j (by omega)))
  have hz : (((j + 1 : Nat) : Int) - 1).toNat = j := by omega
  have hsb : ((celsF way).drop ((((j + 1 : Nat) : Int) - 1).toNat * 2)).take 2 = celF way[j] := by rw [hz]; exact celsF_sub hjl
  repeat (first
    | (apply s_a TY; exact rfl)
    | (apply s_t; exact rfl; (first | assumption | omega))
    | (apply s_f; exact rfl; (first | assumption | omega))
    | apply w_seq
    | apply w_region
    | (apply w_draw (id := 13) 6 rfl (by kernel_rfl))
    | apply s_nil
    | apply t_norm
    | apply w_block
    | apply w_skip
    | (apply w_condT; exact rfl; exact rfl)
    | (apply w_condF; exact rfl; exact rfl)
    | (apply s_k (CE); exact rfl)
    | (apply s_k (neighbours_s x _); exact rfl)
    | (apply s_c TY; exact rfl; (first | omega | exact ⟨by omega, by (first | with_reducible assumption | ((with_reducible apply celsF_ne); omega) | assumption)⟩))
    | (apply s_z TY; exact rfl; (first | omega | exact ⟨by omega, by (first | with_reducible assumption | ((with_reducible apply celsF_ne); omega) | assumption)⟩))
    | (apply s_m TY; exact rfl; (first | with_reducible assumption | ((with_reducible apply celsF_sub); omega) | exact rfl); exact rfl)
    | (apply s_alloc TY; exact rfl; exact rfl; exact rfl)
    | (apply s_store TY; exact rfl; exact rfl; exact rfl; exact rfl; exact rfl; exact rfl))
  refine w_range (s := (Ab.upd (Ab.upd (Ab.upd (Ab.upd (Ab.upd (Ab.upd (Ab.upd (Ab.upd (Ab.upd (fun _ => .bot) 1 (.f (.sl way.length (celsF way)))) 2 (.f (.pt (gridL x) 0))) 7 (.bx 0 0)) 9 (.bx 1 0)) 11 (.bx 2 0)) 27 (.f (.sl way.length (celsF way)))) 28 (.f (iv way.length))) 29 (.f (iv ((j + 1 : Nat) : Int)))) 48 (.f (.fn 139 [.pt (celF way[j]) 0, .pt (gridL x) 0])))) (nbs_S x way[j] v hpr) (fun k => (Ab.upd (Ab.upd (Ab.upd (fun _ => none) 0 (some (.box [.f (iv (delayTo x way (j + 1) + dlN (nbTimes x way[j]) way[j + 1] k))]))) 1 (some (.box [.f (iv way[j + 1].col), .f (iv way[j + 1].row)]))) 2 (some (.box [.f (bv (bsN (nbTimes x way[j]) way[j + 1] k))])))) (fun (k : Nat) (p : Cel × Int) => (Ab.upd (Ab.upd (Ab.upd (Ab.upd (fun _ => none) 0 (some (.box [.f (iv (delayTo x way (j + 1) + dlN (nbTimes x way[j]) way[j + 1] k))]))) 1 (some (.box [.f (iv way[j + 1].col), .f (iv way[j + 1].row)]))) 2 (some (.box [.f (bv (bsN (nbTimes x way[j]) way[j + 1] k))]))) 3 (some (.box [.f (iv p.1.col), .f (iv p.1.row)])))) (fun (k : Nat) (p : Cel × Int) => (Ab.upd (Ab.upd (Ab.upd (Ab.upd (Ab.upd (Ab.upd (Ab.upd (Ab.upd (Ab.upd (Ab.upd (Ab.upd (fun _ => .bot) 1 (.f (.sl way.length (celsF way)))) 2 (.f (.pt (gridL x) 0))) 7 (.bx 0 0)) 9 (.bx 1 0)) 11 (.bx 2 0)) 27 (.f (.sl way.length (celsF way)))) 28 (.f (iv way.length))) 29 (.f (iv ((j + 1 : Nat) : Int)))) 48 (.f (.fn 139 [.pt (celF way[j]) 0, .pt (gridL x) 0]))) 12 (.bx 3 0)) 13 (.f (iv p.2)))) 3 4 (fun i => i = 0 ∨ i = 1 ∨ i = 2) (fun p => [.agg (celF p.1), iv p.2]) (fun _ => True) (trivial) rfl (fun _ => rfl) (gh_le ⟨le_upd rfl trivial (le_upd rfl trivial (le_upd rfl trivial (le_upd rfl trivial (le_upd rfl rfl (le_upd rfl rfl (le_upd rfl rfl (le_upd rfl trivial (le_upd rfl trivial (le_nil _))))))))), le_hupd rfl (fun y hy => by simp at hy; rcases hy with rfl <;> first | trivial | rfl) (le_hupd rfl (fun y hy => by simp at hy; rcases hy with rfl | rfl <;> first | trivial | rfl) (le_hupd (congrArg (fun z => some (Blk.box [.f (iv z)])) (by simp [dlN])) (fun y hy => by simp at hy; rcases hy with rfl <;> first | trivial | rfl) (le_h0 _ _)))⟩) rfl (fun _ => rfl) (fun _ => rfl) (fun q hq => by simp at hq; rcases hq with rfl | rfl <;> rfl) nb_en (kept_f (kept_f (kept_f (kept_f (kept_x rfl (by simp) (kept_x rfl (by simp) (kept_x rfl (by simp) (kept_f (kept_f (kept_nil _ _)))))))))) (by rintro k i (rfl | rfl | rfl) <;> exact ⟨_, rfl⟩) (fun k p => ⟨le_nil _, le_hupd rfl (fun y hy => by simp at hy; rcases hy with rfl <;> first | trivial | rfl) (le_hupd rfl (fun y hy => by simp at hy; rcases hy with rfl | rfl <;> first | trivial | rfl) (le_hupd rfl (fun y hy => by simp at hy; rcases hy with rfl <;> first | trivial | rfl) (le_h0 _ _)))⟩) ?_ ?_ ?_
  · intro k hkL X l p
    repeat (first
    | (apply s_a TY; exact rfl)
    | apply w_seq
    | apply w_region
    | apply s_nil
    | apply t_norm
    | (apply s_alloc TY; exact rfl; exact rfl; exact rfl)
    | (apply s_store TY; exact rfl; exact rfl; exact rfl; exact rfl; exact rfl; exact rfl))
    exact gh_le ⟨le_upd rfl trivial (le_upd rfl rfl (le_upd rfl trivial (le_upd rfl trivial (le_upd rfl trivial (le_upd rfl trivial (le_upd rfl rfl (le_upd rfl rfl (le_upd rfl rfl (le_upd rfl trivial (le_upd rfl trivial (le_nil _))))))))))), le_hupd rfl (fun y hy => by simp at hy; rcases hy with rfl | rfl <;> first | trivial | rfl) (le_hupd rfl (fun y hy => by simp at hy; rcases hy with rfl <;> first | trivial | rfl) (le_hupd rfl (fun y hy => by simp at hy; rcases hy with rfl | rfl <;> first | trivial | rfl) (le_hupd rfl (fun y hy => by simp at hy; rcases hy with rfl <;> first | trivial | rfl) (le_h0 _ _))))⟩
  · intro k hkL _ X l p
    have bs1 := bsN_succ (c := way[j + 1]) hkL
    have dl1 := dlN_succ (c := way[j + 1]) hkL
    have dd := dlN_bd v way[j] way[j + 1] k
    have n4 := nbT_len x way[j]
    have e2 : (nbTimes x way[j])[k].2 = stepI x way[j] (nbTimes x way[j])[k].1 := by simp [nbTimes]
    have s2 := stepI_bd v way[j] (nbTimes x way[j])[k].1
    by_cases hc : (nbTimes x way[j])[k].1 = way[j + 1]
    · rw [decide_eq_true hc, Bool.or_true] at bs1
      rw [if_pos hc] at dl1
      repeat (first
    | (apply s_bind; exact rfl; exact rfl; exact rfl; exact rfl; exact rfl; exact rfl; exact eqc_t (by assumption))
    | (apply s_a TY; exact rfl)
    | apply w_seq
    | apply w_region
    | apply s_nil
    | apply t_norm
    | apply k_norm
    | apply w_block
    | (apply w_condT; exact rfl; exact rfl)
    | (apply s_c TY; exact rfl; (first | omega | exact ⟨by omega, by (first | with_reducible assumption | ((with_reducible apply celsF_ne); omega) | assumption)⟩))
    | (apply s_store TY; exact rfl; exact rfl; exact rfl; exact rfl; exact rfl; exact rfl))
      exact ⟨trivial, gh_le ⟨le_nil _, le_hupd (congrArg (fun z => some (Blk.box [.f (bv z)])) bs1.symm) (fun y hy => by simp at hy; rcases hy with rfl <;> first | trivial | rfl) (le_hupd rfl (fun y hy => by simp at hy; rcases hy with rfl | rfl <;> first | trivial | rfl) (le_hupd (congrArg (fun z => some (Blk.box [.f (iv z)])) (by omega)) (fun y hy => by simp at hy; rcases hy with rfl <;> first | trivial | rfl) (le_h0 _ _)))⟩⟩
    · rw [decide_eq_false hc, Bool.or_false] at bs1
      rw [if_neg hc, Int.add_zero] at dl1
      repeat (first
    | (apply s_bind; exact rfl; exact rfl; exact rfl; exact rfl; exact rfl; exact rfl; exact eqc_f (by assumption))
    | (apply s_a TY; exact rfl)
    | apply w_seq
    | apply w_region
    | apply s_nil
    | apply t_norm
    | apply k_norm
    | apply w_block
    | apply w_skip
    | (apply w_condF; exact rfl; exact rfl))
      exact ⟨trivial, gh_le ⟨le_nil _, le_hupd (congrArg (fun z => some (Blk.box [.f (bv z)])) bs1.symm) (fun y hy => by simp at hy; rcases hy with rfl <;> first | trivial | rfl) (le_hupd rfl (fun y hy => by simp at hy; rcases hy with rfl | rfl <;> first | trivial | rfl) (le_hupd (congrArg (fun z => some (Blk.box [.f (iv z)])) (by omega)) (fun y hy => by simp at hy; rcases hy with rfl <;> first | trivial | rfl) (le_h0 _ _)))⟩⟩
  intro _
  have be := bsN_end x way[j] way[j + 1]
  have de := dlN_end x way[j] way[j + 1]
  by_cases ha : adjE way[j] way[j + 1] = 1
  · have hm := (adj_nbrs v hin).2 ha
    rw [decide_eq_true hm] at be
    rw [if_pos hm] at de
    rw [be, de]
    repeat (first
    | (apply s_a TY; exact rfl)
    | apply w_seq
    | apply w_region
    | apply s_nil
    | apply t_norm
    | apply k_norm
    | apply w_skip
    | (apply w_condF; exact rfl; exact rfl)
    | (apply s_c TY; exact rfl; (first | omega | exact ⟨by omega, by (first | with_reducible assumption | ((with_reducible apply celsF_ne); omega) | assumption)⟩)))
    exact ⟨j + 1 + 1, ⟨by omega, fun i hi => by
      by_cases e : i = j + 1
      · subst e; exact wayAt_ok hkc he ha
      · exact hall i (by omega)⟩, by omega, gh_le ⟨le_upd rfl trivial (le_upd rfl trivial (le_upd rfl trivial (le_upd rfl rfl (le_upd rfl trivial (le_upd rfl trivial (le_nil _)))))), le_hupd (congrArg (fun z => some (Blk.box [.f (iv z)])) (delayTo_succ hkc).symm) (fun y hy => by simp at hy; rcases hy with rfl <;> first | trivial | rfl) (le_h0 _ _)⟩⟩
  · have hm : ¬ way[j + 1] ∈ nbrs x way[j] := fun h => ha ((adj_nbrs v hin).1 h)
    rw [decide_eq_false hm] at be
    rw [be]
    have e : wayV x way = (0, 14) := by unfold wayV; rw [wayE_bad (by omega) (by omega) hkc hall (by rw [wayAt_gap hkc he ha]; decide), wayAt_gap hkc he ha]; rfl
    rw [e]
    repeat (first
    | (apply s_a TY; exact rfl)
    | apply w_seq
    | apply w_region
    | apply s_nil
    | apply t_norm
    | apply t_ret
    | apply k_norm
    | apply k_ret
    | apply w_ret
    | (apply w_condT; exact rfl; exact rfl))
    exact lv_ret (ret2 rfl (res_tmp rfl) (res_tmp rfl))
end Go.Proofs.YtienhiloecfgnaaDoor
namespace Go.Proofs.YtienhiloecfgnaaDoor
open Go Go.RowKit Go.Proofs Go.Shelf Go.Ab
def sides4 (c : Cel) : List Cel := [⟨c.col - 1, c.row⟩, ⟨c.col, c.row - 1⟩, ⟨c.col, c.row + 1⟩, ⟨c.col + 1, c.row⟩]
theorem sides4_cand (c : Cel) : cand c = sides4 c := by simp [cand, sides4, Int.sub_eq_add_neg]
def keepS (x : Grid) (c : Cel) (k : Nat) : List Cel := ((sides4 c).take k).filter (cellB x)
theorem keepS_succ {x : Grid} {c : Cel} {k : Nat} (hk : k < (sides4 c).length) : keepS x c (k + 1) = keepS x c k ++ (if cellB x (sides4 c)[k] = true then [(sides4 c)[k]] else []) := by
  unfold keepS
  rw [List.take_succ_eq_append_getElem hk, List.filter_append]
  congr 1
  by_cases h : cellB x (sides4 c)[k] = true <;> simp [h]
theorem keepS_all (x : Grid) (c : Cel) : keepS x c 4 = nbrs x c := by
  unfold keepS nbrs; rw [sides4_cand]; rfl
theorem keepS_len (x : Grid) (c : Cel) (k : Nat) : (keepS x c k).length ≤ 4 := by
  unfold keepS
  refine Nat.le_trans (List.length_filter_le _ _) ?_
  rw [List.length_take]; exact Nat.le_trans (Nat.min_le_right _ _) (Nat.le_refl _)
theorem row_app (l : List Cel) (a : Cel) : some (Blk.row 27 2 (l ++ [a]).length (celsF (l ++ [a]))) = some (Blk.row 27 2 (l.length + 1) (celsF l ++ celF a)) := by
  simp [celsF, List.flatMap_append]
set_option maxRecDepth 100000 in
theorem around_s (x : Grid) (c : Cel) (v : Valid x) (hc : InG x c) : Summ Tryd.prog GG 120 [gridF x, .agg (celF c)] (.sl (nbrs x c).length (celsF (nbrs x c))) := by
  have := in_bd v hc
  refine summW Tryd.func120 rfl rfl 54 rfl (by simp) (fun M0 => ?_)
  repeat (first
    | (apply s_a TY; exact rfl)
    | apply w_seq
    | apply w_region
    | apply s_nil
    | apply t_norm
    | apply w_block
    | (apply s_c TY; exact rfl; (first | omega | exact ⟨by omega, by (first | with_reducible assumption | ((with_reducible apply celsF_ne); omega) | assumption)⟩)))
  apply w_gh (gh_own 6 27 2 rfl rfl)
  apply w_loop (fun k : Nat => ⟨(Ab.upd (Ab.upd (Ab.upd (Ab.upd (fun _ => .bot) 2 (.f (.pt (gridL x) 0))) 5 (.f (.sl (sides4 c).length (celsF (sides4 c))))) 6 (.ow 0)) 7 (.f (iv (k : Nat)))), (Ab.upd (fun _ => none) 0 (some (.row 27 2 (keepS x c k).length (celsF (keepS x c k))))), 1⟩) (fun k => k ≤ (sides4 c).length) (fun k => (sides4 c).length - k) 0 (Nat.zero_le _) (gh_le ⟨le_upd rfl trivial (le_upd rfl rfl (le_upd rfl trivial (le_upd rfl trivial (le_nil _)))), le_hupd rfl trivial (le_h0 _ _)⟩)
  intro k hk
  have h4 : (sides4 c).length = 4 := rfl
  have hl := keepS_len x c k
  by_cases hkc : k < (sides4 c).length
  · have CE := CellErr_s x (sides4 c)[k] v
    have hs := keepS_succ (x := x) hkc
    by_cases he : cellErrE x (sides4 c)[k] = 0
    · rw [if_pos ((cellB_in v).2 ((cellE_in v).1 he))] at hs
      repeat (first
    | (apply s_append TY; exact rfl; exact rfl; exact rfl; exact rfl; exact rfl; exact rfl; exact rfl; exact rfl; exact rfl; (unfold maxLen; omega); omega)
    | (apply s_a TY; exact rfl)
    | (apply s_t; exact rfl; (first | assumption | omega))
    | apply w_seq
    | apply w_region
    | (apply w_draw (id := 6) 5 rfl (by kernel_rfl))
    | apply s_nil
    | apply t_norm
    | apply k_norm
    | apply w_block
    | apply w_skip
    | (apply w_condT; exact rfl; exact rfl)
    | (apply s_k (CE); exact rfl)
    | (apply s_c TY; exact rfl; (first | omega | exact ⟨by omega, by (first | with_reducible assumption | ((with_reducible apply celsF_ne); omega) | assumption)⟩))
    | (apply s_m TY; exact rfl; (first | with_reducible assumption | ((with_reducible apply celsF_sub); omega) | exact rfl); exact rfl))
      exact ⟨k + 1, by omega, by omega, gh_le ⟨le_upd rfl trivial (le_upd rfl rfl (le_upd rfl trivial (le_upd rfl trivial (le_nil _)))), le_hupd ((congrArg (fun l : List Cel => some (Blk.row 27 2 l.length (celsF l))) hs).trans (row_app _ _)).symm trivial (le_h0 _ _)⟩⟩
    · rw [if_neg (fun h => he ((cellE_in v).2 ((cellB_in v).1 h))), List.append_nil] at hs
      repeat (first
    | (apply s_a TY; exact rfl)
    | (apply s_t; exact rfl; (first | assumption | omega))
    | (apply s_f; exact rfl; (first | assumption | omega))
    | apply w_seq
    | apply w_region
    | (apply w_draw (id := 6) 5 rfl (by kernel_rfl))
    | apply s_nil
    | apply t_norm
    | apply k_norm
    | apply w_block
    | apply w_skip
    | (apply w_condT; exact rfl; exact rfl)
    | (apply w_condF; exact rfl; exact rfl)
    | (apply s_k (CE); exact rfl)
    | (apply s_c TY; exact rfl; (first | omega | exact ⟨by omega, by (first | with_reducible assumption | ((with_reducible apply celsF_ne); omega) | assumption)⟩))
    | (apply s_m TY; exact rfl; (first | with_reducible assumption | ((with_reducible apply celsF_sub); omega) | exact rfl); exact rfl))
      exact ⟨k + 1, by omega, by omega, gh_le ⟨le_upd rfl trivial (le_upd rfl rfl (le_upd rfl trivial (le_upd rfl trivial (le_nil _)))), le_hupd ((congrArg (fun l : List Cel => some (Blk.row 27 2 l.length (celsF l))) hs)).symm trivial (le_h0 _ _)⟩⟩
  · have hke : k = 4 := by omega
    subst hke
    repeat (first
    | (apply s_a TY; exact rfl)
    | (apply s_f; exact rfl; (first | assumption | omega))
    | apply w_seq
    | apply w_region
    | apply s_nil
    | apply t_norm
    | apply t_exit
    | apply k_hit
    | apply w_exit
    | apply w_ret
    | (apply w_condF; exact rfl; exact rfl))
    refine lv_ret (ret_gh (gh_row 0 rfl) ?_)
    exact ret1 rfl (res_tmp (congrArg (fun z : List Cel => AV.f (.sl z.length (celsF z))) (keepS_all x c)))
end Go.Proofs.YtienhiloecfgnaaDoor
namespace Go.Proofs.YtienhiloecfgnaaDoor
open Go Go.RowKit Go.Proofs Go.Shelf Go.Ab
set_option maxRecDepth 100000 in
theorem CopyInts_n (l : List Int) (hl : l.length ≤ 1000000) : SummN Tryd.prog GG 38 [.sl l.length (intsF l)] 3 1 l.length (intsF l) := by
  refine summN_of Tryd.func38 rfl rfl 6 rfl (by simp) (fun M0 => ?_)
  have hn := intsF_len l
  repeat (first
    | (apply s_bslicew TY (d := some 3); exact rfl; exact rfl; exact rfl; exact rfl; exact rfl; exact rfl; exact rfl; exact rfl; exact rfl)
    | (apply s_append TY; exact rfl; exact rfl; exact rfl; exact rfl; exact rfl; exact rfl; exact rfl; exact rfl; omega; (unfold maxLen; omega); omega)
    | (apply s_a TY; exact rfl)
    | apply w_seq
    | apply w_region
    | apply s_nil
    | apply t_norm
    | apply w_ret)
  exact ⟨2, 0, rfl, rfl, congrArg (fun n => some (Blk.row 3 1 n (intsF l))) (Nat.zero_add _)⟩
set_option maxRecDepth 100000 in
theorem CopyIce_n (x : Grid) (h1 : 1 ≤ x.layers.length) (h2 : x.layers.length ≤ 1000000) (h3 : x.tilt.length ≤ 1000000) : SummS Tryd.prog GG 20 [gridF x] 33 3 x.layers.length (laysF x.layers) [iv x.rows, .sl x.tilt.length (intsF x.tilt)] := by
  refine summS_of TY Tryd.func20 rfl rfl 13 rfl (by simp) (fun M0 => ?_)
  have hn := laysF_len x.layers
  have CI := CopyInts_s x.tilt h3
  repeat (first
    | (apply s_boxw (d := some 1); exact rfl; exact rfl; exact rfl; exact rfl)
    | (apply s_bslice_clip TY; exact rfl; exact rfl; exact rfl; exact rfl; exact rfl; exact rfl)
    | (apply s_copy TY; exact rfl; exact rfl; exact rfl; exact rfl; exact rfl; exact rfl; exact rfl; exact rfl; omega; assumption; (unfold maxLen; omega); omega)
    | (apply s_ldg TY (sub := [iv x.rows, .sl x.tilt.length (intsF x.tilt)]); exact rfl; exact rfl; exact rfl; exact rfl; exact rfl; exact rfl; exact rfl)
    | (apply s_a TY; exact rfl)
    | apply w_seq
    | apply w_region
    | (apply w_draw (id := 1) 8 rfl (by kernel_rfl))
    | apply s_nil
    | apply t_norm
    | apply w_ret
    | (apply s_k (CI); exact rfl)
    | (apply s_alloc TY; exact rfl; exact rfl; exact rfl)
    | (apply s_store TY; exact rfl; exact rfl; exact rfl; exact rfl; exact rfl; exact rfl))
  exact ⟨2, 25, 1, 2, _, rfl, rfl, rfl, rfl, rfl, rfl⟩
set_option maxRecDepth 100000 in
set_option maxHeartbeats 1000000 in
theorem With_s (x : Grid) (ds : List Int) (h1 : 1 ≤ x.layers.length) (h2 : x.layers.length ≤ 1000000) (h3 : x.tilt.length ≤ 1000000) (hd : ds.length = x.layers.length) : Summ Tryd.prog GG 122 [gridF x, .sl ds.length (intsF ds)] (gridF (own x ds)) := by
  have CN := CopyIce_n x h1 h2 h3
  refine summW Tryd.func122 rfl rfl 25 rfl (by simp) (fun M0 => ?_)
  repeat (first
    | (apply s_callS CN; exact rfl; exact rfl; exact rfl; exact rfl; exact rfl)
    | (apply s_a TY; exact rfl)
    | apply w_seq
    | apply w_region
    | apply s_nil
    | apply t_norm
    | apply w_block
    | (apply s_alloc TY; exact rfl; exact rfl; exact rfl)
    | (apply s_store TY; exact rfl; exact rfl; exact rfl; exact rfl; exact rfl; exact rfl))
  apply w_loop (fun k : Nat => ⟨(Ab.upd (Ab.upd (Ab.upd (Ab.upd (fun _ => .bot) 1 (.f (.sl ds.length (intsF ds)))) 4 (.bx 0 0)) 5 (.bx 2 0)) 6 (.f (iv (k : Nat)))), (Ab.upd (Ab.upd (Ab.upd (fun _ => none) 0 (some (.box [.f (.v (.slice none 0 0)), .f (iv 0), .f (.v (.slice none 0 0))]))) 1 (some (.row 33 3 x.layers.length (laysF (ownL x ds k))))) 2 (some (.box [.ow 1, .f (iv x.rows), .f (.sl x.tilt.length (intsF x.tilt))]))), 3⟩) (fun k => k ≤ ds.length) (fun k => ds.length - k) 0 (Nat.zero_le _) (gh_le ⟨le_upd rfl trivial (le_upd rfl rfl (le_upd rfl rfl (le_upd rfl trivial (le_nil _)))), le_hupd rfl (fun y hy => by simp at hy; rcases hy with rfl | rfl | rfl <;> first | trivial | rfl) (le_hupd (congrArg (fun l => some (Blk.row 33 3 x.layers.length (laysF l))) (ownL_zero x ds).symm) trivial (le_hupd rfl (fun y hy => by simp at hy; rcases hy with rfl | rfl | rfl <;> first | trivial | rfl) (le_h0 _ _)))⟩)
  intro k hk
  by_cases hkc : k < ds.length
  · have hs := ownL_succ x ds hkc hd
    have hll := ownL_len x ds k
    have hln := laysF_len (ownL x ds k)
    repeat (first
    | (apply s_storeR TY; exact rfl; exact rfl; exact rfl; exact rfl; exact rfl; (show _ + 1 ≤ _; omega))
    | (apply s_a TY; exact rfl)
    | (apply s_t; exact rfl; (first | assumption | omega))
    | apply w_seq
    | apply w_region
    | (apply w_draw (id := 5) 7 rfl (by kernel_rfl))
    | apply s_nil
    | apply t_norm
    | apply k_norm
    | apply w_block
    | apply w_skip
    | (apply w_condT; exact rfl; exact rfl)
    | (apply s_c TY; exact rfl; (first | omega | exact ⟨by omega, by (first | with_reducible assumption | ((with_reducible apply laysF_ne); omega) | ((with_reducible apply intsF_ne); omega) | assumption)⟩))
    | (apply s_l TY; exact rfl; (first | exact rfl | with_reducible assumption | ((with_reducible apply intsF_at); omega) | assumption)))
    exact ⟨k + 1, by omega, by omega, gh_le ⟨le_upd rfl trivial (le_upd rfl rfl (le_upd rfl rfl (le_upd rfl trivial (le_nil _)))), le_hupd rfl (fun y hy => by simp at hy; rcases hy with rfl | rfl | rfl <;> first | trivial | rfl) (le_hupd (congrArg (fun l => some (Blk.row 33 3 x.layers.length l)) hs) trivial (le_hupd rfl (fun y hy => by simp at hy; rcases hy with rfl | rfl | rfl <;> first | trivial | rfl) (le_h0 _ _)))⟩⟩
  · have hke : k = ds.length := by omega
    subst hke
    repeat (first
    | (apply s_a TY; exact rfl)
    | (apply s_f; exact rfl; (first | assumption | omega))
    | apply w_seq
    | apply w_region
    | apply s_nil
    | apply t_norm
    | apply t_exit
    | apply k_hit
    | apply w_exit
    | (apply w_condF; exact rfl; exact rfl))
    refine s_ghost rfl (gh_row 1 rfl) ?_
    repeat (first
    | (apply s_a TY; exact rfl)
    | apply s_nil
    | apply t_norm
    | apply w_ret
    | (apply s_store TY; exact rfl; exact rfl; exact rfl; exact rfl; exact rfl; exact rfl))
    have e : gridF (own x ds) = .agg [.sl x.layers.length (laysF (ownL x ds ds.length)), iv x.rows, .sl x.tilt.length (intsF x.tilt)] := by
      rw [ownL_end, ← own_layers x ds]; rfl
    rw [e]
    exact lv_ret (ret1 rfl (res_bxs (sub := [.sl x.layers.length (laysF (ownL x ds ds.length)), iv x.rows, .sl x.tilt.length (intsF x.tilt)]) TY rfl rfl rfl rfl rfl))
end Go.Proofs.YtienhiloecfgnaaDoor
namespace Go.Proofs.YtienhiloecfgnaaDoor
open Go Go.RowKit Go.Proofs Go.Shelf Go.Ab
structure ShapeOk (x : Grid) (T : List (List Int)) : Prop where
  len : (T.length : Int) = x.rows
  row : ∀ r ∈ T, r.length = x.tilt.length
theorem tab_at {x : Grid} {T : List (List Int)} (h : ShapeOk x T) {c : Cel} (hc : InG x c) : ∃ (h1 : c.row.toNat < T.length) (_ : c.col.toNat < T[c.row.toNat].length), (intsF T[c.row.toNat])[c.col.toNat * 1]? = some (iv (tab T c)) := by
  have hl := h.len
  obtain ⟨⟨c0, c1⟩, r0, r1⟩ := hc
  have h1 : c.row.toNat < T.length := by omega
  have hr := h.row _ (List.getElem_mem h1)
  have h2 : c.col.toNat < T[c.row.toNat].length := by omega
  refine ⟨h1, h2, ?_⟩
  rw [intsF_at h2]
  unfold tab
  rw [List.getD_eq_getElem?_getD (l := T), List.getElem?_eq_getElem h1, Option.getD_some, getD_get h2]
end Go.Proofs.YtienhiloecfgnaaDoor
namespace Go.Proofs.YtienhiloecfgnaaDoor
open Go Go.RowKit Go.Proofs Go.Shelf Go.Ab
inductive Wk (x : Grid) (fr : Cel) : Cel → Nat → Prop
  | nil : Wk x fr fr 0
  | step {c n : Cel} {t : Nat} : InG x c → Wk x fr c t → n ∈ nbrs x c → Wk x fr n (t + (stepI x c n).toNat)
theorem wk_near {x : Grid} (v : Valid x) {fr : Cel} (hf : InG x fr) : ∀ (k : Nat) (c : Cel), InG x c → adjE fr c ≤ k → ∃ t, t ≤ 2000 * k ∧ Wk x fr c t := by
  intro k
  induction k with
  | zero =>
    intro c _ h
    have e : c = fr := by
      cases c; cases fr
      simp only [adjE] at h
      simp only [Cel.mk.injEq]
      omega
    subst e
    exact ⟨0, by omega, .nil⟩
  | succ k ih =>
    intro c hc h
    have go : ∀ c' : Cel, InG x c' → adjE fr c' ≤ k → c ∈ nbrs x c' → ∃ t, t ≤ 2000 * (k + 1) ∧ Wk x fr c t := fun c' h1 h2 h3 => by
      obtain ⟨t, ht, w⟩ := ih c' h1 h2
      have := stepI_bd v c' c
      exact ⟨_, by omega, .step h1 w h3⟩
    have hc' := hc
    have hf' := hf
    obtain ⟨⟨c0, c1⟩, c2, c3⟩ := hc'
    obtain ⟨⟨f0, f1⟩, f2, f3⟩ := hf'
    unfold adjE at h
    by_cases a : c.col < fr.col
    · exact go ⟨c.col + 1, c.row⟩ ⟨⟨by simp; omega, by simp; omega⟩, c2, c3⟩ (by simp only [adjE]; omega) ((mem_nbrs v).2 ⟨hc, by simp⟩)
    by_cases b : fr.col < c.col
    · exact go ⟨c.col - 1, c.row⟩ ⟨⟨by simp; omega, by simp; omega⟩, c2, c3⟩ (by simp only [adjE]; omega) ((mem_nbrs v).2 ⟨hc, by simp⟩)
    by_cases d : c.row < fr.row
    · exact go ⟨c.col, c.row + 1⟩ ⟨⟨c0, c1⟩, by simp; omega, by simp; omega⟩ (by simp only [adjE]; omega) ((mem_nbrs v).2 ⟨hc, by simp⟩)
    by_cases e : fr.row < c.row
    · exact go ⟨c.col, c.row - 1⟩ ⟨⟨c0, c1⟩, by simp; omega, by simp; omega⟩ (by simp only [adjE]; omega) ((mem_nbrs v).2 ⟨hc, by simp⟩)
    have q : c = fr := by
      cases c; cases fr
      simp only [Cel.mk.injEq]
      simp only at a b d e
      omega
    subst q
    exact ⟨0, by omega, .nil⟩
theorem least_of (P : Nat → Prop) : ∀ n, P n → ∃ m, P m ∧ ∀ k, P k → m ≤ k := by
  intro n
  induction n using Nat.strongRecOn with
  | _ n ih =>
    intro h
    by_cases q : ∃ m, m < n ∧ P m
    · obtain ⟨m, hm, hp⟩ := q
      exact ih m hm hp
    · exact ⟨n, h, fun k hk => Nat.le_of_not_lt fun hl => q ⟨k, hl, hk⟩⟩
theorem dist_ex {x : Grid} (v : Valid x) {fr : Cel} (hf : InG x fr) : ∃ d, IsDist x fr d ∧ ∀ c, InG x c → d c ≤ 1000000 := by
  have near : ∀ c, InG x c → ∃ t, t ≤ 2000 * 20 ∧ Wk x fr c t := fun c hc => by
    refine wk_near v hf 20 c hc ?_
    have := v.r12; have := v.t8
    obtain ⟨⟨c0, c1⟩, c2, c3⟩ := hc
    obtain ⟨⟨f0, f1⟩, f2, f3⟩ := hf
    unfold adjE
    omega
  have key : ∀ c, ∃ n : Nat, InG x c → Wk x fr c n ∧ ∀ m, Wk x fr c m → n ≤ m := fun c => by
    by_cases hc : InG x c
    · obtain ⟨t, _, w⟩ := near c hc
      obtain ⟨m, h1, h2⟩ := least_of (Wk x fr c) t w
      exact ⟨m, fun _ => ⟨h1, h2⟩⟩
    · exact ⟨0, fun h => absurd h hc⟩
  obtain ⟨d, hd⟩ := Classical.axiomOfChoice key
  have up : ∀ c n, InG x c → n ∈ nbrs x c → (d n : Int) ≤ d c + stepI x c n := fun c n hc hn => by
    have h1 := (hd n (nbrs_in v hn)).2 _ (.step hc (hd c hc).1 hn)
    have h2 := stepI_bd v c n
    omega
  refine ⟨fun c => (d c : Int), ⟨?_, fun c _ => Int.natCast_nonneg _, up, fun c hc hne => ?_⟩, fun c hc => ?_⟩
  · have := (hd fr hf).2 0 .nil
    omega
  · have w := (hd c hc).1
    generalize e : d c = m at w
    cases w with
    | nil => exact absurd rfl hne
    | @step c0 _ t h0 w0 hn =>
      have h1 := (hd c0 h0).2 t w0
      have h2 := up c0 c h0 hn
      have h3 := stepI_bd v c0 c
      refine ⟨c0, nbrs_symm v h0 hn, ?_⟩
      omega
  · obtain ⟨t, ht, w⟩ := near c hc
    have := (hd c hc).2 t w
    simp only; omega
theorem distOf_all {x : Grid} (v : Valid x) {fr : Cel} (hf : InG x fr) : IsDist x fr (distOf x fr) ∧ ∀ c, InG x c → distOf x fr c ≤ 1000000 := by
  obtain ⟨d, h, hb⟩ := dist_ex v hf
  have h2 := distOf_is h
  exact ⟨h2, fun c hc => by rw [h2.unique v h hc]; exact hb c hc⟩
end Go.Proofs.YtienhiloecfgnaaDoor
