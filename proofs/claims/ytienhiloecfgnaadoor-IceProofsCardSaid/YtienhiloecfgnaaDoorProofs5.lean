/- Laws on which the proofs of this seat stand. No condition. -/
import Derived.Test.YtienhiloecfgnaaDoorK4
namespace Go.Ab
open Go Go.RowKit Go.Shelf Go.Proofs
section
variable {C : Ctx} {N : Nat}
theorem run_idxA {P : Program} {T E b off n s : Nat} {k : IntKind} {z : Int} {i : TypeInfo} {w : World} (hu : P.underlying T = some (.array n E)) (hi : P.info? E = some i) (hs : i.size = s) (h0 : 0 ≤ z) (hn : z < n) :
    (Instr.indexAt T (.pointer (some ⟨b, off, none⟩)) (.int k z)).run P w = .ok (.pointer (some ⟨b, off + z.toNat * s, none⟩)) w := by
  subst hs
  simp [Instr.indexAt, asIntOf, run_underlying hu, h0, hn, sizeOf, typeInfo, hi, addr_add, Instr.sureAddr]
theorem v_idxA {o : Oper} {st : St} {T E n s q : Nat} {x y : Operand} {cs : List FV} {k : IntKind} {z : Int} {i : TypeInfo} (ho : o.op = .indexAddr T x y) (hd : dstB N o.dst = true) (hu : C.P.underlying T = some (.array n E)) (hi : C.P.info? E = some i) (hs : i.size = s)
    (hx : st.ev C x = .f (.pt cs q)) (hy : st.ev C y = .f (.v (.int k z))) (h0 : 0 ≤ z) (hn : z < n) : ValOp C N o st (.f (.pt cs (q + z.toNat * s))) :=
  valop_run hd fun w0 a w J st' hA S => by
    have e1 := evF S ((hA.ev x (by simp [ho, Op.operands])).trans hx)
    have e2 := evV S ((hA.ev y (by simp [ho, Op.operands])).trans hy)
    generalize hv : a.eval x = v at e1
    cases e1 with
    | pt b off _ _ us h1 h2 h3 h4 =>
      refine ⟨.pointer (some ⟨b, off + q + z.toNat * s, none⟩), w, by simp [execOp, ho, hv, e2, run_idxA hu hi hs h0 hn], Ext.refl _, ?_⟩
      rw [Nat.add_assoc]
      exact RepF.pt b off _ _ us h1 h2 h3 h4
variable {Q : Exit → St → Prop} {st : St} {ops : Array Oper} {pr : Bool} {K : St → Prop} {rest : List Oper}
end
end Go.Ab
namespace Go.Ab
open Go Go.RowKit Go.Shelf Go.Proofs
section
variable {C : Ctx} {N : Nat} {Q : Exit → St → Prop} {st : St} {ops : Array Oper} {pr : Bool} {K : St → Prop} {rest : List Oper}
end
end Go.Ab
namespace Go.Ab
open Go Go.RowKit Go.Shelf Go.Proofs
section
variable {C : Ctx} {N : Nat} {st : St}
def aLoad (C : Ctx) (ty : TyD) (st : St) (x : Operand) : Option AV := match st.ev C x with
  | .f (.pt cs off) => match ty.scal with
    | true => match cs[off]? with
      | some c => some (.f c)
      | none => none
    | false => match ty.agg with
      | some n => match Nat.beq ((cs.drop off).take n).length n with
        | true => some (.f (.agg ((cs.drop off).take n)))
        | false => none
      | none => none
  | .bx i off => match st.h i with
    | some (.box cs) => match ty.scal with
      | true => cs[off]?
      | false => match ty.agg with
        | some n => match unL ((cs.drop off).take n) with
          | some sub => match Nat.beq sub.length n with
            | true => some (.f (.agg sub))
            | false => none
          | none => none
        | none => none
    | some (.row _ _ _ cs) => match ty.scal with
      | true => match cs[off]? with
        | some c => some (.f c)
        | none => none
      | false => none
    | some (.rowA _ _ _ _) => none
    | none => none
  | _ => none
theorem aLoad_ok {o : Oper} {T : TypeId} {x : Operand} {r : AV} (ty : Ty C.P) (ho : o.op = .load T x) (hd : dstB N o.dst = true) (h : aLoad C (ty.ty T) st x = some r) : ValOp C N o st r := by
  unfold aLoad at h
  split at h
  · rename_i cs off hx
    split at h
    · rename_i hT
      split at h
      · rename_i c hc
        cases h; exact v_load_pt ty ho hd hT hx hc
      · cases h
    · split at h
      · rename_i n hn
        split at h
        · rename_i hb
          cases h; exact v_load_pts ty ho hd hn hx rfl (Nat.eq_of_beq_eq_true hb)
        · cases h
      · cases h
  · rename_i i off hx
    split at h
    · rename_i cs hi
      split at h
      · rename_i hT
        exact v_load_bx ty ho hd hT hx hi h
      · split at h
        · rename_i n hn
          split at h
          · rename_i sub hs
            split at h
            · rename_i hb
              cases h; exact v_load_bxs ty ho hd hn hx hi (unL_spec hs) (Nat.eq_of_beq_eq_true hb)
            · cases h
          · cases h
        · cases h
    · rename_i cs hi
      split at h
      · rename_i hT
        split at h
        · rename_i c hc
          cases h; exact v_load_row ty ho hd hT hx hi hc
        · cases h
      · cases h
    · cases h
    · cases h
  · cases h
def aFld (C : Ctx) (ty : TyD) (st : St) (x : Operand) (f : Nat) : Option AV := match ty.fld[f]? with
  | some fo => match st.ev C x with
    | .f (.pt cs off) => some (.f (.pt cs (off + fo)))
    | .bx i off => some (.bx i (off + fo))
    | _ => none
  | none => none
theorem aFld_ok {o : Oper} {T f : Nat} {x : Operand} {r : AV} (ty : Ty C.P) (ho : o.op = .fieldAddr T x f) (hd : dstB N o.dst = true) (h : aFld C (ty.ty T) st x f = some r) : ValOp C N o st r := by
  unfold aFld at h
  split at h
  · rename_i fo hf
    split at h
    · rename_i cs off hx
      cases h; exact v_fld_pt ty ho hd hf hx
    · rename_i i off hx
      cases h; exact v_fld_bx ty ho hd hf hx
    · cases h
  · cases h
def aMv : AV → Option AV
  | .f (.v x) => some (.f (.v x))
  | .f (.sl n cs) => some (.f (.sl n cs))
  | .f (.pt cs o) => some (.f (.pt cs o))
  | .f (.agg cs) => some (.f (.agg cs))
  | .f y => some (.f y)
  | .bx i o => some (.bx i o)
  | .ow i => some (.ow i)
  | .bot => some .bot
  | .ag i cs => some (.ag i cs)
  | .fb f cs i => some (.fb f cs i)
theorem aMv_eq : ∀ a : AV, aMv a = some a := fun a => by
  unfold aMv; split <;> rfl
def aPick (C : Ctx) (st : St) (c x y : Operand) : Option AV := match st.ev C c with
  | .f (.v (.bool true)) => aMv (st.ev C x)
  | .f (.v (.bool false)) => aMv (st.ev C y)
  | _ => none
theorem aPick_ok {o : Oper} {c x y : Operand} {r : AV} (ho : o.op = .pick c x y) (hd : dstB N o.dst = true) (h : aPick C st c x y = some r) : ValOp C N o st r := by
  unfold aPick at h
  split at h
  · rename_i hc; rw [aMv_eq] at h; cases h; exact v_pickT ho hd hc rfl
  · rename_i hc; rw [aMv_eq] at h; cases h; exact v_pickF ho hd hc rfl
  · cases h
def aExt (C : Ctx) (st : St) (x : Operand) (i : Nat) : Option AV := match st.ev C x with
  | .f (.tup l) => match l[i]? with
    | some y => some (.f y)
    | none => none
  | _ => none
theorem aExt_ok {o : Oper} {x : Operand} {i : Nat} {r : AV} (ho : o.op = .extract x i) (hd : dstB N o.dst = true) (h : aExt C st x i = some r) : ValOp C N o st r := by
  unfold aExt at h
  split at h
  · rename_i l hx
    split at h
    · rename_i y hy; cases h; exact v_extract ho hd hx hy
    · cases h
  · cases h
def aNot (C : Ctx) (st : St) (x : Operand) : Option AV := match st.ev C x with
  | .f (.v (.bool b)) => some (.f (.v (.bool (!b))))
  | _ => none
theorem aNot_ok {o : Oper} {T : TypeId} {x : Operand} {r : AV} (ho : o.op = .unOp .not T x) (hd : dstB N o.dst = true) (h : aNot C st x = some r) : ValOp C N o st r := by
  unfold aNot at h
  split at h
  · rename_i b hx; cases h; exact v_un ho hd hx u_not
  · cases h
def aLen (C : Ctx) (ty : TyD) (st : St) (x : Operand) : Option AV := match ty.sl with
  | some _ => match st.ev C x with
    | .f (.sl n _) => some (.f (.v (.int .i64 n)))
    | .f (.v (.slice _ n _)) => some (.f (.v (.int .i64 n)))
    | .ow i => match st.h i with
      | some (.row _ _ n _) => some (.f (.v (.int .i64 n)))
      | _ => none
    | _ => none
  | none => match ty.str with
    | true => match st.ev C x with
      | .f (.v (.string s)) => some (.f (.v (.int .i64 s.size)))
      | _ => none
    | false => none
theorem aLen_ok {o : Oper} {T : TypeId} {x : Operand} {r : AV} (ty : Ty C.P) (ho : o.op = .call { callee := .builtin .len, args := #[x], argTypes := #[T] }) (hd : dstB N o.dst = true) (h : aLen C (ty.ty T) st x = some r) : ValOp C N o st r := by
  unfold aLen at h
  split at h
  · rename_i p hT
    obtain ⟨E, s, bs⟩ := p
    split at h
    · rename_i n cs hx; cases h; exact v_len ty ho hd hT hx
    · rename_i a n c hx; cases h; exact v_len_nil ty ho hd hT hx
    · rename_i i hx
      split at h
      · rename_i e sz n cs hi; cases h; exact v_len_ow ty ho hd hT hx hi
      · cases h
    · cases h
  · split at h
    · rename_i hs
      split at h
      · rename_i s hx; cases h; exact v_len_str ty hs ho hd hx
      · cases h
    · cases h
def aMM (C : Ctx) (st : St) (mn : Bool) (x y : Operand) : Option AV := match st.ev C x with
  | .f (.v (.int k p)) => match st.ev C y with
    | .f (.v (.int _ q)) => match mn with
      | true => some (.f (.v (.int k (min p q))))
      | false => some (.f (.v (.int k (max p q))))
    | _ => none
  | _ => none
def aCall (C : Ctx) (ty : Nat → TyD) (st : St) (b : Builtin) (l : List Operand) (ts : List TypeId) : Option AV := match b with
  | .len => match l with
    | [x] => match ts with
      | [T] => aLen C (ty T) st x
      | _ => none
    | _ => none
  | .min => match l with
    | [x, y] => match ts with
      | [_, _] => aMM C st true x y
      | _ => none
    | _ => none
  | .max => match l with
    | [x, y] => match ts with
      | [_, _] => aMM C st false x y
      | _ => none
    | _ => none
  | _ => none
theorem arr_of {α : Type} {a : Array α} {l : List α} (h : a.toList = l) : a = l.toArray := by
  subst h; simp
theorem aCall_ok {o : Oper} {b : Builtin} {args : Array Operand} {ts : Array TypeId} {r : AV} (ty : Ty C.P) (ho : o.op = .call { callee := .builtin b, args := args, argTypes := ts }) (hd : dstB N o.dst = true) (h : aCall C ty.ty st b args.toList ts.toList = some r) : ValOp C N o st r := by
  unfold aCall at h
  split at h
  · split at h
    · rename_i x hx
      split at h
      · rename_i T hT
        have e1 := arr_of hx
        have e2 := arr_of hT
        subst e1; subst e2
        exact aLen_ok ty ho hd h
      · cases h
    · cases h
  · split at h
    · rename_i x y hx
      split at h
      · rename_i T T' hT
        have e1 := arr_of hx
        have e2 := arr_of hT
        subst e1; subst e2
        unfold aMM at h
        split at h
        · rename_i k p hx
          split at h
          · rename_i k' q hy
            cases h; exact v_min2 ho hd hx hy
          · cases h
        · cases h
      · cases h
    · cases h
  · split at h
    · rename_i x y hx
      split at h
      · rename_i T T' hT
        have e1 := arr_of hx
        have e2 := arr_of hT
        subst e1; subst e2
        unfold aMM at h
        split at h
        · rename_i k p hx
          split at h
          · rename_i k' q hy
            cases h; exact v_max2 ho hd hx hy
          · cases h
        · cases h
      · cases h
    · cases h
  · cases h
def aBuild (C : Ctx) (ty : TyD) (st : St) (parts : List (Nat × Operand)) : Option AV := match ty.pl with
  | some pl => match ty.zero with
    | some zs => match st.evP C parts with
      | some xs => match fillF (fun i => pl[i]?) (zs.map .v) xs with
        | some cs => some (.f (.agg cs))
        | none => none
      | none => none
    | none => none
  | none => none
theorem aBuild_ok {o : Oper} {T : TypeId} {parts : Array (Nat × Operand)} {r : AV} (ty : Ty C.P) (ho : o.op = .build T parts) (hd : dstB N o.dst = true) (h : aBuild C (ty.ty T) st parts.toList = some r) : ValOp C N o st r := by
  unfold aBuild at h
  split at h
  · rename_i pl hpl
    split at h
    · rename_i zs hz
      split at h
      · rename_i xs hp
        split at h
        · rename_i cs hf; cases h; exact v_build ty ho hd hpl hz hp hf
        · cases h
      · cases h
    · cases h
  · cases h
def aBSl (C : Ctx) (ty : Nat → TyD) (st : St) (T len : Nat) (parts : List (Nat × Operand)) : Option AV := match (ty T).sl with
  | some (E, s, _) => match (ty E).zero with
    | some zs => match Nat.ble (len * s) 16777216 with
      | true => match st.evP C parts with
        | some xs => match fillF (fun i => some (i * s, s)) (initF zs (len * s)) xs with
          | some cs => some (.f (.sl len cs))
          | none => none
        | none => none
      | false => none
    | none => none
  | none => none
theorem aBSl_ok {o : Oper} {T len : TypeId} {parts : Array (Nat × Operand)} {r : AV} (ty : Ty C.P) (ho : o.op = .buildSlice T len parts) (hd : dstB N o.dst = true) (h : aBSl C ty.ty st T len parts.toList = some r) : ValOp C N o st r := by
  unfold aBSl at h
  split at h
  · rename_i E s bs hT
    split at h
    · rename_i zs hz
      split at h
      · rename_i hs
        split at h
        · rename_i xs hp
          split at h
          · rename_i cs hf; cases h; exact v_bslice ty ho hd hT hz (Nat.le_of_ble_eq_true hs) hp hf
          · cases h
        · cases h
      · cases h
    · cases h
  · cases h
def aBox (C : Ctx) (st : St) (x : Operand) : Option AV := match st.ev C x with
  | .f y => match cellsF y with
    | some cs => some (.f (.pt cs 0))
    | none => none
  | _ => none
theorem aBox_ok {o : Oper} {T : TypeId} {x : Operand} {r : AV} (ho : o.op = .box T x) (hd : dstB N o.dst = true) (h : aBox C st x = some r) : ValOp C N o st r := by
  unfold aBox at h
  split at h
  · rename_i y hx
    split at h
    · rename_i cs hc; cases h; exact v_box ho hd hx hc
    · cases h
  · cases h
def autoV (C : Ctx) (ty : Nat → TyD) (st : St) : Op → Option AV
  | .move x => aMv (st.ev C x)
  | .assign x => aMv (st.ev C x)
  | .load T x => aLoad C (ty T) st x
  | .fieldAddr T x f => aFld C (ty T) st x f
  | .pick c x y => aPick C st c x y
  | .extract x i => aExt C st x i
  | .unOp u _ x => match u with
    | .not => aNot C st x
    | _ => none
  | .build T parts => aBuild C (ty T) st parts.toList
  | .buildSlice T len parts => aBSl C ty st T len parts.toList
  | .box _ x => aBox C st x
  | .call c => match c with
    | ⟨.builtin b, args, ts⟩ => aCall C ty st b args.toList ts.toList
    | _ => none
  | _ => none
theorem autoV_ok {o : Oper} {r : AV} (ty : Ty C.P) (hd : dstB N o.dst = true) (h : autoV C ty.ty st o.op = some r) : ValOp C N o st r := by
  obtain ⟨d, op, T0, pos, af, g⟩ := o
  unfold autoV at h
  split at h
  · rename_i x e; rw [aMv_eq] at h; cases h; exact v_move e hd
  · rename_i x e; rw [aMv_eq] at h; cases h; exact v_assign e hd
  · rename_i T x e; exact aLoad_ok ty e hd h
  · rename_i T x f e; exact aFld_ok ty e hd h
  · rename_i c x y e; exact aPick_ok e hd h
  · rename_i x i e; exact aExt_ok e hd h
  · rename_i u T x e
    split at h
    · exact aNot_ok e hd h
    · cases h
  · rename_i T parts e; exact aBuild_ok ty e hd h
  · rename_i T len parts e; exact aBSl_ok ty e hd h
  · rename_i T x e; exact aBox_ok e hd h
  · rename_i c e
    split at h
    · rename_i b args ts; exact aCall_ok ty e hd h
    · cases h
  · cases h
end
end Go.Ab
namespace Go.Ab
open Go Go.RowKit Go.Shelf Go.Proofs
section
variable {C : Ctx} {N : Nat} {st : St}
def cArith (op : BinOp) (p q : Int) : Option (Int × Prop) := match op with
  | .add => some (p + q, -9223372036854775808 ≤ p + q ∧ p + q ≤ 9223372036854775807)
  | .sub => some (p - q, -9223372036854775808 ≤ p - q ∧ p - q ≤ 9223372036854775807)
  | .mul => some (p * q, -9223372036854775808 ≤ p * q ∧ p * q ≤ 9223372036854775807)
  | .quo => some (p / q, 0 ≤ p ∧ p ≤ 9223372036854775807 ∧ 1 ≤ q)
  | .rem => some (p % q, 0 ≤ p ∧ 1 ≤ q)
  | _ => none
def cBin (C : Ctx) (st : St) (op : BinOp) (x y : Operand) : Option (AV × Prop) := match st.ev C x with
  | .f (.v (.int .i64 p)) => match st.ev C y with
    | .f (.v (.int .i64 q)) => match cArith op p q with
      | some (z, P) => some (.f (.v (.int .i64 z)), P)
      | none => none
    | _ => none
  | _ => none
theorem cBin_ok {o : Oper} {op : BinOp} {T T' : TypeId} {x y : Operand} {r : AV} {P : Prop} (ho : o.op = .binOp op T x y T') (hd : dstB N o.dst = true) (h : cBin C st op x y = some (r, P)) (hp : P) : ValOp C N o st r := by
  unfold cBin at h
  split at h
  · rename_i p hx
    split at h
    · rename_i q hy
      split at h
      · rename_i z P' hz
        cases h
        unfold cArith at hz
        split at hz
        · cases hz; exact v_bin ho hd hx hy (b_add hp)
        · cases hz; exact v_bin ho hd hx hy (b_sub hp)
        · cases hz; exact v_bin ho hd hx hy (b_mul hp)
        · cases hz; exact v_bin ho hd hx hy (b_quo hp)
        · cases hz; exact v_bin ho hd hx hy (b_rem hp)
        · cases hz
      · cases h
    · cases h
  · cases h
def cNeg (C : Ctx) (st : St) (x : Operand) : Option (AV × Prop) := match st.ev C x with
  | .f (.v (.int .i64 p)) => some (.f (.v (.int .i64 (-p))), -9223372036854775807 ≤ p ∧ p ≤ 9223372036854775807)
  | _ => none
def natOf : Int → Option Nat
  | .ofNat m => some m
  | .negSucc _ => none
def cIdx (C : Ctx) (ty : TyD) (st : St) (x y : Operand) : Option (AV × Prop) := match ty.sl with
  | some (_, s, _) => match st.ev C y with
    | .f (.v (.int _ z)) => match st.ev C x with
      | .f (.sl n cs) => some (.f (.pt cs (z.toNat * s)), (0 ≤ z ∧ z < n) ∧ cs ≠ [])
      | .ow i => match st.h i with
        | some (.row _ _ n _) => some (.bx i (z.toNat * s), 0 ≤ z ∧ z < n)
        | _ => none
      | _ => none
    | _ => none
  | none => none
theorem cIdx_ok {o : Oper} {T : TypeId} {x y : Operand} {r : AV} {P : Prop} (ty : Ty C.P) (ho : o.op = .indexAddr T x y) (hd : dstB N o.dst = true) (h : cIdx C (ty.ty T) st x y = some (r, P)) (hp : P) : ValOp C N o st r := by
  unfold cIdx at h
  split at h
  · rename_i E s bs hT
    split at h
    · rename_i k z hy
      split at h
      · rename_i n cs hx
        cases h; exact v_idx ty ho hd hT hx hy hp.1.1 hp.1.2 hp.2
      · rename_i i hx
        split at h
        · rename_i e sz n cs hi
          cases h; exact v_idx_ow ty ho hd hT hx hi hy hp.1 hp.2
        · cases h
      · cases h
    · cases h
  · cases h
def cIdxN (C : Ctx) (ty : TyD) (st : St) (x y : Operand) : Option (AV × Prop) := match ty.sl with
  | some (_, s, _) => match st.ev C y with
    | .f (.v (.int _ z)) => match natOf z with
      | some m => match st.ev C x with
        | .f (.sl n cs) => some (.f (.pt cs (m * s)), m < n ∧ cs ≠ [])
        | .ow i => match st.h i with
          | some (.row _ _ n _) => some (.bx i (m * s), m < n)
          | _ => none
        | _ => none
      | none => none
    | _ => none
  | none => none
theorem natOf_spec {z : Int} {m : Nat} (h : natOf z = some m) : z = (m : Int) := by
  cases z with
  | ofNat k => simp [natOf] at h; subst h; rfl
  | negSucc k => simp [natOf] at h
theorem cIdxN_ok {o : Oper} {T : TypeId} {x y : Operand} {r : AV} {P : Prop} (ty : Ty C.P) (ho : o.op = .indexAddr T x y) (hd : dstB N o.dst = true) (h : cIdxN C (ty.ty T) st x y = some (r, P)) (hp : P) : ValOp C N o st r := by
  unfold cIdxN at h
  split at h
  · rename_i E s bs hT
    split at h
    · rename_i k z hy
      split at h
      · rename_i m hm
        have e := natOf_spec hm
        split at h
        · rename_i n cs hx
          cases h
          have := v_idx ty ho hd hT hx hy (by omega) (by omega) hp.2
          rw [e] at this
          exact this
        · rename_i i hx
          split at h
          · rename_i e' sz n cs hi
            cases h
            have := v_idx_ow ty ho hd hT hx hi hy (by omega) (by omega)
            rw [e] at this
            exact this
          · cases h
        · cases h
      · cases h
    · cases h
  · cases h
def condV (C : Ctx) (ty : Nat → TyD) (st : St) : Op → Option (AV × Prop)
  | .binOp op _ x y _ => cBin C st op x y
  | .unOp u _ x => match u with
    | .neg => cNeg C st x
    | _ => none
  | .indexAddr T x y => cIdxN C (ty T) st x y
  | _ => none
theorem condV_ok {o : Oper} {r : AV} {P : Prop} (ty : Ty C.P) (hd : dstB N o.dst = true) (h : condV C ty.ty st o.op = some (r, P)) (hp : P) : ValOp C N o st r := by
  obtain ⟨d, op, T0, pos, af, g⟩ := o
  unfold condV at h
  split at h
  · rename_i op T x y T' e; exact cBin_ok e hd h hp
  · rename_i u T x e
    split at h
    · unfold cNeg at h
      split at h
      · rename_i p hx; cases h; exact v_un e hd hx (u_neg hp)
      · cases h
    · cases h
  · rename_i T x y e
    exact cIdxN_ok ty e hd h hp
  · cases h
def cRel (op : BinOp) (p q : Int) : Option (Bool × Prop) := match op with
  | .lss => some (true, p < q)
  | .leq => some (true, p ≤ q)
  | .gtr => some (true, q < p)
  | .geq => some (true, q ≤ p)
  | .eql => some (true, p = q)
  | .neq => some (false, p = q)
  | _ => none
def cmpV (C : Ctx) (st : St) : Op → Option (Bool × Prop)
  | .binOp op _ x y _ => match st.ev C x with
    | .f (.v (.int k p)) => match st.ev C y with
      | .f (.v (.int k' q)) => match decEq k k' with
        | .isTrue _ => cRel op p q
        | .isFalse _ => none
      | _ => none
    | _ => none
  | _ => none
theorem cmpV_ok {o : Oper} {b : Bool} {P : Prop} (hd : dstB N o.dst = true) (h : cmpV C st o.op = some (b, P)) : ∃ D : Decidable P, ValOp C N o st (.f (.v (.bool (if @decide P D then b else !b)))) := by
  obtain ⟨d, op, T0, pos, af, g⟩ := o
  unfold cmpV at h
  split at h
  · rename_i op2 T x y T' e
    split at h
    · rename_i k p hx
      split at h
      · rename_i k' q hy
        split at h
        · rename_i hk _
          subst hk
          have key : ∀ (D : Decidable P) (bb : Bool), ValOp C N (⟨d, op, T0, pos, af, g⟩ : Oper) st (.f (.v (.bool bb))) → bb = (if @decide P D then b else !b) → ∃ D : Decidable P, ValOp C N (⟨d, op, T0, pos, af, g⟩ : Oper) st (.f (.v (.bool (if @decide P D then b else !b)))) := fun D bb hv hb => ⟨D, hb ▸ hv⟩
          unfold cRel at h
          split at h
          · cases h; exact key inferInstance _ (v_bin e hd hx hy b_lss) (by simp)
          · cases h; exact key inferInstance _ (v_bin e hd hx hy b_leq) (by simp)
          · cases h; exact key inferInstance _ (v_bin e hd hx hy b_gtr) (by simp)
          · cases h; exact key inferInstance _ (v_bin e hd hx hy b_geq) (by simp)
          · cases h; exact key inferInstance _ (v_bin e hd hx hy b_eql) (by simp)
          · cases h; exact key inferInstance _ (v_bin e hd hx hy b_neq) (by by_cases hpq : p = q <;> simp [hpq])
          · cases h
        · cases h
      · cases h
    · cases h
  · cases h
variable {ops : Array Oper} {pr : Bool} {K : St → Prop} {rest : List Oper} {d : Option Tmp} {op : Op} {T0 : TypeId} {pos : String} {af : Array Edge} {g : Option (Nat × Bool)}
theorem s_auto (ty : Ty C.P) {r : AV} (hw : wantB st ops ⟨d, op, T0, pos, af, g⟩ = some true) (hd : dstB N d = true) (h : autoV C ty.ty st op = some r) (k : R C N ops pr K rest (st.put d r)) : R C N ops pr K (⟨d, op, T0, pos, af, g⟩ :: rest) st := ⟨r_val hw (autoV_ok ty hd h) k.out⟩
theorem s_skip (hw : wantB st ops ⟨d, op, T0, pos, af, g⟩ = some false) (hd : dstB N d = true) (k : R C N ops pr K rest (st.put d (.f (.v undef)))) : R C N ops pr K (⟨d, op, T0, pos, af, g⟩ :: rest) st := ⟨r_skip hw hd k.out⟩
theorem s_cond (ty : Ty C.P) {r : AV} {P : Prop} (hw : wantB st ops ⟨d, op, T0, pos, af, g⟩ = some true) (hd : dstB N d = true) (h : condV C ty.ty st op = some (r, P)) (hp : P) (k : R C N ops pr K rest (st.put d r)) : R C N ops pr K (⟨d, op, T0, pos, af, g⟩ :: rest) st := ⟨r_val hw (condV_ok ty hd h hp) k.out⟩
theorem s_idxz (ty : Ty C.P) {T : TypeId} {x y : Operand} {r : AV} {P : Prop} (hw : wantB st ops ⟨d, .indexAddr T x y, T0, pos, af, g⟩ = some true) (hd : dstB N d = true) (h : cIdx C (ty.ty T) st x y = some (r, P)) (hp : P) (k : R C N ops pr K rest (st.put d r)) : R C N ops pr K (⟨d, .indexAddr T x y, T0, pos, af, g⟩ :: rest) st := ⟨r_val hw (cIdx_ok ty rfl hd h hp) k.out⟩
theorem s_cmpt {b : Bool} {P : Prop} (hw : wantB st ops ⟨d, op, T0, pos, af, g⟩ = some true) (hd : dstB N d = true) (h : cmpV C st op = some (b, P)) (hp : P) (k : R C N ops pr K rest (st.put d (.f (.v (.bool b))))) : R C N ops pr K (⟨d, op, T0, pos, af, g⟩ :: rest) st := by
  obtain ⟨D, hv⟩ := cmpV_ok (o := ⟨d, op, T0, pos, af, g⟩) hd h
  rw [if_pos (decide_eq_true hp)] at hv
  exact ⟨r_val hw hv k.out⟩
theorem s_cmpf {b : Bool} {P : Prop} (hw : wantB st ops ⟨d, op, T0, pos, af, g⟩ = some true) (hd : dstB N d = true) (h : cmpV C st op = some (b, P)) (hp : ¬ P) (k : R C N ops pr K rest (st.put d (.f (.v (.bool (!b)))))) : R C N ops pr K (⟨d, op, T0, pos, af, g⟩ :: rest) st := by
  obtain ⟨D, hv⟩ := cmpV_ok (o := ⟨d, op, T0, pos, af, g⟩) hd h
  rw [if_neg (by rw [decide_eq_false hp]; simp)] at hv
  exact ⟨r_val hw hv k.out⟩
theorem s_cl {f : Operand} {args : Array Operand} {ts : Array TypeId} {gf : Nat} {caps xs ys : List FV} {r : FV} (S : Summ C.P C.G gf ys r) (hw : wantB st ops ⟨d, .call { callee := .value f, args := args, argTypes := ts }, T0, pos, af, g⟩ = some true) (hd : dstB N d = true) (hf : st.ev C f = .f (.fn gf caps)) (hxs : st.evL C args.toList = some xs) (hys : xs ++ caps = ys) (k : R C N ops pr K rest (st.put d (.f r))) : R C N ops pr K (⟨d, .call { callee := .value f, args := args, argTypes := ts }, T0, pos, af, g⟩ :: rest) st := ⟨r_val hw (v_call S rfl hd hf hxs hys) k.out⟩
theorem s_ld (ty : Ty C.P) {T : TypeId} {x : Operand} {cs : List FV} {off : Nat} {c : FV} (hw : wantB st ops ⟨d, .load T x, T0, pos, af, g⟩ = some true) (hd : dstB N d = true) (hT : (ty.ty T).scal = true) (hx : st.ev C x = .f (.pt cs off)) (hc : cs[off]? = some c) (k : R C N ops pr K rest (st.put d (.f c))) : R C N ops pr K (⟨d, .load T x, T0, pos, af, g⟩ :: rest) st := ⟨r_val hw (v_load_pt ty rfl hd hT hx hc) k.out⟩
theorem s_lds (ty : Ty C.P) {T n : TypeId} {x : Operand} {cs sub : List FV} {off : Nat} (hw : wantB st ops ⟨d, .load T x, T0, pos, af, g⟩ = some true) (hd : dstB N d = true) (hT : (ty.ty T).agg = some n) (hx : st.ev C x = .f (.pt cs off)) (hc : (cs.drop off).take n = sub) (hl : sub.length = n) (k : R C N ops pr K rest (st.put d (.f (.agg sub)))) : R C N ops pr K (⟨d, .load T x, T0, pos, af, g⟩ :: rest) st := ⟨r_val hw (v_load_pts ty rfl hd hT hx hc hl) k.out⟩
end
end Go.Ab
namespace Go.Ab
open Go Go.RowKit Go.Shelf Go.Proofs
structure SeqS {α : Type} (P : Program) (G : Nat → Option (List FV)) (gf : Nat) (caps : List FV) (encs : α → Array Value) (L : List α) : Prop where
  enters : Enters P gf
  seq : ∀ (w : World) (M : Nat → Prop) (us : List Value), (∀ b, M b → b < w.heap.size) → (∀ g cs, G g = some cs → RepF w M (.pointer (some ⟨g, 0, none⟩)) (.pt cs 0)) → RepL w M us caps →
    SeqL P gf us.toArray encs L (fun A => w.heap.size ≤ A.heap.size ∧ ∀ b, b < w.heap.size → ¬ M b → A.heap[b]? = w.heap[b]?)
theorem Marks.mono {B B' : Nat} (h : B ≤ B') {W : World} : ∀ {ds : List Deferred}, Marks B' W ds → Marks B W ds
  | [], _ => trivial
  | _ :: _, ⟨⟨D, e, hB, r⟩, hs⟩ => ⟨⟨D, e, Nat.le_trans h hB, r⟩, Marks.mono h hs⟩
theorem Marks.lt {B : Nat} {W : World} : ∀ {ds : List Deferred}, Marks B W ds → ∀ D, markOf D ∈ ds → D < W.heap.size
  | [], _, _, h => by cases h
  | _ :: _, ⟨⟨D', e, _, h3, _⟩, hs⟩, D, h => by
    rcases List.mem_cons.1 h with h | h
    · rw [e] at h
      have : D = D' := by simpa [markOf] using h
      subst this
      exact (Array.getElem?_eq_some_iff.1 h3).1
    · exact Marks.lt hs D h
def ownM (h : Nat → Option Blk) (J : Nat → Value) (b : Nat) : Prop := ∃ i, (h i).isSome = true ∧ bk (J i) = some b
def rdC (C : Ctx) (nx : Nat) (X : Nat → Prop) (l : Option Nat) (p : Nat → Value) : Ctx := ⟨C.P, C.G, C.M0, X, l, fun i => bif Nat.blt i nx then some (p i) else none⟩
section
variable {C : Ctx} {N nx : Nat} {l : Option Nat} {p : Nat → Value}
theorem repA_ctx {C C' : Ctx} {w : World} {h : Nat → Option Blk} {J : Nat → Value} (hM : C'.M0 = C.M0) {v : Value} {x : AV} (r : RepA C w h J v x) : RepA C' w h J v x := by
  cases x with
  | f x => exact RepF.ext r (Ext.refl _) (fun b _ hb => by unfold Mb at hb ⊢; rwa [hM] at hb)
  | bx i off => exact r
  | ow i => exact r
  | bot => trivial
  | ag i cs => obtain ⟨hs, us, hv, ho, R⟩ := r; exact ⟨hs, us, hv, ho, R.conv fun _ _ q => RepF.ext q (Ext.refl _) (fun b _ hb => by unfold Mb at hb ⊢; rwa [hM] at hb)⟩
  | fb f cs i => obtain ⟨hs, us, b, hv, hb, R⟩ := r; exact ⟨hs, us, b, hv, hb, R.conv fun _ _ q => RepF.ext q (Ext.refl _) (fun b _ hb => by unfold Mb at hb ⊢; rwa [hM] at hb)⟩
theorem repF_ctx {C C' : Ctx} {w : World} {h : Nat → Option Blk} {J : Nat → Value} (hM : C'.M0 = C.M0) {v : Value} {x : FV} (r : RepF w (Mb C h J) v x) : RepF w (Mb C' h J) v x :=
  RepF.ext r (Ext.refl _) (fun b _ hb => by unfold Mb at hb ⊢; rwa [hM] at hb)
theorem Sim.into {w0 : World} {X : Nat → Prop} {st : St} {a : Act} {w : World} {J : Nat → Value} {l' : Option Nat} (S : Sim (rdC C nx X l p) w0 N st a w J) (hd : a.defers = []) : Sim (rdC C nx (ownM st.h J) l' p) w N st a w J := by
  refine ⟨Grew.refl _ _, S.size, by rw [hd]; exact ⟨trivial, fun _ => rfl⟩, fun t => repA_ctx rfl (S.slot t), fun i B hB => ?_, S.apart, fun b hb => ⟨Nat.lt_of_lt_of_le (S.old b hb).1 S.ext.le, fun ⟨i, hi, h⟩ => ?_⟩, fun g cs hg => repF_ctx rfl (S.glob g cs hg), S.fix⟩
  · exact (S.blk i B hB).conv0 (fun _ _ => rfl) (fun b hb _ => .inr ⟨i, by rw [hB]; rfl, hb⟩) (fun _ _ => repA_ctx rfl) (fun _ _ => repF_ctx rfl)
  · rcases (S.own_at hi h).1 with h2 | h2
    · have := (S.old b hb).1; omega
    · exact (S.old b hb).2 h2
def kept (nx : Nat) (s : Nat → AV) (ok : Nat → Prop) : Prop := ∀ t, match s t with
  | .f _ => True
  | .bot => True
  | .bx i _ => i < nx ∧ ok i
  | .ow _ => False
  | .ag _ _ => False
  | .fb .. => False
def boxAt (h : Nat → Option Blk) (i : Nat) : Prop := ∃ cells, h i = some (.box cells)
theorem Sim.again {w0 w wk : World} {h0 : Nat → Option Blk} {s : Nat → AV} {a a' : Act} {J J' : Nat → Value} {st' : St} {ok : Nat → Prop} (S : Sim C w0 N ⟨s, h0, nx⟩ a w J) (hp : p = J) (hk : kept nx s ok)
    (S' : Sim (rdC C nx (ownM h0 J) l p) w N st' a' wk J') (hb : ∀ i, ok i → boxAt st'.h i) : Sim (rdC C nx (ownM h0 J) none p) w N ⟨s, st'.h, nx⟩ { a with defers := [] } wk J' := by
  subst hp
  have hM : ∀ b, b < w.heap.size → Mb (rdC C nx (ownM h0 p) l p) st'.h J' b → Mb C h0 p b := by
    rintro b hlt (h | ⟨i, hi, hbi⟩)
    · exact .inl h
    · rcases (S'.own_at hi hbi).1 with h2 | h2
      · omega
      · exact .inr h2
  have same : ∀ b, b < w.heap.size → ¬ Mb C h0 p b → wk.heap[b]? = w.heap[b]? := fun b hlt hm => S'.ext.block b hlt (fun h => hm (.inr h))
  refine ⟨S'.ext, S.size, ⟨trivial, fun _ => rfl⟩, fun t => ?_, fun i B hB => ?_, S'.apart, S'.old, fun g cs hg => repF_ctx rfl (S'.glob g cs hg), S'.fix⟩
  · have h1 := S.slot t
    have h2 := hk t
    show RepA _ wk st'.h J' (a.tmps.getD t undef) (s t)
    simp only at h1
    cases hs : s t with
    | f x =>
      rw [hs] at h1
      exact RepF.mono h1 same S'.ext.le (fun b hlt hm => hM b hlt hm)
    | bx i off =>
      rw [hs] at h1 h2
      obtain ⟨hlt, hoki⟩ := h2
      obtain ⟨cells, hc⟩ := hb i hoki
      obtain ⟨_, b, hbb, hv⟩ := h1
      have e : J' i = p i := S'.fix i (p i) cells (by show (bif Nat.blt i nx then some (p i) else none) = some (p i); rw [show Nat.blt i nx = true from Nat.ble_eq_true_of_le hlt]; rfl) hc
      exact ⟨by rw [hc]; rfl, b, by rw [e]; exact hbb, hv⟩
    | ow i => rw [hs] at h2; exact h2.elim
    | bot => trivial
    | ag i cs => rw [hs] at h2; exact h2.elim
    | fb f cs i => rw [hs] at h2; exact h2.elim
  · exact (S'.blk i B hB).conv0 (fun _ _ => rfl) (fun _ _ h => h) (fun _ _ => repA_ctx rfl) (fun _ _ => repF_ctx rfl)
def Rng (N nx : Nat) (s : Nat → AV) (ok : Nat → Prop) (Q : Exit → St → Prop) (Cr : Ctx) (P1 : Prop) (F1 : Nat → Option Blk) : Exit → St → Prop
  | .normal, st => P1 ∧ Gh Cr N st ⟨fun _ => .bot, F1, nx⟩
  | .ret, st => ∃ h, Gh Cr N st ⟨fun _ => .bot, h, nx⟩ ∧ (∀ i, ok i → boxAt h i) ∧ Q .ret ⟨s, h, nx⟩
  | .exit id, st => ∃ h, Gh Cr N st ⟨fun _ => .bot, h, nx⟩ ∧ (∀ i, ok i → boxAt h i) ∧ Q (.exit id) ⟨s, h, nx⟩
  | _, _ => False
end
end Go.Ab
namespace Go.Ab
open Go Go.RowKit Go.Shelf Go.Proofs
section
variable {C : Ctx} {N : Nat} {st : St}
theorem v_bind {o : Oper} {op : BinOp} {T T' : TypeId} {x y : Operand} {a b : FV} {va vb v : Value} (ho : o.op = .binOp op T x y T') (hd : dstB N o.dst = true) (hx : st.ev C x = .f a) (hy : st.ev C y = .f b) (ha : detF a = some va) (hb : detF b = some vb)
    (hrun : ∀ w, (do eqGuard op T x y va vb; binOp op T va vb : Sem Value).run C.P w = .ok v w) : ValOp C N o st (.f (.v v)) :=
  valop_run hd fun w0 a w J st' hA S => by
    have e1 := detF_spec (evF S ((hA.ev x (by simp [ho, Op.operands])).trans hx)) ha
    have e2 := detF_spec (evF S ((hA.ev y (by simp [ho, Op.operands])).trans hy)) hb
    have := hrun w
    refine ⟨v, w, ?_, Ext.refl _, RepF.v v⟩
    simp only [execOp, ho, e1, e2, Sem.run_bind] at this ⊢
    rw [this]
    rfl
variable {ops : Array Oper} {pr : Bool} {K : St → Prop} {rest : List Oper} {d : Option Tmp} {op : BinOp} {T0 T T' : TypeId} {pos : String} {af : Array Edge} {g : Option (Nat × Bool)} {x y : Operand}
theorem s_bind {a b : FV} {va vb v : Value} (hw : wantB st ops ⟨d, .binOp op T x y T', T0, pos, af, g⟩ = some true) (hd : dstB N d = true) (hx : st.ev C x = .f a) (hy : st.ev C y = .f b) (ha : detF a = some va) (hb : detF b = some vb)
    (hrun : ∀ w, (do eqGuard op T x y va vb; binOp op T va vb : Sem Value).run C.P w = .ok v w) (k : R C N ops pr K rest (st.put d (.f (.v v)))) : R C N ops pr K (⟨d, .binOp op T x y T', T0, pos, af, g⟩ :: rest) st := ⟨r_val hw (v_bind rfl hd hx hy ha hb hrun) k.out⟩
theorem run_eqlB {P : Program} {p q : Bool} (hu : P.underlying T = some .bool) (w : World) : (Op.equal T (.bool p) (.bool q)).run P w = .ok (p == q) w := by
  unfold Op.equal
  show (Op.equalIn (9999 + 1) T (.bool p) (.bool q)).run P w = _
  unfold Op.equalIn
  rw [Sem.run_bind, run_underlying hu w]
  rfl
theorem b_neb {P : Program} {p q : Bool} (hu : P.underlying T = some .bool) (w : World) : (do eqGuard .neq T x y (.bool p) (.bool q); binOp .neq T (.bool p) (.bool q) : Sem Value).run P w = .ok (.bool (p != q)) w := by
  simp [eqGuard, binOp, run_eqlB hu]
  cases p <;> cases q <;> rfl
theorem s_neb {p q : Bool} (hu : C.P.underlying T = some .bool) (hw : wantB st ops ⟨d, .binOp .neq T x y T', T0, pos, af, g⟩ = some true) (hd : dstB N d = true) (hx : st.ev C x = .f (.v (.bool p))) (hy : st.ev C y = .f (.v (.bool q))) (k : R C N ops pr K rest (st.put d (.f (.v (.bool (p != q)))))) : R C N ops pr K (⟨d, .binOp .neq T x y T', T0, pos, af, g⟩ :: rest) st := ⟨r_val hw (v_bin rfl hd hx hy (b_neb hu)) k.out⟩
end
section
variable {C : Ctx} {N : Nat} {st : St} {ops : Array Oper} {pr : Bool} {K : St → Prop} {rest : List Oper} {d : Option Tmp} {op : Op} {T0 : TypeId} {pos : String} {af : Array Edge} {g : Option (Nat × Bool)}
def gate (N : Nat) (st : St) (ops : Array Oper) (o : Oper) : Bool := match wantB st ops o with
  | some true => dstB N o.dst
  | _ => false
theorem gate_spec {o : Oper} (h : gate N st ops o = true) : wantB st ops o = some true ∧ dstB N o.dst = true := by
  unfold gate at h
  split at h
  · rename_i h1; exact ⟨h1, h⟩
  · cases h
def gated {α : Type} (b : Bool) (x : Option α) : Option α := match b with
  | true => x
  | false => none
theorem gated_spec {α : Type} {b : Bool} {x : Option α} {y : α} (h : gated b x = some y) : b = true ∧ x = some y := by
  unfold gated at h
  split at h
  · exact ⟨rfl, h⟩
  · cases h
theorem s_a (ty : Ty C.P) {r : AV} (h : gated (gate N st ops ⟨d, op, T0, pos, af, g⟩) (autoV C ty.ty st op) = some r) (k : R C N ops pr K rest (st.put d r)) : R C N ops pr K (⟨d, op, T0, pos, af, g⟩ :: rest) st :=
  let ⟨h1, h2⟩ := gated_spec h; let ⟨h3, h4⟩ := gate_spec h1; s_auto ty h3 h4 h2 k
theorem s_c (ty : Ty C.P) {r : AV} {P : Prop} (h : gated (gate N st ops ⟨d, op, T0, pos, af, g⟩) (condV C ty.ty st op) = some (r, P)) (hp : P) (k : R C N ops pr K rest (st.put d r)) : R C N ops pr K (⟨d, op, T0, pos, af, g⟩ :: rest) st :=
  let ⟨h1, h2⟩ := gated_spec h; let ⟨h3, h4⟩ := gate_spec h1; s_cond ty h3 h4 h2 hp k
theorem s_z (ty : Ty C.P) {T : TypeId} {x y : Operand} {r : AV} {P : Prop} (h : gated (gate N st ops ⟨d, .indexAddr T x y, T0, pos, af, g⟩) (cIdx C (ty.ty T) st x y) = some (r, P)) (hp : P) (k : R C N ops pr K rest (st.put d r)) : R C N ops pr K (⟨d, .indexAddr T x y, T0, pos, af, g⟩ :: rest) st :=
  let ⟨h1, h2⟩ := gated_spec h; let ⟨h3, h4⟩ := gate_spec h1; s_idxz ty h3 h4 h2 hp k
theorem s_t {b : Bool} {P : Prop} (h : gated (gate N st ops ⟨d, op, T0, pos, af, g⟩) (cmpV C st op) = some (b, P)) (hp : P) (k : R C N ops pr K rest (st.put d (.f (.v (.bool b))))) : R C N ops pr K (⟨d, op, T0, pos, af, g⟩ :: rest) st :=
  let ⟨h1, h2⟩ := gated_spec h; let ⟨h3, h4⟩ := gate_spec h1; s_cmpt h3 h4 h2 hp k
theorem s_f {b : Bool} {P : Prop} (h : gated (gate N st ops ⟨d, op, T0, pos, af, g⟩) (cmpV C st op) = some (b, P)) (hp : ¬ P) (k : R C N ops pr K rest (st.put d (.f (.v (.bool (!b)))))) : R C N ops pr K (⟨d, op, T0, pos, af, g⟩ :: rest) st :=
  let ⟨h1, h2⟩ := gated_spec h; let ⟨h3, h4⟩ := gate_spec h1; s_cmpf h3 h4 h2 hp k
def skB (N : Nat) (st : St) (ops : Array Oper) (o : Oper) : Bool := match wantB st ops o with
  | some false => dstB N o.dst
  | _ => false
theorem s_s (h : skB N st ops ⟨d, op, T0, pos, af, g⟩ = true) (k : R C N ops pr K rest (st.put d (.f (.v undef)))) : R C N ops pr K (⟨d, op, T0, pos, af, g⟩ :: rest) st := by
  unfold skB at h
  split at h
  · rename_i h1; exact s_skip h1 h k
  · cases h
def callOf (C : Ctx) (st : St) (f : Operand) (args : List Operand) : Option (Nat × List FV) := match st.ev C f with
  | .f (.fn g caps) => match st.evL C args with
    | some xs => some (g, xs ++ caps)
    | none => none
  | _ => none
theorem callOf_spec {f : Operand} {args : List Operand} {gf : Nat} {ys : List FV} (h : callOf C st f args = some (gf, ys)) : ∃ caps xs, st.ev C f = .f (.fn gf caps) ∧ st.evL C args = some xs ∧ xs ++ caps = ys := by
  unfold callOf at h
  split at h
  · rename_i g caps hf
    split at h
    · rename_i xs hx; cases h; exact ⟨caps, xs, hf, hx, rfl⟩
    · cases h
  · cases h
theorem s_k {f : Operand} {args : Array Operand} {ts : Array TypeId} {gf : Nat} {ys : List FV} {r : FV} (S : Summ C.P C.G gf ys r) (h : gated (gate N st ops ⟨d, .call { callee := .value f, args := args, argTypes := ts }, T0, pos, af, g⟩) (callOf C st f args.toList) = some (gf, ys)) (k : R C N ops pr K rest (st.put d (.f r))) : R C N ops pr K (⟨d, .call { callee := .value f, args := args, argTypes := ts }, T0, pos, af, g⟩ :: rest) st :=
  let ⟨h1, h2⟩ := gated_spec h; let ⟨h3, h4⟩ := gate_spec h1; let ⟨_, _, q1, q2, q3⟩ := callOf_spec h2; s_cl S h3 h4 q1 q2 q3 k
theorem s_k1 {f : Operand} {args : Array Operand} {ts : Array TypeId} {gf : Nat} {ys : List FV} {r : FV} {P0 : Prop} (S : P0 → Summ C.P C.G gf ys r) (h : gated (gate N st ops ⟨d, .call { callee := .value f, args := args, argTypes := ts }, T0, pos, af, g⟩) (callOf C st f args.toList) = some (gf, ys)) (p0 : P0) (k : R C N ops pr K rest (st.put d (.f r))) : R C N ops pr K (⟨d, .call { callee := .value f, args := args, argTypes := ts }, T0, pos, af, g⟩ :: rest) st := s_k (S p0) h k
def ldOf (C : Ctx) (ty : TyD) (st : St) (x : Operand) : Option (List FV × Nat) := match ty.scal with
  | true => match st.ev C x with
    | .f (.pt cs off) => some (cs, off)
    | _ => none
  | false => none
theorem s_l (ty : Ty C.P) {T : TypeId} {x : Operand} {cs : List FV} {off : Nat} {c : FV} (h : gated (gate N st ops ⟨d, .load T x, T0, pos, af, g⟩) (ldOf C (ty.ty T) st x) = some (cs, off)) (hc : cs[off]? = some c) (k : R C N ops pr K rest (st.put d (.f c))) : R C N ops pr K (⟨d, .load T x, T0, pos, af, g⟩ :: rest) st := by
  obtain ⟨h1, h2⟩ := gated_spec h
  obtain ⟨h3, h4⟩ := gate_spec h1
  unfold ldOf at h2
  split at h2
  · rename_i hT
    split at h2
    · rename_i cs' off' hx; cases h2; exact s_ld ty h3 h4 hT hx hc k
    · cases h2
  · cases h2
def ldsOf (C : Ctx) (ty : TyD) (st : St) (x : Operand) : Option (List FV × Nat × Nat) := match ty.agg with
  | some n => match st.ev C x with
    | .f (.pt cs off) => some (cs, off, n)
    | _ => none
  | none => none
theorem s_m (ty : Ty C.P) {T n : TypeId} {x : Operand} {cs sub : List FV} {off : Nat} (h : gated (gate N st ops ⟨d, .load T x, T0, pos, af, g⟩) (ldsOf C (ty.ty T) st x) = some (cs, off, n)) (hc : (cs.drop off).take n = sub) (hl : sub.length = n) (k : R C N ops pr K rest (st.put d (.f (.agg sub)))) : R C N ops pr K (⟨d, .load T x, T0, pos, af, g⟩ :: rest) st := by
  obtain ⟨h1, h2⟩ := gated_spec h
  obtain ⟨h3, h4⟩ := gate_spec h1
  unfold ldsOf at h2
  split at h2
  · rename_i n' hT
    split at h2
    · rename_i cs' off' hx; cases h2; exact s_lds ty h3 h4 hT hx hc hl k
    · cases h2
  · cases h2
end
end Go.Ab
namespace Go.Proofs.YtienhiloecfgnaaDoor
open Go Go.RowKit Go.Proofs Go.Shelf Go.Ab
theorem laysF_ne {l : List Layer} (h : 0 < l.length) : laysF l ≠ [] := flat_ne (f := layF) (s := 3) (fun _ => rfl) (by decide) h
theorem celsF_ne {l : List Cel} (h : 0 < l.length) : celsF l ≠ [] := flat_ne (f := celF) (s := 2) (fun _ => rfl) (by decide) h
theorem celsF_sub {l : List Cel} {k : Nat} (h : k < l.length) : ((celsF l).drop (k * 2)).take 2 = celF l[k] := flat_sub (f := celF) (fun _ => rfl) h
theorem rngsF_ne {l : List Rng} (h : 0 < l.length) : rngsF l ≠ [] := flat_ne (f := rngF) (s := 2) (fun _ => rfl) (by decide) h
theorem rngsF_sub {l : List Rng} {k : Nat} (h : k < l.length) : ((rngsF l).drop (k * 2)).take 2 = rngF l[k] := flat_sub (f := rngF) (fun _ => rfl) h
theorem flasF_ne {l : List Flash} (h : 0 < l.length) : flasF l ≠ [] := flat_ne (f := flaF) (s := 7) (fun _ => rfl) (by decide) h
theorem flasF_sub {l : List Flash} {k : Nat} (h : k < l.length) : ((flasF l).drop (k * 7)).take 7 = flaF l[k] := flat_sub (f := flaF) (fun _ => rfl) h
theorem intsF_ne {l : List (Int)} (h : 0 < l.length) : intsF l ≠ [] := map_ne h
theorem intsF_at {l : List (Int)} {k : Nat} (h : k < l.length) : (intsF l)[k * 1]? = some (iv l[k]) := map_at h
theorem matF_ne {l : List (List Int)} (h : 0 < l.length) : matF l ≠ [] := map_ne h
theorem boolsF_ne {l : List (Bool)} (h : 0 < l.length) : boolsF l ≠ [] := map_ne h
theorem boolsF_at {l : List (Bool)} {k : Nat} (h : k < l.length) : (boolsF l)[k * 1]? = some (.v (.bool l[k])) := map_at h
theorem Within_t (n lo hi : Int) (h : lo ≤ n ∧ n ≤ hi) : Summ Tryd.prog GG 46 [iv n, iv lo, iv hi] (.v (.bool true)) := by
  have := Within_s n lo hi
  rwa [show withinB n lo hi = true by simp [withinB, h]] at this
theorem Within_f (n lo hi : Int) (h : ¬ (lo ≤ n ∧ n ≤ hi)) : Summ Tryd.prog GG 46 [iv n, iv lo, iv hi] (.v (.bool false)) := by
  have := Within_s n lo hi
  rwa [show withinB n lo hi = false by simp [withinB]; omega] at this
structure SpreadOk (x : Grid) (t l : List Int) : Prop where
  v : Valid x
  n1 : 1 ≤ t.length
  n2 : t.length ≤ 1000
  l2 : l.length ≤ 1000
  lay : ∀ k ∈ l, 0 ≤ k ∧ k < x.layers.length
  nn : ∀ z ∈ t, 0 ≤ z
  sum : t.sum ≤ 1000000000
structure TabOk (t cur : List Int) : Prop where
  len : cur.length = t.length
  nn : ∀ z ∈ cur, 0 ≤ z
  sum : cur.sum ≤ 1000000000
theorem SpreadOk.tab {x : Grid} {t l : List Int} (h : SpreadOk x t l) (s : Nat) : TabOk t (spreadL x t (l.take s)) := by
  have := spreadL_bd h.v (l.take s) t (fun k hk => h.lay k (List.mem_of_mem_take hk)) h.nn
  exact ⟨spreadL_len _ _ _, this.1, Int.le_trans this.2 h.sum⟩
structure BinOk (y : Layer) (n : Int) : Prop where
  a : 0 ≤ n ∧ n ≤ 1000000000
  b : 0 ≤ n * y.loss ∧ n * y.loss ≤ 1000000000000
  c : 0 ≤ restOf y n ∧ restOf y n ≤ n
  d : 0 ≤ restOf y n * y.scatter ∧ restOf y n * y.scatter ≤ 1000000000000
  e : 0 ≤ lateOf y n ∧ lateOf y n ≤ restOf y n
theorem TabOk.next {t cur : List Int} (h : TabOk t cur) {y : Layer} (v : LayerV y) (k : Nat) (hk : k ≤ t.length) : TabOk t (spreadTo y cur k) := by
  have := spreadTo_bd v h.nn k (by rw [h.len]; exact hk)
  exact ⟨(spreadTo_len _ _ _).trans h.len, this.1, Int.le_trans this.2 (Int.le_trans (take_sum_le h.nn k) h.sum)⟩
end Go.Proofs.YtienhiloecfgnaaDoor
namespace Go.Ab
open Go Go.RowKit Go.Shelf Go.Proofs
section
variable {C : Ctx} {N : Nat} {st : St} {ops : Array Oper} {pr : Bool} {K : St → Prop} {rest : List Oper}
theorem Sim.less {w0 : World} {a : Act} {w : World} {J : Nat → Value} {s : Nat → AV} {h : Nat → Option Blk} {n k : Nat} {B B' : Blk} (S : Sim C w0 N ⟨s, upd h k (some B'), n⟩ a w J) (m : More B B') : Sim C w0 N ⟨s, upd h k (some B), n⟩ a w J := by
  have live : ∀ i, (upd h k (some B) i).isSome = (upd h k (some B') i).isSome := fun i => by
    by_cases e : i = k
    · subst e; rw [upd_same, upd_same]; rfl
    · rw [upd_other _ _ e, upd_other _ _ e]
  have hM : ∀ b, b < w.heap.size → Mb C (upd h k (some B)) J b → Mb C (upd h k (some B')) J b := fun b _ q => q.imp id fun ⟨i, hi, hb⟩ => ⟨i, by rw [← live]; exact hi, hb⟩
  have conv : ∀ (v : Value) (x : AV), RepA C w (upd h k (some B')) J v x → RepA C w (upd h k (some B)) J v x := fun v x q => by
    cases x with
    | f x => exact RepF.ext q (Ext.refl _) hM
    | bx i off => exact ⟨by rw [live]; exact q.1, q.2⟩
    | ow i => exact ⟨by rw [live]; exact q.1, q.2⟩
    | bot => trivial
    | ag i cs => obtain ⟨hs, us, hv, ho, R⟩ := q; exact ⟨by rw [live]; exact hs, us, hv, ho, R.conv fun _ _ q => RepF.ext q (Ext.refl _) hM⟩
    | fb f cs i => obtain ⟨hs, us, b, hv, hb, R⟩ := q; exact ⟨by rw [live]; exact hs, us, b, hv, hb, R.conv fun _ _ q => RepF.ext q (Ext.refl _) hM⟩
  have cB : ∀ {i : Nat} {D : Blk}, RepB C w w0.heap.size (upd h k (some B')) J (J i) D → RepB C w w0.heap.size (upd h k (some B)) J (J i) D := fun q => q.conv0 (fun _ _ => rfl) (fun _ _ h => h) conv (fun _ _ q => RepF.ext q (Ext.refl _) hM)
  refine ⟨S.ext, S.size, S.defs, fun t => conv _ _ (S.slot t), fun i D hD => ?_, fun i j b hi hj => S.apart i j b (by rw [← live]; exact hi) (by rw [← live]; exact hj), S.old, fun g cs hg => RepF.ext (S.glob g cs hg) (Ext.refl _) hM, fun i p cells hp hc => ?_⟩
  · by_cases e : i = k
    · subst e
      simp only [upd_same, Option.some.injEq] at hD
      subst hD
      exact m.rep (cB (S.blk i B' (upd_same _ _ _)))
    · simp only [upd_other _ _ e] at hD
      exact cB (S.blk i D (by simp only [upd_other _ _ e]; exact hD))
  · by_cases e : i = k
    · subst e
      simp only [upd_same, Option.some.injEq] at hc
      rcases m with e2 | ⟨cs, cs', _, e2, _⟩
      · exact S.fix i p cells hp (by simp only [upd_same]; rw [e2, hc])
      · exact S.fix i p cs' hp (by simp only [upd_same]; rw [e2])
    · simp only [upd_other _ _ e] at hc
      exact S.fix i p cells hp (by simp only [upd_other _ _ e]; exact hc)
structure SD (C : Ctx) (N : Nat) (o : Oper) (K : St → Prop) (st : St) : Prop where
  out : ∃ k B, StoOp C N o st k B ∧ K { st with h := upd st.h k (some B) }
end
end Go.Ab
namespace Go.Ab
open Go Go.RowKit Go.Shelf Go.Proofs
section
variable {C : Ctx} {N : Nat} {st : St} {ops : Array Oper} {pr : Bool} {K : St → Prop} {rest : List Oper}
theorem Sim.swap {w0 : World} {a : Act} {w : World} {J : Nat → Value} {h' : Nat → Option Blk} (S : Sim C w0 N st a w J) (live : ∀ i, (h' i).isSome = (st.h i).isSome) (hB : ∀ i B, h' i = some B → RepB C w w0.heap.size st.h J (J i) B)
    (hfix : ∀ i cells, h' i = some (.box cells) → ∃ cells', st.h i = some (.box cells')) : Sim C w0 N { st with h := h' } a w J := by
  have hM : ∀ b, b < w.heap.size → Mb C h' J b → Mb C st.h J b := fun b _ q => q.imp id fun ⟨i, hi, hb⟩ => ⟨i, by rw [← live]; exact hi, hb⟩
  have conv : ∀ (v : Value) (x : AV), RepA C w st.h J v x → RepA C w h' J v x := fun v x q => by
    cases x with
    | f x => exact RepF.ext q (Ext.refl _) hM
    | bx i off => exact ⟨by rw [live]; exact q.1, q.2⟩
    | ow i => exact ⟨by rw [live]; exact q.1, q.2⟩
    | bot => trivial
    | ag i cs => obtain ⟨hs, us, hv, ho, R⟩ := q; exact ⟨by rw [live]; exact hs, us, hv, ho, R.conv fun _ _ q => RepF.ext q (Ext.refl _) hM⟩
    | fb f cs i => obtain ⟨hs, us, b, hv, hb, R⟩ := q; exact ⟨by rw [live]; exact hs, us, b, hv, hb, R.conv fun _ _ q => RepF.ext q (Ext.refl _) hM⟩
  refine ⟨S.ext, S.size, S.defs, fun t => conv _ _ (S.slot t), fun i D hD => ?_, fun i j b hi hj => S.apart i j b (by rw [← live]; exact hi) (by rw [← live]; exact hj), S.old, fun g cs hg => RepF.ext (S.glob g cs hg) (Ext.refl _) hM, fun i p cells hp hc => ?_⟩
  · exact (hB i D hD).conv0 (fun _ _ => rfl) (fun _ _ h => h) conv (fun _ _ q => RepF.ext q (Ext.refl _) hM)
  · obtain ⟨cells', hc'⟩ := hfix i cells hc
    exact S.fix i p cells' hp hc'
theorem gh_rowA (i : Nat) {e sz n : Nat} {cs : List FV} (hi : st.h i = some (.row e sz n cs)) : Gh C N st { st with h := upd st.h i (some (.rowA e sz n (cs.map .f))) } := fun w0 a w ⟨J, S⟩ => ⟨J, S.swap (fun j => by
    by_cases e : j = i
    · subst e; rw [upd_same, hi]; rfl
    · rw [upd_other _ _ e]) (fun j B hB => by
    by_cases e : j = i
    · subst e
      rw [upd_same] at hB; cases hB
      obtain ⟨xs, q1, q0, q2, q3⟩ := S.blk j _ hi
      refine ⟨xs, q1, q0, q2, q3.1.trans (by simp), fun k u x h1 h2 => ?_⟩
      rw [List.getElem?_map] at h2
      cases hk : cs[k]? with
      | none => simp [hk] at h2
      | some y => simp [hk] at h2; subst h2; exact q3.2 k u y h1 hk
    · rw [upd_other _ _ e] at hB; exact S.blk j B hB) (fun j cells hc => by
    by_cases e : j = i
    · subst e; rw [upd_same] at hc; cases hc
    · rw [upd_other _ _ e] at hc; exact ⟨cells, hc⟩)⟩
theorem gh_rowF (i : Nat) {e sz n : Nat} {cs : List FV} (hi : st.h i = some (.rowA e sz n (cs.map .f))) : Gh C N st { st with h := upd st.h i (some (.row e sz n cs)) } := fun w0 a w ⟨J, S⟩ => ⟨J, S.swap (fun j => by
    by_cases e : j = i
    · subst e; rw [upd_same, hi]; rfl
    · rw [upd_other _ _ e]) (fun j B hB => by
    by_cases e : j = i
    · subst e
      rw [upd_same] at hB; cases hB
      obtain ⟨xs, q1, q0, q2, q3, q4⟩ := S.blk j _ hi
      exact ⟨xs, q1, q0, q2, by simpa using q3, fun k u x h1 h2 => q4 k u (.f x) h1 (by simp [h2])⟩
    · rw [upd_other _ _ e] at hB; exact S.blk j B hB) (fun j cells hc => by
    by_cases e : j = i
    · subst e; rw [upd_same] at hc; cases hc
    · rw [upd_other _ _ e] at hc; exact ⟨cells, hc⟩)⟩
def mvA (i j : Nat) : AV → AV
  | .bx k off => bif Nat.beq k i then .bx j off else .bx k off
  | .ow k => bif Nat.beq k i then .ow j else .ow k
  | .ag k cs => bif Nat.beq k i then .ag j cs else .ag k cs
  | .fb f cs k => bif Nat.beq k i then .fb f cs j else .fb f cs k
  | x => x
def St.mv (st : St) (i j : Nat) (B : Blk) : St := { s := fun t => mvA i j (st.s t), h := fun k => bif Nat.beq k i then none else bif Nat.beq k j then some (B.map (mvA i j)) else (st.h k).map (Blk.map (mvA i j)), nx := st.nx }
theorem gh_mv (i j : Nat) {B : Blk} (hij : i ≠ j) (hi : st.h i = some B) (hj : st.h j = none) (hJ : ∀ k, C.J0 k = none) : Gh C N st (st.mv i j B) := fun w0 a w ⟨J, S⟩ => by
  refine ⟨upd J j (J i), ?_⟩
  have hji : Nat.beq j i = false := killA_ne (Ne.symm hij)
  have hat : (st.mv i j B).h j = some (B.map (mvA i j)) := by simp [St.mv, hji]
  have hgone : (st.mv i j B).h i = none := by simp [St.mv]
  have hoth : ∀ k, k ≠ i → k ≠ j → (st.mv i j B).h k = (st.h k).map (Blk.map (mvA i j)) := fun k h1 h2 => by simp [St.mv, killA_ne h1, killA_ne h2]
  have nj : ∀ k, (st.h k).isSome = true → k ≠ j := fun k h e => by subst e; rw [hj] at h; cases h
  have back : ∀ k b, ((st.mv i j B).h k).isSome = true → bk (upd J j (J i) k) = some b → ∃ k', (st.h k').isSome = true ∧ bk (J k') = some b ∧ (k' = i ↔ k = j) ∧ (k' ≠ i → k' = k) := fun k b h1 h2 => by
    by_cases e : k = j
    · subst e; rw [upd_same] at h2; exact ⟨i, by rw [hi]; rfl, h2, by simp, fun h => absurd rfl h⟩
    · rw [upd_other _ _ e] at h2
      have e2 : k ≠ i := fun e2 => by subst e2; rw [hgone] at h1; cases h1
      rw [hoth k e2 e] at h1
      exact ⟨k, by simpa using h1, h2, by simp [e, e2], fun _ => rfl⟩
  have hM : ∀ b, b < w.heap.size → Mb C (st.mv i j B).h (upd J j (J i)) b → Mb C st.h J b := by
    rintro b _ (h0 | ⟨k, hk, hb⟩)
    · exact .inl h0
    · obtain ⟨k', h1, h2, _⟩ := back k b hk hb
      exact .inr ⟨k', h1, h2⟩
  have conv : ∀ (v : Value) (x : AV), RepA C w st.h J v x → RepA C w (st.mv i j B).h (upd J j (J i)) v (mvA i j x) := fun v x q => by
    cases x with
    | f x => exact RepF.ext q (Ext.refl _) hM
    | bx k off =>
      by_cases e : k = i
      · subst e; simp only [mvA, Nat.beq_refl, cond_true]; exact ⟨by rw [hat]; rfl, by rw [upd_same]; exact q.2⟩
      · simp only [mvA, killA_ne e, cond_false]; exact ⟨by rw [hoth k e (nj k q.1)]; simpa using q.1, by rw [upd_other _ _ (nj k q.1)]; exact q.2⟩
    | ow k =>
      by_cases e : k = i
      · subst e; simp only [mvA, Nat.beq_refl, cond_true]; exact ⟨by rw [hat]; rfl, by rw [upd_same]; exact q.2⟩
      · simp only [mvA, killA_ne e, cond_false]; exact ⟨by rw [hoth k e (nj k q.1)]; simpa using q.1, by rw [upd_other _ _ (nj k q.1)]; exact q.2⟩
    | bot => trivial
    | fb f cs k =>
      obtain ⟨hs, us, b, hv, hb, R⟩ := q
      have R' : RepL w (Mb C (st.mv i j B).h (upd J j (J i))) us cs := R.conv fun _ _ q => RepF.ext q (Ext.refl _) hM
      by_cases e : k = i
      · subst e; simp only [mvA, Nat.beq_refl, cond_true]; exact ⟨by rw [hat]; rfl, us, b, hv, by rw [upd_same]; exact hb, R'⟩
      · simp only [mvA, killA_ne e, cond_false]; exact ⟨by rw [hoth k e (nj k hs)]; simpa using hs, us, b, hv, by rw [upd_other _ _ (nj k hs)]; exact hb, R'⟩
    | ag k cs =>
      obtain ⟨hs, us, hv, ho, R⟩ := q
      have R' : RepL w (Mb C (st.mv i j B).h (upd J j (J i))) us cs := R.conv fun _ _ q => RepF.ext q (Ext.refl _) hM
      by_cases e : k = i
      · subst e; simp only [mvA, Nat.beq_refl, cond_true]; exact ⟨by rw [hat]; rfl, us, by rw [upd_same]; exact hv, ho, R'⟩
      · simp only [mvA, killA_ne e, cond_false]; exact ⟨by rw [hoth k e (nj k hs)]; simpa using hs, us, by rw [upd_other _ _ (nj k hs)]; exact hv, ho, R'⟩
  have cB : ∀ {v : Value} {D : Blk}, RepB C w w0.heap.size st.h J v D → RepB C w w0.heap.size (st.mv i j B).h (upd J j (J i)) v (D.map (mvA i j)) := fun q => q.conv (mvA i j) (fun _ _ => rfl) (fun _ _ h => h) conv (fun _ _ q => RepF.ext q (Ext.refl _) hM)
  refine ⟨S.ext, S.size, S.defs, fun t => conv _ _ (S.slot t), fun k D hD => ?_, fun k l b hk hl hkb hlb => ?_, S.old, fun g cs hg => RepF.ext (S.glob g cs hg) (Ext.refl _) hM, fun k p cells hp _ => by rw [hJ] at hp; cases hp⟩
  · by_cases e : k = j
    · subst e; rw [hat] at hD; cases hD; rw [upd_same]; exact cB (S.blk i B hi)
    · have e2 : k ≠ i := fun e2 => by subst e2; rw [hgone] at hD; cases hD
      rw [hoth k e2 e, Option.map_eq_some_iff] at hD
      obtain ⟨B0, hB0, rfl⟩ := hD
      rw [upd_other _ _ e]; exact cB (S.blk k B0 hB0)
  · obtain ⟨k', p1, p2, p3, p4⟩ := back k b hk hkb
    obtain ⟨l', r1, r2, r3, r4⟩ := back l b hl hlb
    have e := S.apart k' l' b p1 r1 p2 r2
    by_cases ek : k' = i
    · rw [p3.1 ek, r3.1 (e ▸ ek)]
    · rw [← p4 ek, ← r4 (e ▸ ek), e]
theorem a_bsliceA {o : Oper} {T E bs i : Nat} {x : Operand} {zs : List Value} (ty : Ty C.P) (ho : o.op = .buildSlice T 1 #[(0, x)]) (hd : dstB N o.dst = true) (hT : (ty.ty T).sl = some (E, 1, bs)) (hz : (ty.ty E).zero = some zs) (hzl : zs.length = 1) (hx : st.ev C x = .ow i) : AllOp C N o st (.ow st.nx) (.rowA E 1 1 [.ow i]) := by
  intro w0 a w st' hA hn ⟨J, S⟩ K Q hK
  have e1 := S.eval x
  rw [hA.ev x (by simp [ho, Op.operands]), hx] at e1
  obtain ⟨hlv, hv⟩ := e1
  have hne : i ≠ st.nx := fun e => by subst e; rw [hn] at hlv; cases hlv
  obtain ⟨ad, n, c, hsl⟩ : ∃ ad n c, J i = .slice ad n c ∨ ∃ p, J i = .pointer p := by
    obtain ⟨B, hB⟩ := Option.isSome_iff_exists.1 hlv
    have r := S.blk i B hB
    cases B with
    | box cells => obtain ⟨b, T, us, q, _⟩ := r; exact ⟨none, 0, 0, .inr ⟨_, q⟩⟩
    | row => obtain ⟨xs, q, _⟩ := r; obtain ⟨ad, c, q⟩ := q.isSlice; exact ⟨ad, _, c, .inl q⟩
    | rowA => obtain ⟨xs, q, _⟩ := r; obtain ⟨ad, c, q⟩ := q.isSlice; exact ⟨ad, _, c, .inl q⟩
  have hcells : (J i).cells = #[J i] ∧ (J i).oneCell' = true := by
    rcases hsl with h | ⟨p, h⟩ <;> rw [h] <;> exact ⟨rfl, rfl⟩
  have hrun := run_buildSlice (w := w) (len := 1) (parts := #[((0 : Nat), J i)]) (us := #[J i]) ((ty.ok T).sl _ hT) ((ty.ok E).zero zs hz) (by decide) (fun z' hz' => by
    have e : z'.cells.size = 1 := by rw [← hzl, ← hz']; simp
    have e2 : (madeCells z'.cells (1 * 1)).size = 1 := by simp [size_madeCells]
    obtain ⟨y, hy⟩ : ∃ y, madeCells z'.cells (1 * 1) = #[y] := Array.size_eq_one_iff.1 e2
    rw [hy]
    simp [Instr.fill, hcells.1])
  refine op_value (show (execOp a.eval o).run C.P w = .ok (.value (.slice (some ⟨w.heap.size, 0, none⟩) 1 1)) (w.alloc (.cells #[J i] E)) by
    simp only [execOp, ho, Sem.run_bind, List.map_toArray, List.map_cons, List.map_nil, hv]
    rw [hrun]; rfl) ?_
  refine hK _ _ ⟨upd J st.nx (.slice (some ⟨w.heap.size, 0, none⟩) 1 1), S.al hn hd (Ext.alloc _ _) (fun c hc => by simp [bk] at hc; omega) ?_ ?_ (fun _ e => by cases e)⟩
  · refine ⟨[J i], ⟨by simp, .inr ⟨w.heap.size, 1, #[J i], rfl, Nat.zero_le _, World.alloc_heap_new _ _, Nat.le_refl _, by decide, by simp, by simp⟩⟩, fun b hb => .inl (by simp [bk] at hb; rw [← hb]; exact S.ext.le), by simpa using hcells.2, rfl, fun k u y h1 h2 => ?_⟩
    cases k with
    | zero =>
      simp at h1 h2; subst h1; subst h2
      exact ⟨by rw [upd_other _ _ hne]; exact hlv, by rw [upd_other _ _ hne]⟩
    | succ k => simp at h1
  · exact ⟨by rw [upd_same]; rfl, by rw [upd_same]⟩
theorem growA_conv {w0 : World} {a : Act} {w w' : World} {J : Nat → Value} (_S : Sim C w0 N st a w J) {i : Nat} (hi : (st.h i).isSome = true) {v' : Value} (g : w.grownBy w' (bk (J i))) (hv : ∀ c, bk v' = some c → bk (J i) = some c ∨ w.heap.size ≤ c) (B : Blk) {v : Value} {x : AV} (h : RepA C w st.h J v x) :
    RepA C w' (st.grow i B).h (upd J i v') v (killA i x) := by
  have hM : ∀ b, b < w.heap.size → Mb C (st.grow i B).h (upd J i v') b → Mb C st.h J b := by
    rintro b hb (h0 | ⟨j, hj, hjb⟩)
    · exact .inl h0
    by_cases e : j = i
    · subst e
      rw [upd_same] at hjb
      rcases hv b hjb with h | h
      · exact .inr ⟨j, hi, h⟩
      · omega
    · rw [upd_other _ _ e] at hjb
      refine .inr ⟨j, ?_, hjb⟩
      simpa [St.grow, killA_ne e] using hj
  have live : ∀ j, j ≠ i → ((st.grow i B).h j).isSome = (st.h j).isSome := fun j e => by simp [St.grow, killA_ne e]
  cases x with
  | f x => exact RepF.mono h (fun c hc hm => g.block c hc (fun e => hm (.inr ⟨i, hi, e.symm⟩))) g.size hM
  | bx j off =>
    by_cases e : j = i
    · subst e; simp [killA, RepA]
    · simp only [killA, killA_ne e, cond_false]; exact ⟨by rw [live j e]; exact h.1, by rw [upd_other _ _ e]; exact h.2⟩
  | ow j =>
    by_cases e : j = i
    · subst e; simp [killA, RepA]
    · simp only [killA, killA_ne e, cond_false]; exact ⟨by rw [live j e]; exact h.1, by rw [upd_other _ _ e]; exact h.2⟩
  | bot => trivial
  | fb f cs j =>
    by_cases e : j = i
    · subst e; simp [killA, RepA]
    · obtain ⟨hs, us, b, hv, hb, R⟩ := h
      simp only [killA, killA_ne e, cond_false]; exact ⟨by rw [live j e]; exact hs, us, b, hv, by rw [upd_other _ _ e]; exact hb, R.conv fun _ _ q => RepF.mono q (fun c hc hm => g.block c hc (fun e => hm (.inr ⟨i, hi, e.symm⟩))) g.size hM⟩
  | ag j cs =>
    by_cases e : j = i
    · subst e; simp [killA, RepA]
    · obtain ⟨hs, us, hv, ho, R⟩ := h
      simp only [killA, killA_ne e, cond_false]; exact ⟨by rw [live j e]; exact hs, us, by rw [upd_other _ _ e]; exact hv, ho, R.conv fun _ _ q => RepF.mono q (fun c hc hm => g.block c hc (fun e => hm (.inr ⟨i, hi, e.symm⟩))) g.size hM⟩
theorem e_appendA {o : Oper} {T i j n m e bs d : Nat} {x y : Operand} {cs ys : List AV} {zs : List Value} (ty : Ty C.P) (ho : o.op = .call { callee := .builtin .append, args := #[x, y], argTypes := #[T, T] }) (hd : o.dst = some d) (hdN : dstB N o.dst = true)
    (hT : (ty.ty T).sl = some (e, 1, bs)) (hz : (ty.ty e).zero = some zs) (hzl : zs.length = 1) (hx : st.ev C x = .ow i) (hi : st.h i = some (.rowA e 1 n cs)) (hy : st.ev C y = .ow j) (hj : st.h j = some (.rowA e 1 m ys))
    (h63 : n + m ≤ maxLen) (hbs : (n + m) * bs ≤ 140737488355328) : EffOp C N o st ((st.grow i (.rowA e 1 (n + m) ((cs ++ ys).map (killA i)))).put (some d) (.ow i)) :=
  effop_run fun w0 a w J S => by
    have e1 := S.eval x
    rw [hx] at e1
    obtain ⟨hlv, hv⟩ := e1
    have e2 := S.eval y
    rw [hy] at e2
    obtain ⟨hlj, hyv⟩ := e2
    obtain ⟨xs, q1, q0, q2, q3, q4⟩ := S.blk i _ hi
    obtain ⟨us, p1, p0, p2, p3, p4⟩ := S.blk j _ hj
    obtain ⟨hu, it, hi1, hi2, hi3⟩ := slE_spec ((ty.ok T).sl _ hT)
    obtain ⟨it', z, hi4, hzz, hzl'⟩ := zero_spec ((ty.ok e).zero zs hz)
    rw [hi1] at hi4; cases hi4
    have hzs : z.cells.size = 1 := by rw [← hzl, ← hzl']; simp
    have hul : us.length = m * 1 := p1.1
    obtain ⟨v', w', hrun, r1, r2, r3⟩ : ∃ v' w', (Builtin.append_ #[T, T] o.type #[J i, J j]).run C.P w = .ok v' w' ∧ w'.ownsRow 0 e 1 v' (n + m) (xs ++ us) ∧ w.grownBy w' (J i).ownBlock ∧ (v'.ownBlock = (J i).ownBlock ∨ v'.ownBlock = some w.heap.size) := by
      rcases p1.2 with ⟨ej, rfl⟩ | ⟨g, cap, cur, ej, _⟩
      · have hus : us = [] := List.eq_nil_of_length_eq_zero (by simpa using hul)
        subst hus
        rw [ej]
        exact ⟨J i, w, run_append_none C.P w _ T o.type e it 1 0 hu hi1 (J i) n xs q1, by simpa using q1, World.grownBy.refl _ _, .inl rfl⟩
      · have hown : (J j).ownBlock = some g := by rw [ej]; rfl
        rw [ej]
        obtain ⟨v', w', h1, h2, h3, _, h5⟩ := run_append_own_at (P := C.P) w 0 T o.type e it z 1 bs hu hi1 hzz hi2 hi3 hzs (by decide) (J i) n xs q1 ⟨g, 0, none⟩ m cap us hul (fun k u hk => p1.cells hown k u hk) p2 h63 hbs (Nat.zero_le _)
        exact ⟨v', w', h1, h2, h3, h5⟩
    refine ⟨.value v', v', w', ?_, .inl rfl, upd J i v', ?_⟩
    · simp only [execOp, ho, resolve, invoke, builtin, Sem.run_bind, Sem.run_pure, Result.andThen_ok, List.map_toArray, List.map_cons, List.map_nil, hv, hyv, hrun]
    · rw [← own_bk q1] at r2 r3
      rw [← own_bk r1] at r3
      have hvc : ∀ c, bk v' = some c → bk (J i) = some c ∨ w.heap.size ≤ c := fun c hc => by
        rcases r3 with h | h
        · left; rw [← h]; exact hc
        · right; rw [h] at hc; cases hc; exact Nat.le_refl _
      have G : Sim C w0 N (st.grow i (.rowA e 1 (n + m) ((cs ++ ys).map (killA i)))) a w' (upd J i v') := S.regrow hlv r2 hvc ⟨xs ++ us, r1, fun b hb => by
          rcases r3 with h | h
          · exact q0 b (by rw [← h]; exact hb)
          · rw [h] at hb; cases hb; exact .inl S.ext.le, fun u hu => by
          rcases List.mem_append.1 hu with h | h
          · exact q2 u h
          · exact p2 u h, by simp [q3, p3], fun k u y h1 h2 => by
          rw [List.getElem?_map, Option.map_eq_some_iff] at h2
          obtain ⟨y0, h2, rfl⟩ := h2
          refine growA_conv S hlv r2 hvc _ ?_
          by_cases hk : k < xs.length
          · rw [List.getElem?_append_left hk] at h1
            rw [List.getElem?_append_left (by omega)] at h2
            exact q4 k u y0 h1 h2
          · rw [List.getElem?_append_right (by omega)] at h1
            rw [List.getElem?_append_right (by omega), ← q3] at h2
            exact p4 _ u y0 h1 h2⟩ (fun _ e => by cases e)
      rw [hd] at hdN ⊢
      refine G.put hdN ?_
      refine ⟨?_, ?_⟩
      · show ((st.grow i _).h i).isSome = true
        simp [St.grow]
      · rw [upd_same]
theorem v_idx_owA {o : Oper} {T : TypeId} {x y : Operand} {cs : List AV} {i n e sz E s bs : Nat} {k : IntKind} {z : Int} (ty : Ty C.P) (ho : o.op = .indexAddr T x y) (hd : dstB N o.dst = true) (hT : (ty.ty T).sl = some (E, s, bs)) (hx : st.ev C x = .ow i) (hi : st.h i = some (.rowA e sz n cs)) (hy : st.ev C y = .f (.v (.int k z)))
    (h0 : 0 ≤ z) (hn : z < n) : ValOp C N o st (.bx i (z.toNat * s)) :=
  valop_run hd fun w0 a w J st' hA S => by
    have e1 := S.eval x
    rw [hA.ev x (by simp [ho, Op.operands]), hx] at e1
    have e2 := evV S ((hA.ev y (by simp [ho, Op.operands])).trans hy)
    obtain ⟨hl, hv⟩ := e1
    obtain ⟨xs, q1, q0, q2, q3⟩ := blkOf hA S hi hl
    rcases q1.2 with ⟨_, h⟩ | ⟨g, cap, cur, hj, _⟩
    · omega
    · refine ⟨_, w, by simp [execOp, ho, hv, e2, hj, run_idx ((ty.ok T).sl _ hT) h0 hn]; rfl, Ext.refl _, hl, g, by rw [hj]; rfl, by simp⟩
theorem v_load_rowA {o : Oper} {T : TypeId} {x : Operand} {cs : List AV} {e sz m i off : Nat} {c : AV} (ty : Ty C.P) (ho : o.op = .load T x) (hd : dstB N o.dst = true) (hT : (ty.ty T).scal = true) (hx : st.ev C x = .bx i off) (hi : st.h i = some (.rowA e sz m cs)) (hc : cs[off]? = some c) : ValOp C N o st c :=
  valop_run hd fun w0 a w J st' hA S => by
    have e1 := S.eval x
    rw [hA.ev x (by simp [ho, Op.operands]), hx] at e1
    obtain ⟨hl, b, hb, hv⟩ := e1
    obtain ⟨xs, q1, q0, q2, q3, q4⟩ := blkOf hA S hi hl
    have hlt : off < xs.length := by rw [q3]; exact (List.getElem?_eq_some_iff.1 hc).1
    have hu := List.getElem?_eq_getElem hlt
    have hown : (J i).ownBlock = some b := by
      obtain ⟨a1, c1, e2⟩ := q1.isSlice
      rw [e2] at hb ⊢
      cases a1 <;> simp [bk, Value.ownBlock] at hb ⊢; exact hb
    have hcell := q1.cells hown off _ hu
    rw [addr_add, Nat.zero_add] at hcell
    exact ⟨_, w, by simp [execOp, ho, hv, run_load_scal ((ty.ok T).scal hT) hcell], Ext.refl _, q4 off _ _ hu hc⟩
variable {d : Option Tmp} {T0 : TypeId} {pos : String} {af : Array Edge} {g : Option (Nat × Bool)}
theorem s_bsliceA (ty : Ty C.P) {T E bs i : Nat} {x : Operand} {zs : List Value} (hd : dstB N d = true) (hn : st.h st.nx = none) (hT : (ty.ty T).sl = some (E, 1, bs)) (hz : (ty.ty E).zero = some zs) (hzl : zs.length = 1) (hx : st.ev C x = .ow i) (k : R C N ops pr K rest ⟨(st.put d (.ow st.nx)).s, upd st.h st.nx (some (.rowA E 1 1 [.ow i])), st.nx + 1⟩) : R C N ops pr K (⟨d, .buildSlice T 1 #[(0, x)], T0, pos, af, none⟩ :: rest) st :=
  ⟨r_all rfl rfl hn (a_bsliceA ty rfl hd hT hz hzl hx) k.out⟩
theorem s_appendA (ty : Ty C.P) {T i j n m e bs d : Nat} {x y : Operand} {cs ys : List AV} {zs : List Value} (hdN : dstB N (some d) = true) (hT : (ty.ty T).sl = some (e, 1, bs)) (hz : (ty.ty e).zero = some zs) (hzl : zs.length = 1) (hx : st.ev C x = .ow i) (hi : st.h i = some (.rowA e 1 n cs)) (hy : st.ev C y = .ow j) (hj : st.h j = some (.rowA e 1 m ys))
    (h63 : n + m ≤ maxLen) (hbs : (n + m) * bs ≤ 140737488355328) (k : R C N ops false K rest ((st.grow i (.rowA e 1 (n + m) ((cs ++ ys).map (killA i)))).put (some d) (.ow i))) : R C N ops false K (⟨some d, .call { callee := .builtin .append, args := #[x, y], argTypes := #[T, T] }, T0, pos, af, none⟩ :: rest) st :=
  ⟨r_eff rfl (e_appendA ty rfl rfl hdN hT hz hzl hx hi hy hj h63 hbs) k.out⟩
theorem s_idxOA (ty : Ty C.P) {T : TypeId} {x y : Operand} {cs : List AV} {i n e sz E s bs : Nat} {ik : IntKind} {z : Int} (hw : wantB st ops ⟨d, .indexAddr T x y, T0, pos, af, g⟩ = some true) (hd : dstB N d = true) (hT : (ty.ty T).sl = some (E, s, bs)) (hx : st.ev C x = .ow i) (hi : st.h i = some (.rowA e sz n cs)) (hy : st.ev C y = .f (.v (.int ik z)))
    (h0 : 0 ≤ z) (hn : z < n) (k : R C N ops pr K rest (st.put d (.bx i (z.toNat * s)))) : R C N ops pr K (⟨d, .indexAddr T x y, T0, pos, af, g⟩ :: rest) st := ⟨r_val hw (v_idx_owA ty rfl hd hT hx hi hy h0 hn) k.out⟩
theorem s_ldA (ty : Ty C.P) {T : TypeId} {x : Operand} {cs : List AV} {i off n e sz : Nat} {c : AV} (hw : wantB st ops ⟨d, .load T x, T0, pos, af, g⟩ = some true) (hd : dstB N d = true) (hT : (ty.ty T).scal = true) (hx : st.ev C x = .bx i off) (hi : st.h i = some (.rowA e sz n cs)) (hc : cs[off]? = some c) (k : R C N ops pr K rest (st.put d c)) : R C N ops pr K (⟨d, .load T x, T0, pos, af, g⟩ :: rest) st := ⟨r_val hw (v_load_rowA ty rfl hd hT hx hi hc) k.out⟩
theorem s_idxR (ty : Ty C.P) {T : TypeId} {x y : Operand} {cs : List FV} {i n e sz E s bs : Nat} {ik : IntKind} {z : Int} (hw : wantB st ops ⟨d, .indexAddr T x y, T0, pos, af, g⟩ = some true) (hd : dstB N d = true) (hT : (ty.ty T).sl = some (E, s, bs)) (hx : st.ev C x = .ow i) (hi : st.h i = some (.row e sz n cs)) (hy : st.ev C y = .f (.v (.int ik z)))
    (h0 : 0 ≤ z) (hn : z < n) (k : R C N ops pr K rest (st.put d (.bx i (z.toNat * s)))) : R C N ops pr K (⟨d, .indexAddr T x y, T0, pos, af, g⟩ :: rest) st := ⟨r_val hw (v_idx_ow ty rfl hd hT hx hi hy h0 hn) k.out⟩
theorem s_ldR (ty : Ty C.P) {T : TypeId} {x : Operand} {cs : List FV} {i off n e sz : Nat} {c : FV} (hw : wantB st ops ⟨d, .load T x, T0, pos, af, g⟩ = some true) (hd : dstB N d = true) (hT : (ty.ty T).scal = true) (hx : st.ev C x = .bx i off) (hi : st.h i = some (.row e sz n cs)) (hc : cs[off]? = some c) (k : R C N ops pr K rest (st.put d (.f c))) : R C N ops pr K (⟨d, .load T x, T0, pos, af, g⟩ :: rest) st := ⟨r_val hw (v_load_row ty rfl hd hT hx hi hc) k.out⟩
end
def mRow (e : Nat) (rs : List (List FV)) (i : Nat) : Option Blk := (rs[i]?).map fun r => .row e 1 r.length r
def mR (e : Nat) (rs : List (List FV)) : Nat → Option Blk := fun i => bif Nat.ble 100 i then mRow e rs (i - 100) else none
def mOut (E : Nat) (rs : List (List FV)) : Blk := .rowA E 1 rs.length ((List.range rs.length).map fun r => .ow (r + 100))
def rowsF (rs : List (List FV)) : List FV := rs.map fun r => .sl r.length r
section
variable {C : Ctx} {N : Nat}
theorem mR_hi {e : Nat} {rs : List (List FV)} {i : Nat} (h : 100 ≤ i) : mR e rs i = mRow e rs (i - 100) := by
  unfold mR; rw [Nat.ble_eq_true_of_le h]; rfl
theorem mR_lo {e : Nat} {rs : List (List FV)} {i : Nat} (h : i < 100) : mR e rs i = none := by
  unfold mR
  have : Nat.ble 100 i = false := by
    cases e : Nat.ble 100 i
    · rfl
    · have := Nat.le_of_ble_eq_true e; omega
  rw [this]; rfl
theorem mR_at {e : Nat} {rs : List (List FV)} {r : Nat} (h : r < rs.length) : mR e rs (r + 100) = some (.row e 1 rs[r].length rs[r]) := by
  rw [mR_hi (by omega)]; simp [mRow, h]
theorem mR_out {e : Nat} {rs : List (List FV)} {r : Nat} (h : rs.length ≤ r) : mR e rs (r + 100) = none := by
  rw [mR_hi (by omega)]; simp [mRow, h]
theorem le_mR {e : Nat} {rs : List (List FV)} {h hc : Nat → Option Blk} (hh : ∀ r, r < rs.length → h (r + 100) = mR e rs (r + 100)) : ∀ i, mR e rs i = none ∨ ∃ B, mR e rs i = some B ∧ h i = some B ∧ closedB hc B := fun i => by
  by_cases h1 : 100 ≤ i
  · obtain ⟨r, rfl⟩ : ∃ r, i = r + 100 := ⟨i - 100, by omega⟩
    by_cases h2 : r < rs.length
    · exact .inr ⟨_, mR_at h2, (hh r h2).trans (mR_at h2), trivial⟩
    · exact .inl (mR_out (by omega))
  · exact .inl (mR_lo (by omega))
theorem mR_set {e r0 n : Nat} {rs : List (List FV)} {cs : List FV} {h : Nat → Option Blk} (h0 : r0 < rs.length) (hn : n = cs.length) (hh : ∀ r, r < rs.length → h (r + 100) = mR e rs (r + 100)) : ∀ r, r < (rs.set r0 cs).length → upd h (r0 + 100) (some (.row e 1 n cs)) (r + 100) = mR e (rs.set r0 cs) (r + 100) := fun r hr => by
  have hr' : r < rs.length := by simpa using hr
  rw [mR_at hr]
  by_cases e1 : r = r0
  · subst e1; rw [upd_same, hn]; simp
  · rw [upd_other _ _ (by omega), hh r hr', mR_at hr', List.getElem_set_ne (by omega)]
theorem mOut_closed {E : Nat} {rs : List (List FV)} {h : Nat → Option Blk} (hh : ∀ r, r < rs.length → (h (r + 100)).isSome = true) : closedB h (mOut E rs) := fun x hx => by
  obtain ⟨r, hr, rfl⟩ := List.mem_map.1 hx
  exact hh r (List.mem_range.1 hr)
theorem mOut_set {E r : Nat} {rs : List (List FV)} {cs : List FV} : mOut E (rs.set r cs) = mOut E rs := by simp [mOut]
theorem mOut_cl0 {e E : Nat} {rs : List (List FV)} {B0 : Option Blk} : closedB (upd (mR e rs) 0 B0) (mOut E rs) := mOut_closed fun r hr => by
  rw [upd_other _ _ (by omega), mR_at hr]; rfl
theorem mOut_cl1 {e E : Nat} {rs : List (List FV)} {B0 B1 : Option Blk} : closedB (upd (upd (mR e rs) 0 B0) 1 B1) (mOut E rs) := mOut_closed fun r hr => by
  rw [upd_other _ _ (by omega), upd_other _ _ (by omega), mR_at hr]; rfl
theorem mAdd_cl {e E : Nat} {rs : List (List FV)} {B0 : Option Blk} {B1 : Blk} {n : Nat} : closedB (upd (upd (mR e rs) 0 B0) 1 (some B1)) (.rowA E 1 n ((List.range rs.length).map (fun r => .ow (r + 100)) ++ [.ow 1])) := fun x hx => by
  rcases List.mem_append.1 hx with h | h
  · obtain ⟨r, hr, rfl⟩ := List.mem_map.1 h
    show (upd (upd (mR e rs) 0 B0) 1 (some B1) (r + 100)).isSome = true
    rw [upd_other _ _ (by omega), upd_other _ _ (by omega), mR_at (List.mem_range.1 hr)]; rfl
  · rw [List.mem_singleton.1 h]
    show (upd (upd (mR e rs) 0 B0) 1 (some B1) 1).isSome = true
    rw [upd_same]; rfl
theorem mv_bot {i j : Nat} : ∀ t, mvA i j ((fun _ : Nat => AV.bot) t) = (fun _ : Nat => AV.bot) t := fun _ => rfl
theorem mv_upd {i j k : Nat} {a : AV} {s : Nat → AV} (ha : mvA i j a = a) (hs : ∀ t, mvA i j (s t) = s t) : ∀ t, mvA i j (upd s k a t) = upd s k a t := fun t => by
  by_cases e : t = k
  · subst e; rw [upd_same]; exact ha
  · rw [upd_other _ _ e]; exact hs t
theorem kill_out {E i : Nat} (hi : i < 100) {rs : List (List FV)} : killB i (mOut E rs) = mOut E rs := by
  unfold killB mOut
  simp only [Blk.map, List.map_map]
  congr 1
  refine List.map_congr_left fun r _ => ?_
  simp only [Function.comp, killA, killA_ne (show r + 100 ≠ i by omega), cond_false]
theorem kill_hi' {e r i : Nat} {rs : List (List FV)} {o : Option Blk} (hr : r < rs.length) (h : o = mR e rs (r + 100)) : o.map (killB i) = mR e rs (r + 100) := by rw [h, mR_at hr]; rfl
theorem kill_cells (n : Nat) : ((List.range n).map (fun r => AV.ow (r + 100)) ++ [AV.ow 1]).map (killA 0) = (List.range n).map (fun r => AV.ow (r + 100)) ++ [AV.ow 1] := by
  rw [List.map_append, List.map_map]
  rfl
theorem gh_addrow {e E nx : Nat} {rs : List (List FV)} {row : List FV} {s : Nat → AV} (hs : ∀ t, mvA 1 (rs.length + 100) (s t) = s t) (hJ : ∀ k, C.J0 k = none) :
    Gh C N ⟨s, upd (upd (mR e rs) 0 (some (.rowA E 1 (rs.length + 1) ((List.range rs.length).map (fun r => .ow (r + 100)) ++ [.ow 1])))) 1 (some (.row e 1 row.length row)), nx⟩ ⟨s, upd (mR e (rs ++ [row])) 0 (some (mOut E (rs ++ [row]))), nx⟩ := fun w0 a w S => by
  refine (gh_mv 1 (rs.length + 100) (B := .row e 1 row.length row) (by omega) (by simp only [upd_same]) (by simp only []; rw [upd_other _ _ (by omega), upd_other _ _ (by omega)]; exact mR_out (Nat.le_refl _)) hJ w0 a w S).cast (fun t => (hs t).symm) (fun i => ?_)
  show upd (mR e (rs ++ [row])) 0 (some (mOut E (rs ++ [row]))) i = bif Nat.beq i 1 then none else bif Nat.beq i (rs.length + 100) then some ((Blk.row e 1 row.length row).map (mvA 1 (rs.length + 100))) else (upd (upd (mR e rs) 0 (some (.rowA E 1 (rs.length + 1) ((List.range rs.length).map (fun r => .ow (r + 100)) ++ [.ow 1])))) 1 (some (.row e 1 row.length row)) i).map (Blk.map (mvA 1 (rs.length + 100)))
  by_cases e1 : i = 1
  · subst e1; rw [upd_other _ _ (by omega), mR_lo (by omega)]; rfl
  rw [killA_ne e1, cond_false, upd_other _ _ e1]
  by_cases e0 : i = 0
  · subst e0
    rw [upd_same, upd_same, killA_ne (show 0 ≠ rs.length + 100 by omega), cond_false]
    simp only [Option.map_some, Blk.map, mOut, List.map_append, List.map_map, List.length_append, List.length_cons, List.length_nil, List.range_succ, List.map_cons, List.map_nil]
    rfl
  rw [upd_other _ _ e0, upd_other _ _ e0]
  by_cases e2 : i = rs.length + 100
  · subst e2
    rw [Nat.beq_refl, cond_true, mR_at (by simp)]
    simp [Blk.map]
  rw [killA_ne e2, cond_false]
  by_cases h1 : 100 ≤ i
  · obtain ⟨r, rfl⟩ : ∃ r, i = r + 100 := ⟨i - 100, by omega⟩
    by_cases h2 : r < rs.length
    · rw [mR_at h2, mR_at (by simp; omega), List.getElem_append_left h2]; rfl
    · have e3 : r ≠ rs.length := fun e => e2 (by rw [e])
      rw [mR_out (rs := rs) (by omega), mR_out (rs := rs ++ [row]) (by rw [List.length_append]; simp; omega)]; rfl
  · rw [mR_lo (by omega), mR_lo (by omega)]; rfl
theorem mOut_at {rs : List (List FV)} {r : Nat} (h : r < rs.length) : ((List.range rs.length).map fun r => AV.ow (r + 100))[r * 1]? = some (.ow (r + 100)) := by
  rw [Nat.mul_one]; simp [h]
def mOutK (E k : Nat) (rs : List (List FV)) : Blk := .rowA E 1 rs.length ((List.range rs.length).map fun r => if r < k then .f (.sl (rs.getD r []).length (rs.getD r [])) else .ow (r + 100))
def mFK (e E t k : Nat) (rs : List (List FV)) (nx : Nat) : St := ⟨upd (fun _ => .bot) t (.ow 0), fun i => if i = 0 then some (mOutK E k rs) else if k + 100 ≤ i then mRow e rs (i - 100) else none, nx⟩
theorem mFK_step {e E t k nx : Nat} {rs : List (List FV)} (hk : k < rs.length) : Gh C N (mFK e E t k rs nx) (mFK e E t (k + 1) rs nx) := fun w0 a w S => by
  have hrow : (mFK e E t k rs nx).h (k + 100) = some (.row e 1 rs[k].length rs[k]) := by simp [mFK, mRow, hk]
  refine (gh_row (k + 100) hrow w0 a w S).cast (fun u => ?_) (fun i => ?_)
  · show upd (fun _ => AV.bot) t (.ow 0) u = frzA (k + 100) (some (.sl rs[k].length rs[k])) rs[k] (upd (fun _ => AV.bot) t (.ow 0) u)
    by_cases e1 : u = t
    · subst e1; rw [upd_same]; simp only [frzA, killA_ne (show 0 ≠ k + 100 by omega), cond_false]
    · rw [upd_other _ _ e1]; rfl
  · show (if i = 0 then some (mOutK E (k + 1) rs) else if k + 1 + 100 ≤ i then mRow e rs (i - 100) else none) = bif Nat.beq i (k + 100) then none else ((if i = 0 then some (mOutK E k rs) else if k + 100 ≤ i then mRow e rs (i - 100) else none).map (frzB (k + 100) (some (.sl rs[k].length rs[k])) rs[k]))
    by_cases h0 : i = 0
    · subst h0
      rw [killA_ne (show 0 ≠ k + 100 by omega)]
      simp only [if_true, cond_false, Option.map_some, mOutK, frzB, Blk.map, List.map_map]
      congr 2
      refine List.map_congr_left fun r hr => ?_
      have hr := List.mem_range.1 hr
      simp only [Function.comp]
      by_cases h1 : r < k
      · rw [if_pos h1, if_pos (by omega)]; rfl
      · rw [if_neg h1]
        by_cases h2 : r = k
        · subst h2; rw [if_pos (by omega)]; simp [frzA, hk]
        · rw [if_neg (by omega)]; simp only [frzA, killA_ne (show r + 100 ≠ k + 100 by omega), cond_false]
    · rw [if_neg h0, if_neg h0]
      by_cases h1 : i = k + 100
      · subst h1; rw [if_neg (by omega)]; simp
      · rw [killA_ne h1, cond_false]
        by_cases h2 : k + 1 + 100 ≤ i
        · rw [if_pos h2, if_pos (by omega)]
          unfold mRow
          cases rs[i - 100]? <;> rfl
        · rw [if_neg h2, if_neg (by omega)]; rfl
theorem gh_toF {e E t : Nat} {rs : List (List FV)} {st : St} (ht : st.s t = .ow 0) (h0 : st.h 0 = some (mOut E rs)) (hh : ∀ r, r < rs.length → st.h (r + 100) = mR e rs (r + 100)) : Gh C N st (mFK e E t 0 rs 0) := by
  have hK : mOutK E 0 rs = mOut E rs := rfl
  refine gh_le ⟨le_upd ht.symm rfl (le_nil _), fun i => ?_⟩
  show (if i = 0 then some (mOutK E 0 rs) else if 0 + 100 ≤ i then mRow e rs (i - 100) else none) = none ∨ ∃ B, (if i = 0 then some (mOutK E 0 rs) else if 0 + 100 ≤ i then mRow e rs (i - 100) else none) = some B ∧ _
  by_cases e0 : i = 0
  · subst e0
    rw [if_pos rfl]
    refine .inr ⟨_, rfl, by rw [h0, hK], ?_⟩
    rw [hK]
    refine mOut_closed fun r hr => ?_
    simp [mFK, mRow, hr]
  rw [if_neg e0]
  by_cases h1 : 100 ≤ i
  · rw [if_pos (by omega), ← mR_hi h1]
    exact le_mR hh i
  · rw [if_neg (by omega)]; exact .inl rfl
theorem gh_mfrz {e E t nx : Nat} {rs : List (List FV)} : Gh C N (mFK e E t 0 rs nx) ⟨upd (fun _ => .bot) t (.f (.sl rs.length (rowsF rs))), fun _ => none, nx⟩ := by
  have go : ∀ k, k ≤ rs.length → Gh C N (mFK e E t 0 rs nx) (mFK e E t k rs nx) := fun k => by
    induction k with
    | zero => intro _; exact gh_refl _
    | succ k ih => intro hk; exact gh_trans (ih (by omega)) (mFK_step hk)
  refine gh_trans (go rs.length (Nat.le_refl _)) ?_
  have h0 : (mFK e E t rs.length rs nx).h 0 = some (.rowA E 1 rs.length ((rowsF rs).map .f)) := by
    show some (mOutK E rs.length rs) = _
    unfold mOutK rowsF
    rw [List.map_map]
    congr 2
    apply List.ext_getElem
    · simp
    · intro r h1 h2
      simp at h1
      simp [h1]
  refine gh_trans (gh_rowF 0 h0) (gh_trans (gh_row (e := E) (sz := 1) (n := rs.length) (cs := rowsF rs) 0 (by simp only [upd_same])) ?_)
  refine fun w0 a w S => S.cast (fun u => ?_) (fun i => ?_)
  · show upd (fun _ => AV.bot) t (.f (.sl rs.length (rowsF rs))) u = frzA 0 (some (.sl rs.length (rowsF rs))) (rowsF rs) (upd (fun _ => AV.bot) t (.ow 0) u)
    by_cases e1 : u = t
    · subst e1; rw [upd_same, upd_same]; rfl
    · rw [upd_other _ _ e1, upd_other _ _ e1]; rfl
  · show none = bif Nat.beq i 0 then none else ((upd (mFK e E t rs.length rs nx).h 0 (some (.row E 1 rs.length (rowsF rs))) i).map (frzB 0 (some (.sl rs.length (rowsF rs))) (rowsF rs)))
    by_cases e1 : i = 0
    · subst e1; rfl
    · rw [killA_ne e1, cond_false, upd_other _ _ e1]
      show none = Option.map _ (if i = 0 then some (mOutK E rs.length rs) else if rs.length + 100 ≤ i then mRow e rs (i - 100) else none)
      rw [if_neg e1]
      by_cases h2 : rs.length + 100 ≤ i
      · rw [if_pos h2]; unfold mRow; rw [List.getElem?_eq_none (by omega)]; rfl
      · rw [if_neg h2]; rfl
end
end Go.Ab
namespace Go.Ab
open Go Go.RowKit Go.Shelf Go.Proofs
section
variable {C : Ctx} {N : Nat} {st : St} {ops : Array Oper} {pr : Bool} {K : St → Prop} {rest : List Oper}
theorem ag_of {w : World} {h : Nat → Option Blk} {J : Nat → Value} {L : List Value} {j : Nat} {sub : List FV} (hl : L.length = sub.length + 1) (ho : ∀ u ∈ L, u.oneCell' = true) (hr : ∀ (k : Nat) (u : Value) (x : AV), L[k]? = some u → (AV.ow j :: sub.map .f)[k]? = some x → RepA C w h J u x) : RepA C w h J (.agg L.toArray) (.ag j sub) := by
  cases L with
  | nil => simp at hl
  | cons x us =>
    have h0 := hr 0 x (.ow j) rfl rfl
    refine ⟨h0.1, us, by rw [h0.2], fun u hu => ho u (List.mem_cons_of_mem _ hu), by simpa using hl, fun k u y h1 h2 => hr (k + 1) u (.f y) (by simpa using h1) (by simp [h2])⟩
theorem v_load_ag {o : Oper} {T : TypeId} {x : Operand} {cs : List AV} {i off n j : Nat} {sub : List FV} (ty : Ty C.P) (ho : o.op = .load T x) (hd : dstB N o.dst = true) (hT : (ty.ty T).agg = some n) (hx : st.ev C x = .bx i off) (hi : st.h i = some (.box cs)) (hc : (cs.drop off).take n = .ow j :: sub.map AV.f) (hn : sub.length + 1 = n) : ValOp C N o st (.ag j sub) :=
  valop_run hd fun w0 a w J st' hA S => by
    have e1 := S.eval x
    rw [hA.ev x (by simp [ho, Op.operands]), hx] at e1
    obtain ⟨hl, b, hb, hv⟩ := e1
    obtain ⟨b', T', us, q1, q2, q3, q4, q5, q6⟩ := blkOf hA S hi hl
    rw [q1] at hb; simp [bk] at hb; subst hb
    have hlen : ((us.toList.drop off).take n).length = n := by
      have := congrArg List.length hc
      simp [List.length_take, List.length_drop] at this ⊢
      omega
    refine ⟨.agg ((us.toList.drop off).take n).toArray, w, ?_, Ext.refl _, ag_of (hlen.trans hn.symm) (fun u hu => q5 u (List.mem_of_mem_drop (List.mem_of_mem_take hu))) (fun k u x h1 h2 => ?_)⟩
    · simp only [execOp, ho, hv, Sem.run_bind]
      rw [run_load_agg ((ty.ok T).agg n hT) ((us.toList.drop off).take n) hlen (fun k hk => ?_)]
      · rfl
      · rw [hlen] at hk
        rw [List.getElem?_take, if_pos hk, List.getElem?_drop]
        simp [World.cell?, q3]
    · rw [← hc, List.getElem?_take] at h2
      rw [List.getElem?_take] at h1
      split at h1
      · rename_i hk
        rw [if_pos hk, List.getElem?_drop] at h2
        rw [List.getElem?_drop] at h1
        exact q6 _ u x (by simpa using h1) h2
      · cases h1
structure SummS (P : Program) (G : Nat → Option (List FV)) (g : Nat) (args : List FV) (e sz n : Nat) (cs tl : List FV) : Prop where
  enters : Enters P g
  call : ∀ (w : World) (M : Nat → Prop) (us : List Value), (∀ b, M b → b < w.heap.size) → (∀ g cs, G g = some cs → RepF w M (.pointer (some ⟨g, 0, none⟩)) (.pt cs 0)) → RepL w M us args →
    Calls P g us.toArray w fun en w' => ∃ v xs rs, en = .returned (.agg (v :: rs).toArray) ∧ w'.ownsRow w.heap.size e sz v n xs ∧ (∀ u ∈ xs, u.oneCell' = true) ∧ RepL w' (fun b => M b ∨ bk v = some b) xs cs ∧ (∀ u ∈ rs, u.oneCell' = true) ∧ RepL w' (fun b => M b ∨ bk v = some b) rs tl ∧ Ext w w'
theorem a_callS {o : Oper} {f : Operand} {args : Array Operand} {ts : Array TypeId} {g e sz n : Nat} {caps xs ys cs tl : List FV} (K : SummS C.P C.G g ys e sz n cs tl) (ho : o.op = .call { callee := .value f, args := args, argTypes := ts }) (hd : dstB N o.dst = true) (hf : st.ev C f = .f (.fn g caps)) (hxs : st.evL C args.toList = some xs) (hys : xs ++ caps = ys) : AllOp C N o st (.ag st.nx tl) (.row e sz n cs) := by
  intro w0 a w st' hA hn ⟨J, S⟩ K1 Q hK
  have e1 := evF S ((hA.ev f (by simp [ho, Op.operands, Call.operands])).trans hf)
  have R := evL_rep (st := st) S (fun x hx => hA.ev x (by simp [ho, Op.operands, Call.operands]; exact .inr (by simpa using hx))) hxs
  generalize hv : a.eval f = v at e1
  cases e1 with
  | fn _ _ us h1 h2 =>
    subst hys
    refine op_enter (callEnter K.enters ho hv) ?_
    refine Calls.mono (K.call w (Mb C st'.h J) _ (mb_lt S) S.glob (RepL.append R ⟨h1, h2⟩)) ?_
    rintro en w' ⟨v', zs, rs, rfl, hown, hone, hr, hone2, hr2, he⟩
    have hlt : ∀ c, bk v' = some c → w.heap.size ≤ c := fun c hc => (hown.lt c (by rw [← own_bk hown]; exact hc)).1
    have hMM : ∀ b, b < w'.heap.size → Mb C (upd st'.h st.nx (some (.row e sz n cs))) (upd J st.nx v') b → Mb C st'.h J b ∨ bk v' = some b := by
      rintro b _ (h0 | ⟨i, hi, hbi⟩)
      · exact .inl (.inl h0)
      by_cases e : i = st.nx
      · subst e; rw [upd_same] at hbi; exact .inr hbi
      · rw [upd_other _ _ e] at hi hbi; exact .inl (.inr ⟨i, hi, hbi⟩)
    exact hK _ w' ⟨upd J st.nx v', S.al hn hd he hlt ⟨zs, hown.below (Nat.zero_le _), fun b hb => .inl (Nat.le_trans S.ext.le (hlt b hb)), hone, hr.mono (fun _ _ _ => rfl) (Nat.le_refl _) hMM⟩ ⟨by rw [upd_same]; rfl, rs, by rw [upd_same], hone2, hr2.mono (fun _ _ _ => rfl) (Nat.le_refl _) hMM⟩ (fun _ e => by cases e)⟩
theorem a_copy {o : Oper} {T m e sz bs : Nat} {x y : Operand} {ys : List FV} {zs : List Value} (ty : Ty C.P) (ho : o.op = .call { callee := .builtin .append, args := #[x, y], argTypes := #[T, T] }) (hd : dstB N o.dst = true)
    (hT : (ty.ty T).sl = some (e, sz, bs)) (hz : (ty.ty e).zero = some zs) (hzl : zs.length = sz) (hsz : 0 < sz) (hx : st.ev C x = .f (.slc 0 [])) (hy : st.ev C y = .f (.sl m ys)) (hm : 0 < m) (hl : ys.length = m * sz)
    (h63 : m ≤ maxLen) (hbs : m * bs ≤ 140737488355328) : AllOp C N o st (.ow st.nx) (.row e sz m ys) := by
  intro w0 a w st' hA hn ⟨J, S⟩ K1 Q hK
  have e1 := evF S ((hA.ev x (by simp [ho, Op.operands, Call.operands])).trans hx)
  have e2 := evF S ((hA.ev y (by simp [ho, Op.operands, Call.operands])).trans hy)
  obtain ⟨hu, it, hi1, hi2, hi3⟩ := slE_spec ((ty.ok T).sl _ hT)
  obtain ⟨it', z, hi4, hzz, hzl'⟩ := zero_spec ((ty.ok e).zero zs hz)
  rw [hi1] at hi4; cases hi4
  have hzs : z.cells.size = sz := by rw [← hzl, ← hzl']; simp
  generalize hxv : a.eval x = xv at e1
  generalize hyv : a.eval y = yv at e2
  cases e1 with
  | slc ad1 _ _ vs o1 o1' o2 o3 o4 =>
  cases e2 with
  | sl ad _ c _ us p0 p1 p2 p3 p4 =>
    have hul : us.length = m * sz := p1.trans hl
    have hus : us ≠ [] := fun e => by
      have hp : 0 < m * sz := Nat.mul_pos hm hsz
      rw [e] at hul; simp at hul; omega
    obtain ⟨b, off, rfl, hlies⟩ := p3 hus
    have hnews : ∀ j u, us[j]? = some u → w.cell? ((⟨b, off, none⟩ : Addr).add j) = some u := fun j u hj => by
      rw [addr_add, hlies.at_ j (List.getElem?_eq_some_iff.1 hj).1]; exact hj
    have hv0 : vs = [] := List.eq_nil_of_length_eq_zero (by simpa using o1)
    subst hv0
    obtain ⟨v', w', hrun, r1, r2⟩ : ∃ v' w', (Builtin.append_ #[T, T] o.type #[.slice ad1 0 0, .slice (some ⟨b, off, none⟩) m c]).run C.P w = .ok v' w' ∧ w'.ownsRow w.heap.size e sz v' m us ∧ w.grownBy w' none := by
      cases ad1 with
      | some ad1 =>
        have := run_append_arg_grows (P := C.P) w T o.type e it z sz bs hu hi1 hzz hi2 hi3 hzs hsz ad1 0 0 [] (by simp) (fun j u hj => by simp at hj) ⟨b, off, none⟩ m c us hul hnews (by omega) (by omega) (by rw [Nat.zero_add]; exact hbs)
        simpa using this
      | none =>
        obtain ⟨v', w', h1, h2, h3, _⟩ := run_append_own (P := C.P) w w.heap.size T o.type e it z sz bs hu hi1 hzz hi2 hi3 hzs hsz (.slice none 0 0) 0 [] (World.ownsRow_nil w _ e sz) ⟨b, off, none⟩ m c us hul hnews p2 (by omega) (by rw [Nat.zero_add]; exact hbs) (Nat.le_refl _)
        exact ⟨v', w', h1, by simpa using h2, h3⟩
    have hex : Ext w w' := Ext.of_grown r2
    have hlt : ∀ c, bk v' = some c → w.heap.size ≤ c := fun c hc => (r1.lt c (by rw [← own_bk r1]; exact hc)).1
    refine op_value (show (execOp a.eval o).run C.P w = .ok (.value v') w' by
      simp only [execOp, ho, resolve, invoke, builtin, Sem.run_bind, Sem.run_pure, Result.andThen_ok, List.map_toArray, List.map_cons, List.map_nil, hxv, hyv, hrun]) ?_
    have R : RepL w (Mb C st'.h J) us ys := ⟨p1, p4⟩
    exact hK v' w' ⟨upd J st.nx v', S.al hn hd hex hlt ⟨us, r1.below (Nat.zero_le _), fun b hb => .inl (Nat.le_trans S.ext.le (hlt b hb)), p2, R.ext hex (hM_new hlt)⟩ ⟨by rw [upd_same]; rfl, by rw [upd_same]⟩ (fun _ e => by cases e)⟩
def RetS (_C : Ctx) (_N : Nat) (ty : Nat → TyD) (fn : Func) (e sz n : Nat) (cs tl : List FV) (st : St) : Prop := ∃ t T i j l, fn.results = #[.cell t T] ∧ (ty T).agg = some (tl.length + 1) ∧ st.s t = .bx i 0 ∧ st.h i = some (.box l) ∧ l.take (tl.length + 1) = .ow j :: tl.map .f ∧ st.h j = some (.row e sz n cs)
def LeavesS (C : Ctx) (N : Nat) (ty : Nat → TyD) (fn : Func) (e sz n : Nat) (cs tl : List FV) : Exit → St → Prop
  | .normal, st => RetS C N ty fn e sz n cs tl st
  | .ret, st => RetS C N ty fn e sz n cs tl st
  | _, _ => False
theorem summS_of {P : Program} {G : Nat → Option (List FV)} {f : Nat} {fn : Func} {c : Code} {args cs tl : List FV} {e sz m : Nat} (ty : Ty P) (hf : P.funcs[f]? = some fn) (hb : fn.body = some c) (hname : (fn.name == "runtime.NumGoroutine") = false) (n : Nat) (hn : fn.ntmps = n) (hl : args.length ≤ n)
    (h : ∀ M0 : Nat → Prop, W ⟨P, G, M0, fun _ => False, none, fun _ => none⟩ n c (LeavesS ⟨P, G, M0, fun _ => False, none, fun _ => none⟩ n ty.ty fn e sz m cs tl) (st0 args)) : SummS P G f args e sz m cs tl := by
  refine ⟨enters_of hf hname hb, fun w M us hM hG R => ?_⟩
  refine calls_of_wp_marks hf hb (wpIn_wide.1 ((h M).out w _ w _ ⟨fun _ => undef, Grew.refl _ _, ?_, ⟨trivial, fun _ => rfl⟩, fun t => ?_, fun i B hB => (by cases hB), fun i j b hi => (by cases hi), fun b hb => ⟨hM b hb, id⟩, fun g cs hg => (hG g cs hg).ext (Ext.refl _) (fun b _ (h : Mb ⟨P, G, M, fun _ => False, none, fun _ => none⟩ (fun _ => none) (fun _ => undef) b) => h.elim id (fun ⟨_, hi, _⟩ => by cases hi)), fun _ _ _ h => (by cases h)⟩ ?_))
  · have := R.1; simp [hn]; omega
  · have hMM : ∀ b, b < w.heap.size → Mb ⟨P, G, M, fun _ => False, none, fun _ => none⟩ (fun _ => none) (fun _ => undef) b → M b := fun b _ h => h.elim id (fun ⟨_, hi, _⟩ => by cases hi)
    show RepA _ w _ _ ((us.toArray ++ Array.replicate (fn.ntmps - us.toArray.size) undef).getD t undef) (match args[t]? with | some x => .f x | none => .bot)
    cases ha : args[t]? with
    | none => trivial
    | some x =>
      obtain ⟨u, hu, hr⟩ := R.get ha
      have hlt : t < us.length := (List.getElem?_eq_some_iff.1 hu).1
      have : (us.toArray ++ Array.replicate (fn.ntmps - us.toArray.size) undef).getD t undef = u := by
        rw [Array.getD_eq_getD_getElem?, Array.getElem?_append_left (by simpa using hlt)]
        simp [hu]
      rw [this]
      exact hr.ext (Ext.refl _) hMM
  · intro en st' a' w' q S'
    have fin : RetS ⟨P, G, M, fun _ => False, none, fun _ => none⟩ n ty.ty fn e sz m cs tl st' → ∀ W', KeepsP Obj.stays w.heap.size w' W' → ∃ v1, (results fn a'.tmps).run P W' = .ok v1 W' ∧ ∃ v xs rs, Ending.returned v1 = .returned (.agg (v :: rs).toArray) ∧ W'.ownsRow w.heap.size e sz v m xs ∧ (∀ u ∈ xs, u.oneCell' = true) ∧ RepL W' (fun b => M b ∨ bk v = some b) xs cs ∧ (∀ u ∈ rs, u.oneCell' = true) ∧ RepL W' (fun b => M b ∨ bk v = some b) rs tl ∧ Ext w W' := fun ⟨t, T, i, j, l, q1, qT, q2, q3, q4, q5⟩ W' hk => by
      obtain ⟨J, S1⟩ := S'
      have S2 := S1.keeps0 hk (Nat.le_refl _) (ds := []) ⟨trivial, fun _ => rfl⟩
      have hs := S2.slot t
      rw [q2] at hs
      obtain ⟨_, b, hbb, hv⟩ := hs
      obtain ⟨b', T', us', p1, p2, p3, p4, p5, p6⟩ := S2.blk i _ q3
      rw [p1] at hbb; simp [bk] at hbb; subst hbb
      have hlen : (us'.toList.take (tl.length + 1)).length = tl.length + 1 := by
        have := congrArg List.length q4
        simp [List.length_take] at this ⊢
        omega
      have hag : RepA ⟨P, G, M, fun _ => False, none, fun _ => none⟩ W' st'.h J (.agg (us'.toList.take (tl.length + 1)).toArray) (.ag j tl) := ag_of (by simpa using hlen) (fun u hu => p5 u (List.mem_of_mem_take hu)) (fun k u x h1 h2 => by
        rw [← q4, List.getElem?_take] at h2
        rw [List.getElem?_take] at h1
        split at h1
        · rename_i hk
          rw [if_pos hk] at h2
          exact p6 k u x (by simpa using h1) h2
        · cases h1)
      obtain ⟨_, rs, hv2, hrs, hR⟩ := hag
      obtain ⟨xs, o1, o0, o2, o3⟩ := S2.blk j _ q5
      have hrun : (rvS a'.tmps (.cell t T)).run P W' = .ok (.agg (us'.toList.take (tl.length + 1)).toArray) W' := cell_run hv (run_load_agg ((ty.ok T).agg _ qT) (us'.toList.take (tl.length + 1)) hlen (fun k hk => by
        rw [hlen] at hk
        rw [List.getElem?_take, if_pos hk]
        simp [World.cell?, p3]))
      have hMM : ∀ b, b < W'.heap.size → (M b ∨ bk (J j) = some b) → Mb ⟨P, G, M, fun _ => False, none, fun _ => none⟩ st'.h J b := fun b _ h => h.imp id (fun h => ⟨j, by rw [q5]; rfl, h⟩)
      refine ⟨.agg (us'.toList.take (tl.length + 1)).toArray, by rw [results_eq, q1]; simp [hrun], J j, xs, rs, by rw [hv2], ⟨o1.1, ?_⟩, o2, o3.mono (fun _ _ _ => rfl) (Nat.le_refl _) hMM, hrs, hR.mono (fun _ _ _ => rfl) (Nat.le_refl _) hMM, S2.ext.toExt⟩
      rcases o1.2 with h | ⟨g, cap, cur, h1, h2, h3⟩
      · exact .inl h
      · refine .inr ⟨g, cap, cur, h1, ?_, h3⟩
        rcases o0 g (by rw [h1]; rfl) with h | h
        · exact h
        · exact h.elim
    have hm : Marks w.heap.size w' a'.defers := let ⟨_, S2⟩ := S'; S2.defs.1
    cases en with
    | normal => exact bodyPostM_marksP (s := Obj.stays) (fun _ => rfl) _ hm (fin q)
    | ret => exact bodyPostM_marksP (s := Obj.stays) (fun _ => rfl) _ hm (fin q)
    | _ => exact q.elim
variable {d : Option Tmp} {T0 : TypeId} {pos : String} {af : Array Edge} {g : Option (Nat × Bool)}
theorem s_ldg (ty : Ty C.P) {T : TypeId} {x : Operand} {cs : List AV} {i off n j : Nat} {sub : List FV} (hw : wantB st ops ⟨d, .load T x, T0, pos, af, g⟩ = some true) (hd : dstB N d = true) (hT : (ty.ty T).agg = some n) (hx : st.ev C x = .bx i off) (hi : st.h i = some (.box cs)) (hc : (cs.drop off).take n = .ow j :: sub.map AV.f) (hn : sub.length + 1 = n) (k : R C N ops pr K rest (st.put d (.ag j sub))) : R C N ops pr K (⟨d, .load T x, T0, pos, af, g⟩ :: rest) st := ⟨r_val hw (v_load_ag ty rfl hd hT hx hi hc hn) k.out⟩
theorem s_callS {f : Operand} {args : Array Operand} {ts : Array TypeId} {gf e sz n : Nat} {caps xs ys cs tl : List FV} (S : SummS C.P C.G gf ys e sz n cs tl) (hd : dstB N d = true) (hn : st.h st.nx = none) (hf : st.ev C f = .f (.fn gf caps)) (hxs : st.evL C args.toList = some xs) (hys : xs ++ caps = ys) (k : R C N ops pr K rest ⟨(st.put d (.ag st.nx tl)).s, upd st.h st.nx (some (.row e sz n cs)), st.nx + 1⟩) : R C N ops pr K (⟨d, .call { callee := .value f, args := args, argTypes := ts }, T0, pos, af, none⟩ :: rest) st := ⟨r_all rfl rfl hn (a_callS S rfl hd hf hxs hys) k.out⟩
theorem s_copy (ty : Ty C.P) {T m e sz bs : Nat} {x y : Operand} {ys : List FV} {zs : List Value} (hd : dstB N d = true) (hn : st.h st.nx = none) (hT : (ty.ty T).sl = some (e, sz, bs)) (hz : (ty.ty e).zero = some zs) (hzl : zs.length = sz) (hsz : Nat.blt 0 sz = true) (hx : st.ev C x = .f (.slc 0 [])) (hy : st.ev C y = .f (.sl m ys)) (hm : 0 < m) (hl : ys.length = m * sz) (h63 : m ≤ maxLen) (hbs : m * bs ≤ 140737488355328) (k : R C N ops pr K rest ⟨(st.put d (.ow st.nx)).s, upd st.h st.nx (some (.row e sz m ys)), st.nx + 1⟩) : R C N ops pr K (⟨d, .call { callee := .builtin .append, args := #[x, y], argTypes := #[T, T] }, T0, pos, af, none⟩ :: rest) st :=
  ⟨r_all rfl rfl hn (a_copy ty rfl hd hT hz hzl (Nat.lt_of_lt_of_le (Nat.zero_lt_succ 0) (Nat.le_of_ble_eq_true hsz)) hx hy hm hl h63 hbs) k.out⟩
end
end Go.Ab
namespace Go.Ab
open Go Go.RowKit Go.Shelf Go.Proofs
def LastOk (w : World) (M : Nat → Prop) (b : Nat) (u : Value) : AV → Prop
  | .bx _ off => u = .pointer (some ⟨b, off, none⟩)
  | .fb f cs _ => ∃ us : List Value, u = .func (.func f) #[] (us ++ [Value.pointer (some ⟨b, 0, none⟩)]).toArray ∧ RepL w M us cs
  | _ => False
structure SummX (P : Program) (G : Nat → Option (List FV)) (g : Nat) (args : List FV) (last : AV) (c1 r c2 : FV) : Prop where
  enters : Enters P g
  call : ∀ (w : World) (M : Nat → Prop) (us : List Value) (u : Value) (b : Nat) (T : TypeId) (v1 : Value), (∀ c, M c → c < w.heap.size) → ¬ M b → (∀ g cs, G g = some cs → RepF w (fun c => M c ∨ c = b) (.pointer (some ⟨g, 0, none⟩)) (.pt cs 0)) →
    RepL w (fun c => M c ∨ c = b) us args → LastOk w (fun c => M c ∨ c = b) b u last → w.heap[b]? = some (.cells #[v1] T (0, 0)) → v1.oneCell' = true → RepF w (fun c => M c ∨ c = b) v1 c1 →
    Calls P g (us ++ [u]).toArray w fun en w' => ∃ v v2 T2, en = .returned v ∧ RepF w' (fun c => M c ∨ c = b) v r ∧ w'.heap[b]? = some (.cells #[v2] T2 (0, 0)) ∧ v2.oneCell' = true ∧ RepF w' (fun c => M c ∨ c = b) v2 c2 ∧ w.grownBy w' (some b)
section
variable {C : Ctx} {N : Nat} {st : St} {ops : Array Oper} {pr : Bool} {K : St → Prop} {rest : List Oper}
theorem callX {P : Program} {G : Nat → Option (List FV)} {g i : Nat} {ys : List FV} {last : AV} {c1 r c2 : FV} (hP : C.P = P) (hG : C.G = G) (K : SummX P G g ys last c1 r c2) {w0 : World} {a : Act} {w : World} {J : Nat → Value} (S : Sim C w0 N st a w J) (hi : st.h i = some (.box [.f c1])) {us : List Value} {u : Value}
    (R : RepL w (Mb C st.h J) us ys) (hL : ∀ b, bk (J i) = some b → LastOk w (Mb C st.h J) b u last) {d : Option Tmp} (hd : dstB N d = true) {Kc : Act → World → Prop} (hK : ∀ v w', SimE C w0 N ({ st with h := upd st.h i (some (.box [.f c2])) }.put d (.f r)) (a.put d v) w' → Kc (a.put d v) w') :
    Calls P g (us ++ [u]).toArray w fun en w' => ∃ v, en = .returned v ∧ Kc (a.put d v) w' := by
  subst hP; subst hG
  have hlv : (st.h i).isSome = true := by rw [hi]; rfl
  obtain ⟨b, T, vs, q1, q2, q3, q4, q5, q6⟩ := S.blk i _ hi
  have hb : bk (J i) = some b := by rw [q1]; rfl
  obtain ⟨v1, rfl⟩ : ∃ v1, vs = #[v1] := Array.size_eq_one_iff.1 (by simpa using q4)
  have hMle : ∀ c, c < w.heap.size → ((Mb C st.h J c ∧ c ≠ b) ∨ c = b) → Mb C st.h J c := fun c _ h => h.elim (fun h => h.1) (fun h => .inr ⟨i, hlv, by rw [h]; exact hb⟩)
  have hLx : LastOk w (fun c => (Mb C st.h J c ∧ c ≠ b) ∨ c = b) b u last := by
    have := hL b hb
    cases last with
    | bx j off => exact this
    | fb f cs j => obtain ⟨zs, e, Rz⟩ := this; exact ⟨zs, e, Rz.ext (Ext.refl _) hMle⟩
    | f x => exact this
    | ow j => exact this
    | bot => exact this
    | ag j cs => exact this
  refine Calls.mono (K.call w (fun c => Mb C st.h J c ∧ c ≠ b) us u b T v1 (fun c h => S.mb h.1) (fun h => h.2 rfl) (fun g cs hg => (S.glob g cs hg).ext (Ext.refl _) hMle) (R.ext (Ext.refl _) hMle) hLx q3 (q5 v1 (by simp)) (RepF.ext (q6 0 v1 (.f c1) rfl rfl) (Ext.refl _) hMle)) ?_
  rintro en w' ⟨v, v2, T2, rfl, r1, r2, r3, r4, r5⟩
  have hMb : ∀ c, c < w'.heap.size → Mb C (upd st.h i (some (.box [.f c2]))) J c → (Mb C st.h J c ∧ c ≠ b) ∨ c = b := by
    rintro c _ h
    by_cases e : c = b
    · exact .inr e
    · refine .inl ⟨?_, e⟩
      rcases h with h0 | ⟨j, hj, hjb⟩
      · exact .inl h0
      · refine .inr ⟨j, ?_, hjb⟩
        by_cases ej : j = i
        · subst ej; exact hlv
        · rwa [upd_other _ _ ej] at hj
  refine ⟨v, rfl, hK v w' ⟨J, Sim.put (S.write (B := .box [.f c2]) hlv hb r5 ⟨b, T2, #[v2], q1, q2, r2, rfl, fun u hu => by simp at hu; subst hu; exact r3, fun k u x h1 h2 => ?_⟩ (fun cells _ => ⟨_, hi⟩)) hd (RepF.ext r1 (Ext.refl _) hMb)⟩⟩
  cases k with
  | zero => simp at h1 h2; subst h1; subst h2; exact RepF.ext r4 (Ext.refl _) hMb
  | succ k => simp at h1
theorem e_callX {o : Oper} {f x0 : Operand} {args : Array Operand} {ars : List Operand} {ts : Array TypeId} {g i : Nat} {fc : Nat} {caps ys : List FV} {c1 r c2 : FV} (K : SummX C.P C.G g ys (.fb fc caps 0) c1 r c2) (ho : o.op = .call { callee := .value f, args := args, argTypes := ts }) (hd : dstB N o.dst = true) (hf : st.ev C f = .f (.fn g [])) (ha : args.toList = ars ++ [x0]) (hx : st.ev C x0 = .fb fc caps i) (hi : st.h i = some (.box [.f c1])) (hxs : st.evL C ars = some ys) :
    EffOp C N o st ({ st with h := upd st.h i (some (.box [.f c2])) }.put o.dst (.f r)) := by
  intro w0 a w ⟨J, S⟩ K1 Q hK
  have e1 := evF S hf
  have e2 := S.eval x0
  rw [hx] at e2
  obtain ⟨_, zs, b, hv0, hb, Rz⟩ := e2
  have R := evL_rep (st := st) (st' := st) S (fun x _ => rfl) hxs
  generalize hv : a.eval f = v at e1
  cases e1 with
  | fn _ _ us h1 h2 =>
    have hus : us = [] := List.eq_nil_of_length_eq_zero h1
    subst hus
    have hrun := callEnter (w := w) K.enters ho hv
    rw [ha, List.append_nil, List.map_append, List.map_cons, List.map_nil] at hrun
    refine op_enter hrun ?_
    refine Calls.mono (callX rfl rfl K S hi R (fun b' hb' => by rw [hb] at hb'; cases hb'; exact ⟨zs, hv0, Rz⟩) hd hK) ?_
    rintro en w' ⟨v, rfl, h⟩
    exact h
theorem e_callY {o : Oper} {f : Operand} {args : Array Operand} {ts : Array TypeId} {g i : Nat} {caps ys zs : List FV} {c1 r c2 : FV} (K : SummX C.P C.G g zs (.bx 0 0) c1 r c2) (ho : o.op = .call { callee := .value f, args := args, argTypes := ts }) (hd : dstB N o.dst = true) (hf : st.ev C f = .fb g caps i) (hi : st.h i = some (.box [.f c1])) (hxs : st.evL C args.toList = some ys) (hz : ys ++ caps = zs) :
    EffOp C N o st ({ st with h := upd st.h i (some (.box [.f c2])) }.put o.dst (.f r)) := by
  intro w0 a w ⟨J, S⟩ K1 Q hK
  have e2 := S.eval f
  rw [hf] at e2
  obtain ⟨_, us, b, hv0, hb, Rz⟩ := e2
  have R := evL_rep (st := st) (st' := st) S (fun x _ => rfl) hxs
  subst hz
  have hrun := callEnter (w := w) K.enters ho hv0
  rw [← List.append_assoc] at hrun
  refine op_enter hrun ?_
  refine Calls.mono (callX rfl rfl K S hi (RepL.append R Rz) (fun b' hb' => by rw [hb] at hb'; cases hb'; rfl) hd hK) ?_
  rintro en w' ⟨v, rfl, h⟩
  exact h
theorem v_makefb {o : Oper} {g i : Nat} {caps : Array Operand} {cs : List Operand} {x0 : Operand} {xs : List FV} (ho : o.op = .makeFunc (.func g) #[] caps) (hd : dstB N o.dst = true) (hc : caps.toList = cs ++ [x0]) (hp : st.evL C cs = some xs) (hx : st.ev C x0 = .bx i 0) : ValOp C N o st (.fb g xs i) :=
  valop_run hd fun w0 a w J st' hA S => by
    have R := evL_rep (st := st) S (fun x hx => hA.ev x (by simp only [ho, Op.operands]; simp [hc, hx])) hp
    have e2 := S.eval x0
    rw [hA.ev x0 (by simp only [ho, Op.operands]; simp [hc]), hx] at e2
    obtain ⟨hl, b, hb, hv⟩ := e2
    have e3 : caps.map a.eval = (cs.map a.eval ++ [Value.pointer (some ⟨b, 0, none⟩)]).toArray := by apply Array.ext'; simp [hc, hv]
    exact ⟨.func (.func g) #[] (cs.map a.eval ++ [Value.pointer (some ⟨b, 0, none⟩)]).toArray, w, by simp [execOp, ho, Instr.makeFunc, e3], Ext.refl _, hl, _, b, rfl, hb, R⟩
def pinX (p : Value) : Nat → Option Value
  | 0 => some p
  | _ + 1 => none
def stX (args : List FV) (last : AV) (c1 : FV) : St := ⟨fun t => match (args.map AV.f ++ [last])[t]? with | some a => a | none => .bot, fun i => match i with | 0 => some (.box [.f c1]) | _ => none, 1⟩
def RetX (fn : Func) (r c2 : FV) (st : St) : Prop := ∃ t, fn.results = #[.tmp t] ∧ st.s t = .f r ∧ st.h 0 = some (.box [.f c2])
def LeavesX (fn : Func) (r c2 : FV) : Exit → St → Prop
  | .normal, st => RetX fn r c2 st
  | .ret, st => RetX fn r c2 st
  | _, _ => False
theorem summX_of {P : Program} {G : Nat → Option (List FV)} {f : Nat} {fn : Func} {c : Code} {args : List FV} {last : AV} {c1 r c2 : FV} (hf : P.funcs[f]? = some fn) (hb : fn.body = some c) (hname : (fn.name == "runtime.NumGoroutine") = false) (N : Nat) (hn : fn.ntmps = N) (hl : args.length + 1 ≤ N) (h0 : (∃ off, last = .bx 0 off) ∨ ∃ f cs, last = .fb f cs 0)
    (h : ∀ (M0 X : Nat → Prop) (p : Value), W ⟨P, G, M0, X, none, pinX p⟩ N c (LeavesX fn r c2) (stX args last c1)) : SummX P G f args last c1 r c2 := by
  refine ⟨enters_of hf hname hb, fun w M us u b T v1 hM hMb hG R hL hcell hone hc1 => ?_⟩
  obtain ⟨X, hX⟩ : ∃ X : Nat → Prop, X = fun c => c = b := ⟨_, rfl⟩
  have hMM : ∀ c, c < w.heap.size → Mb ⟨P, G, M, X, none, pinX (.pointer (some ⟨b, 0, none⟩))⟩ (stX args last c1).h (fun _ => .pointer (some ⟨b, 0, none⟩)) c → (M c ∨ c = b) := fun c _ h => h.imp id (fun ⟨_, _, h⟩ => by simp [bk] at h; exact h.symm)
  have hlive : ∀ i, ((stX args last c1).h i).isSome = true → i = 0 := fun i hi => by
    cases i with
    | zero => rfl
    | succ i => simp [stX] at hi
  refine calls_of_wp_marks hf hb (wpIn_wide.1 ((h M X (.pointer (some ⟨b, 0, none⟩))).out w _ w _ ⟨fun _ => .pointer (some ⟨b, 0, none⟩), Grew.refl _ _, ?_, ⟨trivial, fun _ => rfl⟩, fun t => ?_, fun i B hB => ?_, fun i j b hi hj _ _ => by rw [hlive i hi, hlive j hj], fun c hc => ⟨hM c hc, by rw [hX]; exact fun h => hMb (h ▸ hc)⟩, fun g cs hg => (hG g cs hg).ext (Ext.refl _) hMM, fun i p cells hp hc => ?_⟩ ?_))
  · have := R.1; simp [hn]; omega
  · show RepA _ w _ _ (((us ++ [u]).toArray ++ Array.replicate (fn.ntmps - (us ++ [u]).toArray.size) undef).getD t undef) (match (args.map AV.f ++ [last])[t]? with | some a => a | none => .bot)
    by_cases ht : t < us.length
    · have ha : t < args.length := by rw [← R.1]; exact ht
      have e1 : (args.map AV.f ++ [last])[t]? = some (.f args[t]) := by rw [List.getElem?_append_left (by simpa using ha)]; simp [ha]
      have e2 : ((us ++ [u]).toArray ++ Array.replicate (fn.ntmps - (us ++ [u]).toArray.size) undef).getD t undef = us[t] := by
        rw [Array.getD_eq_getD_getElem?, Array.getElem?_append_left (by simp; omega)]
        simp [List.getElem?_append_left ht, ht]
      rw [e1, e2]
      exact (R.2 t _ _ (List.getElem?_eq_getElem ht) (List.getElem?_eq_getElem ha)).ext (Ext.refl _) hMM
    · by_cases ht2 : t = us.length
      · subst ht2
        have e1 : (args.map AV.f ++ [last])[us.length]? = some last := by rw [R.1, List.getElem?_append_right (by simp)]; simp
        have e2 : ((us ++ [u]).toArray ++ Array.replicate (fn.ntmps - (us ++ [u]).toArray.size) undef).getD us.length undef = u := by
          rw [Array.getD_eq_getD_getElem?, Array.getElem?_append_left (by simp)]
          simp
        rw [e1, e2]
        rcases h0 with ⟨off, rfl⟩ | ⟨fc, cs, rfl⟩
        · exact ⟨rfl, b, rfl, hL⟩
        · obtain ⟨zs, e, Rz⟩ := hL
          exact ⟨rfl, zs, b, e, rfl, Rz.ext (Ext.refl _) hMM⟩
      · have e1 : (args.map AV.f ++ [last])[t]? = none := List.getElem?_eq_none (by simp; have := R.1; omega)
        rw [e1]; trivial
  · have hi0 : i = 0 := hlive i (by rw [hB]; rfl)
    subst hi0
    have : B = .box [.f c1] := by simpa [stX] using hB.symm
    subst this
    refine ⟨b, T, #[v1], rfl, .inr (by rw [hX]), hcell, rfl, fun z hz => by simp at hz; subst hz; exact hone, fun k z x h1 h2 => ?_⟩
    cases k with
    | zero => simp at h1 h2; subst h1; subst h2; exact RepF.ext hc1 (Ext.refl _) hMM
    | succ k => simp at h1
  · have hi0 : i = 0 := hlive i (by rw [hc]; rfl)
    subst hi0
    simpa [pinX] using hp
  · intro en st' a' w' q S'
    have fin : RetX fn r c2 st' → ∀ W', KeepsP Obj.stays w.heap.size w' W' → ∃ v1, (results fn a'.tmps).run P W' = .ok v1 W' ∧ ∃ v v2 T2, Ending.returned v1 = .returned v ∧ RepF W' (fun c => M c ∨ c = b) v r ∧ W'.heap[b]? = some (.cells #[v2] T2 (0, 0)) ∧ v2.oneCell' = true ∧ RepF W' (fun c => M c ∨ c = b) v2 c2 ∧ w.grownBy W' (some b) := fun ⟨t, q1, q2, q3⟩ W' hk => by
      obtain ⟨J, S1⟩ := S'
      have S2 := S1.keeps0 hk (Nat.le_refl _) (ds := []) ⟨trivial, fun _ => rfl⟩
      have hs := S2.slot t
      rw [q2] at hs
      have hJ : J 0 = .pointer (some ⟨b, 0, none⟩) := S2.fix 0 _ _ rfl q3
      obtain ⟨b', T', vs, p1, p2, p3, p4, p5, p6⟩ := S2.blk 0 _ q3
      rw [hJ] at p1; simp at p1; subst p1
      obtain ⟨v2, rfl⟩ : ∃ v2, vs = #[v2] := Array.size_eq_one_iff.1 (by simpa using p4)
      have hM2 : ∀ c, c < W'.heap.size → (M c ∨ c = b) → Mb ⟨P, G, M, X, none, pinX (.pointer (some ⟨b, 0, none⟩))⟩ st'.h J c := fun c _ h => h.imp id (fun h => ⟨0, by rw [q3]; rfl, by rw [hJ, h]; rfl⟩)
      exact ⟨a'.tmps.getD t undef, by rw [results_eq, q1]; simp [rvS], _, v2, T', rfl, RepF.ext hs (Ext.refl _) hM2, p3, p5 v2 (by simp), RepF.ext (p6 0 v2 (.f c2) rfl rfl) (Ext.refl _) hM2, ⟨S2.ext.os, S2.ext.tape, S2.ext.output, S2.ext.le, fun k hk hne => S2.ext.block k hk (by show ¬ X k; rw [hX]; exact fun h => hne (by rw [h]))⟩⟩
    have hm : Marks w.heap.size w' a'.defers := let ⟨_, S2⟩ := S'; S2.defs.1
    cases en with
    | normal => exact bodyPostM_marksP (s := Obj.stays) (fun _ => rfl) _ hm (fin q)
    | ret => exact bodyPostM_marksP (s := Obj.stays) (fun _ => rfl) _ hm (fin q)
    | _ => exact q.elim
variable {d : Option Tmp} {T0 : TypeId} {pos : String} {af : Array Edge}
theorem s_callX {f x0 : Operand} {args : Array Operand} {ars : List Operand} {ts : Array TypeId} {g i fc : Nat} {caps ys : List FV} {c1 r c2 : FV} (K1 : SummX C.P C.G g ys (.fb fc caps 0) c1 r c2) (hd : dstB N d = true) (hf : st.ev C f = .f (.fn g [])) (ha : args.toList = ars ++ [x0]) (hx : st.ev C x0 = .fb fc caps i) (hi : st.h i = some (.box [.f c1])) (hxs : st.evL C ars = some ys) (k : R C N ops false K rest ({ st with h := upd st.h i (some (.box [.f c2])) }.put d (.f r))) : R C N ops false K (⟨d, .call { callee := .value f, args := args, argTypes := ts }, T0, pos, af, none⟩ :: rest) st := ⟨r_eff rfl (e_callX K1 rfl hd hf ha hx hi hxs) k.out⟩
theorem s_callY {f : Operand} {args : Array Operand} {ts : Array TypeId} {g i : Nat} {caps ys zs : List FV} {c1 r c2 : FV} (K1 : SummX C.P C.G g zs (.bx 0 0) c1 r c2) (hd : dstB N d = true) (hf : st.ev C f = .fb g caps i) (hi : st.h i = some (.box [.f c1])) (hxs : st.evL C args.toList = some ys) (hz : ys ++ caps = zs) (k : R C N ops false K rest ({ st with h := upd st.h i (some (.box [.f c2])) }.put d (.f r))) : R C N ops false K (⟨d, .call { callee := .value f, args := args, argTypes := ts }, T0, pos, af, none⟩ :: rest) st := ⟨r_eff rfl (e_callY K1 rfl hd hf hi hxs hz) k.out⟩
theorem s_makefb {g i : Nat} {caps : Array Operand} {cs : List Operand} {x0 : Operand} {xs : List FV} (hd : dstB N d = true) (hc : caps.toList = cs ++ [x0]) (hp : st.evL C cs = some xs) (hx : st.ev C x0 = .bx i 0) (k : R C N ops pr K rest (st.put d (.fb g xs i))) : R C N ops pr K (⟨d, .makeFunc (.func g) #[] caps, T0, pos, af, none⟩ :: rest) st := ⟨r_val rfl (v_makefb rfl hd hc hp hx) k.out⟩
end
end Go.Ab
namespace Go.Proofs.YtienhiloecfgnaaDoor
open Go Go.RowKit Go.Proofs Go.Shelf Go.Ab
theorem firstAny {α : Type} (p : α → Bool) (L : List α) : L.any p = false ∨ ∃ n, ∃ h : n < L.length, p L[n] = true ∧ ∀ j (h : j < L.length), j < n → p L[j] = false := by
  by_cases h : ∀ n, ∀ hn : n < L.length, p L[n] = false
  · left
    refine List.any_eq_false.2 fun a ha => ?_
    obtain ⟨n, hn, rfl⟩ := List.mem_iff_getElem.1 ha
    rw [h n hn]; decide
  · right
    have hex : ∃ n, ∃ hn : n < L.length, p L[n] = true := by
      refine Classical.byContradiction fun hc => h fun n hn => ?_
      cases e : p L[n]
      · rfl
      · exact absurd ⟨n, hn, e⟩ hc
    obtain ⟨n, hn⟩ := hex
    induction n using Nat.strongRecOn with
    | _ n ih =>
      obtain ⟨h1, h2⟩ := hn
      by_cases hj : ∃ j, j < n ∧ ∃ hj : j < L.length, p L[j] = true
      · obtain ⟨j, hjn, hj⟩ := hj
        exact ih j hjn hj
      · exact ⟨n, h1, h2, fun j hj1 hjn => by
          cases e : p L[j]
          · rfl
          · exact absurd ⟨j, hjn, hj1, e⟩ hj⟩
theorem anyFalse {α : Type} {p : α → Bool} {L : List α} (h : L.any p = false) {n : Nat} (hn : n < L.length) : p L[n] = false := by
  have := List.any_eq_false.1 h L[n] (List.getElem_mem hn)
  cases e : p L[n]
  · rfl
  · exact absurd e this
theorem anyTrue {α : Type} {p : α → Bool} {L : List α} {n : Nat} (hn : n < L.length) (h : p L[n] = true) : L.any p = true := List.any_eq_true.2 ⟨L[n], List.getElem_mem hn, h⟩
theorem modelsF_ne {l : List (List Int × List Bool)} (h : 0 < l.length) : modelsF l ≠ [] := flat_ne (f := modF) (s := 2) (fun _ => rfl) (by decide) h
theorem modelsF_sub {l : List (List Int × List Bool)} {k : Nat} (h : k < l.length) : ((modelsF l).drop (k * 2)).take 2 = modF l[k] := flat_sub (f := modF) (fun _ => rfl) h
def missB (m : List Int × List Bool) (i : Int) : Bool := !(m.2.getD i.toNat false)
def explAll (m : List Int × List Bool) (set : List Int) : Bool := !(set.any (missB m))
def covB (set : List Int) (m : List Int × List Bool) : Bool := explAll m set
set_option maxRecDepth 100000 in
theorem miss_s (m : List Int × List Bool) (i : Int) (h0 : 0 ≤ i) (h1 : i < m.2.length) : Summ Tryd.prog GG 143 [iv i, .pt (modF m) 0] (bv (missB m i)) := by
  have hi : i.toNat < m.2.length := by omega
  have hb : (boolsF m.2)[i.toNat * 1]? = some (.v (.bool (m.2.getD i.toNat false))) := by
    rw [List.getD_eq_getElem?_getD, List.getElem?_eq_getElem hi, Option.getD_some]; exact map_at hi
  have hne : boolsF m.2 ≠ [] := map_ne (by omega)
  refine summW Tryd.func143 rfl rfl 10 rfl (by simp) (fun M0 => ?_)
  repeat (first
    | (apply s_a TY; exact rfl)
    | apply w_seq
    | apply w_region
    | apply s_nil
    | apply t_norm
    | apply w_ret
    | (apply s_z TY; exact rfl; (first | omega | exact ⟨by omega, by (first | with_reducible assumption | ((with_reducible apply boolsF_ne); omega) | assumption)⟩))
    | (apply s_l TY; exact rfl; (first | exact rfl | with_reducible assumption | ((with_reducible apply boolsF_at); omega) | assumption)))
  exact lv_ret (ret1 rfl (res_tmp rfl))
set_option maxRecDepth 100000 in
theorem missing_none (m : List Int × List Bool) (set : List Int) (hl : set.length ≤ 1000000) (hin : ∀ i ∈ set, 0 ≤ i ∧ i < m.2.length) (h : set.any (missB m) = false) : Summ Tryd.prog GG 103 [.sl set.length (intsF set), .fn 143 [.pt (modF m) 0]] (iv (-1)) := by
  refine summW Tryd.func103 rfl rfl 19 rfl (by simp) (fun M0 => ?_)
  repeat (first
    | (apply s_a TY; exact rfl)
    | apply w_seq
    | apply w_region
    | apply s_nil
    | apply t_norm
    | apply w_block)
  apply w_loop (fun k : Nat => ⟨(Ab.upd (Ab.upd (Ab.upd (Ab.upd (fun _ => .bot) 0 (.f (.sl set.length (intsF set)))) 1 (.f (.fn 143 [.pt (modF m) 0]))) 7 (.f (iv (set.length : Nat)))) 8 (.f (iv (k : Nat)))), (fun _ => none), 0⟩) (fun k => k ≤ set.length) (fun k => set.length - k) 0 (Nat.zero_le _) (gh_le ⟨le_upd rfl trivial (le_upd rfl trivial (le_upd rfl trivial (le_upd rfl trivial (le_nil _)))), le_h0 _ _⟩)
  intro k hk
  by_cases hkc : k < set.length
  case neg =>
    repeat (first
    | (apply s_a TY; exact rfl)
    | (apply s_f; exact rfl; (first | assumption | omega))
    | apply w_seq
    | apply w_region
    | apply s_nil
    | apply t_norm
    | apply t_exit
    | apply k_hit
    | apply w_exit
    | apply w_ret
    | (apply w_condF; exact rfl; exact rfl))
    exact lv_ret (ret1 rfl (res_tmp rfl))
  have hp := anyFalse h hkc
  have C := miss_s m set[k] (hin _ (List.getElem_mem hkc)).1 (hin _ (List.getElem_mem hkc)).2
  rw [hp] at C
  repeat (first
    | (apply s_a TY; exact rfl)
    | (apply s_t; exact rfl; (first | assumption | omega))
    | apply w_seq
    | apply w_region
    | apply s_nil
    | apply t_norm
    | apply k_norm
    | apply w_block
    | apply w_skip
    | (apply w_condT; exact rfl; exact rfl)
    | (apply w_condF; exact rfl; exact rfl)
    | (apply s_k (C); exact rfl)
    | (apply s_c TY; exact rfl; (first | omega | exact ⟨by omega, by (first | with_reducible assumption | ((with_reducible apply intsF_ne); omega) | assumption)⟩))
    | (apply s_l TY; exact rfl; (first | exact rfl | with_reducible assumption | ((with_reducible apply intsF_at); omega) | assumption)))
  exact ⟨k + 1, by omega, by omega, gh_le ⟨le_upd rfl trivial (le_upd rfl trivial (le_upd rfl trivial (le_upd rfl trivial (le_nil _)))), le_h0 _ _⟩⟩
set_option maxRecDepth 100000 in
theorem missing_some (m : List Int × List Bool) (set : List Int) (hl : set.length ≤ 1000000) (hin : ∀ i ∈ set, 0 ≤ i ∧ i < m.2.length) (n : Nat) (hn : n < set.length) (hu : missB m set[n] = true) (hb : ∀ j (h : j < set.length), j < n → missB m set[j] = false) : Summ Tryd.prog GG 103 [.sl set.length (intsF set), .fn 143 [.pt (modF m) 0]] (iv (n : Nat)) := by
  refine summW Tryd.func103 rfl rfl 19 rfl (by simp) (fun M0 => ?_)
  repeat (first
    | (apply s_a TY; exact rfl)
    | apply w_seq
    | apply w_region
    | apply s_nil
    | apply t_norm
    | apply w_block)
  apply w_loop (fun k : Nat => ⟨(Ab.upd (Ab.upd (Ab.upd (Ab.upd (fun _ => .bot) 0 (.f (.sl set.length (intsF set)))) 1 (.f (.fn 143 [.pt (modF m) 0]))) 7 (.f (iv (set.length : Nat)))) 8 (.f (iv (k : Nat)))), (fun _ => none), 0⟩) (fun k => k ≤ n) (fun k => n - k) 0 (Nat.zero_le _) (gh_le ⟨le_upd rfl trivial (le_upd rfl trivial (le_upd rfl trivial (le_upd rfl trivial (le_nil _)))), le_h0 _ _⟩)
  intro k hk
  have hkc : k < set.length := by omega
  have C := miss_s m set[k] (hin _ (List.getElem_mem hkc)).1 (hin _ (List.getElem_mem hkc)).2
  by_cases hkn : k = n
  · subst hkn
    rw [hu] at C
    repeat (first
    | (apply s_a TY; exact rfl)
    | (apply s_t; exact rfl; (first | assumption | omega))
    | apply w_seq
    | apply w_region
    | apply s_nil
    | apply t_norm
    | apply t_ret
    | apply k_ret
    | apply w_block
    | apply w_ret
    | apply w_skip
    | (apply w_condT; exact rfl; exact rfl)
    | (apply s_k (C); exact rfl)
    | (apply s_c TY; exact rfl; (first | omega | exact ⟨by omega, by (first | with_reducible assumption | ((with_reducible apply intsF_ne); omega) | assumption)⟩))
    | (apply s_l TY; exact rfl; (first | exact rfl | with_reducible assumption | ((with_reducible apply intsF_at); omega) | assumption)))
    exact lv_ret (ret1 rfl (res_tmp rfl))
  rw [hb k hkc (by omega)] at C
  repeat (first
    | (apply s_a TY; exact rfl)
    | (apply s_t; exact rfl; (first | assumption | omega))
    | apply w_seq
    | apply w_region
    | apply s_nil
    | apply t_norm
    | apply k_norm
    | apply w_block
    | apply w_skip
    | (apply w_condT; exact rfl; exact rfl)
    | (apply w_condF; exact rfl; exact rfl)
    | (apply s_k (C); exact rfl)
    | (apply s_c TY; exact rfl; (first | omega | exact ⟨by omega, by (first | with_reducible assumption | ((with_reducible apply intsF_ne); omega) | assumption)⟩))
    | (apply s_l TY; exact rfl; (first | exact rfl | with_reducible assumption | ((with_reducible apply intsF_at); omega) | assumption)))
  exact ⟨k + 1, by omega, by omega, gh_le ⟨le_upd rfl trivial (le_upd rfl trivial (le_upd rfl trivial (le_upd rfl trivial (le_nil _)))), le_h0 _ _⟩⟩
set_option maxRecDepth 100000 in
theorem missing_s (m : List Int × List Bool) (set : List Int) (hl : set.length ≤ 1000000) (hin : ∀ i ∈ set, 0 ≤ i ∧ i < m.2.length) : Summ Tryd.prog GG 106 [.sl set.length (intsF set), .fn 143 [.pt (modF m) 0]] (bv (set.any (missB m))) := by
  refine summW Tryd.func106 rfl rfl 9 rfl (by simp) (fun M0 => ?_)
  rcases firstAny (missB m) set with h | ⟨n, hn, hu, hj⟩
  · have I := missing_none m set hl hin h
    rw [h]
    repeat (first
    | (apply s_a TY; exact rfl)
    | (apply s_f; exact rfl; (first | assumption | omega))
    | apply w_seq
    | apply w_region
    | apply s_nil
    | apply t_norm
    | apply w_ret
    | (apply s_k (I); exact rfl))
    exact lv_ret (ret1 rfl (res_tmp rfl))
  · have I := missing_some m set hl hin n hn hu hj
    rw [anyTrue hn hu]
    repeat (first
    | (apply s_a TY; exact rfl)
    | (apply s_t; exact rfl; (first | assumption | omega))
    | apply w_seq
    | apply w_region
    | apply s_nil
    | apply t_norm
    | apply w_ret
    | (apply s_k (I); exact rfl))
    exact lv_ret (ret1 rfl (res_tmp rfl))
set_option maxRecDepth 100000 in
theorem explainsAll_s (m : List Int × List Bool) (set : List Int) (hl : set.length ≤ 1000000) (hin : ∀ i ∈ set, 0 ≤ i ∧ i < m.2.length) : Summ Tryd.prog GG 127 [.agg (modF m), .sl set.length (intsF set)] (bv (explAll m set)) := by
  have C := missing_s m set hl hin
  refine summW Tryd.func127 rfl rfl 9 rfl (by simp) (fun M0 => ?_)
  repeat (first
    | (apply s_a TY; exact rfl)
    | (apply s_makefn; exact rfl; exact rfl)
    | apply w_seq
    | apply w_region
    | apply s_nil
    | apply t_norm
    | apply w_ret
    | (apply s_k (C); exact rfl))
  exact lv_ret (ret1 rfl (res_tmp rfl))
set_option maxRecDepth 100000 in
theorem expl1_s (m : List Int × List Bool) (set : List Int) (hl : set.length ≤ 1000000) (hin : ∀ i ∈ set, 0 ≤ i ∧ i < m.2.length) : Summ Tryd.prog GG 126 [.agg (modF m), .pt [.sl set.length (intsF set)] 0] (bv (covB set m)) := by
  have C : Summ Tryd.prog GG 127 [.agg (modF m), .sl set.length (intsF set)] (bv (covB set m)) := explainsAll_s m set hl hin
  refine summW Tryd.func126 rfl rfl 7 rfl (by simp) (fun M0 => ?_)
  repeat (first
    | (apply s_a TY; exact rfl)
    | apply w_seq
    | apply w_region
    | apply s_nil
    | apply t_norm
    | apply w_ret
    | (apply s_k (C); exact rfl))
  exact lv_ret (ret1 rfl (res_tmp rfl))
set_option maxRecDepth 100000 in
theorem explained_none (ms : List (List Int × List Bool)) (set : List Int) (hl : ms.length ≤ 1000000) (hs : set.length ≤ 1000000) (hin : ∀ m ∈ ms, ∀ i ∈ set, 0 ≤ i ∧ i < m.2.length) (h : ms.any (covB set) = false) : Summ Tryd.prog GG 142 [.sl ms.length (modelsF ms), .fn 126 [.pt [.sl set.length (intsF set)] 0]] (iv (-1)) := by
  refine summW Tryd.func142 rfl rfl 19 rfl (by simp) (fun M0 => ?_)
  repeat (first
    | (apply s_a TY; exact rfl)
    | apply w_seq
    | apply w_region
    | apply s_nil
    | apply t_norm
    | apply w_block)
  apply w_loop (fun k : Nat => ⟨(Ab.upd (Ab.upd (Ab.upd (Ab.upd (fun _ => .bot) 0 (.f (.sl ms.length (modelsF ms)))) 1 (.f (.fn 126 [.pt [.sl set.length (intsF set)] 0]))) 7 (.f (iv (ms.length : Nat)))) 8 (.f (iv (k : Nat)))), (fun _ => none), 0⟩) (fun k => k ≤ ms.length) (fun k => ms.length - k) 0 (Nat.zero_le _) (gh_le ⟨le_upd rfl trivial (le_upd rfl trivial (le_upd rfl trivial (le_upd rfl trivial (le_nil _)))), le_h0 _ _⟩)
  intro k hk
  by_cases hkc : k < ms.length
  case neg =>
    repeat (first
    | (apply s_a TY; exact rfl)
    | (apply s_f; exact rfl; (first | assumption | omega))
    | apply w_seq
    | apply w_region
    | apply s_nil
    | apply t_norm
    | apply t_exit
    | apply k_hit
    | apply w_exit
    | apply w_ret
    | (apply w_condF; exact rfl; exact rfl))
    exact lv_ret (ret1 rfl (res_tmp rfl))
  have hp := anyFalse h hkc
  have C := expl1_s ms[k] set hs (hin _ (List.getElem_mem hkc))
  rw [hp] at C
  repeat (first
    | (apply s_a TY; exact rfl)
    | (apply s_t; exact rfl; (first | assumption | omega))
    | apply w_seq
    | apply w_region
    | apply s_nil
    | apply t_norm
    | apply k_norm
    | apply w_block
    | apply w_skip
    | (apply w_condT; exact rfl; exact rfl)
    | (apply w_condF; exact rfl; exact rfl)
    | (apply s_k (C); exact rfl)
    | (apply s_c TY; exact rfl; (first | omega | exact ⟨by omega, by (first | with_reducible assumption | ((with_reducible apply modelsF_ne); omega) | assumption)⟩))
    | (apply s_m TY; exact rfl; (first | with_reducible assumption | ((with_reducible apply modelsF_sub); omega) | exact rfl); exact rfl))
  exact ⟨k + 1, by omega, by omega, gh_le ⟨le_upd rfl trivial (le_upd rfl trivial (le_upd rfl trivial (le_upd rfl trivial (le_nil _)))), le_h0 _ _⟩⟩
set_option maxRecDepth 100000 in
theorem explained_some (ms : List (List Int × List Bool)) (set : List Int) (hl : ms.length ≤ 1000000) (hs : set.length ≤ 1000000) (hin : ∀ m ∈ ms, ∀ i ∈ set, 0 ≤ i ∧ i < m.2.length) (n : Nat) (hn : n < ms.length) (hu : covB set ms[n] = true) (hb : ∀ j (h : j < ms.length), j < n → covB set ms[j] = false) : Summ Tryd.prog GG 142 [.sl ms.length (modelsF ms), .fn 126 [.pt [.sl set.length (intsF set)] 0]] (iv (n : Nat)) := by
  refine summW Tryd.func142 rfl rfl 19 rfl (by simp) (fun M0 => ?_)
  repeat (first
    | (apply s_a TY; exact rfl)
    | apply w_seq
    | apply w_region
    | apply s_nil
    | apply t_norm
    | apply w_block)
  apply w_loop (fun k : Nat => ⟨(Ab.upd (Ab.upd (Ab.upd (Ab.upd (fun _ => .bot) 0 (.f (.sl ms.length (modelsF ms)))) 1 (.f (.fn 126 [.pt [.sl set.length (intsF set)] 0]))) 7 (.f (iv (ms.length : Nat)))) 8 (.f (iv (k : Nat)))), (fun _ => none), 0⟩) (fun k => k ≤ n) (fun k => n - k) 0 (Nat.zero_le _) (gh_le ⟨le_upd rfl trivial (le_upd rfl trivial (le_upd rfl trivial (le_upd rfl trivial (le_nil _)))), le_h0 _ _⟩)
  intro k hk
  have hkc : k < ms.length := by omega
  have C := expl1_s ms[k] set hs (hin _ (List.getElem_mem hkc))
  by_cases hkn : k = n
  · subst hkn
    rw [hu] at C
    repeat (first
    | (apply s_a TY; exact rfl)
    | (apply s_t; exact rfl; (first | assumption | omega))
    | apply w_seq
    | apply w_region
    | apply s_nil
    | apply t_norm
    | apply t_ret
    | apply k_ret
    | apply w_block
    | apply w_ret
    | apply w_skip
    | (apply w_condT; exact rfl; exact rfl)
    | (apply s_k (C); exact rfl)
    | (apply s_c TY; exact rfl; (first | omega | exact ⟨by omega, by (first | with_reducible assumption | ((with_reducible apply modelsF_ne); omega) | assumption)⟩))
    | (apply s_m TY; exact rfl; (first | with_reducible assumption | ((with_reducible apply modelsF_sub); omega) | exact rfl); exact rfl))
    exact lv_ret (ret1 rfl (res_tmp rfl))
  rw [hb k hkc (by omega)] at C
  repeat (first
    | (apply s_a TY; exact rfl)
    | (apply s_t; exact rfl; (first | assumption | omega))
    | apply w_seq
    | apply w_region
    | apply s_nil
    | apply t_norm
    | apply k_norm
    | apply w_block
    | apply w_skip
    | (apply w_condT; exact rfl; exact rfl)
    | (apply w_condF; exact rfl; exact rfl)
    | (apply s_k (C); exact rfl)
    | (apply s_c TY; exact rfl; (first | omega | exact ⟨by omega, by (first | with_reducible assumption | ((with_reducible apply modelsF_ne); omega) | assumption)⟩))
    | (apply s_m TY; exact rfl; (first | with_reducible assumption | ((with_reducible apply modelsF_sub); omega) | exact rfl); exact rfl))
  exact ⟨k + 1, by omega, by omega, gh_le ⟨le_upd rfl trivial (le_upd rfl trivial (le_upd rfl trivial (le_upd rfl trivial (le_nil _)))), le_h0 _ _⟩⟩
set_option maxRecDepth 100000 in
theorem explained_s (ms : List (List Int × List Bool)) (set : List Int) (hl : ms.length ≤ 1000000) (hs : set.length ≤ 1000000) (hin : ∀ m ∈ ms, ∀ i ∈ set, 0 ≤ i ∧ i < m.2.length) : Summ Tryd.prog GG 125 [.sl ms.length (modelsF ms), .fn 126 [.pt [.sl set.length (intsF set)] 0]] (bv (ms.any (covB set))) := by
  refine summW Tryd.func125 rfl rfl 9 rfl (by simp) (fun M0 => ?_)
  rcases firstAny (covB set) ms with h | ⟨n, hn, hu, hj⟩
  · have I := explained_none ms set hl hs hin h
    rw [h]
    repeat (first
    | (apply s_a TY; exact rfl)
    | (apply s_f; exact rfl; (first | assumption | omega))
    | apply w_seq
    | apply w_region
    | apply s_nil
    | apply t_norm
    | apply w_ret
    | (apply s_k (I); exact rfl))
    exact lv_ret (ret1 rfl (res_tmp rfl))
  · have I := explained_some ms set hl hs hin n hn hu hj
    rw [anyTrue hn hu]
    repeat (first
    | (apply s_a TY; exact rfl)
    | (apply s_t; exact rfl; (first | assumption | omega))
    | apply w_seq
    | apply w_region
    | apply s_nil
    | apply t_norm
    | apply w_ret
    | (apply s_k (I); exact rfl))
    exact lv_ret (ret1 rfl (res_tmp rfl))
set_option maxRecDepth 100000 in
theorem yield_t (ms : List (List Int × List Bool)) (set : List Int) (c1 : FV) (hm : ms.length ≤ 1000000) (hs : set.length ≤ 1000000) (hin : ∀ m ∈ ms, ∀ i ∈ set, 0 ≤ i ∧ i < m.2.length) (h : ms.any (covB set) = true) : SummX Tryd.prog GG 124 [.sl set.length (intsF set), .pt [.sl ms.length (modelsF ms)] 0] (.bx 0 0) c1 (bv true) c1 := by
  have C := explained_s ms set hm hs hin
  rw [h] at C
  refine summX_of Tryd.func124 rfl rfl 10 rfl (by simp) (.inl ⟨0, rfl⟩) (fun M0 X p => ?_)
  repeat (first
    | (apply s_a TY; exact rfl)
    | (apply s_makefn; exact rfl; exact rfl)
    | apply w_seq
    | apply w_region
    | apply s_nil
    | apply t_norm
    | apply t_ret
    | apply w_ret
    | (apply w_condT; exact rfl; exact rfl)
    | (apply s_k (C); exact rfl))
  exact ⟨4, rfl, rfl, rfl⟩
set_option maxRecDepth 100000 in
theorem yield_f (ms : List (List Int × List Bool)) (set : List Int) (c1 : FV) (hm : ms.length ≤ 1000000) (hs : set.length ≤ 1000000) (hin : ∀ m ∈ ms, ∀ i ∈ set, 0 ≤ i ∧ i < m.2.length) (h : ms.any (covB set) = false) (_h1 : ∃ y, cellsF c1 = some [y]) : SummX Tryd.prog GG 124 [.sl set.length (intsF set), .pt [.sl ms.length (modelsF ms)] 0] (.bx 0 0) c1 (bv false) (.sl set.length (intsF set)) := by
  have C := explained_s ms set hm hs hin
  rw [h] at C
  have CL := SummN.toSumm (cloneI_s set hs)
  refine summX_of Tryd.func124 rfl rfl 10 rfl (by simp) (.inl ⟨0, rfl⟩) (fun M0 X p => ?_)
  repeat (first
    | (apply s_a TY; exact rfl)
    | (apply s_makefn; exact rfl; exact rfl)
    | apply w_seq
    | apply w_region
    | apply s_nil
    | apply t_norm
    | apply w_ret
    | apply w_skip
    | (apply w_condF; exact rfl; exact rfl)
    | (apply s_k (C); exact rfl)
    | (apply s_k (CL); exact rfl)
    | (apply s_store TY; exact rfl; exact rfl; exact rfl; exact rfl; exact rfl; exact rfl))
  exact ⟨4, rfl, rfl, rfl⟩
end Go.Proofs.YtienhiloecfgnaaDoor
namespace Go.Proofs.YtienhiloecfgnaaDoor
open Go Go.RowKit Go.Proofs Go.Shelf Go.Ab
def setsL (n : Nat) : Nat → List Int → Nat → List (List Int)
  | 0, begun, _ => [begun]
  | d + 1, begun, fr => (List.range' fr (n - fr)).flatMap fun (i : Nat) => setsL n d (begun ++ [(i : Int)]) (i + 1)
def openOf (ms : List (List Int × List Bool)) (L : List (List Int)) : Option (List Int) := L.find? fun set => !(ms.any (covB set))
def outF (c1 : FV) : Option (List Int) → FV
  | none => c1
  | some s => .sl s.length (intsF s)
theorem openOf_none {ms : List (List Int × List Bool)} {n d fr : Nat} {begun : List Int} (h : ∀ i : Nat, fr ≤ i → i < n → openOf ms (setsL n d (begun ++ [(i : Int)]) (i + 1)) = none) : openOf ms (setsL n (d + 1) begun fr) = none := by
  unfold openOf
  rw [setsL, List.find?_flatMap, List.findSome?_eq_none_iff]
  intro i hi
  rw [List.mem_range'_1] at hi
  exact h i hi.1 (by omega)
theorem openOf_some {ms : List (List Int × List Bool)} {n d fr i : Nat} {begun s : List Int} (h0 : fr ≤ i) (h1 : i < n) (hs : openOf ms (setsL n d (begun ++ [(i : Int)]) (i + 1)) = some s) (h : ∀ j : Nat, fr ≤ j → j < i → openOf ms (setsL n d (begun ++ [(j : Int)]) (j + 1)) = none) : openOf ms (setsL n (d + 1) begun fr) = some s := by
  unfold openOf
  rw [setsL, List.find?_flatMap, List.findSome?_eq_some_iff]
  refine ⟨List.range' fr (i - fr), i, List.range' (i + 1) (n - i - 1), ?_, hs, fun j hj => ?_⟩
  · have e1 : n - fr = (i - fr) + ((n - i - 1) + 1) := by omega
    rw [e1, ← List.range'_append_1, List.range'_succ, show fr + (i - fr) = i by omega]
  · rw [List.mem_range'_1] at hj
    exact h j hj.1 (by omega)
def frOk (begun : List Int) (fr : Nat) : Prop := (begun = [] ∧ fr = 0) ∨ ∃ h : 0 < begun.length, begun[begun.length - 1] + 1 = (fr : Int)
set_option maxRecDepth 100000 in
set_option maxHeartbeats 4000000 in
theorem sets_s (ms : List (List Int × List Bool)) (n size : Nat) (hm : ms.length ≤ 1000000) (hn : n ≤ 8) (hsz : size ≤ n) (hml : ∀ m ∈ ms, m.2.length = n) : ∀ (d : Nat) (begun : List Int) (fr : Nat) (c1 : FV), begun.length + d = size → (∀ i ∈ begun, 0 ≤ i ∧ i < (n : Int)) → fr ≤ n → frOk begun fr → (∃ y, cellsF c1 = some [y]) →
    SummX Tryd.prog GG 123 [iv (n : Nat), iv (size : Nat), .sl begun.length (intsF begun)] (.fb 124 [.pt [.sl ms.length (modelsF ms)] 0] 0) c1 (bv (openOf ms (setsL n d begun fr)).isNone) (outF c1 (openOf ms (setsL n d begun fr))) := by
  intro d
  induction d with
  | zero =>
    intro begun fr c1 hl hb hfr hfo hc
    have hin : ∀ m ∈ ms, ∀ i ∈ begun, 0 ≤ i ∧ i < m.2.length := fun m hm i hi => by rw [hml m hm]; exact hb i hi
    refine summX_of Tryd.func123 rfl rfl 44 rfl (by simp) (.inr ⟨_, _, rfl⟩) (fun M0 X p => ?_)
    cases ha : ms.any (covB begun)
    · have e : openOf ms (setsL n 0 begun fr) = some begun := by unfold openOf setsL; simp [ha]
      have Y := yield_f ms begun c1 hm (by omega) hin ha hc
      rw [e]
      repeat (first
    | (apply s_callY Y; exact rfl; exact rfl; exact rfl; exact rfl; exact rfl)
    | (apply s_a TY; exact rfl)
    | (apply s_t; exact rfl; (first | assumption | omega))
    | apply w_seq
    | apply w_region
    | apply s_nil
    | apply t_norm
    | apply t_ret
    | apply w_ret
    | (apply w_condT; exact rfl; exact rfl))
      exact ⟨8, rfl, rfl, rfl⟩
    · have e : openOf ms (setsL n 0 begun fr) = none := by unfold openOf setsL; simp [ha]
      have Y := yield_t ms begun c1 hm (by omega) hin ha
      rw [e]
      repeat (first
    | (apply s_callY Y; exact rfl; exact rfl; exact rfl; exact rfl; exact rfl)
    | (apply s_a TY; exact rfl)
    | (apply s_t; exact rfl; (first | assumption | omega))
    | apply w_seq
    | apply w_region
    | apply s_nil
    | apply t_norm
    | apply t_ret
    | apply w_ret
    | (apply w_condT; exact rfl; exact rfl))
      exact ⟨8, rfl, rfl, rfl⟩
  | succ d ih =>
    intro begun fr c1 hl hb hfr hfo hc
    have hil := intsF_len begun
    refine summX_of Tryd.func123 rfl rfl 44 rfl (by simp) (.inr ⟨_, _, rfl⟩) (fun M0 X p => ?_)
    have CLP := clip_s begun (by omega)
    rcases hfo with ⟨e0, e1⟩ | ⟨hp, he⟩
    case' inl => subst e0; subst e1
    case' inl => have hz0 : ([] : List Int).length = 0 := rfl
    case' inr => have hq : (intsF begun)[((begun.length : Int) - 1).toNat * 1]? = some (iv ((fr : Int) - 1)) := by rw [show ((begun.length : Int) - 1).toNat = begun.length - 1 by omega, intsF_at (by omega)]; congr 2; omega
    case' inr => have hne : intsF begun ≠ [] := intsF_ne hp
    case' inl => repeat (first
    | (apply s_a TY; exact rfl)
    | (apply s_f; exact rfl; (first | assumption | omega))
    | apply w_seq
    | apply w_region
    | apply s_nil
    | apply t_norm
    | apply w_block
    | apply w_skip
    | (apply w_condF; exact rfl; exact rfl))
    case' inl => apply w_loop (fun i : Nat => ⟨(Ab.upd (Ab.upd (Ab.upd (Ab.upd (Ab.upd (fun _ => .bot) 0 (.f (iv (n : Nat)))) 1 (.f (iv (size : Nat)))) 2 (.f (.sl ([] : List Int).length (intsF ([] : List Int))))) 3 (.fb 124 [.pt [.sl ms.length (modelsF ms)] 0] 0)) 10 (.f (iv (i : Nat)))), (Ab.upd (fun _ => none) 0 (some (.box [.f c1]))), 1⟩) (fun i => i ≤ n ∧ ∀ j : Nat, 0 ≤ j → j < i → openOf ms (setsL n d ([] ++ [(j : Int)]) (j + 1)) = none) (fun i => n - i) 0 (⟨Nat.zero_le _, fun j _ h => absurd h (Nat.not_lt_zero j)⟩) (gh_le ⟨le_upd rfl trivial (le_upd rfl rfl (le_upd rfl trivial (le_upd rfl trivial (le_upd rfl trivial (le_nil _))))), le_hupd rfl (fun y hy => by simp at hy; subst hy; trivial) (le_h0 _ _)⟩)
    case' inr => repeat (first
    | (apply s_a TY; exact rfl)
    | (apply s_t; exact rfl; (first | assumption | omega))
    | (apply s_f; exact rfl; (first | assumption | omega))
    | apply w_seq
    | apply w_region
    | apply s_nil
    | apply t_norm
    | apply w_block
    | apply w_skip
    | (apply w_condT; exact rfl; exact rfl)
    | (apply w_condF; exact rfl; exact rfl)
    | (apply s_c TY; exact rfl; (first | omega | exact ⟨by omega, by (first | with_reducible assumption | ((with_reducible apply intsF_ne); omega) | assumption)⟩))
    | (apply s_z TY; exact rfl; (first | omega | exact ⟨by omega, by (first | with_reducible assumption | ((with_reducible apply intsF_ne); omega) | assumption)⟩))
    | (apply s_l TY; exact rfl; (first | exact rfl | with_reducible assumption | ((with_reducible apply intsF_at); omega) | assumption)))
    case' inr => apply w_loop (fun i : Nat => ⟨(Ab.upd (Ab.upd (Ab.upd (Ab.upd (Ab.upd (fun _ => .bot) 0 (.f (iv (n : Nat)))) 1 (.f (iv (size : Nat)))) 2 (.f (.sl begun.length (intsF begun)))) 3 (.fb 124 [.pt [.sl ms.length (modelsF ms)] 0] 0)) 10 (.f (iv (i : Nat)))), (Ab.upd (fun _ => none) 0 (some (.box [.f c1]))), 1⟩) (fun i => (fr ≤ i ∧ i ≤ n) ∧ ∀ j : Nat, fr ≤ j → j < i → openOf ms (setsL n d (begun ++ [(j : Int)]) (j + 1)) = none) (fun i => n - i) fr (⟨⟨Nat.le_refl _, hfr⟩, fun j h1 h2 => absurd h1 (by omega)⟩) (gh_le ⟨le_upd (congrArg (fun z => AV.f (iv z)) (by omega)) trivial (le_upd rfl rfl (le_upd rfl trivial (le_upd rfl trivial (le_upd rfl trivial (le_nil _))))), le_hupd rfl (fun y hy => by simp at hy; subst hy; trivial) (le_h0 _ _)⟩)
    case inl =>
      intro i ⟨hi, hall⟩
      by_cases hic : i < n
      · have I := ih ([] ++ [(i : Int)]) (i + 1) c1 (by simp at hl ⊢; omega) (fun z hz => by simp at hz; subst hz; omega) (by omega) (.inr ⟨by simp, by simp⟩) hc
        cases ho : openOf ms (setsL n d ([] ++ [(i : Int)]) (i + 1)) with
        | none =>
          rw [ho] at I
          repeat (first
    | (apply s_append_cl TY; exact rfl; exact rfl; exact rfl; exact rfl; exact rfl; exact rfl; exact rfl; omega; exact rfl; (unfold maxLen; omega); omega)
    | (apply s_callX (x0 := .tmp 41) (ars := [.tmp 34, .tmp 35, .tmp 40]) I; exact rfl; exact rfl; exact rfl; exact rfl; exact rfl; exact rfl)
    | (apply s_a TY; exact rfl)
    | (apply s_t; exact rfl; (first | assumption | omega))
    | apply w_seq
    | apply w_region
    | apply s_nil
    | apply t_norm
    | apply k_norm
    | apply w_block
    | apply w_skip
    | (apply w_condT; exact rfl; exact rfl)
    | (apply w_condF; exact rfl; exact rfl)
    | (apply s_k (CLP); exact rfl)
    | (apply s_c TY; exact rfl; (first | omega | exact ⟨by omega, by (first | with_reducible assumption | ((with_reducible apply intsF_ne); omega) | assumption)⟩)))
          exact ⟨i + 1, ⟨by omega, fun j _ hj => by
            by_cases e : j = i
            · subst e; exact ho
            · exact hall j (Nat.zero_le _) (by omega)⟩, by omega, gh_le ⟨le_upd rfl trivial (le_upd rfl rfl (le_upd rfl trivial (le_upd rfl trivial (le_upd rfl trivial (le_nil _))))), le_hupd rfl (fun y hy => by simp at hy; subst hy; trivial) (le_h0 _ _)⟩⟩
        | some s =>
          rw [ho] at I
          rw [openOf_some (Nat.zero_le _) hic ho hall]
          repeat (first
    | (apply s_append_cl TY; exact rfl; exact rfl; exact rfl; exact rfl; exact rfl; exact rfl; exact rfl; omega; exact rfl; (unfold maxLen; omega); omega)
    | (apply s_callX (x0 := .tmp 41) (ars := [.tmp 34, .tmp 35, .tmp 40]) I; exact rfl; exact rfl; exact rfl; exact rfl; exact rfl; exact rfl)
    | (apply s_a TY; exact rfl)
    | (apply s_t; exact rfl; (first | assumption | omega))
    | apply w_seq
    | apply w_region
    | apply s_nil
    | apply t_norm
    | apply t_ret
    | apply k_ret
    | apply w_block
    | apply w_ret
    | apply w_skip
    | (apply w_condT; exact rfl; exact rfl)
    | (apply s_k (CLP); exact rfl))
          exact ⟨8, rfl, rfl, rfl⟩
      · rw [openOf_none (fun j h1 h2 => hall j h1 (by omega))]
        repeat (first
    | (apply s_a TY; exact rfl)
    | (apply s_f; exact rfl; (first | assumption | omega))
    | apply w_seq
    | apply w_region
    | apply s_nil
    | apply t_norm
    | apply t_exit
    | apply k_hit
    | apply w_exit
    | apply w_ret
    | (apply w_condF; exact rfl; exact rfl))
        exact ⟨8, rfl, rfl, rfl⟩
    case inr =>
      intro i ⟨⟨hfi, hi⟩, hall⟩
      by_cases hic : i < n
      · have I := ih (begun ++ [(i : Int)]) (i + 1) c1 (by simp; omega) (fun z hz => by
          rcases List.mem_append.1 hz with h | h
          · exact hb z h
          · rw [List.mem_singleton.1 h]; omega) (by omega) (.inr ⟨by simp, by simp⟩) hc
        rw [show (begun ++ [(i : Int)]).length = begun.length + 1 by simp, show intsF (begun ++ [(i : Int)]) = intsF begun ++ [iv i] by simp [intsF]] at I
        cases ho : openOf ms (setsL n d (begun ++ [(i : Int)]) (i + 1)) with
        | none =>
          rw [ho] at I
          repeat (first
    | (apply s_append_cl TY; exact rfl; exact rfl; exact rfl; exact rfl; exact rfl; exact rfl; exact rfl; omega; exact rfl; (unfold maxLen; omega); omega)
    | (apply s_callX (x0 := .tmp 41) (ars := [.tmp 34, .tmp 35, .tmp 40]) I; exact rfl; exact rfl; exact rfl; exact rfl; exact rfl; exact rfl)
    | (apply s_a TY; exact rfl)
    | (apply s_t; exact rfl; (first | assumption | omega))
    | apply w_seq
    | apply w_region
    | apply s_nil
    | apply t_norm
    | apply k_norm
    | apply w_block
    | apply w_skip
    | (apply w_condT; exact rfl; exact rfl)
    | (apply w_condF; exact rfl; exact rfl)
    | (apply s_k (CLP); exact rfl)
    | (apply s_c TY; exact rfl; (first | omega | exact ⟨by omega, by (first | with_reducible assumption | ((with_reducible apply intsF_ne); omega) | assumption)⟩)))
          exact ⟨i + 1, ⟨⟨by omega, by omega⟩, fun j h1 hj => by
            by_cases e : j = i
            · subst e; exact ho
            · exact hall j h1 (by omega)⟩, by omega, gh_le ⟨le_upd rfl trivial (le_upd rfl rfl (le_upd rfl trivial (le_upd rfl trivial (le_upd rfl trivial (le_nil _))))), le_hupd rfl (fun y hy => by simp at hy; subst hy; trivial) (le_h0 _ _)⟩⟩
        | some s =>
          rw [ho] at I
          rw [openOf_some hfi hic ho hall]
          repeat (first
    | (apply s_append_cl TY; exact rfl; exact rfl; exact rfl; exact rfl; exact rfl; exact rfl; exact rfl; omega; exact rfl; (unfold maxLen; omega); omega)
    | (apply s_callX (x0 := .tmp 41) (ars := [.tmp 34, .tmp 35, .tmp 40]) I; exact rfl; exact rfl; exact rfl; exact rfl; exact rfl; exact rfl)
    | (apply s_a TY; exact rfl)
    | (apply s_t; exact rfl; (first | assumption | omega))
    | apply w_seq
    | apply w_region
    | apply s_nil
    | apply t_norm
    | apply t_ret
    | apply k_ret
    | apply w_block
    | apply w_ret
    | apply w_skip
    | (apply w_condT; exact rfl; exact rfl)
    | (apply s_k (CLP); exact rfl))
          exact ⟨8, rfl, rfl, rfl⟩
      · rw [openOf_none (fun j h1 h2 => hall j h1 (by omega))]
        repeat (first
    | (apply s_a TY; exact rfl)
    | (apply s_f; exact rfl; (first | assumption | omega))
    | apply w_seq
    | apply w_region
    | apply s_nil
    | apply t_norm
    | apply t_exit
    | apply k_hit
    | apply w_exit
    | apply w_ret
    | (apply w_condF; exact rfl; exact rfl))
        exact ⟨8, rfl, rfl, rfl⟩
end Go.Proofs.YtienhiloecfgnaaDoor
namespace Go.Proofs.YtienhiloecfgnaaDoor
open Go Go.RowKit Go.Proofs Go.Shelf Go.Ab
theorem sumX_nil {P : Program} {GG' : Nat → Option (List FV)} {g : Nat} {a b : FV} {last : AV} {c1 r c2 : FV} (K : SummX P GG' g [a, b, .sl 0 []] last c1 r c2) : SummX P GG' g [a, b, .v (.slice none 0 0)] last c1 r c2 :=
  ⟨K.enters, fun w M us u b T v1 hM hMb hG R hL h1 h2 h3 => K.call w M us u b T v1 hM hMb hG ⟨R.1, fun k z x hz hx => by
    match k, hx with
    | 0, hx => simp at hx; subst hx; exact R.2 0 z _ hz rfl
    | 1, hx => simp at hx; subst hx; exact R.2 1 z _ hz rfl
    | 2, hx => simp at hx; subst hx; exact rep_nil (R.2 2 z _ hz rfl)
    | k + 3, hx => simp at hx⟩ hL h1 h2 h3⟩
noncomputable def conK (x : Grid) (rs : List Rng) (l : List Flash) (k : Nat) : Option (List Int) := openOf (allMo x rs l) (setsL l.length k [] 0)
theorem sets_k (x : Grid) (rs : List Rng) (l : List Flash) (K : FlashesOk x rs l) (k : Nat) (hk : k ≤ l.length) : SummX Tryd.prog GG 123 [iv (l.length : Nat), iv (k : Nat), .v (.slice none 0 0)] (.fb 124 [.pt [.sl (allMo x rs l).length (modelsF (allMo x rs l))] 0] 0) (.v (.slice none 0 0)) (bv (conK x rs l k).isNone) (outF (.v (.slice none 0 0)) (conK x rs l k)) :=
  sumX_nil (sets_s (allMo x rs l) l.length k (by have := allMo_len K; omega) K.l8 hk (fun _ h => allMo_bools h) k [] 0 _ (by simp) (fun _ h => by cases h) (Nat.zero_le _) (.inl ⟨rfl, rfl⟩) ⟨_, rfl⟩)
set_option maxRecDepth 100000 in
theorem Contra_err (x : Grid) (rs : List Rng) (l : List Flash) (b : Small x rs l) (h : (checkFlashes x rs l).2 ≠ 0) : Summ Tryd.prog GG 70 [classF x rs, .sl l.length (flasF l)] (.tup [.v (.slice none 0 0), iv (checkFlashes x rs l).2]) := by
  have OE := openModels_err x rs l b h
  refine summW Tryd.func70 rfl rfl 35 rfl (by simp) (fun M0 => ?_)
  repeat (first
    | (apply s_a TY; exact rfl)
    | (apply s_f; exact rfl; (first | assumption | omega))
    | apply w_seq
    | apply w_region
    | apply s_nil
    | apply t_norm
    | apply t_ret
    | apply w_ret
    | (apply w_condT; exact rfl; exact rfl)
    | (apply s_k (OE); exact rfl)
    | (apply s_alloc TY; exact rfl; exact rfl; exact rfl)
    | (apply s_store TY; exact rfl; exact rfl; exact rfl; exact rfl; exact rfl; exact rfl))
  exact lv_ret (ret2 rfl (res_tmp rfl) (res_tmp rfl))
set_option maxRecDepth 100000 in
set_option maxHeartbeats 1000000 in
theorem Contra_some (x : Grid) (rs : List Rng) (l : List Flash) (b : Small x rs l) (h : (checkFlashes x rs l).2 = 0) (n : Nat) (s : List Int) (hn : n ≤ l.length) (hs : conK x rs l n = some s) (hb : ∀ j, j < n → conK x rs l j = none) : Summ Tryd.prog GG 70 [classF x rs, .sl l.length (flasF l)] (.tup [.sl s.length (intsF s), iv 0]) := by
  have OE := openModels_ok x rs l b h
  have K := flashesOk h
  have h8 := K.l8
  refine summW Tryd.func70 rfl rfl 35 rfl (by simp) (fun M0 => ?_)
  repeat (first
    | (apply s_a TY; exact rfl)
    | (apply s_t; exact rfl; (first | assumption | omega))
    | apply w_seq
    | apply w_region
    | apply s_nil
    | apply t_norm
    | apply w_block
    | apply w_skip
    | (apply w_condF; exact rfl; exact rfl)
    | (apply s_k (OE); exact rfl)
    | (apply s_c TY; exact rfl; omega)
    | (apply s_alloc TY; exact rfl; exact rfl; exact rfl)
    | (apply s_store TY; exact rfl; exact rfl; exact rfl; exact rfl; exact rfl; exact rfl))
  apply w_gh (gh_box (cs := [.sl (allMo x rs l).length (modelsF (allMo x rs l))]) 0 rfl rfl)
  apply w_loop (fun k : Nat => ⟨(Ab.upd (Ab.upd (Ab.upd (Ab.upd (fun _ => .bot) 1 (.f (.sl l.length (flasF l)))) 6 (.f (.pt [.sl (allMo x rs l).length (modelsF (allMo x rs l))] 0))) 22 (.f (iv ((l.length : Int) + 1)))) 23 (.f (iv (k : Nat)))), (fun _ => none), 0⟩) (fun k => k ≤ n) (fun k => n - k) 0 (Nat.zero_le _) (gh_le ⟨le_upd rfl trivial (le_upd rfl trivial (le_upd rfl trivial (le_upd rfl trivial (le_nil _)))), le_h0 _ _⟩)
  intro k hk
  by_cases hkn : k = n
  · subst hkn
    have I := sets_k x rs l K k hn
    rw [hs] at I
    repeat (first
    | (apply s_makefb (x0 := .tmp 9) (cs := [.tmp 6]); exact rfl; exact rfl; exact rfl; exact rfl)
    | (apply s_callX (x0 := .tmp 29) (ars := [.tmp 27, .tmp 28, .const (.slice none 0 0)]) I; exact rfl; exact rfl; exact rfl; exact rfl; exact rfl; exact rfl)
    | (apply s_a TY; exact rfl)
    | (apply s_t; exact rfl; (first | assumption | omega))
    | apply w_seq
    | apply w_region
    | apply s_nil
    | apply t_norm
    | apply t_ret
    | apply k_ret
    | apply w_block
    | apply w_ret
    | apply w_skip
    | (apply w_condT; exact rfl; exact rfl)
    | (apply s_alloc TY; exact rfl; exact rfl; exact rfl))
    exact lv_ret (ret2 rfl (res_tmp rfl) (res_tmp rfl))
  · have I := sets_k x rs l K k (by omega)
    rw [hb k (by omega)] at I
    repeat (first
    | (apply s_makefb (x0 := .tmp 9) (cs := [.tmp 6]); exact rfl; exact rfl; exact rfl; exact rfl)
    | (apply s_callX (x0 := .tmp 29) (ars := [.tmp 27, .tmp 28, .const (.slice none 0 0)]) I; exact rfl; exact rfl; exact rfl; exact rfl; exact rfl; exact rfl)
    | (apply s_a TY; exact rfl)
    | (apply s_t; exact rfl; (first | assumption | omega))
    | apply w_seq
    | apply w_region
    | apply s_nil
    | apply t_norm
    | apply k_norm
    | apply w_block
    | apply w_skip
    | (apply w_condT; exact rfl; exact rfl)
    | (apply w_condF; exact rfl; exact rfl)
    | (apply s_c TY; exact rfl; omega)
    | (apply s_alloc TY; exact rfl; exact rfl; exact rfl))
    exact ⟨k + 1, by omega, by omega, gh_le ⟨le_upd rfl trivial (le_upd rfl trivial (le_upd rfl trivial (le_upd rfl trivial (le_nil _)))), le_h0 _ _⟩⟩
set_option maxRecDepth 100000 in
set_option maxHeartbeats 1000000 in
theorem Contra_none (x : Grid) (rs : List Rng) (l : List Flash) (b : Small x rs l) (h : (checkFlashes x rs l).2 = 0) (hb : ∀ j, j ≤ l.length → conK x rs l j = none) : Summ Tryd.prog GG 70 [classF x rs, .sl l.length (flasF l)] (.tup [.v (.slice none 0 0), iv 12]) := by
  have OE := openModels_ok x rs l b h
  have K := flashesOk h
  have h8 := K.l8
  refine summW Tryd.func70 rfl rfl 35 rfl (by simp) (fun M0 => ?_)
  repeat (first
    | (apply s_a TY; exact rfl)
    | (apply s_t; exact rfl; (first | assumption | omega))
    | apply w_seq
    | apply w_region
    | apply s_nil
    | apply t_norm
    | apply w_block
    | apply w_skip
    | (apply w_condF; exact rfl; exact rfl)
    | (apply s_k (OE); exact rfl)
    | (apply s_c TY; exact rfl; omega)
    | (apply s_alloc TY; exact rfl; exact rfl; exact rfl)
    | (apply s_store TY; exact rfl; exact rfl; exact rfl; exact rfl; exact rfl; exact rfl))
  apply w_gh (gh_box (cs := [.sl (allMo x rs l).length (modelsF (allMo x rs l))]) 0 rfl rfl)
  apply w_loop (fun k : Nat => ⟨(Ab.upd (Ab.upd (Ab.upd (Ab.upd (fun _ => .bot) 1 (.f (.sl l.length (flasF l)))) 6 (.f (.pt [.sl (allMo x rs l).length (modelsF (allMo x rs l))] 0))) 22 (.f (iv ((l.length : Int) + 1)))) 23 (.f (iv (k : Nat)))), (fun _ => none), 0⟩) (fun k => k ≤ l.length + 1) (fun k => l.length + 1 - k) 0 (Nat.zero_le _) (gh_le ⟨le_upd rfl trivial (le_upd rfl trivial (le_upd rfl trivial (le_upd rfl trivial (le_nil _)))), le_h0 _ _⟩)
  intro k hk
  by_cases hkn : k = l.length + 1
  · subst hkn
    repeat (first
    | (apply s_a TY; exact rfl)
    | (apply s_f; exact rfl; (first | assumption | omega))
    | apply w_seq
    | apply w_region
    | apply s_nil
    | apply t_norm
    | apply t_exit
    | apply k_hit
    | apply w_exit
    | apply w_ret
    | (apply w_condF; exact rfl; exact rfl))
    exact lv_ret (ret2 rfl (res_tmp rfl) (res_tmp rfl))
  · have I := sets_k x rs l K k (by omega)
    rw [hb k (by omega)] at I
    repeat (first
    | (apply s_makefb (x0 := .tmp 9) (cs := [.tmp 6]); exact rfl; exact rfl; exact rfl; exact rfl)
    | (apply s_callX (x0 := .tmp 29) (ars := [.tmp 27, .tmp 28, .const (.slice none 0 0)]) I; exact rfl; exact rfl; exact rfl; exact rfl; exact rfl; exact rfl)
    | (apply s_a TY; exact rfl)
    | (apply s_t; exact rfl; (first | assumption | omega))
    | apply w_seq
    | apply w_region
    | apply s_nil
    | apply t_norm
    | apply k_norm
    | apply w_block
    | apply w_skip
    | (apply w_condT; exact rfl; exact rfl)
    | (apply w_condF; exact rfl; exact rfl)
    | (apply s_c TY; exact rfl; omega)
    | (apply s_alloc TY; exact rfl; exact rfl; exact rfl))
    exact ⟨k + 1, by omega, by omega, gh_le ⟨le_upd rfl trivial (le_upd rfl trivial (le_upd rfl trivial (le_upd rfl trivial (le_nil _)))), le_h0 _ _⟩⟩
end Go.Proofs.YtienhiloecfgnaaDoor
namespace Go.Proofs.YtienhiloecfgnaaDoor
open Go Go.RowKit Go.Proofs Go.Shelf
attribute [local go_sem] Oper.semAt_some
structure NbRdO (Bc oc Bx ox : Nat) (la ta : Option Addr) (lc tc : Nat) (x : Grid) (c : Cel) (w : World) : Prop where
  c0 : w.cell? ⟨Bc, oc, none⟩ = some (.int .i64 c.col)
  c1 : w.cell? ⟨Bc, oc + 1, none⟩ = some (.int .i64 c.row)
  x0 : w.cell? ⟨Bx, ox, none⟩ = some (.slice la x.layers.length lc)
  x1 : w.cell? ⟨Bx, ox + 1, none⟩ = some (.int .i64 x.rows)
  x2 : w.cell? ⟨Bx, ox + 2, none⟩ = some (.slice ta x.tilt.length tc)
  at_ : GridAt w la ta x
  sides : Sides w
structure CellsRdO (Bx ox : Nat) (ta : Option Addr) (tc : Nat) (x : Grid) (w : World) : Prop where
  x1 : w.cell? ⟨Bx, ox + 1, none⟩ = some (.int .i64 x.rows)
  x2 : w.cell? ⟨Bx, ox + 2, none⟩ = some (.slice ta x.tilt.length tc)
open Go.Ab
end Go.Proofs.YtienhiloecfgnaaDoor
namespace Go.Proofs.YtienhiloecfgnaaDoor
open Go Go.RowKit Go.Proofs Go.Shelf Go.Ab
theorem unless_T (k : Int) : Summ Tryd.prog GG 89 [.v (.bool true), iv k] (iv 0) := unless_s true k
theorem unless_F (k : Int) : Summ Tryd.prog GG 89 [.v (.bool false), iv k] (iv k) := unless_s false k
theorem first2_0 (a0 a1 : Int) (h : a0 ≠ 0) : Summ Tryd.prog GG 83 [.sl 2 [iv a0, iv a1]] (iv a0) := by
  have := first_s [a0, a1] (by simp)
  rwa [show firstE [a0, a1] = a0 by simp [firstE, h]] at this
theorem first2_1 (a0 a1 : Int) (h : a0 = 0) : Summ Tryd.prog GG 83 [.sl 2 [iv a0, iv a1]] (iv a1) := by
  have := first_s [a0, a1] (by simp)
  rwa [show firstE [a0, a1] = a1 by simp [firstE, h] <;> exact fun e => e.symm] at this
def adjE (a b : Cel) : Int := max (a.col - b.col) (-(a.col - b.col)) + max (a.row - b.row) (-(a.row - b.row))
theorem in_bd {x : Grid} (v : Valid x) {c : Cel} (h : InG x c) : (0 ≤ c.col ∧ c.col < 8) ∧ 0 ≤ c.row ∧ c.row < 12 := by
  have := v.t8; have := v.r12
  obtain ⟨⟨a, b⟩, c, d⟩ := h
  exact ⟨⟨a, by omega⟩, c, by omega⟩
theorem cellE_in {x : Grid} (v : Valid x) {c : Cel} : cellErrE x c = 0 ↔ InG x c := by
  unfold cellErrE; rw [unlessE_zero (by decide), cellB_in v]
theorem cellE_six {x : Grid} {c : Cel} (h : cellErrE x c ≠ 0) : cellErrE x c = 6 := by
  unfold cellErrE at h ⊢; cases hb : cellB x c <;> simp_all [unlessE]
theorem delay_at {x : Grid} (v : Valid x) (c : Cel) : (laysF x.layers)[(layerI x c).toNat * 3 + 0]? = some (iv (delayAt x c)) := by
  obtain ⟨b0, b1⟩ := layerI_bd v c
  have hk : (layerI x c).toNat < x.layers.length := by omega
  unfold delayAt
  rw [List.getD_eq_getElem?_getD, List.getElem?_eq_getElem hk, Option.getD_some]
  exact flat_at (f := layF) (fun _ => rfl) hk (by decide)
set_option maxRecDepth 100000 in
theorem Step_s (x : Grid) (a b : Cel) (v : Valid x) (ha : InG x a) (hb : InG x b) : Summ Tryd.prog GG 121 [gridF x, .agg (celF a), .agg (celF b)] (iv (stepI x a b)) := by
  obtain ⟨a0, a1⟩ := layerI_bd v a
  obtain ⟨b0, b1⟩ := layerI_bd v b
  have da := delay_at v a
  have db := delay_at v b
  have ta := delayAt_bd v a
  have tb := delayAt_bd v b
  have La := Layer_s x a v ha
  have Lb := Layer_s x b v hb
  refine summW Tryd.func121 rfl rfl 24 rfl (by simp) (fun M0 => ?_)
  repeat (first
    | (apply s_a TY; exact rfl)
    | apply w_seq
    | apply w_region
    | (apply w_draw (id := 1) 16 rfl (by kernel_rfl))
    | apply s_nil
    | apply t_norm
    | apply w_ret
    | (apply s_k (La); exact rfl)
    | (apply s_k (Lb); exact rfl)
    | (apply s_c TY; exact rfl; (first | omega | exact ⟨by omega, by (first | with_reducible assumption | ((with_reducible apply laysF_ne); omega) | assumption)⟩))
    | (apply s_z TY; exact rfl; (first | omega | exact ⟨by omega, by (first | with_reducible assumption | ((with_reducible apply laysF_ne); omega) | assumption)⟩))
    | (apply s_l TY; exact rfl; (first | exact rfl | with_reducible assumption | assumption)))
  exact lv_ret (ret1 rfl (res_tmp rfl))
end Go.Proofs.YtienhiloecfgnaaDoor
namespace Go.Proofs.YtienhiloecfgnaaDoor
open Go Go.RowKit Go.Proofs Go.Shelf Go.Ab
def sides4 (c : Cel) : List Cel := [⟨c.col - 1, c.row⟩, ⟨c.col, c.row - 1⟩, ⟨c.col, c.row + 1⟩, ⟨c.col + 1, c.row⟩]
theorem sides4_cand (c : Cel) : cand c = sides4 c := by simp [cand, sides4, Int.sub_eq_add_neg]
def keepS (x : Grid) (c : Cel) (k : Nat) : List Cel := ((sides4 c).take k).filter (cellB x)
theorem keepS_succ {x : Grid} {c : Cel} {k : Nat} (hk : k < (sides4 c).length) : keepS x c (k + 1) = keepS x c k ++ (if cellB x (sides4 c)[k] = true then [(sides4 c)[k]] else []) := by
  unfold keepS
  rw [List.take_succ_eq_append_getElem hk, List.filter_append]
  congr 1
  by_cases h : cellB x (sides4 c)[k] = true <;> simp [h]
theorem keepS_all (x : Grid) (c : Cel) : keepS x c 4 = nbrs x c := by
  unfold keepS nbrs; rw [sides4_cand]; rfl
theorem keepS_len (x : Grid) (c : Cel) (k : Nat) : (keepS x c k).length ≤ 4 := by
  unfold keepS
  refine Nat.le_trans (List.length_filter_le _ _) ?_
  rw [List.length_take]; exact Nat.le_trans (Nat.min_le_right _ _) (Nat.le_refl _)
theorem row_app (l : List Cel) (a : Cel) : some (Blk.row 27 2 (l ++ [a]).length (celsF (l ++ [a]))) = some (Blk.row 27 2 (l.length + 1) (celsF l ++ celF a)) := by
  simp [celsF, List.flatMap_append]
set_option maxRecDepth 100000 in
theorem around_s (x : Grid) (c : Cel) (v : Valid x) (hc : InG x c) : Summ Tryd.prog GG 120 [gridF x, .agg (celF c)] (.sl (nbrs x c).length (celsF (nbrs x c))) := by
  have := in_bd v hc
  refine summW Tryd.func120 rfl rfl 54 rfl (by simp) (fun M0 => ?_)
  repeat (first
    | (apply s_a TY; exact rfl)
    | apply w_seq
    | apply w_region
    | apply s_nil
    | apply t_norm
    | apply w_block
    | (apply s_c TY; exact rfl; (first | omega | exact ⟨by omega, by (first | with_reducible assumption | ((with_reducible apply celsF_ne); omega) | assumption)⟩)))
  apply w_gh (gh_own 6 27 2 rfl rfl)
  apply w_loop (fun k : Nat => ⟨(Ab.upd (Ab.upd (Ab.upd (Ab.upd (fun _ => .bot) 2 (.f (.pt (gridL x) 0))) 5 (.f (.sl (sides4 c).length (celsF (sides4 c))))) 6 (.ow 0)) 7 (.f (iv (k : Nat)))), (Ab.upd (fun _ => none) 0 (some (.row 27 2 (keepS x c k).length (celsF (keepS x c k))))), 1⟩) (fun k => k ≤ (sides4 c).length) (fun k => (sides4 c).length - k) 0 (Nat.zero_le _) (gh_le ⟨le_upd rfl trivial (le_upd rfl rfl (le_upd rfl trivial (le_upd rfl trivial (le_nil _)))), le_hupd rfl trivial (le_h0 _ _)⟩)
  intro k hk
  have h4 : (sides4 c).length = 4 := rfl
  have hl := keepS_len x c k
  by_cases hkc : k < (sides4 c).length
  · have CE := CellErr_s x (sides4 c)[k] v
    have hs := keepS_succ (x := x) hkc
    by_cases he : cellErrE x (sides4 c)[k] = 0
    · rw [if_pos ((cellB_in v).2 ((cellE_in v).1 he))] at hs
      repeat (first
    | (apply s_append TY; exact rfl; exact rfl; exact rfl; exact rfl; exact rfl; exact rfl; exact rfl; exact rfl; exact rfl; (unfold maxLen; omega); omega)
    | (apply s_a TY; exact rfl)
    | (apply s_t; exact rfl; (first | assumption | omega))
    | apply w_seq
    | apply w_region
    | (apply w_draw (id := 6) 5 rfl (by kernel_rfl))
    | apply s_nil
    | apply t_norm
    | apply k_norm
    | apply w_block
    | apply w_skip
    | (apply w_condT; exact rfl; exact rfl)
    | (apply s_k (CE); exact rfl)
    | (apply s_c TY; exact rfl; (first | omega | exact ⟨by omega, by (first | with_reducible assumption | ((with_reducible apply celsF_ne); omega) | assumption)⟩))
    | (apply s_m TY; exact rfl; (first | with_reducible assumption | ((with_reducible apply celsF_sub); omega) | exact rfl); exact rfl))
      exact ⟨k + 1, by omega, by omega, gh_le ⟨le_upd rfl trivial (le_upd rfl rfl (le_upd rfl trivial (le_upd rfl trivial (le_nil _)))), le_hupd ((congrArg (fun l : List Cel => some (Blk.row 27 2 l.length (celsF l))) hs).trans (row_app _ _)).symm trivial (le_h0 _ _)⟩⟩
    · rw [if_neg (fun h => he ((cellE_in v).2 ((cellB_in v).1 h))), List.append_nil] at hs
      repeat (first
    | (apply s_a TY; exact rfl)
    | (apply s_t; exact rfl; (first | assumption | omega))
    | (apply s_f; exact rfl; (first | assumption | omega))
    | apply w_seq
    | apply w_region
    | (apply w_draw (id := 6) 5 rfl (by kernel_rfl))
    | apply s_nil
    | apply t_norm
    | apply k_norm
    | apply w_block
    | apply w_skip
    | (apply w_condT; exact rfl; exact rfl)
    | (apply w_condF; exact rfl; exact rfl)
    | (apply s_k (CE); exact rfl)
    | (apply s_c TY; exact rfl; (first | omega | exact ⟨by omega, by (first | with_reducible assumption | ((with_reducible apply celsF_ne); omega) | assumption)⟩))
    | (apply s_m TY; exact rfl; (first | with_reducible assumption | ((with_reducible apply celsF_sub); omega) | exact rfl); exact rfl))
      exact ⟨k + 1, by omega, by omega, gh_le ⟨le_upd rfl trivial (le_upd rfl rfl (le_upd rfl trivial (le_upd rfl trivial (le_nil _)))), le_hupd ((congrArg (fun l : List Cel => some (Blk.row 27 2 l.length (celsF l))) hs)).symm trivial (le_h0 _ _)⟩⟩
  · have hke : k = 4 := by omega
    subst hke
    repeat (first
    | (apply s_a TY; exact rfl)
    | (apply s_f; exact rfl; (first | assumption | omega))
    | apply w_seq
    | apply w_region
    | apply s_nil
    | apply t_norm
    | apply t_exit
    | apply k_hit
    | apply w_exit
    | apply w_ret
    | (apply w_condF; exact rfl; exact rfl))
    refine lv_ret (ret_gh (gh_row 0 rfl) ?_)
    exact ret1 rfl (res_tmp (congrArg (fun z : List Cel => AV.f (.sl z.length (celsF z))) (keepS_all x c)))
end Go.Proofs.YtienhiloecfgnaaDoor
namespace Go.Proofs.YtienhiloecfgnaaDoor
open Go Go.RowKit Go.Proofs Go.Shelf Go.Ab
set_option maxRecDepth 100000 in
theorem CopyInts_n (l : List Int) (hl : l.length ≤ 1000000) : SummN Tryd.prog GG 38 [.sl l.length (intsF l)] 3 1 l.length (intsF l) := by
  refine summN_of Tryd.func38 rfl rfl 6 rfl (by simp) (fun M0 => ?_)
  have hn := intsF_len l
  repeat (first
    | (apply s_bslicew TY (d := some 3); exact rfl; exact rfl; exact rfl; exact rfl; exact rfl; exact rfl; exact rfl; exact rfl; exact rfl)
    | (apply s_append TY; exact rfl; exact rfl; exact rfl; exact rfl; exact rfl; exact rfl; exact rfl; exact rfl; omega; (unfold maxLen; omega); omega)
    | (apply s_a TY; exact rfl)
    | apply w_seq
    | apply w_region
    | apply s_nil
    | apply t_norm
    | apply w_ret)
  exact ⟨2, 0, rfl, rfl, congrArg (fun n => some (Blk.row 3 1 n (intsF l))) (Nat.zero_add _)⟩
set_option maxRecDepth 100000 in
theorem CopyIce_n (x : Grid) (h1 : 1 ≤ x.layers.length) (h2 : x.layers.length ≤ 1000000) (h3 : x.tilt.length ≤ 1000000) : SummS Tryd.prog GG 20 [gridF x] 33 3 x.layers.length (laysF x.layers) [iv x.rows, .sl x.tilt.length (intsF x.tilt)] := by
  refine summS_of TY Tryd.func20 rfl rfl 13 rfl (by simp) (fun M0 => ?_)
  have hn := laysF_len x.layers
  have CI := CopyInts_s x.tilt h3
  repeat (first
    | (apply s_boxw (d := some 1); exact rfl; exact rfl; exact rfl; exact rfl)
    | (apply s_bslice_clip TY; exact rfl; exact rfl; exact rfl; exact rfl; exact rfl; exact rfl)
    | (apply s_copy TY; exact rfl; exact rfl; exact rfl; exact rfl; exact rfl; exact rfl; exact rfl; exact rfl; omega; assumption; (unfold maxLen; omega); omega)
    | (apply s_ldg TY (sub := [iv x.rows, .sl x.tilt.length (intsF x.tilt)]); exact rfl; exact rfl; exact rfl; exact rfl; exact rfl; exact rfl; exact rfl)
    | (apply s_a TY; exact rfl)
    | apply w_seq
    | apply w_region
    | (apply w_draw (id := 1) 8 rfl (by kernel_rfl))
    | apply s_nil
    | apply t_norm
    | apply w_ret
    | (apply s_k (CI); exact rfl)
    | (apply s_alloc TY; exact rfl; exact rfl; exact rfl)
    | (apply s_store TY; exact rfl; exact rfl; exact rfl; exact rfl; exact rfl; exact rfl))
  exact ⟨2, 25, 1, 2, _, rfl, rfl, rfl, rfl, rfl, rfl⟩
set_option maxRecDepth 100000 in
set_option maxHeartbeats 1000000 in
theorem With_s (x : Grid) (ds : List Int) (h1 : 1 ≤ x.layers.length) (h2 : x.layers.length ≤ 1000000) (h3 : x.tilt.length ≤ 1000000) (hd : ds.length = x.layers.length) : Summ Tryd.prog GG 122 [gridF x, .sl ds.length (intsF ds)] (gridF (own x ds)) := by
  have CN := CopyIce_n x h1 h2 h3
  refine summW Tryd.func122 rfl rfl 25 rfl (by simp) (fun M0 => ?_)
  repeat (first
    | (apply s_callS CN; exact rfl; exact rfl; exact rfl; exact rfl; exact rfl)
    | (apply s_a TY; exact rfl)
    | apply w_seq
    | apply w_region
    | apply s_nil
    | apply t_norm
    | apply w_block
    | (apply s_alloc TY; exact rfl; exact rfl; exact rfl)
    | (apply s_store TY; exact rfl; exact rfl; exact rfl; exact rfl; exact rfl; exact rfl))
  apply w_loop (fun k : Nat => ⟨(Ab.upd (Ab.upd (Ab.upd (Ab.upd (fun _ => .bot) 1 (.f (.sl ds.length (intsF ds)))) 4 (.bx 0 0)) 5 (.bx 2 0)) 6 (.f (iv (k : Nat)))), (Ab.upd (Ab.upd (Ab.upd (fun _ => none) 0 (some (.box [.f (.v (.slice none 0 0)), .f (iv 0), .f (.v (.slice none 0 0))]))) 1 (some (.row 33 3 x.layers.length (laysF (ownL x ds k))))) 2 (some (.box [.ow 1, .f (iv x.rows), .f (.sl x.tilt.length (intsF x.tilt))]))), 3⟩) (fun k => k ≤ ds.length) (fun k => ds.length - k) 0 (Nat.zero_le _) (gh_le ⟨le_upd rfl trivial (le_upd rfl rfl (le_upd rfl rfl (le_upd rfl trivial (le_nil _)))), le_hupd rfl (fun y hy => by simp at hy; rcases hy with rfl | rfl | rfl <;> first | trivial | rfl) (le_hupd (congrArg (fun l => some (Blk.row 33 3 x.layers.length (laysF l))) (ownL_zero x ds).symm) trivial (le_hupd rfl (fun y hy => by simp at hy; rcases hy with rfl | rfl | rfl <;> first | trivial | rfl) (le_h0 _ _)))⟩)
  intro k hk
  by_cases hkc : k < ds.length
  · have hs := ownL_succ x ds hkc hd
    have hll := ownL_len x ds k
    have hln := laysF_len (ownL x ds k)
    repeat (first
    | (apply s_storeR TY; exact rfl; exact rfl; exact rfl; exact rfl; exact rfl; (show _ + 1 ≤ _; omega))
    | (apply s_a TY; exact rfl)
    | (apply s_t; exact rfl; (first | assumption | omega))
    | apply w_seq
    | apply w_region
    | (apply w_draw (id := 5) 7 rfl (by kernel_rfl))
    | apply s_nil
    | apply t_norm
    | apply k_norm
    | apply w_block
    | apply w_skip
    | (apply w_condT; exact rfl; exact rfl)
    | (apply s_c TY; exact rfl; (first | omega | exact ⟨by omega, by (first | with_reducible assumption | ((with_reducible apply laysF_ne); omega) | ((with_reducible apply intsF_ne); omega) | assumption)⟩))
    | (apply s_l TY; exact rfl; (first | exact rfl | with_reducible assumption | ((with_reducible apply intsF_at); omega) | assumption)))
    exact ⟨k + 1, by omega, by omega, gh_le ⟨le_upd rfl trivial (le_upd rfl rfl (le_upd rfl rfl (le_upd rfl trivial (le_nil _)))), le_hupd rfl (fun y hy => by simp at hy; rcases hy with rfl | rfl | rfl <;> first | trivial | rfl) (le_hupd (congrArg (fun l => some (Blk.row 33 3 x.layers.length l)) hs) trivial (le_hupd rfl (fun y hy => by simp at hy; rcases hy with rfl | rfl | rfl <;> first | trivial | rfl) (le_h0 _ _)))⟩⟩
  · have hke : k = ds.length := by omega
    subst hke
    repeat (first
    | (apply s_a TY; exact rfl)
    | (apply s_f; exact rfl; (first | assumption | omega))
    | apply w_seq
    | apply w_region
    | apply s_nil
    | apply t_norm
    | apply t_exit
    | apply k_hit
    | apply w_exit
    | (apply w_condF; exact rfl; exact rfl))
    refine s_ghost rfl (gh_row 1 rfl) ?_
    repeat (first
    | (apply s_a TY; exact rfl)
    | apply s_nil
    | apply t_norm
    | apply w_ret
    | (apply s_store TY; exact rfl; exact rfl; exact rfl; exact rfl; exact rfl; exact rfl))
    have e : gridF (own x ds) = .agg [.sl x.layers.length (laysF (ownL x ds ds.length)), iv x.rows, .sl x.tilt.length (intsF x.tilt)] := by
      rw [ownL_end, ← own_layers x ds]; rfl
    rw [e]
    exact lv_ret (ret1 rfl (res_bxs (sub := [.sl x.layers.length (laysF (ownL x ds ds.length)), iv x.rows, .sl x.tilt.length (intsF x.tilt)]) TY rfl rfl rfl rfl rfl))
end Go.Proofs.YtienhiloecfgnaaDoor
namespace Go.Proofs.YtienhiloecfgnaaDoor
open Go Go.RowKit Go.Proofs Go.Shelf Go.Ab
structure ShapeOk (x : Grid) (T : List (List Int)) : Prop where
  len : (T.length : Int) = x.rows
  row : ∀ r ∈ T, r.length = x.tilt.length
theorem tab_at {x : Grid} {T : List (List Int)} (h : ShapeOk x T) {c : Cel} (hc : InG x c) : ∃ (h1 : c.row.toNat < T.length) (_ : c.col.toNat < T[c.row.toNat].length), (intsF T[c.row.toNat])[c.col.toNat * 1]? = some (iv (tab T c)) := by
  have hl := h.len
  obtain ⟨⟨c0, c1⟩, r0, r1⟩ := hc
  have h1 : c.row.toNat < T.length := by omega
  have hr := h.row _ (List.getElem_mem h1)
  have h2 : c.col.toNat < T[c.row.toNat].length := by omega
  refine ⟨h1, h2, ?_⟩
  rw [intsF_at h2]
  unfold tab
  rw [List.getD_eq_getElem?_getD (l := T), List.getElem?_eq_getElem h1, Option.getD_some, getD_get h2]
end Go.Proofs.YtienhiloecfgnaaDoor
namespace Go.Proofs.YtienhiloecfgnaaDoor
open Go Go.RowKit Go.Proofs Go.Shelf Go.Ab
inductive Wk (x : Grid) (fr : Cel) : Cel → Nat → Prop
  | nil : Wk x fr fr 0
  | step {c n : Cel} {t : Nat} : InG x c → Wk x fr c t → n ∈ nbrs x c → Wk x fr n (t + (stepI x c n).toNat)
theorem wk_near {x : Grid} (v : Valid x) {fr : Cel} (hf : InG x fr) : ∀ (k : Nat) (c : Cel), InG x c → adjE fr c ≤ k → ∃ t, t ≤ 2000 * k ∧ Wk x fr c t := by
  intro k
  induction k with
  | zero =>
    intro c _ h
    have e : c = fr := by
      cases c; cases fr
      simp only [adjE] at h
      simp only [Cel.mk.injEq]
      omega
    subst e
    exact ⟨0, by omega, .nil⟩
  | succ k ih =>
    intro c hc h
    have go : ∀ c' : Cel, InG x c' → adjE fr c' ≤ k → c ∈ nbrs x c' → ∃ t, t ≤ 2000 * (k + 1) ∧ Wk x fr c t := fun c' h1 h2 h3 => by
      obtain ⟨t, ht, w⟩ := ih c' h1 h2
      have := stepI_bd v c' c
      exact ⟨_, by omega, .step h1 w h3⟩
    have hc' := hc
    have hf' := hf
    obtain ⟨⟨c0, c1⟩, c2, c3⟩ := hc'
    obtain ⟨⟨f0, f1⟩, f2, f3⟩ := hf'
    unfold adjE at h
    by_cases a : c.col < fr.col
    · exact go ⟨c.col + 1, c.row⟩ ⟨⟨by simp; omega, by simp; omega⟩, c2, c3⟩ (by simp only [adjE]; omega) ((mem_nbrs v).2 ⟨hc, by simp⟩)
    by_cases b : fr.col < c.col
    · exact go ⟨c.col - 1, c.row⟩ ⟨⟨by simp; omega, by simp; omega⟩, c2, c3⟩ (by simp only [adjE]; omega) ((mem_nbrs v).2 ⟨hc, by simp⟩)
    by_cases d : c.row < fr.row
    · exact go ⟨c.col, c.row + 1⟩ ⟨⟨c0, c1⟩, by simp; omega, by simp; omega⟩ (by simp only [adjE]; omega) ((mem_nbrs v).2 ⟨hc, by simp⟩)
    by_cases e : fr.row < c.row
    · exact go ⟨c.col, c.row - 1⟩ ⟨⟨c0, c1⟩, by simp; omega, by simp; omega⟩ (by simp only [adjE]; omega) ((mem_nbrs v).2 ⟨hc, by simp⟩)
    have q : c = fr := by
      cases c; cases fr
      simp only [Cel.mk.injEq]
      simp only at a b d e
      omega
    subst q
    exact ⟨0, by omega, .nil⟩
theorem least_of (P : Nat → Prop) : ∀ n, P n → ∃ m, P m ∧ ∀ k, P k → m ≤ k := by
  intro n
  induction n using Nat.strongRecOn with
  | _ n ih =>
    intro h
    by_cases q : ∃ m, m < n ∧ P m
    · obtain ⟨m, hm, hp⟩ := q
      exact ih m hm hp
    · exact ⟨n, h, fun k hk => Nat.le_of_not_lt fun hl => q ⟨k, hl, hk⟩⟩
theorem dist_ex {x : Grid} (v : Valid x) {fr : Cel} (hf : InG x fr) : ∃ d, IsDist x fr d ∧ ∀ c, InG x c → d c ≤ 1000000 := by
  have near : ∀ c, InG x c → ∃ t, t ≤ 2000 * 20 ∧ Wk x fr c t := fun c hc => by
    refine wk_near v hf 20 c hc ?_
    have := v.r12; have := v.t8
    obtain ⟨⟨c0, c1⟩, c2, c3⟩ := hc
    obtain ⟨⟨f0, f1⟩, f2, f3⟩ := hf
    unfold adjE
    omega
  have key : ∀ c, ∃ n : Nat, InG x c → Wk x fr c n ∧ ∀ m, Wk x fr c m → n ≤ m := fun c => by
    by_cases hc : InG x c
    · obtain ⟨t, _, w⟩ := near c hc
      obtain ⟨m, h1, h2⟩ := least_of (Wk x fr c) t w
      exact ⟨m, fun _ => ⟨h1, h2⟩⟩
    · exact ⟨0, fun h => absurd h hc⟩
  obtain ⟨d, hd⟩ := Classical.axiomOfChoice key
  have up : ∀ c n, InG x c → n ∈ nbrs x c → (d n : Int) ≤ d c + stepI x c n := fun c n hc hn => by
    have h1 := (hd n (nbrs_in v hn)).2 _ (.step hc (hd c hc).1 hn)
    have h2 := stepI_bd v c n
    omega
  refine ⟨fun c => (d c : Int), ⟨?_, fun c _ => Int.natCast_nonneg _, up, fun c hc hne => ?_⟩, fun c hc => ?_⟩
  · have := (hd fr hf).2 0 .nil
    omega
  · have w := (hd c hc).1
    generalize e : d c = m at w
    cases w with
    | nil => exact absurd rfl hne
    | @step c0 _ t h0 w0 hn =>
      have h1 := (hd c0 h0).2 t w0
      have h2 := up c0 c h0 hn
      have h3 := stepI_bd v c0 c
      refine ⟨c0, nbrs_symm v h0 hn, ?_⟩
      omega
  · obtain ⟨t, ht, w⟩ := near c hc
    have := (hd c hc).2 t w
    simp only; omega
theorem distOf_all {x : Grid} (v : Valid x) {fr : Cel} (hf : InG x fr) : IsDist x fr (distOf x fr) ∧ ∀ c, InG x c → distOf x fr c ≤ 1000000 := by
  obtain ⟨d, h, hb⟩ := dist_ex v hf
  have h2 := distOf_is h
  exact ⟨h2, fun c hc => by rw [h2.unique v h hc]; exact hb c hc⟩
end Go.Proofs.YtienhiloecfgnaaDoor
namespace Go.Proofs.YtienhiloecfgnaaDoor
open Go Go.RowKit Go.Proofs Go.Shelf Go.Ab
theorem timesM_shape {x : Grid} (v : Valid x) (fr : Cel) : ShapeOk x (timesM x fr) := by
  have := v.r1
  constructor
  · simp only [timesM, List.length_map, List.length_range]; omega
  · intro r hr
    simp only [timesM, List.mem_map, List.mem_range] at hr
    obtain ⟨q, _, rfl⟩ := hr
    simp
theorem tab_timesM {x : Grid} {fr c : Cel} (hc : InG x c) : tab (timesM x fr) c = distOf x fr c := by
  obtain ⟨⟨c0, c1⟩, r0, r1⟩ := hc
  have h1 : c.row.toNat < x.rows.toNat := by omega
  have h2 : c.col.toNat < x.tilt.length := by omega
  have e : (⟨((c.col.toNat : Nat) : Int), ((c.row.toNat : Nat) : Int)⟩ : Cel) = c := by
    cases c
    simp only [Cel.mk.injEq] at *
    omega
  unfold tab timesM
  simp only [List.getD_eq_getElem?_getD, List.getElem?_map, List.getElem?_range h1, List.getElem?_range h2, Option.map_some, Option.getD_some, e]
theorem shape_ext {x : Grid} {T T' : List (List Int)} (sh : ShapeOk x T) (sh' : ShapeOk x T') (h : ∀ c, InG x c → tab T c = tab T' c) : T = T' := by
  have l1 := sh.len
  have l2 := sh'.len
  refine List.ext_getElem (by omega) fun r h1 h2 => ?_
  have e1 := sh.row _ (List.getElem_mem h1)
  have e2 := sh'.row _ (List.getElem_mem h2)
  refine List.ext_getElem (by omega) fun c g1 g2 => ?_
  have := h ⟨(c : Nat), (r : Nat)⟩ ⟨⟨Int.natCast_nonneg _, by simp only; omega⟩, Int.natCast_nonneg _, by simp only; omega⟩
  simpa [tab, List.getD_eq_getElem?_getD, List.getElem?_eq_getElem h1, List.getElem?_eq_getElem h2, List.getElem?_eq_getElem g1, List.getElem?_eq_getElem g2] using this
end Go.Proofs.YtienhiloecfgnaaDoor
namespace Go.Proofs.YtienhiloecfgnaaDoor
open Go Go.RowKit Go.Proofs Go.Shelf Go.Ab
def setT (M : List (List Int)) (c : Cel) (t : Int) : List (List Int) := M.set c.row.toNat ((M.getD c.row.toNat []).set c.col.toNat t)
theorem setT_len (M : List (List Int)) (c : Cel) (t : Int) : (setT M c t).length = M.length := by simp [setT]
theorem setT_shape {x : Grid} {M : List (List Int)} (sh : ShapeOk x M) (c : Cel) (t : Int) (hc : InG x c) : ShapeOk x (setT M c t) := by
  have h1 : c.row.toNat < M.length := by have := sh.len; obtain ⟨_, a, b⟩ := hc; omega
  refine ⟨by rw [setT_len]; exact sh.len, fun r hr => ?_⟩
  rcases List.mem_or_eq_of_mem_set hr with h | h
  · exact sh.row r h
  · rw [h, List.length_set, List.getD_eq_getElem?_getD, List.getElem?_eq_getElem h1, Option.getD_some]
    exact sh.row _ (List.getElem_mem h1)
theorem setT_tab {x : Grid} {M : List (List Int)} (sh : ShapeOk x M) {c c' : Cel} {t : Int} (hc : InG x c) (hc' : InG x c') : tab (setT M c t) c' = if c' = c then t else tab M c' := by
  have hl := sh.len
  obtain ⟨⟨a0, a1⟩, a2, a3⟩ := hc
  obtain ⟨⟨b0, b1⟩, b2, b3⟩ := hc'
  have h1 : c.row.toNat < M.length := by omega
  have h2 : c'.row.toNat < M.length := by omega
  have hr := sh.row _ (List.getElem_mem h1)
  unfold tab setT
  simp only [List.getD_eq_getElem?_getD, List.getElem?_set, List.getElem?_eq_getElem h1, Option.getD_some]
  by_cases e : c.row.toNat = c'.row.toNat
  · rw [if_pos e, if_pos h1, Option.getD_some, List.getElem?_set]
    by_cases e2 : c.col.toNat = c'.col.toNat
    · have : c' = c := by cases c; cases c'; simp at *; omega
      rw [if_pos e2, if_pos (by omega), if_pos this, Option.getD_some]
    · have : c' ≠ c := fun h => e2 (by rw [h])
      rw [if_neg e2, if_neg this]
      simp only [← e, List.getElem?_eq_getElem h1, Option.getD_some]
  · have : c' ≠ c := fun h => e (by rw [h])
    rw [if_neg e, if_neg this]
def sumL (l : List Int) : Nat := (l.map Int.toNat).sum
def sumT (M : List (List Int)) : Nat := (M.map sumL).sum
theorem sumN_set : ∀ (l : List Nat) (k a : Nat) (h : k < l.length), (l.set k a).sum + l[k] = l.sum + a
  | x :: l, 0, a, _ => by simp; omega
  | x :: l, k + 1, a, h => by
    have := sumN_set l k a (by simpa using h)
    simp
    omega
theorem sumT_set {x : Grid} {M : List (List Int)} (sh : ShapeOk x M) {c : Cel} {t : Int} (hc : InG x c) : sumT (setT M c t) + (tab M c).toNat = sumT M + t.toNat := by
  have hl := sh.len
  obtain ⟨⟨a0, a1⟩, a2, a3⟩ := hc
  have h1 : c.row.toNat < M.length := by omega
  have hr := sh.row _ (List.getElem_mem h1)
  have h2 : c.col.toNat < M[c.row.toNat].length := by omega
  have e1 : M.getD c.row.toNat [] = M[c.row.toNat] := by rw [List.getD_eq_getElem?_getD, List.getElem?_eq_getElem h1, Option.getD_some]
  have e2 : tab M c = M[c.row.toNat][c.col.toNat] := by unfold tab; rw [e1, List.getD_eq_getElem?_getD, List.getElem?_eq_getElem h2, Option.getD_some]
  unfold setT sumT
  rw [e1, e2, List.map_set]
  have s1 := sumN_set (M.map sumL) c.row.toNat (sumL (M[c.row.toNat].set c.col.toNat t)) (by simpa using h1)
  have s2 := sumN_set (M[c.row.toNat].map Int.toNat) c.col.toNat t.toNat (by simpa using h2)
  rw [List.getElem_map] at s1 s2
  have s3 : sumL (M[c.row.toNat].set c.col.toNat t) = ((M[c.row.toNat].map Int.toNat).set c.col.toNat t.toNat).sum := by unfold sumL; rw [List.map_set]
  have s4 : sumL M[c.row.toNat] = (M[c.row.toNat].map Int.toNat).sum := rfl
  omega
structure Low (x : Grid) (fr : Cel) (M : List (List Int)) : Prop where
  sh : ShapeOk x M
  bd : ∀ c, InG x c → distOf x fr c ≤ tab M c ∧ tab M c ≤ 1000000
  zero : tab M fr = 0
theorem low_step {x : Grid} (v : Valid x) {fr c n : Cel} (hf : InG x fr) {M : List (List Int)} (h : Low x fr M) (hc : InG x c) (hn : n ∈ nbrs x c) (hlt : tab M n + stepI x c n < tab M c) : Low x fr (setT M c (tab M n + stepI x c n)) ∧ sumT (setT M c (tab M n + stepI x c n)) < sumT M := by
  obtain ⟨d, dm⟩ := distOf_all v hf
  have hnn := nbrs_in v hn
  have b1 := h.bd n hnn
  have b2 := h.bd c hc
  have b3 := d.nonneg n hnn
  have b4 := stepI_bd v c n
  have b5 := d.le n c hnn (nbrs_symm v hc hn)
  rw [stepI_symm x n c] at b5
  have hs := sumT_set h.sh (t := tab M n + stepI x c n) hc
  refine ⟨⟨setT_shape h.sh c _ hc, fun c' hc' => ?_, ?_⟩, by omega⟩
  · rw [setT_tab h.sh hc hc']
    by_cases e : c' = c
    · subst e; rw [if_pos rfl]; omega
    · rw [if_neg e]; exact h.bd c' hc'
  · rw [setT_tab h.sh hc hf]
    by_cases e : fr = c
    · subst e; have := h.zero; omega
    · rw [if_neg e]; exact h.zero
theorem low_end {x : Grid} (v : Valid x) {fr : Cel} (hf : InG x fr) {M : List (List Int)} (h : Low x fr M) (hfix : ∀ c n, InG x c → n ∈ nbrs x c → tab M c ≤ tab M n + stepI x c n) : M = timesM x fr := by
  obtain ⟨d, dm⟩ := distOf_all v hf
  have up : ∀ (k : Nat) (c : Cel), InG x c → (distOf x fr c).toNat ≤ k → tab M c ≤ distOf x fr c := by
    intro k
    induction k with
    | zero =>
      intro c hc hk
      by_cases e : c = fr
      · subst e; rw [h.zero, d.zero]; exact Int.le_refl _
      · obtain ⟨n, hn, e2⟩ := d.tight c hc e
        have := d.nonneg n (nbrs_in v hn)
        have := stepI_bd v n c
        have := stepI_bd v c n
        omega
    | succ k ih =>
      intro c hc hk
      by_cases e : c = fr
      · subst e; rw [h.zero, d.zero]; exact Int.le_refl _
      · obtain ⟨n, hn, e2⟩ := d.tight c hc e
        have h0 := d.nonneg n (nbrs_in v hn)
        have h1 := stepI_bd v n c
        have h2 := ih n (nbrs_in v hn) (by omega)
        have h3 := hfix c n hc hn
        rw [stepI_symm x c n] at h3
        omega
  refine shape_ext h.sh (timesM_shape v fr) fun c hc => ?_
  rw [tab_timesM hc]
  have := up _ c hc (Nat.le_refl _)
  have := (h.bd c hc).1
  omega
theorem rep_shape {x : Grid} (v : Valid x) : ShapeOk x (List.replicate x.rows.toNat (List.replicate x.tilt.length 1000000)) := by
  have := v.r1
  exact ⟨by simp; omega, fun r hr => by rw [List.eq_of_mem_replicate hr]; simp⟩
theorem low_start {x : Grid} (v : Valid x) {fr : Cel} (hf : InG x fr) : Low x fr (setT (List.replicate x.rows.toNat (List.replicate x.tilt.length 1000000)) fr 0) := by
  obtain ⟨d, dm⟩ := distOf_all v hf
  have r1 := v.r1
  have sh : ShapeOk x (List.replicate x.rows.toNat (List.replicate x.tilt.length 1000000)) := ⟨by simp; omega, fun r hr => by rw [List.eq_of_mem_replicate hr]; simp⟩
  have ht : ∀ c, InG x c → tab (List.replicate x.rows.toNat (List.replicate x.tilt.length 1000000)) c = 1000000 := fun c hc => by
    obtain ⟨⟨a0, a1⟩, a2, a3⟩ := hc
    unfold tab
    rw [List.getD_eq_getElem?_getD, List.getD_eq_getElem?_getD, List.getElem?_replicate, if_pos (by omega), Option.getD_some, List.getElem?_replicate, if_pos (by omega)]
    rfl
  refine ⟨setT_shape sh fr 0 hf, fun c hc => ?_, by rw [setT_tab sh hf hf, if_pos rfl]⟩
  rw [setT_tab sh hf hc]
  by_cases e : c = fr
  · subst e; rw [if_pos rfl, d.zero]; omega
  · rw [if_neg e, ht c hc]; have := dm c hc; omega
structure Pass (x : Grid) (fr : Cel) (M0 : List (List Int)) (D : Cel → Cel → Prop) (M : List (List Int)) (b : Bool) : Prop where
  low : Low x fr M
  le : sumT M ≤ sumT M0
  lt : b = true → sumT M < sumT M0
  st : b = false → M = M0 ∧ ∀ c n, InG x c → n ∈ nbrs x c → D c n → tab M0 c ≤ tab M0 n + stepI x c n
def seen (x : Grid) (r c k : Nat) (a n : Cel) : Prop := a.row < r ∨ (a.row = r ∧ a.col < c) ∨ (a = ⟨c, r⟩ ∧ n ∈ (nbrs x ⟨c, r⟩).take k)
theorem Pass.begin {x : Grid} {fr : Cel} {M : List (List Int)} (h : Low x fr M) : Pass x fr M (seen x 0 0 0) M false :=
  ⟨h, Nat.le_refl _, fun e => (by cases e), fun _ => ⟨rfl, fun c n hc _ hD => by
    obtain ⟨⟨a0, a1⟩, a2, a3⟩ := hc
    rcases hD with h | ⟨h1, h2⟩ | ⟨_, h⟩
    · omega
    · omega
    · simp at h⟩⟩
theorem Pass.mono {x : Grid} {fr : Cel} {M0 M : List (List Int)} {D D' : Cel → Cel → Prop} {b : Bool} (h : Pass x fr M0 D M b) (hD : ∀ c n, InG x c → n ∈ nbrs x c → D' c n → D c n) : Pass x fr M0 D' M b :=
  ⟨h.low, h.le, h.lt, fun e => ⟨(h.st e).1, fun c n hc hn hd => (h.st e).2 c n hc hn (hD c n hc hn hd)⟩⟩
theorem Pass.col {x : Grid} {fr : Cel} {M0 M : List (List Int)} {r c : Nat} {b : Bool} (h : Pass x fr M0 (seen x r c (nbrs x ⟨c, r⟩).length) M b) : Pass x fr M0 (seen x r (c + 1) 0) M b := h.mono fun a n ha hn hD => by
  rcases hD with h | ⟨h1, h2⟩ | ⟨_, h⟩
  · exact .inl h
  · by_cases e : a.col < c
    · exact .inr (.inl ⟨h1, e⟩)
    · have : a = ⟨c, r⟩ := by cases a; simp at *; omega
      subst this
      exact .inr (.inr ⟨rfl, by rw [List.take_length]; exact hn⟩)
  · simp at h
theorem Pass.row {x : Grid} {fr : Cel} {M0 M : List (List Int)} {r : Nat} {b : Bool} (h : Pass x fr M0 (seen x r x.tilt.length 0) M b) : Pass x fr M0 (seen x (r + 1) 0 0) M b := h.mono fun a n ha hn hD => by
  obtain ⟨⟨a0, a1⟩, a2, a3⟩ := ha
  rcases hD with h | ⟨h1, h2⟩ | ⟨_, h⟩
  · by_cases e : a.row < r
    · exact .inl e
    · exact .inr (.inl ⟨by omega, a1⟩)
  · omega
  · simp at h
theorem Pass.keep {x : Grid} {fr : Cel} {M0 M : List (List Int)} {r c k : Nat} {b : Bool} (h : Pass x fr M0 (seen x r c k) M b) (hk : k < (nbrs x ⟨c, r⟩).length) (hge : ¬ tab M (nbrs x ⟨c, r⟩)[k] + stepI x ⟨c, r⟩ (nbrs x ⟨c, r⟩)[k] < tab M ⟨c, r⟩) : Pass x fr M0 (seen x r c (k + 1)) M b :=
  ⟨h.low, h.le, h.lt, fun e => by
    obtain ⟨e1, e2⟩ := h.st e
    refine ⟨e1, fun a n ha hn hD => ?_⟩
    rcases hD with hh | hh | ⟨rfl, hh⟩
    · exact e2 a n ha hn (.inl hh)
    · exact e2 a n ha hn (.inr (.inl hh))
    · rw [List.take_succ_eq_append_getElem hk] at hh
      rcases List.mem_append.1 hh with h1 | h1
      · exact e2 _ n ha hn (.inr (.inr ⟨rfl, h1⟩))
      · rw [List.mem_singleton.1 h1, ← e1]; omega⟩
theorem Pass.low' {x : Grid} (v : Valid x) {fr : Cel} (hf : InG x fr) {M0 M : List (List Int)} {r c k : Nat} {b : Bool} (h : Pass x fr M0 (seen x r c k) M b) (hc : InG x ⟨c, r⟩) (hk : k < (nbrs x ⟨c, r⟩).length) (hlt : tab M (nbrs x ⟨c, r⟩)[k] + stepI x ⟨c, r⟩ (nbrs x ⟨c, r⟩)[k] < tab M ⟨c, r⟩) : Pass x fr M0 (seen x r c (k + 1)) (setT M ⟨c, r⟩ (tab M (nbrs x ⟨c, r⟩)[k] + stepI x ⟨c, r⟩ (nbrs x ⟨c, r⟩)[k])) true := by
  obtain ⟨h1, h2⟩ := low_step v hf h.low hc (List.getElem_mem hk) hlt
  have := h.le
  exact ⟨h1, by omega, fun _ => by omega, fun e => (by cases e)⟩
theorem Pass.fixed {x : Grid} (v : Valid x) {fr : Cel} (hf : InG x fr) {M0 M : List (List Int)} (h : Pass x fr M0 (seen x x.rows.toNat 0 0) M false) : M = timesM x fr := by
  obtain ⟨e1, e2⟩ := h.st rfl
  refine low_end v hf h.low fun c n hc hn => ?_
  rw [e1]
  exact e2 c n hc hn (.inl (by obtain ⟨_, a, b⟩ := hc; omega))
end Go.Proofs.YtienhiloecfgnaaDoor
namespace Go.Proofs.YtienhiloecfgnaaDoor
open Go Go.RowKit Go.Proofs Go.Shelf Go.Ab
theorem matFacts {x : Grid} {M : List (List Int)} (sh : ShapeOk x M) {c : Cel} (hc : InG x c) : ∃ h : c.row.toNat < (M.map intsF).length, (M.map intsF)[c.row.toNat].length = x.tilt.length ∧ ((List.range (M.map intsF).length).map fun r => AV.ow (r + 100))[c.row.toNat * 1]? = some (.ow (c.row.toNat + 100)) ∧ (M.map intsF)[c.row.toNat][c.col.toNat * 1]? = some (iv (tab M c)) := by
  obtain ⟨h1, h2, h3⟩ := tab_at sh hc
  have h : c.row.toNat < (M.map intsF).length := by simpa using h1
  refine ⟨h, ?_, mOut_at h, ?_⟩
  · rw [List.getElem_map]; simpa [intsF] using sh.row _ (List.getElem_mem h1)
  · rw [List.getElem_map]; exact h3
theorem mLen {x : Grid} {M : List (List Int)} (sh : ShapeOk x M) : ((M.map intsF).length : Int) = x.rows := by rw [List.length_map]; exact sh.len
theorem setT_map {M : List (List Int)} {c : Cel} {t : Int} (h : c.row.toNat < (M.map intsF).length) : (setT M c t).map intsF = (M.map intsF).set c.row.toNat (Ab.setAt (M.map intsF)[c.row.toNat] (c.col.toNat * 1) [iv t]) := by
  have h1 : c.row.toNat < M.length := by simpa using h
  unfold setT
  rw [List.map_set, List.getD_eq_getElem?_getD, List.getElem?_eq_getElem h1, Option.getD_some, List.getElem_map, Nat.mul_one]
  congr 1
  show intsF (M[c.row.toNat].set c.col.toNat t) = (intsF M[c.row.toNat]).set c.col.toNat (iv t)
  unfold intsF; rw [List.map_set]
theorem matF_rows (M : List (List Int)) : FV.sl (M.map intsF).length (rowsF (M.map intsF)) = .sl M.length (matF M) := by
  unfold rowsF matF
  rw [List.length_map, List.map_map]
  congr 1
  refine List.map_congr_left fun r _ => ?_
  show FV.sl (intsF r).length (intsF r) = rowF r
  simp [rowF, intsF]
def rowB (_x : Grid) (j : Nat) : List FV := intsF (List.replicate j 1000000)
def rsB (x : Grid) (k : Nat) : List (List FV) := List.replicate k (rowB x x.tilt.length)
theorem rsB_succ (x : Grid) (k : Nat) : rsB x (k + 1) = rsB x k ++ [rowB x x.tilt.length] := List.replicate_succ'
theorem rsB_len (x : Grid) (k : Nat) : (rsB x k).length = k := by simp [rsB]
theorem rowB_len (x : Grid) (k : Nat) : (rowB x k).length = k := by simp [rowB, intsF]
theorem rowB_succ (x : Grid) (k : Nat) : rowB x (k + 1) = rowB x k ++ [iv 1000000] := by unfold rowB intsF; rw [List.replicate_succ', List.map_append]; rfl
theorem rsB_all (x : Grid) : rsB x x.rows.toNat = (List.replicate x.rows.toNat (List.replicate x.tilt.length (1000000 : Int))).map intsF := by unfold rsB rowB; rw [List.map_replicate]
theorem celsF_row {l : List Cel} {k : Nat} (h : k < l.length) : (celsF l)[k * 2 + 1]? = some (iv l[k].row) := by
  have := congrArg (fun z => z[1]?) (celsF_sub h)
  simpa [List.getElem?_take, List.getElem?_drop, celF] using this
theorem celsF_col {l : List Cel} {k : Nat} (h : k < l.length) : (celsF l)[k * 2 + 0]? = some (iv l[k].col) := by
  have := congrArg (fun z => z[0]?) (celsF_sub h)
  simpa [List.getElem?_take, List.getElem?_drop, celF] using this
set_option maxRecDepth 100000 in
set_option maxHeartbeats 4000000 in
theorem Times_s (x : Grid) (fr : Cel) (v : Valid x) (hf : InG x fr) : Summ Tryd.prog GG 62 [gridF x, .agg (celF fr)] (.sl (timesM x fr).length (matF (timesM x fr))) := by
  have r1 := v.r1
  have r12 := v.r12
  have t8 := v.t8
  refine summW Tryd.func62 rfl rfl 110 rfl (by simp) (fun M0 => ?_)
  repeat (first
    | (apply s_a TY; exact rfl)
    | apply w_seq
    | apply w_region
    | apply s_nil
    | apply t_norm
    | apply w_block)
  apply w_gh (gh_own 5 23 1 rfl rfl)
  apply w_gh (gh_rowA 0 rfl)
  apply w_loop (fun k : Nat => ⟨(Ab.upd (Ab.upd (Ab.upd (Ab.upd (fun _ => .bot) 2 (.f (.pt (gridL x) 0))) 3 (.f (.pt (celF fr) 0))) 5 (.ow 0)) 6 (.f (iv (k : Nat)))), (Ab.upd (mR 3 (rsB x k)) 0 (some (mOut 23 (rsB x k)))), 1⟩) (fun k => k ≤ x.rows.toNat) (fun k => x.rows.toNat - k) 0 (Nat.zero_le _) (gh_le ⟨le_upd rfl trivial (le_upd rfl rfl (le_upd rfl trivial (le_upd rfl trivial (le_nil _)))), le_hupd rfl mOut_cl0 (le_mR (fun r hr => absurd hr (Nat.not_lt_zero r)))⟩)
  intro k hk
  have hn := rsB_len x k
  by_cases hkc : k < x.rows.toNat
  · repeat (first
    | (apply s_a TY; exact rfl)
    | (apply s_t; exact rfl; (first | assumption | omega))
    | apply w_seq
    | apply w_region
    | apply s_nil
    | apply t_norm
    | apply w_block
    | apply w_skip
    | (apply w_condT; exact rfl; exact rfl))
    apply w_gh (gh_own 7 3 1 rfl rfl)
    apply w_loop (fun j : Nat => ⟨(Ab.upd (Ab.upd (Ab.upd (Ab.upd (Ab.upd (Ab.upd (fun _ => .bot) 2 (.f (.pt (gridL x) 0))) 3 (.f (.pt (celF fr) 0))) 5 (.ow 0)) 6 (.f (iv (k : Nat)))) 7 (.ow 1)) 8 (.f (iv (j : Nat)))), (Ab.upd (Ab.upd (mR 3 (rsB x k)) 0 (some (mOut 23 (rsB x k)))) 1 (some (.row 3 1 j (rowB x j)))), 2⟩) (fun j => j ≤ x.tilt.length) (fun j => x.tilt.length - j) 0 (Nat.zero_le _) (gh_le ⟨le_upd rfl trivial (le_upd rfl rfl (le_upd rfl trivial (le_upd rfl rfl (le_upd rfl trivial (le_upd rfl trivial (le_nil _)))))), le_hupd rfl trivial (le_hupd rfl mOut_cl1 (le_mR (fun r hr => by repeat (first | exact rfl | refine (upd_other _ _ (by omega)).trans ?_))))⟩)
    intro j hj
    by_cases hjc : j < x.tilt.length
    · repeat (first
    | (apply s_append TY; exact rfl; exact rfl; exact rfl; exact rfl; exact rfl; exact rfl; exact rfl; exact rfl; exact rfl; (unfold maxLen; omega); omega)
    | (apply s_a TY; exact rfl)
    | (apply s_t; exact rfl; (first | assumption | omega))
    | apply w_seq
    | apply w_region
    | apply s_nil
    | apply t_norm
    | apply k_norm
    | apply w_block
    | apply w_skip
    | (apply w_condT; exact rfl; exact rfl)
    | (apply s_c TY; exact rfl; (first | omega | exact ⟨by omega, by (first | with_reducible assumption | ((with_reducible apply intsF_ne); omega) | ((with_reducible apply matF_ne); omega) | ((with_reducible apply celsF_ne); omega))⟩)))
      exact ⟨j + 1, by omega, by omega, gh_le ⟨le_upd rfl trivial (le_upd rfl rfl (le_upd rfl trivial (le_upd rfl rfl (le_upd rfl trivial (le_upd rfl trivial (le_nil _)))))), le_hupd (congrArg (fun l => some (Blk.row 3 1 (j + 1) l)) (rowB_succ x j).symm) trivial (le_hupd (congrArg some (kill_out (by decide))) mOut_cl1 (le_mR (fun r hr => by show Option.map (killB 1) _ = _; refine kill_hi' hr ?_; repeat (first | exact rfl | refine (upd_other _ _ (by omega)).trans ?_))))⟩⟩
    · have hje : j = x.tilt.length := by omega
      subst hje
      repeat (first
    | (apply s_bsliceA TY; exact rfl; exact rfl; exact rfl; exact rfl; exact rfl; exact rfl)
    | (apply s_appendA TY; exact rfl; exact rfl; exact rfl; exact rfl; exact rfl; exact rfl; exact rfl; exact rfl; (unfold maxLen; omega); omega)
    | (apply s_a TY; exact rfl)
    | (apply s_f; exact rfl; (first | assumption | omega))
    | apply w_seq
    | apply w_region
    | apply s_nil
    | apply t_norm
    | apply t_exit
    | apply k_hit
    | apply k_norm
    | apply w_exit
    | (apply w_condF; exact rfl; exact rfl)
    | (apply s_c TY; exact rfl; (first | omega | exact ⟨by omega, by (first | with_reducible assumption | ((with_reducible apply intsF_ne); omega) | ((with_reducible apply matF_ne); omega) | ((with_reducible apply celsF_ne); omega))⟩)))
      refine ⟨k + 1, by omega, by omega, ?_⟩
      rw [rsB_succ]
      refine gh_trans (b := (⟨(Ab.upd (Ab.upd (Ab.upd (Ab.upd (fun _ => .bot) 2 (.f (.pt (gridL x) 0))) 3 (.f (.pt (celF fr) 0))) 5 (.ow 0)) 6 (.f (iv ((k + 1 : Nat) : Int)))), Ab.upd (Ab.upd (mR 3 (rsB x k)) 0 (some (.rowA 23 1 ((rsB x k).length + 1) ((List.range (rsB x k).length).map (fun r => AV.ow (r + 100)) ++ [AV.ow 1])))) 1 (some (.row 3 1 (rowB x x.tilt.length).length (rowB x x.tilt.length))), 1⟩ : Ab.St)) (gh_le ⟨le_upd rfl trivial (le_upd rfl rfl (le_upd rfl trivial (le_upd rfl trivial (le_nil _)))), le_hupd (congrArg (fun n => some (Blk.row 3 1 n (rowB x x.tilt.length))) (rowB_len x _).symm) trivial (le_hupd (congrArg (fun l => some (Blk.rowA 23 1 ((rsB x k).length + 1) l)) (kill_cells _)) mAdd_cl (le_mR (fun r hr => by show Option.map (killB 0) _ = _; refine kill_hi' hr ?_; repeat (first | exact rfl | refine (upd_other _ _ (by omega)).trans ?_))))⟩) (gh_addrow ((mv_upd rfl ((mv_upd rfl ((mv_upd rfl ((mv_upd rfl (mv_bot))))))))) (fun _ => rfl))
  · have hke : k = x.rows.toNat := by omega
    subst hke
    clear hn
    rw [rsB_all]
    have shM := rep_shape v
    have L0 := low_start v hf
    generalize List.replicate x.rows.toNat (List.replicate x.tilt.length (1000000 : Int)) = M at *
    obtain ⟨m1, ln1, oa1, ca1⟩ := matFacts shM hf
    have ra1 : (Ab.upd (mR 3 (M.map intsF)) 0 (some (mOut 23 (M.map intsF)))) (fr.row.toNat + 100) = some (.row 3 1 (M.map intsF)[fr.row.toNat].length (M.map intsF)[fr.row.toNat]) := (upd_other _ _ (by omega)).trans (mR_at m1)
    obtain ⟨⟨f0, f1⟩, f2, f3⟩ := id hf
    have hlen := mLen shM
    repeat (first
    | (apply s_ldA TY; exact rfl; exact rfl; exact rfl; exact rfl; exact rfl; exact oa1)
    | (apply s_idxR TY (i := (fr.row.toNat + 100)); exact rfl; exact rfl; exact rfl; exact rfl; exact ra1; exact rfl; omega; omega)
    | (apply s_storeR TY (i := (fr.row.toNat + 100)); exact rfl; exact ra1; exact rfl; exact rfl; exact rfl; (show _ + 1 ≤ _; omega))
    | (apply s_idxOA TY; exact rfl; exact rfl; exact rfl; exact rfl; exact rfl; exact rfl; omega; omega)
    | (apply s_a TY; exact rfl)
    | (apply s_f; exact rfl; (first | assumption | omega))
    | apply w_seq
    | apply w_region
    | (apply w_draw (id := 11) 7 rfl (by kernel_rfl))
    | apply s_nil
    | apply t_norm
    | apply t_exit
    | apply k_hit
    | apply w_block
    | apply w_exit
    | (apply w_condF; exact rfl; exact rfl))
    apply w_loop (fun p : List (List Int) × Bool => ⟨(Ab.upd (Ab.upd (Ab.upd (fun _ => .bot) 2 (.f (.pt (gridL x) 0))) 5 (.ow 0)) 9 (.f (bv p.2))), (Ab.upd (mR 3 (p.1.map intsF)) 0 (some (mOut 23 (p.1.map intsF)))), 1⟩) (fun p => Low x fr p.1 ∧ (p.2 = false → p.1 = timesM x fr)) (fun p => sumT p.1 * 2 + (if p.2 = true then 1 else 0)) (setT M fr 0, true) (⟨L0, fun e => by cases e⟩) ((by
            show Gh _ _ _ ⟨(Ab.upd (Ab.upd (Ab.upd (fun _ => .bot) 2 (.f (.pt (gridL x) 0))) 5 (.ow 0)) 9 (.f (bv true))), (Ab.upd (mR 3 ((setT M fr 0).map intsF)) 0 (some (mOut 23 ((setT M fr 0).map intsF)))), 1⟩
            rw [setT_map m1]
            exact gh_le ⟨le_upd rfl trivial (le_upd rfl rfl (le_upd rfl trivial (le_nil _))), le_hupd (by rw [mOut_set]; rfl) mOut_cl0 (le_mR (mR_set m1 (setAt_length _ _ _).symm (fun r hr => by repeat (first | exact rfl | refine (upd_other _ _ (by omega)).trans ?_))))⟩))
    clear L0 oa1 ra1 ca1 ln1 m1 hlen shM M
    rintro ⟨M, b⟩ ⟨hlow, hfix⟩
    show W _ _ _ _ ⟨(Ab.upd (Ab.upd (Ab.upd (fun _ => .bot) 2 (.f (.pt (gridL x) 0))) 5 (.ow 0)) 9 (.f (bv b))), (Ab.upd (mR 3 (M.map intsF)) 0 (some (mOut 23 (M.map intsF)))), 1⟩
    cases b
    · have e := hfix rfl
      simp only at e
      subst e
      repeat (first
    | (apply s_a TY; exact rfl)
    | apply w_seq
    | apply w_region
    | apply s_nil
    | apply t_norm
    | apply t_exit
    | apply k_hit
    | apply w_exit
    | apply w_ret
    | (apply w_condF; exact rfl; exact rfl))
      refine lv_ret (ret_gh (gh_trans (gh_toF (e := 3) (E := 23) (t := 4) (rs := (timesM x fr).map intsF) rfl rfl (fun r hr => by repeat (first | exact rfl | refine (upd_other _ _ (by omega)).trans ?_))) gh_mfrz) ?_)
      exact ret1 rfl (res_tmp (congrArg AV.f (matF_rows _)))
    repeat (first
    | (apply s_a TY; exact rfl)
    | apply w_seq
    | apply w_region
    | apply s_nil
    | apply t_norm
    | apply w_block
    | apply w_skip
    | (apply w_condT; exact rfl; exact rfl))
    apply w_loop (fun p : Nat × List (List Int) × Bool => ⟨(Ab.upd (Ab.upd (Ab.upd (Ab.upd (fun _ => .bot) 2 (.f (.pt (gridL x) 0))) 5 (.ow 0)) 9 (.f (bv p.2.2))) 10 (.f (iv (p.1 : Nat)))), (Ab.upd (mR 3 (p.2.1.map intsF)) 0 (some (mOut 23 (p.2.1.map intsF)))), 1⟩) (fun p => p.1 ≤ x.rows.toNat ∧ Pass x fr M (seen x p.1 0 0) p.2.1 p.2.2) (fun p => x.rows.toNat - p.1) (0, M, false) (⟨Nat.zero_le _, Pass.begin hlow⟩) (gh_le ⟨le_upd rfl trivial (le_upd rfl trivial (le_upd rfl rfl (le_upd rfl trivial (le_nil _)))), le_hupd rfl mOut_cl0 (le_mR (fun r hr => by repeat (first | exact rfl | refine (upd_other _ _ (by omega)).trans ?_)))⟩)
    rintro ⟨r, M1, b1⟩ ⟨hr, hp1⟩
    show W _ _ _ _ ⟨(Ab.upd (Ab.upd (Ab.upd (Ab.upd (fun _ => .bot) 2 (.f (.pt (gridL x) 0))) 5 (.ow 0)) 9 (.f (bv b1))) 10 (.f (iv (r : Nat)))), (Ab.upd (mR 3 (M1.map intsF)) 0 (some (mOut 23 (M1.map intsF)))), 1⟩
    simp only at hr hp1
    by_cases hrc : r < x.rows.toNat
    · repeat (first
    | (apply s_a TY; exact rfl)
    | (apply s_t; exact rfl; (first | assumption | omega))
    | apply w_seq
    | apply w_region
    | apply s_nil
    | apply t_norm
    | apply w_block
    | apply w_skip
    | (apply w_condT; exact rfl; exact rfl))
      apply w_loop (fun p : Nat × List (List Int) × Bool => ⟨(Ab.upd (Ab.upd (Ab.upd (Ab.upd (Ab.upd (fun _ => .bot) 2 (.f (.pt (gridL x) 0))) 5 (.ow 0)) 9 (.f (bv p.2.2))) 10 (.f (iv (r : Nat)))) 11 (.f (iv (p.1 : Nat)))), (Ab.upd (mR 3 (p.2.1.map intsF)) 0 (some (mOut 23 (p.2.1.map intsF)))), 1⟩) (fun p => p.1 ≤ x.tilt.length ∧ Pass x fr M (seen x r p.1 0) p.2.1 p.2.2) (fun p => x.tilt.length - p.1) (0, M1, b1) (⟨Nat.zero_le _, hp1⟩) (gh_le ⟨le_upd rfl trivial (le_upd rfl trivial (le_upd rfl trivial (le_upd rfl rfl (le_upd rfl trivial (le_nil _))))), le_hupd rfl mOut_cl0 (le_mR (fun r hr => by repeat (first | exact rfl | refine (upd_other _ _ (by omega)).trans ?_)))⟩)
      clear hp1
      rintro ⟨c, M2, b2⟩ ⟨hc, hp2⟩
      show W _ _ _ _ ⟨(Ab.upd (Ab.upd (Ab.upd (Ab.upd (Ab.upd (fun _ => .bot) 2 (.f (.pt (gridL x) 0))) 5 (.ow 0)) 9 (.f (bv b2))) 10 (.f (iv (r : Nat)))) 11 (.f (iv (c : Nat)))), (Ab.upd (mR 3 (M2.map intsF)) 0 (some (mOut 23 (M2.map intsF)))), 1⟩
      simp only at hc hp2
      by_cases hcc : c < x.tilt.length
      · have hin : InG x ⟨(c : Nat), (r : Nat)⟩ := ⟨⟨Int.natCast_nonneg _, by simp only; omega⟩, Int.natCast_nonneg _, by simp only; omega⟩
        have AR := around_s x ⟨(c : Nat), (r : Nat)⟩ v hin
        repeat (first
    | (apply s_a TY; exact rfl)
    | (apply s_t; exact rfl; (first | assumption | omega))
    | apply w_seq
    | apply w_region
    | apply s_nil
    | apply t_norm
    | apply w_block
    | apply w_skip
    | (apply w_condT; exact rfl; exact rfl)
    | (apply s_k (AR); exact rfl)
    | (apply s_alloc TY; exact rfl; exact rfl; exact rfl)
    | (apply s_store TY; exact rfl; exact rfl; exact rfl; exact rfl; exact rfl; exact rfl))
        apply w_loop (fun p : Nat × List (List Int) × Bool => ⟨(Ab.upd (Ab.upd (Ab.upd (Ab.upd (Ab.upd (Ab.upd (Ab.upd (Ab.upd (fun _ => .bot) 2 (.f (.pt (gridL x) 0))) 5 (.ow 0)) 9 (.f (bv p.2.2))) 10 (.f (iv (r : Nat)))) 11 (.f (iv (c : Nat)))) 12 (.bx 1 0)) 13 (.f (.sl (nbrs x ⟨(c : Nat), (r : Nat)⟩).length (celsF (nbrs x ⟨(c : Nat), (r : Nat)⟩))))) 14 (.f (iv (p.1 : Nat)))), (Ab.upd (Ab.upd (mR 3 (p.2.1.map intsF)) 0 (some (mOut 23 (p.2.1.map intsF)))) 1 (some (.box [.f (iv (c : Nat)), .f (iv (r : Nat))]))), 2⟩) (fun p => p.1 ≤ (nbrs x ⟨(c : Nat), (r : Nat)⟩).length ∧ Pass x fr M (seen x r c p.1) p.2.1 p.2.2) (fun p => (nbrs x ⟨(c : Nat), (r : Nat)⟩).length - p.1) (0, M2, b2) (⟨Nat.zero_le _, hp2⟩) (gh_le ⟨le_upd rfl trivial (le_upd rfl trivial (le_upd rfl rfl (le_upd rfl trivial (le_upd rfl trivial (le_upd rfl trivial (le_upd rfl rfl (le_upd rfl trivial (le_nil _)))))))), le_hupd rfl (fun y hy => by simp at hy; rcases hy with rfl | rfl <;> first | trivial | rfl) (le_hupd rfl mOut_cl1 (le_mR (fun r hr => by repeat (first | exact rfl | refine (upd_other _ _ (by omega)).trans ?_))))⟩)
        clear hp2
        rintro ⟨i, M3, b3⟩ ⟨hi, hp3⟩
        show W _ _ _ _ ⟨(Ab.upd (Ab.upd (Ab.upd (Ab.upd (Ab.upd (Ab.upd (Ab.upd (Ab.upd (fun _ => .bot) 2 (.f (.pt (gridL x) 0))) 5 (.ow 0)) 9 (.f (bv b3))) 10 (.f (iv (r : Nat)))) 11 (.f (iv (c : Nat)))) 12 (.bx 1 0)) 13 (.f (.sl (nbrs x ⟨(c : Nat), (r : Nat)⟩).length (celsF (nbrs x ⟨(c : Nat), (r : Nat)⟩))))) 14 (.f (iv (i : Nat)))), (Ab.upd (Ab.upd (mR 3 (M3.map intsF)) 0 (some (mOut 23 (M3.map intsF)))) 1 (some (.box [.f (iv (c : Nat)), .f (iv (r : Nat))]))), 2⟩
        simp only at hi hp3
        by_cases hic : i < (nbrs x ⟨(c : Nat), (r : Nat)⟩).length
        · have nin : InG x (nbrs x ⟨(c : Nat), (r : Nat)⟩)[i] := nbrs_in v (List.getElem_mem hic)
          have shM := hp3.low.sh
          have hlen := mLen shM
          obtain ⟨m1, ln1, oa1, ca1⟩ := matFacts shM nin
          have ra1 : (Ab.upd (Ab.upd (mR 3 (M3.map intsF)) 0 (some (mOut 23 (M3.map intsF)))) 1 (some (.box [.f (iv (c : Nat)), .f (iv (r : Nat))]))) ((nbrs x ⟨(c : Nat), (r : Nat)⟩)[i].row.toNat + 100) = some (.row 3 1 (M3.map intsF)[(nbrs x ⟨(c : Nat), (r : Nat)⟩)[i].row.toNat].length (M3.map intsF)[(nbrs x ⟨(c : Nat), (r : Nat)⟩)[i].row.toNat]) := (upd_other _ _ (by omega)).trans ((upd_other _ _ (by omega)).trans (mR_at m1))
          obtain ⟨m2, ln2, oa2, ca2⟩ := matFacts shM hin
          have ra2 : (Ab.upd (Ab.upd (mR 3 (M3.map intsF)) 0 (some (mOut 23 (M3.map intsF)))) 1 (some (.box [.f (iv (c : Nat)), .f (iv (r : Nat))]))) ((⟨(c : Nat), (r : Nat)⟩ : Cel).row.toNat + 100) = some (.row 3 1 (M3.map intsF)[(⟨(c : Nat), (r : Nat)⟩ : Cel).row.toNat].length (M3.map intsF)[(⟨(c : Nat), (r : Nat)⟩ : Cel).row.toNat]) := (upd_other _ _ (by omega)).trans ((upd_other _ _ (by omega)).trans (mR_at m2))
          have hnl := keepS_len x ⟨(c : Nat), (r : Nat)⟩ 4
          rw [keepS_all] at hnl
          have fc := celsF_col hic
          have fr' := celsF_row hic
          have SS := Step_s x ⟨(c : Nat), (r : Nat)⟩ (nbrs x ⟨(c : Nat), (r : Nat)⟩)[i] v hin nin
          have bd1 := hp3.low.bd _ nin
          have bd2 := hp3.low.bd _ hin
          have bd3 := stepI_bd v ⟨(c : Nat), (r : Nat)⟩ (nbrs x ⟨(c : Nat), (r : Nat)⟩)[i]
          have bd4 := (distOf_all v hf).1.nonneg _ nin
          obtain ⟨⟨g0, g1⟩, g2, g3⟩ := id nin
          by_cases hlt : tab M3 (nbrs x ⟨(c : Nat), (r : Nat)⟩)[i] + stepI x ⟨(c : Nat), (r : Nat)⟩ (nbrs x ⟨(c : Nat), (r : Nat)⟩)[i] < tab M3 ⟨(c : Nat), (r : Nat)⟩
          · repeat (first
    | (apply s_ldA TY; exact rfl; exact rfl; exact rfl; exact rfl; exact rfl; exact oa1)
    | (apply s_ldR TY (i := ((nbrs x ⟨(c : Nat), (r : Nat)⟩)[i].row.toNat + 100)); exact rfl; exact rfl; exact rfl; exact rfl; exact ra1; exact ca1)
    | (apply s_idxR TY (i := ((nbrs x ⟨(c : Nat), (r : Nat)⟩)[i].row.toNat + 100)); exact rfl; exact rfl; exact rfl; exact rfl; exact ra1; exact rfl; omega; omega)
    | (apply s_ldA TY; exact rfl; exact rfl; exact rfl; exact rfl; exact rfl; exact oa2)
    | (apply s_ldR TY (i := ((⟨(c : Nat), (r : Nat)⟩ : Cel).row.toNat + 100)); exact rfl; exact rfl; exact rfl; exact rfl; exact ra2; exact ca2)
    | (apply s_idxR TY (i := ((⟨(c : Nat), (r : Nat)⟩ : Cel).row.toNat + 100)); exact rfl; exact rfl; exact rfl; exact rfl; exact ra2; exact rfl; omega; omega)
    | (apply s_storeR TY (i := ((⟨(c : Nat), (r : Nat)⟩ : Cel).row.toNat + 100)); exact rfl; exact ra2; exact rfl; exact rfl; exact rfl; (show _ + 1 ≤ _; omega))
    | (apply s_idxOA TY; exact rfl; exact rfl; exact rfl; exact rfl; exact rfl; exact rfl; omega; omega)
    | (apply s_a TY; exact rfl)
    | (apply s_t; exact rfl; (first | assumption | omega))
    | apply w_seq
    | apply w_region
    | (apply w_draw (id := 26) 22 rfl (by kernel_rfl))
    | apply s_nil
    | apply t_norm
    | apply k_norm
    | apply w_block
    | apply w_skip
    | (apply w_condT; exact rfl; exact rfl)
    | (apply s_k (SS); exact rfl)
    | (apply s_c TY; exact rfl; (first | omega | exact ⟨by omega, by (first | with_reducible assumption | ((with_reducible apply intsF_ne); omega) | ((with_reducible apply matF_ne); omega) | ((with_reducible apply celsF_ne); omega))⟩))
    | (apply s_l TY; exact rfl; (first | exact rfl | with_reducible assumption | ((with_reducible apply intsF_at); omega) | ((with_reducible apply matF_at); omega) | assumption))
    | (apply s_m TY; exact rfl; (first | with_reducible assumption | ((with_reducible apply celsF_sub); omega) | exact rfl); exact rfl))
            exact ⟨(i + 1, setT M3 ⟨(c : Nat), (r : Nat)⟩ (tab M3 (nbrs x ⟨(c : Nat), (r : Nat)⟩)[i] + stepI x ⟨(c : Nat), (r : Nat)⟩ (nbrs x ⟨(c : Nat), (r : Nat)⟩)[i]), true), ⟨by simp only; omega, hp3.low' v hf hin hic hlt⟩, by simp only; omega, (by
            show Gh _ _ _ ⟨(Ab.upd (Ab.upd (Ab.upd (Ab.upd (Ab.upd (Ab.upd (Ab.upd (Ab.upd (fun _ => .bot) 2 (.f (.pt (gridL x) 0))) 5 (.ow 0)) 9 (.f (bv true))) 10 (.f (iv (r : Nat)))) 11 (.f (iv (c : Nat)))) 12 (.bx 1 0)) 13 (.f (.sl (nbrs x ⟨(c : Nat), (r : Nat)⟩).length (celsF (nbrs x ⟨(c : Nat), (r : Nat)⟩))))) 14 (.f (iv ((i + 1) : Nat)))), (Ab.upd (Ab.upd (mR 3 ((setT M3 ⟨(c : Nat), (r : Nat)⟩ (tab M3 (nbrs x ⟨(c : Nat), (r : Nat)⟩)[i] + stepI x ⟨(c : Nat), (r : Nat)⟩ (nbrs x ⟨(c : Nat), (r : Nat)⟩)[i])).map intsF)) 0 (some (mOut 23 ((setT M3 ⟨(c : Nat), (r : Nat)⟩ (tab M3 (nbrs x ⟨(c : Nat), (r : Nat)⟩)[i] + stepI x ⟨(c : Nat), (r : Nat)⟩ (nbrs x ⟨(c : Nat), (r : Nat)⟩)[i])).map intsF)))) 1 (some (.box [.f (iv (c : Nat)), .f (iv (r : Nat))]))), 2⟩
            rw [setT_map m2]
            exact gh_le ⟨le_upd rfl trivial (le_upd rfl trivial (le_upd rfl rfl (le_upd rfl trivial (le_upd rfl trivial (le_upd rfl trivial (le_upd rfl rfl (le_upd rfl trivial (le_nil _)))))))), le_hupd rfl (fun y hy => by simp at hy; rcases hy with rfl | rfl <;> first | trivial | rfl) (le_hupd (by rw [mOut_set]; rfl) mOut_cl1 (le_mR (mR_set m2 (setAt_length _ _ _).symm (fun r hr => by repeat (first | exact rfl | refine (upd_other _ _ (by omega)).trans ?_)))))⟩)⟩
          · repeat (first
    | (apply s_ldA TY; exact rfl; exact rfl; exact rfl; exact rfl; exact rfl; exact oa1)
    | (apply s_ldR TY (i := ((nbrs x ⟨(c : Nat), (r : Nat)⟩)[i].row.toNat + 100)); exact rfl; exact rfl; exact rfl; exact rfl; exact ra1; exact ca1)
    | (apply s_idxR TY (i := ((nbrs x ⟨(c : Nat), (r : Nat)⟩)[i].row.toNat + 100)); exact rfl; exact rfl; exact rfl; exact rfl; exact ra1; exact rfl; omega; omega)
    | (apply s_ldA TY; exact rfl; exact rfl; exact rfl; exact rfl; exact rfl; exact oa2)
    | (apply s_ldR TY (i := ((⟨(c : Nat), (r : Nat)⟩ : Cel).row.toNat + 100)); exact rfl; exact rfl; exact rfl; exact rfl; exact ra2; exact ca2)
    | (apply s_idxR TY (i := ((⟨(c : Nat), (r : Nat)⟩ : Cel).row.toNat + 100)); exact rfl; exact rfl; exact rfl; exact rfl; exact ra2; exact rfl; omega; omega)
    | (apply s_idxOA TY; exact rfl; exact rfl; exact rfl; exact rfl; exact rfl; exact rfl; omega; omega)
    | (apply s_a TY; exact rfl)
    | (apply s_t; exact rfl; (first | assumption | omega))
    | (apply s_f; exact rfl; (first | assumption | omega))
    | apply w_seq
    | apply w_region
    | (apply w_draw (id := 26) 22 rfl (by kernel_rfl))
    | apply s_nil
    | apply t_norm
    | apply k_norm
    | apply w_block
    | apply w_skip
    | (apply w_condT; exact rfl; exact rfl)
    | (apply w_condF; exact rfl; exact rfl)
    | (apply s_k (SS); exact rfl)
    | (apply s_c TY; exact rfl; (first | omega | exact ⟨by omega, by (first | with_reducible assumption | ((with_reducible apply intsF_ne); omega) | ((with_reducible apply matF_ne); omega) | ((with_reducible apply celsF_ne); omega))⟩))
    | (apply s_l TY; exact rfl; (first | exact rfl | with_reducible assumption | ((with_reducible apply intsF_at); omega) | ((with_reducible apply matF_at); omega) | assumption))
    | (apply s_m TY; exact rfl; (first | with_reducible assumption | ((with_reducible apply celsF_sub); omega) | exact rfl); exact rfl))
            exact ⟨(i + 1, M3, b3), ⟨by simp only; omega, hp3.keep hic hlt⟩, by simp only; omega, gh_le ⟨le_upd rfl trivial (le_upd rfl trivial (le_upd rfl rfl (le_upd rfl trivial (le_upd rfl trivial (le_upd rfl trivial (le_upd rfl rfl (le_upd rfl trivial (le_nil _)))))))), le_hupd rfl (fun y hy => by simp at hy; rcases hy with rfl | rfl <;> first | trivial | rfl) (le_hupd rfl mOut_cl1 (le_mR (fun r hr => by repeat (first | exact rfl | refine (upd_other _ _ (by omega)).trans ?_))))⟩⟩
        · have hie : i = (nbrs x ⟨(c : Nat), (r : Nat)⟩).length := by omega
          subst hie
          repeat (first
    | (apply s_a TY; exact rfl)
    | (apply s_f; exact rfl; (first | assumption | omega))
    | apply w_seq
    | apply w_region
    | apply s_nil
    | apply t_norm
    | apply t_exit
    | apply k_hit
    | apply k_norm
    | apply w_exit
    | (apply w_condF; exact rfl; exact rfl)
    | (apply s_c TY; exact rfl; (first | omega | exact ⟨by omega, by (first | with_reducible assumption | ((with_reducible apply intsF_ne); omega) | ((with_reducible apply matF_ne); omega) | ((with_reducible apply celsF_ne); omega))⟩)))
          exact ⟨(c + 1, M3, b3), ⟨by simp only; omega, hp3.col⟩, by simp only; omega, gh_le ⟨le_upd rfl trivial (le_upd rfl trivial (le_upd rfl trivial (le_upd rfl rfl (le_upd rfl trivial (le_nil _))))), le_hupd rfl mOut_cl0 (le_mR (fun r hr => by repeat (first | exact rfl | refine (upd_other _ _ (by omega)).trans ?_)))⟩⟩
      · have hce : c = x.tilt.length := by omega
        subst hce
        repeat (first
    | (apply s_a TY; exact rfl)
    | (apply s_f; exact rfl; (first | assumption | omega))
    | apply w_seq
    | apply w_region
    | apply s_nil
    | apply t_norm
    | apply t_exit
    | apply k_hit
    | apply k_norm
    | apply w_exit
    | (apply w_condF; exact rfl; exact rfl)
    | (apply s_c TY; exact rfl; (first | omega | exact ⟨by omega, by (first | with_reducible assumption | ((with_reducible apply intsF_ne); omega) | ((with_reducible apply matF_ne); omega) | ((with_reducible apply celsF_ne); omega))⟩)))
        exact ⟨(r + 1, M2, b2), ⟨by simp only; omega, hp2.row⟩, by simp only; omega, gh_le ⟨le_upd rfl trivial (le_upd rfl trivial (le_upd rfl rfl (le_upd rfl trivial (le_nil _)))), le_hupd rfl mOut_cl0 (le_mR (fun r hr => by repeat (first | exact rfl | refine (upd_other _ _ (by omega)).trans ?_)))⟩⟩
    · have hre : r = x.rows.toNat := by omega
      subst hre
      repeat (first
    | (apply s_a TY; exact rfl)
    | (apply s_f; exact rfl; (first | assumption | omega))
    | apply w_seq
    | apply w_region
    | apply s_nil
    | apply t_norm
    | apply t_exit
    | apply k_hit
    | apply k_norm
    | apply w_exit
    | (apply w_condF; exact rfl; exact rfl))
      exact ⟨(M1, b1), ⟨hp1.low, fun e => by simp only at e; subst e; exact hp1.fixed v hf⟩, by
        have h1 := hp1.le
        cases b1
        · simp; omega
        · have h2 := hp1.lt rfl
          simp; omega, gh_le ⟨le_upd rfl trivial (le_upd rfl rfl (le_upd rfl trivial (le_nil _))), le_hupd rfl mOut_cl0 (le_mR (fun r hr => by repeat (first | exact rfl | refine (upd_other _ _ (by omega)).trans ?_)))⟩⟩
end Go.Proofs.YtienhiloecfgnaaDoor
namespace Go.Proofs.YtienhiloecfgnaaDoor
open Go Go.RowKit Go.Proofs Go.Shelf Go.Ab
set_option maxRecDepth 100000 in
set_option maxHeartbeats 1000000 in
theorem Explains_s (x : Grid) (rs : List Rng) (ds : List Int) (f : Flash) (v : Valid x) (hd : ds.length = x.layers.length) (vy : Valid (own x ds)) (hf : InG x f.frm) (ht : InG x f.to) : Summ Tryd.prog GG 99 [classF x rs, .sl ds.length (intsF ds), .agg (flaF f)] (bv (withinB (distOf (own x ds) f.frm f.to) f.time.lo f.time.hi)) := by
  have l1 := v.l1
  have l6 := v.l6
  have t8 := v.t8
  have WS := With_s x ds l1 (by omega) (by omega) hd
  have hf' : InG (own x ds) f.frm := hf
  have ht' : InG (own x ds) f.to := ht
  have TS := Times_s (own x ds) f.frm vy hf'
  have sh := timesM_shape vy f.frm
  have hl := sh.len
  obtain ⟨q1, q2, qa⟩ := tab_at sh ht'
  rw [tab_timesM ht'] at qa
  obtain ⟨⟨g0, g1⟩, g2, g3⟩ := id ht'
  have WI := Within_s (distOf (own x ds) f.frm f.to) f.time.lo f.time.hi
  refine summW Tryd.func99 rfl rfl 31 rfl (by simp) (fun M0 => ?_)
  repeat (first
    | (apply s_a TY; exact rfl)
    | apply w_seq
    | apply w_region
    | (apply w_draw (id := 1) 23 rfl (by kernel_rfl))
    | apply s_nil
    | apply t_norm
    | apply w_ret
    | (apply s_k (WS); exact rfl)
    | (apply s_k (TS); exact rfl)
    | (apply s_k (WI); exact rfl)
    | (apply s_z TY; exact rfl; (first | omega | exact ⟨by omega, by (first | with_reducible assumption | ((with_reducible apply intsF_ne); omega) | ((with_reducible apply matF_ne); omega) | assumption)⟩))
    | (apply s_l TY; exact rfl; (first | exact rfl | with_reducible assumption | ((with_reducible apply intsF_at); omega) | ((with_reducible apply matF_at); omega) | assumption)))
  exact lv_ret (ret1 rfl (res_tmp rfl))
end Go.Proofs.YtienhiloecfgnaaDoor
namespace Go.Proofs.YtienhiloecfgnaaDoor
open Go Go.RowKit Go.Proofs Go.Shelf Go.Ab
theorem assigns_snoc (r : Rng) : ∀ (rs : List Rng) (pre : List Int), assigns (rs ++ [r]) pre = (assigns rs pre).flatMap fun p => (upTo r.lo r.hi).map fun d => p ++ [d]
  | [], pre => by
    simp only [List.nil_append, assigns, List.flatMap_cons, List.flatMap_nil, List.append_nil]
    rw [← map_flat]
  | q :: rs, pre => by
    simp only [List.cons_append, assigns, List.flatMap_assoc]
    congr 1
    funext n
    exact assigns_snoc r rs _
theorem assigns_snoc_len (r : Rng) (rs : List Rng) (pre : List Int) : (assigns (rs ++ [r]) pre).length = (assigns rs pre).length * (r.hi + 1 - r.lo).toNat := by
  rw [assigns_snoc, List.length_flatMap]
  simp only [List.length_map, upTo_len]
  generalize assigns rs pre = A
  induction A with
  | nil => simp
  | cons x A ih => simp [ih, Nat.add_mul]; omega
def lev (rs : List Rng) (i : Nat) : List (List Int) := assigns (rs.take i) []
theorem lev_all (rs : List Rng) : lev rs rs.length = assigns rs [] := by unfold lev; rw [List.take_length]
theorem lev_succ {rs : List Rng} {i : Nat} (h : i < rs.length) : lev rs (i + 1) = (lev rs i).flatMap fun p => (upTo rs[i].lo rs[i].hi).map fun d => p ++ [d] := by
  unfold lev; rw [List.take_succ_eq_append_getElem h, assigns_snoc]
theorem lev_len {rs : List Rng} (hr : ∀ r ∈ rs, 1 ≤ r.lo ∧ r.lo ≤ r.hi ∧ r.hi ≤ 1000) {i : Nat} (h : i < rs.length) : (lev rs i).length ≤ (lev rs (i + 1)).length := by
  unfold lev; rw [List.take_succ_eq_append_getElem h, assigns_snoc_len]
  have := hr rs[i] (List.getElem_mem h)
  have h1 : 1 ≤ (rs[i].hi + 1 - rs[i].lo).toNat := by omega
  calc (assigns (rs.take i) []).length = (assigns (rs.take i) []).length * 1 := (Nat.mul_one _).symm
    _ ≤ _ := Nat.mul_le_mul_left _ h1
theorem lev_mono {rs : List Rng} (hr : ∀ r ∈ rs, 1 ≤ r.lo ∧ r.lo ≤ r.hi ∧ r.hi ≤ 1000) : ∀ (n i : Nat), i + n = rs.length → (lev rs i).length ≤ (assigns rs []).length
  | 0, i, h => by rw [← lev_all rs, ← h]; exact Nat.le_refl _
  | n + 1, i, h => Nat.le_trans (lev_len hr (by omega)) (lev_mono hr n (i + 1) (by omega))
theorem lev_row {rs : List Rng} : ∀ {i : Nat}, i ≤ rs.length → ∀ p ∈ lev rs i, p.length = i
  | 0, _, p, hp => by
    have : p = [] := by simpa [lev, assigns] using hp
    rw [this]; rfl
  | i + 1, h, p, hp => by
    rw [lev_succ (by omega)] at hp
    obtain ⟨q, hq, hp⟩ := List.mem_flatMap.1 hp
    obtain ⟨d, _, rfl⟩ := List.mem_map.1 hp
    rw [List.length_append, lev_row (by omega) q hq]; rfl
def mid (M : List (List Int)) (lo hi : Int) (k j : Nat) : List (List Int) := ((M.take k).flatMap fun p => (upTo lo hi).map fun d => p ++ [d]) ++ ((upTo lo hi).take j).map fun d => M.getD k [] ++ [d]
theorem mid_zero (M : List (List Int)) (lo hi : Int) : mid M lo hi 0 0 = [] := by simp [mid]
theorem mid_next {M : List (List Int)} {lo hi : Int} {k j : Nat} (hk : k < M.length) (hj : j < (hi + 1 - lo).toNat) : mid M lo hi k (j + 1) = mid M lo hi k j ++ [M[k] ++ [lo + j]] := by
  have h1 : j < (upTo lo hi).length := by rw [upTo_len]; exact hj
  unfold mid
  rw [List.take_succ_eq_append_getElem h1, List.map_append, ← List.append_assoc, List.getD_eq_getElem?_getD, List.getElem?_eq_getElem hk, Option.getD_some]
  simp [upTo]
theorem mid_row {M : List (List Int)} {lo hi : Int} {k : Nat} (hk : k < M.length) : mid M lo hi (k + 1) 0 = mid M lo hi k (hi + 1 - lo).toNat := by
  unfold mid
  rw [List.take_succ_eq_append_getElem hk, List.flatMap_append, List.take_zero, List.map_nil, List.append_nil, ← upTo_len lo hi, List.take_length, List.getD_eq_getElem?_getD, List.getElem?_eq_getElem hk, Option.getD_some]
  simp
theorem mid_all (M : List (List Int)) (lo hi : Int) : mid M lo hi M.length 0 = M.flatMap fun p => (upTo lo hi).map fun d => p ++ [d] := by simp [mid]
theorem mid_len (M : List (List Int)) (lo hi : Int) {k j : Nat} (hk : k ≤ M.length) (hj : j ≤ (hi + 1 - lo).toNat) : (mid M lo hi k j).length = k * (hi + 1 - lo).toNat + j := by
  unfold mid
  rw [List.length_append, List.length_flatMap, List.length_map, List.length_take, upTo_len, Nat.min_eq_left hj]
  simp only [List.length_map, upTo_len]
  have : ((M.take k).map fun _ : List Int => (hi + 1 - lo).toNat).sum = (M.take k).length * (hi + 1 - lo).toNat := by
    generalize M.take k = A
    induction A with
    | nil => simp
    | cons x A ih => simp [ih, Nat.add_mul]; omega
  rw [this, List.length_take, Nat.min_eq_left hk]
theorem gh_sub {C : Ctx} {n : Nat} {st : Ab.St} (t : Nat) {x y : FV} (ht : st.s t = .f x) (h : ∀ w M v, RepF w M v x → RepF w M v y) : Gh C n st { st with s := Ab.upd st.s t (.f y) } := fun w0 a w ⟨J, S⟩ => ⟨J, S.ext, S.size, S.defs, fun u => by
    by_cases e : u = t
    · subst e; have := S.slot u; rw [ht] at this; simp only [upd_same]; exact h _ _ _ this
    · simp only [upd_other _ _ e]; exact S.slot u, S.blk, S.apart, S.old, S.glob, S.fix⟩
theorem rep_one_nil {w : World} {M : Nat → Prop} {v : Value} (h : RepF w M v (.sl 1 [.v (.slice none 0 0)])) : RepF w M v (.sl 1 (matF [[]])) := by
  cases h with
  | sl a _ c _ us h1 h2 h3 h4 h5 => exact RepF.sl a 1 c _ us h1 h2 h3 h4 (fun k u x a b => by
      cases k with
      | zero => simp [matF, rowF, intsF] at b; subst b; exact rep_nil (h5 0 u _ a rfl)
      | succ k => simp [matF] at b)
theorem rngsF_lo {l : List Rng} {k : Nat} (h : k < l.length) : (rngsF l)[k * 2 + 0]? = some (iv l[k].lo) := by
  have := congrArg (fun z => z[0]?) (flat_sub (f := rngF) (s := 2) (fun _ => rfl) h)
  simpa [List.getElem?_take, List.getElem?_drop, rngF, rngsF] using this
theorem rngsF_hi {l : List Rng} {k : Nat} (h : k < l.length) : (rngsF l)[k * 2 + 1]? = some (iv l[k].hi) := by
  have := congrArg (fun z => z[1]?) (flat_sub (f := rngF) (s := 2) (fun _ => rfl) h)
  simpa [List.getElem?_take, List.getElem?_drop, rngF, rngsF] using this
set_option maxRecDepth 100000 in
set_option maxHeartbeats 2000000 in
theorem All_s (x : Grid) (rs : List Rng) (h8 : rs.length ≤ 8) (hr : ∀ r ∈ rs, 1 ≤ r.lo ∧ r.lo ≤ r.hi ∧ r.hi ≤ 1000) (hc : (assigns rs []).length ≤ 300) : Summ Tryd.prog GG 88 [classF x rs] (.sl (assigns rs []).length (matF (assigns rs []))) := by
  refine summW Tryd.func88 rfl rfl 51 rfl (by simp) (fun M0 => ?_)
  repeat (first
    | (apply s_a TY; exact rfl)
    | apply w_seq
    | apply w_region
    | apply s_nil
    | apply t_norm
    | apply w_block)
  apply w_gh (gh_sub 3 rfl (fun _ _ _ => rep_one_nil))
  apply w_loop (fun i : Nat => ⟨(Ab.upd (Ab.upd (Ab.upd (fun _ => .bot) 1 (.f (.pt (classL x rs) 0))) 3 (.f (.sl (lev rs i).length (matF (lev rs i))))) 4 (.f (iv (i : Nat)))), (fun _ => none), 0⟩) (fun i => i ≤ rs.length) (fun i => rs.length - i) 0 (Nat.zero_le _) (gh_le ⟨le_upd rfl trivial (le_upd rfl trivial (le_upd rfl trivial (le_nil _))), le_h0 _ _⟩)
  intro i hi
  by_cases hic : i < rs.length
  · have hb := hr rs[i] (List.getElem_mem hic)
    have hl1 := lev_mono hr (rs.length - (i + 1)) (i + 1) (by omega)
    have hl0 := lev_len hr hic
    have fl := rngsF_lo hic
    have fh := rngsF_hi hic
    have hmax : ∀ k j, k ≤ (lev rs i).length → j ≤ (rs[i].hi + 1 - rs[i].lo).toNat → k < (lev rs i).length ∨ j = 0 → (mid (lev rs i) rs[i].lo rs[i].hi k j).length ≤ 300 := fun k j hk hj hkj => by
      rw [mid_len _ _ _ hk hj]
      have h1 : (lev rs (i + 1)).length = (lev rs i).length * (rs[i].hi + 1 - rs[i].lo).toNat := by rw [lev_succ hic, ← mid_all, mid_len _ _ _ (Nat.le_refl _) (Nat.zero_le _)]; omega
      have h2 : k * (rs[i].hi + 1 - rs[i].lo).toNat + j ≤ (lev rs i).length * (rs[i].hi + 1 - rs[i].lo).toNat := by
        rcases hkj with h | h
        · calc _ ≤ k * (rs[i].hi + 1 - rs[i].lo).toNat + (rs[i].hi + 1 - rs[i].lo).toNat := Nat.add_le_add_left hj _
            _ = (k + 1) * (rs[i].hi + 1 - rs[i].lo).toNat := by rw [Nat.add_mul, Nat.one_mul]
            _ ≤ _ := Nat.mul_le_mul_right _ h
        · rw [h, Nat.add_zero]; exact Nat.mul_le_mul_right _ hk
      omega
    repeat (first
    | (apply s_a TY; exact rfl)
    | (apply s_t; exact rfl; (first | assumption | omega))
    | apply w_seq
    | apply w_region
    | apply s_nil
    | apply t_norm
    | apply w_block
    | apply w_skip
    | (apply w_condT; exact rfl; exact rfl))
    apply w_gh (gh_own 5 23 1 rfl rfl)
    apply w_loop (fun k : Nat => ⟨(Ab.upd (Ab.upd (Ab.upd (Ab.upd (Ab.upd (fun _ => .bot) 1 (.f (.pt (classL x rs) 0))) 3 (.f (.sl (lev rs i).length (matF (lev rs i))))) 4 (.f (iv (i : Nat)))) 5 (.ow 0)) 6 (.f (iv (k : Nat)))), (Ab.upd (fun _ => none) 0 (some (.row 23 1 (mid (lev rs i) rs[i].lo rs[i].hi k 0).length (matF (mid (lev rs i) rs[i].lo rs[i].hi k 0))))), 1⟩) (fun k => k ≤ (lev rs i).length) (fun k => (lev rs i).length - k) 0 (Nat.zero_le _) (gh_le ⟨le_upd rfl trivial (le_upd rfl rfl (le_upd rfl trivial (le_upd rfl trivial (le_upd rfl trivial (le_nil _))))), le_hupd (by rw [mid_zero]; rfl) trivial (le_h0 _ _)⟩)
    intro k hk
    by_cases hkc : k < (lev rs i).length
    · repeat (first
    | (apply s_a TY; exact rfl)
    | (apply s_t; exact rfl; (first | assumption | omega))
    | apply w_seq
    | apply w_region
    | apply s_nil
    | apply t_norm
    | apply w_block
    | apply w_skip
    | (apply w_condT; exact rfl; exact rfl)
    | (apply s_c TY; exact rfl; (first | omega | exact ⟨by omega, by (first | with_reducible assumption | ((with_reducible apply matF_ne); omega) | ((with_reducible apply rngsF_ne); omega) | assumption)⟩))
    | (apply s_l TY; exact rfl; (first | exact rfl | with_reducible assumption | ((with_reducible apply matF_at); omega) | assumption)))
      apply w_loop (fun j : Nat => ⟨(Ab.upd (Ab.upd (Ab.upd (Ab.upd (Ab.upd (Ab.upd (fun _ => .bot) 1 (.f (.pt (classL x rs) 0))) 3 (.f (.sl (lev rs i).length (matF (lev rs i))))) 4 (.f (iv (i : Nat)))) 5 (.ow 0)) 6 (.f (iv (k : Nat)))) 7 (.f (iv (rs[i].lo + (j : Nat))))), (Ab.upd (fun _ => none) 0 (some (.row 23 1 (mid (lev rs i) rs[i].lo rs[i].hi k j).length (matF (mid (lev rs i) rs[i].lo rs[i].hi k j))))), 1⟩) (fun j => j ≤ (rs[i].hi + 1 - rs[i].lo).toNat) (fun j => (rs[i].hi + 1 - rs[i].lo).toNat - j) 0 (Nat.zero_le _) (gh_le ⟨le_upd (congrArg (fun z => AV.f (iv z)) (Int.add_zero _)) trivial (le_upd rfl trivial (le_upd rfl rfl (le_upd rfl trivial (le_upd rfl trivial (le_upd rfl trivial (le_nil _)))))), le_hupd rfl trivial (le_h0 _ _)⟩)
      intro j hj
      by_cases hjc : j < (rs[i].hi + 1 - rs[i].lo).toNat
      · have hrow := lev_row (Nat.le_of_lt hic) _ (List.getElem_mem hkc)
        have CN := CopyInts_n (lev rs i)[k] (by omega)
        have hm := hmax k j hk hj (.inl hkc)
        repeat (first
    | (apply s_callN CN; exact rfl; exact rfl; exact rfl; exact rfl; exact rfl)
    | (apply s_append TY; exact rfl; exact rfl; exact rfl; exact rfl; exact rfl; exact rfl; exact rfl; exact rfl; exact rfl; (unfold maxLen; omega); omega)
    | (apply s_a TY; exact rfl)
    | (apply s_t; exact rfl; (first | assumption | omega))
    | apply w_seq
    | apply w_region
    | apply s_nil
    | apply t_norm
    | apply w_block
    | apply w_skip
    | (apply w_condT; exact rfl; exact rfl)
    | (apply s_c TY; exact rfl; (first | omega | exact ⟨by omega, by (first | with_reducible assumption | ((with_reducible apply matF_ne); omega) | ((with_reducible apply rngsF_ne); omega) | assumption)⟩))
    | (apply s_l TY; exact rfl; (first | exact rfl | with_reducible assumption | ((with_reducible apply matF_at); omega) | assumption)))
        refine s_ghost rfl (gh_row 1 rfl) ?_
        repeat (first
    | (apply s_append TY; exact rfl; exact rfl; exact rfl; exact rfl; exact rfl; exact rfl; exact rfl; exact rfl; exact rfl; (unfold maxLen; omega); omega)
    | (apply s_a TY; exact rfl)
    | apply w_region
    | apply s_nil
    | apply t_norm
    | apply k_norm
    | (apply s_c TY; exact rfl; (first | omega | exact ⟨by omega, by (first | with_reducible assumption | ((with_reducible apply matF_ne); omega) | ((with_reducible apply rngsF_ne); omega) | assumption)⟩)))
        exact ⟨j + 1, by omega, by omega, gh_le ⟨le_upd (congrArg (fun z => AV.f (iv z)) (by omega)) trivial (le_upd rfl trivial (le_upd rfl rfl (le_upd rfl trivial (le_upd rfl trivial (le_upd rfl trivial (le_nil _)))))), le_hupd (by rw [mid_next hkc hjc]; simp [matF, rowF, intsF]; rfl) trivial (le_h0 _ _)⟩⟩
      · have hje : j = (rs[i].hi + 1 - rs[i].lo).toNat := by omega
        subst hje
        repeat (first
    | (apply s_a TY; exact rfl)
    | (apply s_f; exact rfl; (first | assumption | omega))
    | apply w_seq
    | apply w_region
    | apply s_nil
    | apply t_norm
    | apply t_exit
    | apply k_hit
    | apply k_norm
    | apply w_exit
    | (apply w_condF; exact rfl; exact rfl)
    | (apply s_c TY; exact rfl; (first | omega | exact ⟨by omega, by (first | with_reducible assumption | ((with_reducible apply matF_ne); omega) | ((with_reducible apply rngsF_ne); omega) | assumption)⟩))
    | (apply s_l TY; exact rfl; (first | exact rfl | with_reducible assumption | ((with_reducible apply matF_at); omega) | assumption)))
        exact ⟨k + 1, by omega, by omega, gh_le ⟨le_upd rfl trivial (le_upd rfl rfl (le_upd rfl trivial (le_upd rfl trivial (le_upd rfl trivial (le_nil _))))), le_hupd (congrArg (fun l : List (List Int) => some (Blk.row 23 1 l.length (matF l))) (mid_row hkc)).symm trivial (le_h0 _ _)⟩⟩
    · have hke : k = (lev rs i).length := by omega
      subst hke
      repeat (first
    | (apply s_a TY; exact rfl)
    | (apply s_f; exact rfl; (first | assumption | omega))
    | apply w_seq
    | apply w_region
    | apply s_nil
    | apply t_norm
    | apply t_exit
    | apply k_hit
    | apply k_norm
    | apply w_exit
    | (apply w_condF; exact rfl; exact rfl)
    | (apply s_c TY; exact rfl; (first | omega | exact ⟨by omega, by (first | with_reducible assumption | ((with_reducible apply matF_ne); omega) | ((with_reducible apply rngsF_ne); omega) | assumption)⟩)))
      exact ⟨i + 1, by omega, by omega, gh_trans (gh_row 0 rfl) (gh_le ⟨le_upd rfl trivial (le_upd (congrArg (fun l : List (List Int) => AV.f (.sl l.length (matF l))) ((lev_succ hic).trans (mid_all _ _ _).symm)) trivial (le_upd rfl trivial (le_nil _))), le_h0 _ _⟩)⟩
  · have hie : i = rs.length := by omega
    subst hie
    repeat (first
    | (apply s_a TY; exact rfl)
    | (apply s_f; exact rfl; (first | assumption | omega))
    | apply w_seq
    | apply w_region
    | apply s_nil
    | apply t_norm
    | apply t_exit
    | apply k_hit
    | apply w_exit
    | apply w_ret
    | (apply w_condF; exact rfl; exact rfl))
    exact lv_ret (ret1 rfl (res_tmp (congrArg (fun l : List (List Int) => AV.f (.sl l.length (matF l))) (lev_all rs))))
end Go.Proofs.YtienhiloecfgnaaDoor
namespace Go.Proofs.YtienhiloecfgnaaDoor
open Go Go.RowKit Go.Proofs Go.Shelf Go.Ab
noncomputable def expB (x : Grid) (ds : List Int) (f : Flash) : Bool := withinB (distOf (own x ds) f.frm f.to) f.time.lo f.time.hi
theorem models_eq (x : Grid) (rs : List Rng) (l : List Flash) : modelsM x rs l = (assigns rs []).filter fun ds => l.all (expB x ds) := by
  unfold modelsM fits allMo news
  rw [List.filter_map, List.map_map]
  have e1 : ((fun m : List Int × List Bool => !m.2.any fun b => false == b) ∘ mo x l) = fun ds => l.all (expB x ds) := by
    funext ds
    simp only [Function.comp, mo, explains, List.any_map]
    rw [Bool.eq_iff_iff]
    simp [expB, List.all_eq_true, List.any_eq_false]
  have e2 : ((fun m : List Int × List Bool => m.1) ∘ mo x l) = id := by funext ds; rfl
  rw [e1]
  show List.map ((fun m : List Int × List Bool => m.1) ∘ mo x l) _ = _
  rw [e2, List.map_id]
noncomputable def keepM (x : Grid) (rs : List Rng) (l : List Flash) (i : Nat) : List (List Int) := ((assigns rs []).take i).filter fun ds => l.all (expB x ds)
theorem keepM_succ {x : Grid} {rs : List Rng} {l : List Flash} {i : Nat} (h : i < (assigns rs []).length) : keepM x rs l (i + 1) = keepM x rs l i ++ (if l.all (expB x (assigns rs [])[i]) = true then [(assigns rs [])[i]] else []) := by
  unfold keepM
  rw [List.take_succ_eq_append_getElem h, List.filter_append]
  congr 1
  by_cases h2 : l.all (expB x (assigns rs [])[i]) = true
  · rw [if_pos h2]; simp only [List.filter, h2]
  · rw [if_neg h2]; simp only [List.filter, h2]
theorem keepM_all (x : Grid) (rs : List Rng) (l : List Flash) : keepM x rs l (assigns rs []).length = modelsM x rs l := by
  unfold keepM; rw [List.take_length, models_eq]
theorem keepM_len (x : Grid) (rs : List Rng) (l : List Flash) (i : Nat) : (keepM x rs l i).length ≤ (assigns rs []).length := by
  unfold keepM
  refine Nat.le_trans (List.length_filter_le _ _) ?_
  rw [List.length_take]; exact Nat.min_le_right _ _
theorem all_succ {α : Type} {p : α → Bool} {l : List α} {k : Nat} (h : k < l.length) : (l.take (k + 1)).all p = ((l.take k).all p && p l[k]) := by
  rw [List.take_succ_eq_append_getElem h, List.all_append]; simp
theorem row_app23 (M : List (List Int)) (r : List Int) : some (Blk.row 23 1 (M ++ [r]).length (matF (M ++ [r]))) = some (Blk.row 23 1 (M.length + 1) (matF M ++ [rowF r])) := by
  rw [matF_snoc, List.length_append]; rfl
set_option maxRecDepth 100000 in
set_option maxHeartbeats 2000000 in
theorem Models_s (x : Grid) (rs : List Rng) (l : List Flash) (K : FlashesOk x rs l) : Summ Tryd.prog GG 32 [classF x rs, .sl l.length (flasF l)] (.sl (modelsM x rs l).length (matF (modelsM x rs l))) := by
  have v := K.k.v
  have hl := K.k.len
  have h8 := K.l8
  have hcnt := K.k.cnt
  have l6 := v.l6
  have AL := All_s x rs (by omega) K.k.rng K.k.cnt
  refine summW Tryd.func32 rfl rfl 46 rfl (by simp) (fun M0 => ?_)
  repeat (first
    | (apply s_a TY; exact rfl)
    | apply w_seq
    | apply w_region
    | apply s_nil
    | apply t_norm
    | apply w_block
    | (apply s_k (AL); exact rfl))
  apply w_gh (gh_own 6 23 1 rfl rfl)
  apply w_loop (fun i : Nat => ⟨(Ab.upd (Ab.upd (Ab.upd (Ab.upd (Ab.upd (fun _ => .bot) 1 (.f (.sl l.length (flasF l)))) 2 (.f (.pt (classL x rs) 0))) 5 (.f (.sl (assigns rs []).length (matF (assigns rs []))))) 6 (.ow 0)) 7 (.f (iv (i : Nat)))), (Ab.upd (fun _ => none) 0 (some (.row 23 1 (keepM x rs l i).length (matF (keepM x rs l i))))), 1⟩) (fun i => i ≤ (assigns rs []).length) (fun i => (assigns rs []).length - i) 0 (Nat.zero_le _) (gh_le ⟨le_upd rfl trivial (le_upd rfl rfl (le_upd rfl trivial (le_upd rfl trivial (le_upd rfl trivial (le_nil _))))), le_hupd rfl trivial (le_h0 _ _)⟩)
  intro i hi
  have hkl := keepM_len x rs l i
  by_cases hic : i < (assigns rs []).length
  · have hmem := List.getElem_mem hic
    have hrow := assigns_rows rs [] _ hmem
    have hbd := assigns_bd rs [] _ K.k.rng (fun _ h => by cases h) hmem
    have vy : Valid (own x (assigns rs [])[i]) := own_valid v hbd
    have hd : (assigns rs [])[i].length = x.layers.length := by rw [hrow, ← hl]; simp
    repeat (first
    | (apply s_a TY; exact rfl)
    | (apply s_t; exact rfl; (first | assumption | omega))
    | apply w_seq
    | apply w_region
    | apply s_nil
    | apply t_norm
    | apply w_block
    | apply w_skip
    | (apply w_condT; exact rfl; exact rfl))
    apply w_loop (fun p : Nat × Bool => ⟨(Ab.upd (Ab.upd (Ab.upd (Ab.upd (Ab.upd (Ab.upd (Ab.upd (fun _ => .bot) 1 (.f (.sl l.length (flasF l)))) 2 (.f (.pt (classL x rs) 0))) 5 (.f (.sl (assigns rs []).length (matF (assigns rs []))))) 6 (.ow 0)) 7 (.f (iv (i : Nat)))) 8 (.f (bv p.2))) 9 (.f (iv (p.1 : Nat)))), (Ab.upd (fun _ => none) 0 (some (.row 23 1 (keepM x rs l i).length (matF (keepM x rs l i))))), 1⟩) (fun p => p.1 ≤ l.length ∧ (l.take p.1).all (expB x (assigns rs [])[i]) = p.2) (fun p => l.length - p.1) (0, true) (⟨Nat.zero_le _, rfl⟩) (gh_le ⟨le_upd rfl trivial (le_upd rfl trivial (le_upd rfl trivial (le_upd rfl rfl (le_upd rfl trivial (le_upd rfl trivial (le_upd rfl trivial (le_nil _))))))), le_hupd rfl trivial (le_h0 _ _)⟩)
    rintro ⟨k, b⟩ ⟨hk, hb⟩
    show W _ _ _ _ ⟨(Ab.upd (Ab.upd (Ab.upd (Ab.upd (Ab.upd (Ab.upd (Ab.upd (fun _ => .bot) 1 (.f (.sl l.length (flasF l)))) 2 (.f (.pt (classL x rs) 0))) 5 (.f (.sl (assigns rs []).length (matF (assigns rs []))))) 6 (.ow 0)) 7 (.f (iv (i : Nat)))) 8 (.f (bv b))) 9 (.f (iv (k : Nat)))), (Ab.upd (fun _ => none) 0 (some (.row 23 1 (keepM x rs l i).length (matF (keepM x rs l i))))), 1⟩
    simp only at hk hb
    by_cases hkc : k < l.length
    · obtain ⟨hf, ht⟩ := K.cells l[k] (List.getElem_mem hkc)
      have ES := Explains_s x rs (assigns rs [])[i] l[k] v hd vy hf ht
      have hs := all_succ (p := expB x (assigns rs [])[i]) hkc
      rw [hb] at hs
      cases b
      · repeat (first
    | (apply s_a TY; exact rfl)
    | (apply s_t; exact rfl; (first | assumption | omega))
    | apply w_seq
    | apply w_region
    | (apply w_draw (id := 10) 11 rfl (by kernel_rfl))
    | apply s_nil
    | apply t_norm
    | apply k_norm
    | apply w_block
    | apply w_skip
    | (apply w_condT; exact rfl; exact rfl)
    | (apply s_s; exact rfl)
    | (apply s_c TY; exact rfl; (first | omega | exact ⟨by omega, by (first | with_reducible assumption | ((with_reducible apply matF_ne); omega) | ((with_reducible apply flasF_ne); omega) | assumption)⟩)))
        exact ⟨(k + 1, false), ⟨by simp only; omega, hs⟩, by simp only; omega, gh_le ⟨le_upd rfl trivial (le_upd rfl trivial (le_upd rfl trivial (le_upd rfl rfl (le_upd rfl trivial (le_upd rfl trivial (le_upd rfl trivial (le_nil _))))))), le_hupd rfl trivial (le_h0 _ _)⟩⟩
      · repeat (first
    | (apply s_a TY; exact rfl)
    | (apply s_t; exact rfl; (first | assumption | omega))
    | apply w_seq
    | apply w_region
    | (apply w_draw (id := 10) 11 rfl (by kernel_rfl))
    | apply s_nil
    | apply t_norm
    | apply k_norm
    | apply w_block
    | apply w_skip
    | (apply w_condT; exact rfl; exact rfl)
    | (apply s_k (ES); exact rfl)
    | (apply s_c TY; exact rfl; (first | omega | exact ⟨by omega, by (first | with_reducible assumption | ((with_reducible apply matF_ne); omega) | ((with_reducible apply flasF_ne); omega) | assumption)⟩))
    | (apply s_l TY; exact rfl; (first | exact rfl | with_reducible assumption | ((with_reducible apply matF_at); omega) | assumption))
    | (apply s_m TY; exact rfl; (first | with_reducible assumption | ((with_reducible apply flasF_sub); omega) | exact rfl); exact rfl))
        exact ⟨(k + 1, expB x (assigns rs [])[i] l[k]), ⟨by simp only; omega, hs⟩, by simp only; omega, gh_le ⟨le_upd rfl trivial (le_upd rfl trivial (le_upd rfl trivial (le_upd rfl rfl (le_upd rfl trivial (le_upd rfl trivial (le_upd rfl trivial (le_nil _))))))), le_hupd rfl trivial (le_h0 _ _)⟩⟩
    · have hke : k = l.length := by omega
      subst hke
      rw [List.take_length] at hb
      have hs := keepM_succ (x := x) (l := l) hic
      rw [hb] at hs
      cases b
      · rw [if_neg (by decide), List.append_nil] at hs
        repeat (first
    | (apply s_a TY; exact rfl)
    | (apply s_f; exact rfl; (first | assumption | omega))
    | apply w_seq
    | apply w_region
    | apply s_nil
    | apply t_norm
    | apply t_exit
    | apply k_hit
    | apply k_norm
    | apply w_exit
    | apply w_skip
    | (apply w_condF; exact rfl; exact rfl)
    | (apply s_c TY; exact rfl; (first | omega | exact ⟨by omega, by (first | with_reducible assumption | ((with_reducible apply matF_ne); omega) | ((with_reducible apply flasF_ne); omega) | assumption)⟩)))
        exact ⟨i + 1, by omega, by omega, gh_le ⟨le_upd rfl trivial (le_upd rfl rfl (le_upd rfl trivial (le_upd rfl trivial (le_upd rfl trivial (le_nil _))))), le_hupd (congrArg (fun M : List (List Int) => some (Blk.row 23 1 M.length (matF M))) hs).symm trivial (le_h0 _ _)⟩⟩
      · rw [if_pos rfl] at hs
        repeat (first
    | (apply s_append TY; exact rfl; exact rfl; exact rfl; exact rfl; exact rfl; exact rfl; exact rfl; exact rfl; exact rfl; (unfold maxLen; omega); omega)
    | (apply s_a TY; exact rfl)
    | (apply s_f; exact rfl; (first | assumption | omega))
    | apply w_seq
    | apply w_region
    | apply s_nil
    | apply t_norm
    | apply t_exit
    | apply k_hit
    | apply k_norm
    | apply w_exit
    | (apply w_condT; exact rfl; exact rfl)
    | (apply w_condF; exact rfl; exact rfl)
    | (apply s_c TY; exact rfl; (first | omega | exact ⟨by omega, by (first | with_reducible assumption | ((with_reducible apply matF_ne); omega) | ((with_reducible apply flasF_ne); omega) | assumption)⟩))
    | (apply s_l TY; exact rfl; (first | exact rfl | with_reducible assumption | ((with_reducible apply matF_at); omega) | assumption)))
        exact ⟨i + 1, by omega, by omega, gh_le ⟨le_upd rfl trivial (le_upd rfl rfl (le_upd rfl trivial (le_upd rfl trivial (le_upd rfl trivial (le_nil _))))), le_hupd ((congrArg (fun M : List (List Int) => some (Blk.row 23 1 M.length (matF M))) hs).trans (row_app23 _ _)).symm trivial (le_h0 _ _)⟩⟩
  · have hie : i = (assigns rs []).length := by omega
    subst hie
    repeat (first
    | (apply s_a TY; exact rfl)
    | (apply s_f; exact rfl; (first | assumption | omega))
    | apply w_seq
    | apply w_region
    | apply s_nil
    | apply t_norm
    | apply t_exit
    | apply k_hit
    | apply w_exit
    | apply w_ret
    | (apply w_condF; exact rfl; exact rfl))
    refine lv_ret (ret_gh (gh_row 0 rfl) ?_)
    exact ret1 rfl (res_tmp (congrArg (fun M : List (List Int) => AV.f (.sl M.length (matF M))) (keepM_all x rs l)))
end Go.Proofs.YtienhiloecfgnaaDoor
namespace Go.Proofs.YtienhiloecfgnaaDoor
open Go Go.RowKit Go.Proofs Go.Shelf Go.Ab
theorem min_step {n k : Int} (hn : 1 ≤ n) (hk : 1 ≤ k) : min 301 (min 301 n * k) = min 301 (n * k) := by
  by_cases h : n ≤ 301
  · rw [show min 301 n = n by omega]
  · rw [show min 301 n = 301 by omega]
    have h1 : 301 * 1 ≤ 301 * k := Int.mul_le_mul_of_nonneg_left hk (by decide)
    have h2 : n * 1 ≤ n * k := Int.mul_le_mul_of_nonneg_left hk (by omega)
    omega
theorem scan_bad {rs : List Rng} {i : Nat} {n : Int} (h : i < rs.length) (hr : rngE rs[i] ≠ 0) : classScan rs (rs.length - i) i n = ((i : Int), rngE rs[i]) := by
  obtain ⟨f, hf⟩ : ∃ f, rs.length - i = f + 1 := ⟨rs.length - i - 1, by omega⟩
  rw [hf, classScan, getDR h, if_pos (by simpa using hr)]
theorem scan_ok {rs : List Rng} {i : Nat} {n : Int} (h : i < rs.length) (hr : rngE rs[i] = 0) : classScan rs (rs.length - i) i n = classScan rs (rs.length - (i + 1)) (i + 1) (n * (rs[i].hi - rs[i].lo + 1)) := by
  obtain ⟨f, hf⟩ : ∃ f, rs.length - i = f + 1 := ⟨rs.length - i - 1, by omega⟩
  rw [hf, classScan, getDR h, if_neg (by simp [hr]), show rs.length - (i + 1) = f by omega]
theorem rngE_two {r : Rng} (h : ¬ ((1 ≤ r.lo ∧ r.lo ≤ 1000) ∧ 1 ≤ r.hi ∧ r.hi ≤ 1000)) : rngE r = 2 := by
  have e : (withinB r.lo 1 1000 && withinB r.hi 1 1000) = false := by simp [withinB]; omega
  unfold rngE; rw [e]; rfl
theorem rngE_nine {r : Rng} (h : (1 ≤ r.lo ∧ r.lo ≤ 1000) ∧ 1 ≤ r.hi ∧ r.hi ≤ 1000) (h2 : r.hi < r.lo) : rngE r = 9 := by
  have e : (withinB r.lo 1 1000 && withinB r.hi 1 1000) = true := by simp [withinB]; omega
  unfold rngE; rw [e, decide_eq_false (by omega)]; rfl
theorem chk_ice {x : Grid} {rs : List Rng} (h : (checkIce x).2 ≠ 0) : checkClass x rs = checkIce x := if_pos (by simpa using h)
theorem chk_len {x : Grid} {rs : List Rng} (h : (checkIce x).2 = 0) (hl : ¬ rs.length = x.layers.length) : checkClass x rs = (0, 10) := by
  unfold checkClass; rw [if_neg (by simp [h]), if_pos (by simp; omega)]
theorem chk_scan {x : Grid} {rs : List Rng} (h : (checkIce x).2 = 0) (hl : rs.length = x.layers.length) : checkClass x rs = classScan rs (rs.length - 0) 0 1 := by
  unfold checkClass; rw [if_neg (by simp [h]), if_neg (by simp; omega), Nat.sub_zero]
theorem rngsF_ln (l : List Rng) : (rngsF l).length = l.length * 2 := by
  induction l with
  | nil => rfl
  | cons y l ih => simp only [rngsF, List.flatMap_cons, List.length_append, List.length_cons] at *; rw [ih]; simp [rngF]; omega
theorem flasF_ln (l : List Flash) : (flasF l).length = l.length * 7 := by
  induction l with
  | nil => rfl
  | cons y l ih => simp only [flasF, List.flatMap_cons, List.length_append, List.length_cons] at *; rw [ih]; simp [flaF]; omega
set_option maxRecDepth 100000 in
set_option maxHeartbeats 2000000 in
theorem RClass_s (x : Grid) (rs : List Rng) (hl : rs.length ≤ 1000000) : Summ Tryd.prog GG 29 [classF x rs] (.tup [iv (checkClass x rs).1, iv (checkClass x rs).2]) := by
  have RI := refCheckIce_s x
  refine summW Tryd.func29 rfl rfl 85 rfl (by simp) (fun M0 => ?_)
  by_cases h : (checkIce x).2 = 0
  case neg =>
    have e := chk_ice (rs := rs) h
    repeat (first
    | (apply s_a TY; exact rfl)
    | (apply s_f; exact rfl; (first | assumption | omega))
    | apply w_seq
    | apply w_region
    | apply s_nil
    | apply t_norm
    | apply t_ret
    | apply w_ret
    | (apply w_condT; exact rfl; exact rfl)
    | (apply s_k (RI); exact rfl))
    exact lv_ret (ret2 rfl (res_tmp (av1 e)) (res_tmp (av2 e)))
  by_cases h2 : rs.length = x.layers.length
  case neg =>
    have e := chk_len h h2
    repeat (first
    | (apply s_a TY; exact rfl)
    | (apply s_t; exact rfl; (first | assumption | omega))
    | (apply s_f; exact rfl; (first | assumption | omega))
    | apply w_seq
    | apply w_region
    | apply s_nil
    | apply t_norm
    | apply t_ret
    | apply w_ret
    | apply w_skip
    | (apply w_condT; exact rfl; exact rfl)
    | (apply w_condF; exact rfl; exact rfl)
    | (apply s_k (RI); exact rfl))
    exact lv_ret (ret2 rfl (res_tmp (av1 e)) (res_tmp (av2 e)))
  repeat (first
    | (apply s_a TY; exact rfl)
    | (apply s_t; exact rfl; (first | assumption | omega))
    | apply w_seq
    | apply w_region
    | apply s_nil
    | apply t_norm
    | apply w_block
    | apply w_skip
    | (apply w_condF; exact rfl; exact rfl)
    | (apply s_k (RI); exact rfl))
  apply w_loop (fun p : Nat × Int => ⟨(Ab.upd (Ab.upd (Ab.upd (fun _ => .bot) 1 (.f (.pt (classL x rs) 0))) 6 (.f (iv (min 301 p.2)))) 7 (.f (iv (p.1 : Nat)))), (fun _ => none), 0⟩) (fun p => p.1 ≤ rs.length ∧ 1 ≤ p.2 ∧ checkClass x rs = classScan rs (rs.length - p.1) p.1 p.2) (fun p => rs.length - p.1) (0, 1) (⟨Nat.zero_le _, by decide, chk_scan h h2⟩) (gh_le ⟨le_upd rfl trivial (le_upd rfl trivial (le_upd rfl trivial (le_nil _))), le_h0 _ _⟩)
  rintro ⟨i, n⟩ ⟨hi, hn, hs⟩
  show W _ _ _ _ ⟨(Ab.upd (Ab.upd (Ab.upd (fun _ => .bot) 1 (.f (.pt (classL x rs) 0))) 6 (.f (iv (min 301 n)))) 7 (.f (iv (i : Nat)))), (fun _ => none), 0⟩
  simp only at hi hn hs
  by_cases hic : i < rs.length
  · have fl := rngsF_lo hic
    have fh := rngsF_hi hic
    by_cases w1 : 1 ≤ rs[i].lo ∧ rs[i].lo ≤ 1000
    case neg =>
      have e := hs.trans (scan_bad hic (by rw [rngE_two (fun h => w1 h.1)]; decide))
      rw [rngE_two (fun h => w1 h.1)] at e
      repeat (first
    | (apply s_a TY; exact rfl)
    | (apply s_t; exact rfl; (first | assumption | omega))
    | apply w_seq
    | apply w_region
    | apply s_nil
    | apply t_norm
    | apply t_ret
    | apply k_ret
    | apply w_block
    | apply w_ret
    | apply w_skip
    | (apply w_condT; exact rfl; exact rfl)
    | (apply s_k1 (Within_f _ _ _); exact rfl; (first | assumption | omega | decide))
    | (apply s_s; exact rfl)
    | (apply s_c TY; exact rfl; (first | omega | exact ⟨by omega, by (first | with_reducible assumption | ((with_reducible apply rngsF_ne); omega) | assumption)⟩))
    | (apply s_l TY; exact rfl; (first | exact rfl | with_reducible assumption | assumption)))
      exact lv_ret (ret2 rfl (res_tmp (av1 e)) (res_tmp (av2 e)))
    by_cases w2 : 1 ≤ rs[i].hi ∧ rs[i].hi ≤ 1000
    case neg =>
      have e := hs.trans (scan_bad hic (by rw [rngE_two (fun h => w2 h.2)]; decide))
      rw [rngE_two (fun h => w2 h.2)] at e
      repeat (first
    | (apply s_a TY; exact rfl)
    | (apply s_t; exact rfl; (first | assumption | omega))
    | apply w_seq
    | apply w_region
    | apply s_nil
    | apply t_norm
    | apply t_ret
    | apply k_ret
    | apply w_block
    | apply w_ret
    | apply w_skip
    | (apply w_condT; exact rfl; exact rfl)
    | (apply s_k1 (Within_t _ _ _); exact rfl; (first | assumption | omega | decide))
    | (apply s_k1 (Within_f _ _ _); exact rfl; (first | assumption | omega | decide))
    | (apply s_c TY; exact rfl; (first | omega | exact ⟨by omega, by (first | with_reducible assumption | ((with_reducible apply rngsF_ne); omega) | assumption)⟩))
    | (apply s_l TY; exact rfl; (first | exact rfl | with_reducible assumption | assumption)))
      exact lv_ret (ret2 rfl (res_tmp (av1 e)) (res_tmp (av2 e)))
    by_cases w3 : rs[i].hi < rs[i].lo
    · have e := hs.trans (scan_bad hic (by rw [rngE_nine ⟨w1, w2⟩ w3]; decide))
      rw [rngE_nine ⟨w1, w2⟩ w3] at e
      repeat (first
    | (apply s_a TY; exact rfl)
    | (apply s_t; exact rfl; (first | assumption | omega))
    | apply w_seq
    | apply w_region
    | (apply w_draw (id := 12) 12 rfl (by kernel_rfl))
    | apply s_nil
    | apply t_norm
    | apply t_ret
    | apply k_ret
    | apply w_block
    | apply w_ret
    | apply w_skip
    | (apply w_condT; exact rfl; exact rfl)
    | (apply w_condF; exact rfl; exact rfl)
    | (apply s_k1 (Within_t _ _ _); exact rfl; (first | assumption | omega | decide))
    | (apply s_c TY; exact rfl; (first | omega | exact ⟨by omega, by (first | with_reducible assumption | ((with_reducible apply rngsF_ne); omega) | assumption)⟩))
    | (apply s_l TY; exact rfl; (first | exact rfl | with_reducible assumption | assumption)))
      exact lv_ret (ret2 rfl (res_tmp (av1 e)) (res_tmp (av2 e)))
    · have e := hs.trans (scan_ok hic (rngE_zero.2 ⟨w1.1, by omega, w2.2⟩))
      have m1 : 0 ≤ min 301 n * (rs[i].hi - rs[i].lo + 1) := Int.mul_nonneg (by omega) (by omega)
      have m2 : min 301 n * (rs[i].hi - rs[i].lo + 1) ≤ 301 * 1000 := Int.mul_le_mul (by omega) (by omega) (by omega) (by decide)
      have m3 : 1 * 1 ≤ n * (rs[i].hi - rs[i].lo + 1) := Int.mul_le_mul hn (by omega) (by decide) (by omega)
      repeat (first
    | (apply s_a TY; exact rfl)
    | (apply s_t; exact rfl; (first | assumption | omega))
    | (apply s_f; exact rfl; (first | assumption | omega))
    | apply w_seq
    | apply w_region
    | (apply w_draw (id := 12) 12 rfl (by kernel_rfl))
    | (apply w_draw (id := 14) 15 rfl (by kernel_rfl))
    | apply s_nil
    | apply t_norm
    | apply k_norm
    | apply w_block
    | apply w_skip
    | (apply w_condT; exact rfl; exact rfl)
    | (apply w_condF; exact rfl; exact rfl)
    | (apply s_k1 (Within_t _ _ _); exact rfl; (first | assumption | omega | decide))
    | (apply s_c TY; exact rfl; (first | omega | exact ⟨by omega, by (first | with_reducible assumption | ((with_reducible apply rngsF_ne); omega) | assumption)⟩))
    | (apply s_l TY; exact rfl; (first | exact rfl | with_reducible assumption | assumption)))
      exact ⟨(i + 1, n * (rs[i].hi - rs[i].lo + 1)), ⟨by simp only; omega, by simp only; omega, e⟩, by simp only; omega, gh_le ⟨le_upd rfl trivial (le_upd (congrArg (fun z => AV.f (iv z)) (min_step hn (by omega)).symm) trivial (le_upd rfl trivial (le_nil _))), le_h0 _ _⟩⟩
  · have hie : i = rs.length := by omega
    subst hie
    by_cases h3 : n ≤ 300
    · have e := hs.trans (show classScan rs (rs.length - rs.length) rs.length n = (0, 0) by rw [Nat.sub_self, classScan, decide_eq_true h3]; rfl)
      repeat (first
    | (apply s_a TY; exact rfl)
    | (apply s_f; exact rfl; (first | assumption | omega))
    | apply w_seq
    | apply w_region
    | apply s_nil
    | apply t_norm
    | apply t_exit
    | apply k_hit
    | apply w_exit
    | apply w_ret
    | apply w_skip
    | (apply w_condF; exact rfl; exact rfl))
      exact lv_ret (ret2 rfl (res_tmp (av1 e)) (res_tmp (av2 e)))
    · have e := hs.trans (show classScan rs (rs.length - rs.length) rs.length n = (0, 8) by rw [Nat.sub_self, classScan, decide_eq_false h3]; rfl)
      repeat (first
    | (apply s_a TY; exact rfl)
    | (apply s_t; exact rfl; (first | assumption | omega))
    | (apply s_f; exact rfl; (first | assumption | omega))
    | apply w_seq
    | apply w_region
    | apply s_nil
    | apply t_norm
    | apply t_exit
    | apply t_ret
    | apply k_hit
    | apply w_exit
    | apply w_ret
    | (apply w_condT; exact rfl; exact rfl)
    | (apply w_condF; exact rfl; exact rfl))
      exact lv_ret (ret2 rfl (res_tmp (av1 e)) (res_tmp (av2 e)))
set_option maxRecDepth 100000 in
theorem ClassErr_s (x : Grid) (rs : List Rng) (hl : rs.length ≤ 1000000) : Summ Tryd.prog GG 65 [classF x rs] (iv (checkClass x rs).2) := by
  have RC := RClass_s x rs hl
  refine summW Tryd.func65 rfl rfl 11 rfl (by simp) (fun M0 => ?_)
  repeat (first
    | (apply s_a TY; exact rfl)
    | apply w_seq
    | apply w_region
    | apply s_nil
    | apply t_norm
    | apply w_ret
    | (apply s_k (RC); exact rfl))
  exact lv_ret (ret1 rfl (res_tmp rfl))
set_option maxRecDepth 100000 in
theorem CopyClass_s (x : Grid) (rs : List Rng) (h1 : x.layers.length ≤ 1000000) (h2 : x.tilt.length ≤ 1000000) (h3 : rs.length ≤ 1000000) : Summ Tryd.prog GG 25 [classF x rs] (classF x rs) := by
  have hn := rngsF_ln rs
  have CI := CopyIce_s x h1 h2
  refine summW Tryd.func25 rfl rfl 11 rfl (by simp) (fun M0 => ?_)
  repeat (first
    | (apply s_bslice_clip TY; exact rfl; exact rfl; exact rfl; exact rfl; exact rfl; exact rfl)
    | (apply s_append_copy TY; exact rfl; exact rfl; exact rfl; exact rfl; exact rfl; exact rfl; exact rfl; assumption; (unfold maxLen; omega); omega)
    | (apply s_a TY; exact rfl)
    | apply w_seq
    | apply w_region
    | (apply w_draw (id := 1) 6 rfl (by kernel_rfl))
    | apply s_nil
    | apply t_norm
    | apply w_ret
    | (apply s_k (CI); exact rfl)
    | (apply s_alloc TY; exact rfl; exact rfl; exact rfl)
    | (apply s_store TY; exact rfl; exact rfl; exact rfl; exact rfl; exact rfl; exact rfl))
  exact lv_ret (ret1 rfl (res_bxs (sub := classL x rs) TY rfl rfl rfl rfl rfl))
set_option maxRecDepth 100000 in
theorem CopyFlashes_s (l : List Flash) (hl : l.length ≤ 1000000) : Summ Tryd.prog GG 27 [.sl l.length (flasF l)] (.sl l.length (flasF l)) := by
  have hn := flasF_ln l
  refine summW Tryd.func27 rfl rfl 6 rfl (by simp) (fun M0 => ?_)
  repeat (first
    | (apply s_bslice_clip TY; exact rfl; exact rfl; exact rfl; exact rfl; exact rfl; exact rfl)
    | (apply s_append_copy TY; exact rfl; exact rfl; exact rfl; exact rfl; exact rfl; exact rfl; exact rfl; assumption; (unfold maxLen; omega); omega)
    | (apply s_a TY; exact rfl)
    | apply w_seq
    | apply w_region
    | apply s_nil
    | apply t_norm
    | apply w_ret)
  exact lv_ret (ret1 rfl (res_tmp rfl))
def lightB (x : Grid) (rs : List Rng) : Bool := fewB x && decide (rs.length ≤ 8) && (decide ((checkClass x rs).2 ≠ 0) || (decide ((x.tilt.length : Int) * x.rows ≤ 24) && decide ((assigns rs []).length ≤ 40)))
set_option maxRecDepth 100000 in
set_option maxHeartbeats 1000000 in
theorem light_s (x : Grid) (rs : List Rng) : Summ Tryd.prog GG 23 [classF x rs] (bv (lightB x rs)) := by
  have F := Few_s x
  refine summW Tryd.func23 rfl rfl 33 rfl (by simp) (fun M0 => ?_)
  unfold lightB
  cases h : fewB x
  · rw [h] at F
    repeat (first
    | (apply s_a TY; exact rfl)
    | apply w_seq
    | apply w_region
    | apply s_nil
    | apply t_norm
    | apply t_ret
    | apply w_ret
    | (apply w_condT; exact rfl; exact rfl)
    | (apply s_k (F); exact rfl)
    | (apply s_s; exact rfl))
    exact lv_ret (ret1 rfl (res_tmp rfl))
  rw [h] at F
  by_cases h8 : rs.length ≤ 8
  case neg =>
    rw [decide_eq_false h8]
    repeat (first
    | (apply s_a TY; exact rfl)
    | (apply s_t; exact rfl; (first | assumption | omega))
    | apply w_seq
    | apply w_region
    | apply s_nil
    | apply t_norm
    | apply t_ret
    | apply w_ret
    | (apply w_condT; exact rfl; exact rfl)
    | (apply s_k (F); exact rfl))
    exact lv_ret (ret1 rfl (res_tmp rfl))
  rw [decide_eq_true h8]
  have CE := ClassErr_s x rs (by omega)
  by_cases hc : (checkClass x rs).2 = 0
  case neg =>
    rw [decide_eq_true hc]
    repeat (first
    | (apply s_a TY; exact rfl)
    | (apply s_f; exact rfl; (first | assumption | omega))
    | apply w_seq
    | apply w_region
    | apply s_nil
    | apply t_norm
    | apply w_ret
    | apply w_skip
    | (apply w_condF; exact rfl; exact rfl)
    | (apply s_k (F); exact rfl)
    | (apply s_k (CE); exact rfl)
    | (apply s_s; exact rfl))
    exact lv_ret (ret1 rfl (res_tmp rfl))
  rw [decide_eq_false (fun h => h hc)]
  have K := classOk hc
  have AL := All_s x rs h8 K.rng K.cnt
  have v := K.v
  have r1 := v.r1
  have r12 := v.r12
  have t8 := v.t8
  have m1 : 0 ≤ (x.tilt.length : Int) * x.rows := Int.mul_nonneg (by omega) (by omega)
  have m2 : (x.tilt.length : Int) * x.rows ≤ 8 * 12 := Int.mul_le_mul (by omega) r12 (by omega) (by decide)
  by_cases h24 : (x.tilt.length : Int) * x.rows ≤ 24
  case neg =>
    rw [decide_eq_false h24]
    repeat (first
    | (apply s_a TY; exact rfl)
    | (apply s_t; exact rfl; (first | assumption | omega))
    | (apply s_f; exact rfl; (first | assumption | omega))
    | apply w_seq
    | apply w_region
    | apply s_nil
    | apply t_norm
    | apply w_ret
    | apply w_skip
    | (apply w_condF; exact rfl; exact rfl)
    | (apply s_k (F); exact rfl)
    | (apply s_k (CE); exact rfl)
    | (apply s_s; exact rfl)
    | (apply s_c TY; exact rfl; omega))
    exact lv_ret (ret1 rfl (res_tmp rfl))
  rw [decide_eq_true h24]
  by_cases h40 : (assigns rs []).length ≤ 40
  · rw [decide_eq_true h40]
    repeat (first
    | (apply s_a TY; exact rfl)
    | (apply s_t; exact rfl; (first | assumption | omega))
    | (apply s_f; exact rfl; (first | assumption | omega))
    | apply w_seq
    | apply w_region
    | apply s_nil
    | apply t_norm
    | apply w_ret
    | apply w_skip
    | (apply w_condF; exact rfl; exact rfl)
    | (apply s_k (F); exact rfl)
    | (apply s_k (CE); exact rfl)
    | (apply s_k (AL); exact rfl)
    | (apply s_c TY; exact rfl; omega))
    exact lv_ret (ret1 rfl (res_tmp rfl))
  · rw [decide_eq_false h40]
    repeat (first
    | (apply s_a TY; exact rfl)
    | (apply s_t; exact rfl; (first | assumption | omega))
    | (apply s_f; exact rfl; (first | assumption | omega))
    | apply w_seq
    | apply w_region
    | apply s_nil
    | apply t_norm
    | apply w_ret
    | apply w_skip
    | (apply w_condF; exact rfl; exact rfl)
    | (apply s_k (F); exact rfl)
    | (apply s_k (CE); exact rfl)
    | (apply s_k (AL); exact rfl)
    | (apply s_c TY; exact rfl; omega))
    exact lv_ret (ret1 rfl (res_tmp rfl))
end Go.Proofs.YtienhiloecfgnaaDoor
namespace Go.Proofs.YtienhiloecfgnaaDoor
open Go Go.RowKit Go.Proofs Go.Shelf Go.Ab
theorem eqs_run (x y : Operand) (a b : ByteArray) (w : World) : (do eqGuard .eql 9 x y (.string a) (.string b); binOp .eql 9 (.string a) (.string b) : Sem Value).run Tryd.prog w = .ok (.bool (sameName a b)) w := by
  simp [eqGuard, binOp]
  rfl
theorem eqs_t {x y : Operand} {a b : ByteArray} (h : sameName a b = true) : ∀ w, (do eqGuard .eql 9 x y (.string a) (.string b); binOp .eql 9 (.string a) (.string b) : Sem Value).run Tryd.prog w = .ok (.bool true) w := fun w => by
  have := eqs_run x y a b w
  rwa [h] at this
theorem eqs_f {x y : Operand} {a b : ByteArray} (h : sameName a b = false) : ∀ w, (do eqGuard .eql 9 x y (.string a) (.string b); binOp .eql 9 (.string a) (.string b) : Sem Value).run Tryd.prog w = .ok (.bool false) w := fun w => by
  have := eqs_run x y a b w
  rwa [h] at this
theorem badB_iff {s : ByteArray} {i : Nat} : badB s i = true ↔ ¬ ((97 ≤ byteI s i ∧ byteI s i ≤ 122) ∨ (65 ≤ byteI s i ∧ byteI s i ≤ 90)) ∧ (i = 0 ∨ (byteI s i ≠ 45 ∧ ¬ (48 ≤ byteI s i ∧ byteI s i ≤ 57))) := by
  simp [badB, letterB, withinB]
  omega
theorem nameScan_iff {s : ByteArray} : ∀ (f i : Nat), i + f = s.size → (nameScan s f i = true ↔ (1 ≤ s.size ∧ s.size ≤ 12) ∧ ∀ j, i ≤ j → j < s.size → badB s j = false)
  | 0, i, h => by
    rw [nameScan]
    constructor
    · intro h1; simp [withinB] at h1; exact ⟨by omega, fun j _ _ => by omega⟩
    · rintro ⟨h1, _⟩; simp [withinB]; omega
  | f + 1, i, h => by
    rw [nameScan]
    by_cases hb : badB s i = true
    · rw [if_pos hb]
      constructor
      · intro h1; cases h1
      · rintro ⟨_, h1⟩; have := h1 i (Nat.le_refl _) (by omega); rw [hb] at this; cases this
    · rw [if_neg hb, nameScan_iff f (i + 1) (by omega)]
      constructor
      · rintro ⟨h1, h2⟩
        refine ⟨h1, fun j hj hjs => ?_⟩
        by_cases e : j = i
        · subst e; simpa using hb
        · exact h2 j (by omega) hjs
      · rintro ⟨h1, h2⟩; exact ⟨h1, fun j hj => h2 j (by omega)⟩
theorem nameB_iff {s : ByteArray} : nameB s = true ↔ (1 ≤ s.size ∧ s.size ≤ 12) ∧ ∀ j, j < s.size → badB s j = false := by
  unfold nameB
  rw [nameScan_iff s.size 0 (by omega)]
  simp
theorem nameB_f {s : ByteArray} (h : ¬ ((1 ≤ s.size ∧ s.size ≤ 12) ∧ ∀ j, j < s.size → badB s j = false)) : nameB s = false := by
  cases e : nameB s
  · rfl
  · exact absurd (nameB_iff.1 e) h
set_option maxRecDepth 100000 in
set_option maxHeartbeats 4000000 in
theorem IsName_s (s : ByteArray) : Summ Tryd.prog GG 98 [.v (.string s)] (bv (nameB s)) := by
  refine summW Tryd.func98 rfl rfl 55 rfl (by simp) (fun M0 => ?_)
  by_cases h1 : 1 ≤ s.size
  case neg =>
    rw [nameB_f (fun h => h1 h.1.1)]
    repeat (first
    | (apply s_a TY; exact rfl)
    | (apply s_t; exact rfl; (first | assumption | omega))
    | apply w_seq
    | apply w_region
    | apply s_nil
    | apply t_norm
    | apply t_ret
    | apply w_ret
    | (apply w_condT; exact rfl; exact rfl)
    | (apply s_s; exact rfl))
    exact lv_ret (ret1 rfl (res_tmp rfl))
  by_cases h2 : s.size ≤ 12
  case neg =>
    rw [nameB_f (fun h => h2 h.1.2)]
    repeat (first
    | (apply s_a TY; exact rfl)
    | (apply s_t; exact rfl; (first | assumption | omega))
    | (apply s_f; exact rfl; (first | assumption | omega))
    | apply w_seq
    | apply w_region
    | apply s_nil
    | apply t_norm
    | apply t_ret
    | apply w_ret
    | (apply w_condT; exact rfl; exact rfl))
    exact lv_ret (ret1 rfl (res_tmp rfl))
  repeat (first
    | (apply s_a TY; exact rfl)
    | (apply s_f; exact rfl; (first | assumption | omega))
    | apply w_seq
    | apply w_region
    | apply s_nil
    | apply t_norm
    | apply w_block
    | apply w_skip
    | (apply w_condF; exact rfl; exact rfl))
  apply w_loop (fun i : Nat => ⟨(Ab.upd (Ab.upd (fun _ => .bot) 0 (.f (.v (.string s)))) 3 (.f (iv (i : Nat)))), (fun _ => none), 0⟩) (fun i => i ≤ s.size ∧ ∀ j, j < i → badB s j = false) (fun i => s.size - i) 0 (⟨Nat.zero_le _, fun j h => absurd h (Nat.not_lt_zero j)⟩) (gh_le ⟨le_upd rfl trivial (le_upd rfl trivial (le_nil _)), le_h0 _ _⟩)
  intro i ⟨hi, hall⟩
  by_cases hic : i < s.size
  case neg =>
    have hie : i = s.size := by omega
    rw [nameB_iff.2 ⟨⟨h1, h2⟩, fun j hj => hall j (by omega)⟩]
    repeat (first
    | (apply s_a TY; exact rfl)
    | (apply s_f; exact rfl; (first | assumption | omega))
    | apply w_seq
    | apply w_region
    | apply s_nil
    | apply t_norm
    | apply t_exit
    | apply k_hit
    | apply w_exit
    | apply w_ret
    | (apply w_condF; exact rfl; exact rfl))
    exact lv_ret (ret1 rfl (res_tmp rfl))
  have hsz : i < s.data.size := hic
  have hb : s[((i : Nat) : Int).toNat]? = some s.data[i] := by
    show s[i]? = some s.data[i]
    rw [getElem?_pos s i hic]; rfl
  have hc : byteI s i = (s.data[i].toNat : Int) := by unfold byteI; rw [Array.getD_eq_getD_getElem?, Array.getElem?_eq_getElem hsz]; rfl
  have hlt : s.data[i].toNat < 256 := s.data[i].toNat_lt
  by_cases hbad : badB s i = true
  · have hq := badB_iff.1 hbad
    rw [hc] at hq
    rw [nameB_f (fun h => by have := h.2 i hic; rw [hbad] at this; cases this)]
    have hr : (s.data[i].toNat : Int) < 45 ∨ (s.data[i].toNat : Int) = 45 ∨ (46 ≤ (s.data[i].toNat : Int) ∧ (s.data[i].toNat : Int) ≤ 47) ∨ (48 ≤ (s.data[i].toNat : Int) ∧ (s.data[i].toNat : Int) ≤ 57) ∨ (58 ≤ (s.data[i].toNat : Int) ∧ (s.data[i].toNat : Int) ≤ 64) ∨ (91 ≤ (s.data[i].toNat : Int) ∧ (s.data[i].toNat : Int) ≤ 96) ∨ 123 ≤ (s.data[i].toNat : Int) := by omega
    clear hc hbad
    rcases hr with h | h | h | h | h | h | h <;> by_cases h0 : i = 0
    all_goals try (exfalso; omega)
    all_goals clear hq
    all_goals repeat (first
    | (apply s_index_str TY; exact rfl; exact rfl; exact rfl; exact rfl; omega; exact hb)
    | (apply s_a TY; exact rfl)
    | (apply s_t; exact rfl; (first | assumption | omega))
    | (apply s_f; exact rfl; (first | assumption | omega))
    | apply w_seq
    | apply w_region
    | apply s_nil
    | apply t_norm
    | apply t_ret
    | apply k_ret
    | apply w_block
    | apply w_ret
    | apply w_skip
    | (apply w_condT; exact rfl; exact rfl)
    | (apply s_s; exact rfl))
    all_goals exact lv_ret (ret1 rfl (res_tmp rfl))
  · have hq : ¬ _ := fun h => hbad (badB_iff.2 h)
    rw [hc] at hq
    have hr : (s.data[i].toNat : Int) < 45 ∨ (s.data[i].toNat : Int) = 45 ∨ (46 ≤ (s.data[i].toNat : Int) ∧ (s.data[i].toNat : Int) ≤ 47) ∨ (48 ≤ (s.data[i].toNat : Int) ∧ (s.data[i].toNat : Int) ≤ 57) ∨ (58 ≤ (s.data[i].toNat : Int) ∧ (s.data[i].toNat : Int) ≤ 64) ∨ (65 ≤ (s.data[i].toNat : Int) ∧ (s.data[i].toNat : Int) ≤ 90) ∨ (91 ≤ (s.data[i].toNat : Int) ∧ (s.data[i].toNat : Int) ≤ 96) ∨ (97 ≤ (s.data[i].toNat : Int) ∧ (s.data[i].toNat : Int) ≤ 122) ∨ 123 ≤ (s.data[i].toNat : Int) := by omega
    have hnb : ∀ j, j < i + 1 → badB s j = false := fun j hj => by
      by_cases e : j = i
      · subst e; simpa using hbad
      · exact hall j (by omega)
    clear hc hbad
    rcases hr with h | h | h | h | h | h | h | h | h <;> by_cases h0 : i = 0
    all_goals try (exfalso; omega)
    all_goals clear hq
    all_goals repeat (first
    | (apply s_index_str TY; exact rfl; exact rfl; exact rfl; exact rfl; omega; exact hb)
    | (apply s_a TY; exact rfl)
    | (apply s_t; exact rfl; (first | assumption | omega))
    | (apply s_f; exact rfl; (first | assumption | omega))
    | apply w_seq
    | apply w_region
    | apply s_nil
    | apply t_norm
    | apply k_norm
    | apply w_block
    | apply w_skip
    | (apply w_condT; exact rfl; exact rfl)
    | (apply w_condF; exact rfl; exact rfl)
    | (apply s_s; exact rfl)
    | (apply s_c TY; exact rfl; omega))
    all_goals exact ⟨i + 1, ⟨by omega, hnb⟩, by omega, gh_le ⟨le_upd rfl trivial (le_upd rfl trivial (le_nil _)), le_h0 _ _⟩⟩
end Go.Proofs.YtienhiloecfgnaaDoor
