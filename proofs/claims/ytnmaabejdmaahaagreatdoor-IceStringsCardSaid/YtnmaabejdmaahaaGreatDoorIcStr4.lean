/- Laws on which the proofs of this seat stand. No condition. -/
import Derived.Test.YtnmaabejdmaahaaGreatDoorIcStr3
import Derived.MapKept
import Derived.Laws.StructEq
import Derived.Carry
import Derived.OpenShut
import Derived.Laws.IdiomStrings
import Derived.Laws.Pointers
import Derived.ChangeKeysEq
import Derived.Laws.Strings2
import Derived.Laws.Slices
import Derived.Laws.BytesString
import Derived.Laws.Cells
import Derived.WideLaws
import Derived.Lib.AtoiAll
import Derived.Lib.Atoi
import Derived.Lib.ItoaMem
import Derived.Lib.Split
import Derived.Lib.Join
import Derived.Shelf.Strconv.Itoa3
import Derived.Shelf.Strconv.AtoiAll
import Derived.Shelf.Strings.Split
import Derived.Shelf.Strings.OnBuilder
import Derived.Shelf.Strings.Search3
import Derived.Shelf.Strings.Prefix
namespace Go.Ab
open Go Go.RowKit Go.Shelf Go.Proofs
section
variable {C : Ctx} {N : Nat} {st : St} {ops : Array Oper} {pr : Bool} {K : St → Prop} {rest : List Oper}
def fnCaps : AV → Option (Nat × List AV)
  | .f (.fn g cs) => some (g, cs.map .f)
  | .fb g l => some (g, l.map Cap.toA)
  | _ => none
theorem fnCaps_rep {w : World} {h : Nat → Option Blk} {J : Nat → Value} {v : Value} {x : AV} {g : Nat} {caps : List AV} (r : RepA C w h J v x) (e : fnCaps x = some (g, caps)) : ∃ us : List Value, v = .func (.func g) #[] us.toArray ∧ RepAs C w h J us caps := by
  unfold fnCaps at e
  split at e
  · cases e
    have r' : RepF w (Mb C h J) v (.fn g ‹_›) := r
    cases r' with
    | fn _ _ us h1 h2 => exact ⟨us, rfl, by simpa using h1, fun k u x a b => by
        rw [List.getElem?_map] at b
        cases hk : (‹List FV›)[k]? with
        | none => rw [hk] at b; cases b
        | some y => rw [hk] at b; simp at b; subst b; exact h2 k u y a hk⟩
  · cases e
    obtain ⟨us, rfl, h1, h2⟩ := r
    exact ⟨us, rfl, by simpa using h1, fun k u x a b => by
      rw [List.getElem?_map] at b
      cases hk : (‹List Cap›)[k]? with
      | none => rw [hk] at b; cases b
      | some y => rw [hk] at b; simp at b; subst b; rw [repA_toA]; exact h2 k u y a hk⟩
  · cases e
theorem RepAs.append {w : World} {h : Nat → Option Blk} {J : Nat → Value} {us vs : List Value} {xs ys : List AV} (r : RepAs C w h J us xs) (k : RepAs C w h J vs ys) : RepAs C w h J (us ++ vs) (xs ++ ys) := by
  refine ⟨by simp [r.1, k.1], fun j u x h1 h2 => ?_⟩
  by_cases hj : j < us.length
  · rw [List.getElem?_append_left hj] at h1
    rw [List.getElem?_append_left (by rw [← r.1]; exact hj)] at h2
    exact r.2 j u x h1 h2
  · rw [List.getElem?_append_right (by omega)] at h1
    rw [List.getElem?_append_right (by rw [← r.1]; omega), ← r.1] at h2
    exact k.2 _ u x h1 h2
theorem evs_rep {w0 : World} {a : Act} {w : World} {J : Nat → Value} (S : Sim C w0 N st a w J) (l : List Operand) : RepAs C w st.h J (l.map a.eval) (l.map (st.ev C)) :=
  ⟨by simp, fun k u x h1 h2 => by
    rw [List.getElem?_map] at h1 h2
    cases hk : l[k]? with
    | none => rw [hk] at h1; cases h1
    | some y => rw [hk] at h1 h2; simp at h1 h2; subst h1; subst h2; exact S.eval y⟩
theorem e_callG {o : Oper} {f : Operand} {args : Array Operand} {ts : Array TypeId} {g : Nat} {L L' : List Blk} {ags caps : List AV} {ret : AV} {σ : List Nat} (Kg : SummG C.P C.G g L ags ret L') (ho : o.op = .call { callee := .value f, args := args, argTypes := ts }) (hd : dstB N o.dst = true) (hf : fnCaps (st.ev C f) = some (g, caps))
    (has : args.toList.map (st.ev C) ++ caps = ags.map (AV.ren (sg σ st.nx))) (hl : LendOk C st σ L (L'.length - L.length)) : EffOp C N o st (st.afterG σ L L' o.dst ret) := by
  intro w0 a w ⟨J, S⟩ K1 Q hK
  obtain ⟨us, hv, hcap⟩ := fnCaps_rep (S.eval f) hf
  have hrun := callEnter (w := w) Kg.enters ho hv
  refine op_enter hrun ?_
  have hargs := RepAs.append (evs_rep S args.toList) hcap
  rw [has] at hargs
  obtain ⟨X, hX⟩ : ∃ X : Nat → Prop, ∀ b, X b ↔ lentX L.length (fun i => J (sg σ st.nx i)) b := ⟨_, fun b => Iff.rfl⟩
  obtain ⟨M, hM⟩ : ∃ M : Nat → Prop, ∀ b, M b ↔ Mb C st.h J b ∧ ¬ X b := ⟨_, fun b => Iff.rfl⟩
  obtain ⟨g1, g2, g3, g4⟩ := hl.give S hX hM
  refine Calls.mono (Kg.call w M X _ _ hX g1 (fun gl cs hg => g2 _ _ (S.glob gl cs hg)) ⟨by have := hargs.1; simpa using this, fun k u x h1 h2 => g3 u x (hargs.2 k u _ h1 (by simp [h2]))⟩ g4) ?_
  rintro en w' ⟨v, J', rfl, hret, hL, hg, hpin⟩
  exact hK v w' ⟨_, hl.take S hX hM (by have := Kg.le; omega) Kg.kinds hret hL hg hpin hd⟩
variable {d : Option Tmp} {T0 : TypeId} {pos : String} {af : Array Edge}
def lendAt (C : Ctx) (st : St) (ρ : Nat → Nat) : List Nat → List Blk → Prop
  | j :: σ, B :: L => st.h j = some (B.ren ρ) ∧ lendAt C st ρ σ L
  | [], [] => True
  | _, _ => False
def freeAt (C : Ctx) (st : St) : Nat → Prop
  | 0 => st.h st.nx = none ∧ C.J0 st.nx = none
  | m + 1 => (st.h (st.nx + (m + 1)) = none ∧ C.J0 (st.nx + (m + 1)) = none) ∧ freeAt C st m
theorem freeAt_spec : ∀ {m : Nat}, freeAt C st m → ∀ i, i ≤ m → st.h (st.nx + i) = none ∧ C.J0 (st.nx + i) = none
  | 0, h, i, hi => by have : i = 0 := by omega
                      subst this; exact h
  | m + 1, h, i, hi => by
    by_cases e : i = m + 1
    · subst e; exact h.1
    · exact freeAt_spec h.2 i (by omega)
theorem lendAt_spec {ρ : Nat → Nat} : ∀ {σ : List Nat} {L : List Blk}, lendAt C st ρ σ L → σ.length = L.length ∧ ∀ (i : Nat) (B : Blk) (j : Nat), L[i]? = some B → σ[i]? = some j → st.h j = some (B.ren ρ)
  | [], [], _ => ⟨rfl, fun i B j h => by simp at h⟩
  | j :: σ, B :: L, h => by
    obtain ⟨h1, h2⟩ := lendAt_spec h.2
    refine ⟨by simp [h1], fun i B' j' a b => ?_⟩
    cases i with
    | zero => simp at a b; subst a; subst b; exact h.1
    | succ i => exact h2 i B' j' (by simpa using a) (by simpa using b)
  | [], _ :: _, h => h.elim
  | _ :: _, [], h => h.elim
def nodupB : List Nat → Bool
  | [] => true
  | j :: σ => !(inK σ j) && nodupB σ
theorem nodupB_spec : ∀ {σ : List Nat}, nodupB σ = true → σ.Nodup
  | [], _ => List.nodup_nil
  | j :: σ, h => by
    simp only [nodupB, Bool.and_eq_true, Bool.not_eq_true'] at h
    refine List.nodup_cons.2 ⟨fun hm => ?_, nodupB_spec h.2⟩
    rw [inK_iff.2 hm] at h; cases h.1
theorem s_callG {f : Operand} {args : Array Operand} {ts : Array TypeId} {g : Nat} {L L' : List Blk} {ags caps : List AV} {ret : AV} (σ : List Nat) (Kg : SummG C.P C.G g L ags ret L') (hd : dstB N d = true) (hf : fnCaps (st.ev C f) = some (g, caps))
    (has : args.toList.map (st.ev C) ++ caps = ags.map (AV.ren (sg σ st.nx))) (hl : lendAt C st (sg σ st.nx) σ L) (hn : nodupB σ = true) (hfree : freeAt C st (L'.length - L.length)) (k : R C N ops false K rest (st.afterG σ L L' d ret)) : R C N ops false K (⟨d, .call { callee := .value f, args := args, argTypes := ts }, T0, pos, af, none⟩ :: rest) st :=
  ⟨r_eff rfl (e_callG Kg rfl hd hf has ⟨(lendAt_spec hl).1, nodupB_spec hn, (lendAt_spec hl).2, freeAt_spec hfree⟩) k.out⟩
end
def ResV (C : Ctx) (N : Nat) (st : St) (rv : ResultVar) (x : AV) : Prop := ∀ w0 a w J, Sim C w0 N st a w J → ∃ v, (rvS a.tmps rv).run C.P w = .ok v w ∧ RepA C w st.h J v x
def ResG (C : Ctx) (N : Nat) (fn : Func) (ret : AV) (st : St) : Prop := ∀ w0 a w J, Sim C w0 N st a w J → ∃ v, (results fn a.tmps).run C.P w = .ok v w ∧ RepA C w st.h J v ret
def RetG (C : Ctx) (N : Nat) (fn : Func) (ret : AV) (L' : List Blk) (st : St) : Prop := ∃ s nx, Gh C N st ⟨s, blkL L', nx⟩ ∧ ResG C N fn ret ⟨s, blkL L', nx⟩
def LeavesG (C : Ctx) (N : Nat) (fn : Func) (ret : AV) (L' : List Blk) : Exit → St → Prop
  | .normal, st => RetG C N fn ret L' st
  | .ret, st => RetG C N fn ret L' st
  | _, _ => False
def stG (L : List Blk) (args : List AV) : St := ⟨fun t => match args[t]? with | some x => x | none => .bot, blkL L, L.length⟩
theorem summG_of {P : Program} {G : Nat → Option FV} {f : Nat} {fn : Func} {c : Code} {L L' : List Blk} {args : List AV} {ret : AV} (hf : P.funcs[f]? = some fn) (hb : fn.body = some c) (hname : (fn.name == "runtime.NumGoroutine") = false) (N : Nat) (hn : fn.ntmps = N) (hl : args.length ≤ N) (hle : L.length ≤ L'.length)
    (hk : ∀ (i : Nat) (B B' : Blk), L[i]? = some B → L'[i]? = some B' → B.stays = B'.stays)
    (h : ∀ (M X : Nat → Prop) (J : Nat → Value), W (cxG P G M X L J) N c (LeavesG (cxG P G M X L J) N fn ret L') (stG L args)) : SummG P G f L args ret L' := by
  refine ⟨enters_of hf hname hb, hle, hk, fun w M X us J hX hM hG R hL => ?_⟩
  refine calls_of_wp_marks hf hb (wpIn_wide.1 ((h M X J).out w _ w _ ⟨J, Grew.refl _ _, ?_, ⟨trivial, fun _ => rfl⟩, fun t => ?_, fun i B hB => hL.blk i B (by rw [← blkL_eq]; exact hB), fun i j b hi hj => hL.apart i j b (blkL_live.1 hi) (blkL_live.1 hj), hM, hG, fun i p B hp _ _ => (pinL_eq J L 0 i p hp).1.symm⟩ ?_))
  · have := R.1; simp [hn]; omega
  · show RepA _ w _ _ ((us.toArray ++ Array.replicate (fn.ntmps - us.toArray.size) undef).getD t undef) (match args[t]? with | some x => x | none => .bot)
    cases ha : args[t]? with
    | none => trivial
    | some x =>
      have ht : t < us.length := by rw [R.1]; exact (List.getElem?_eq_some_iff.1 ha).1
      have : (us.toArray ++ Array.replicate (fn.ntmps - us.toArray.size) undef).getD t undef = us[t] := by
        rw [Array.getD_eq_getD_getElem?, Array.getElem?_append_left (by simpa using ht)]
        simp [ht]
      rw [this]
      exact R.2 t _ x (List.getElem?_eq_getElem ht) ha
  · intro en st' a' w' q S'
    have fin : RetG (cxG P G M X L J) N fn ret L' st' → ∀ W', KeepsP Obj.stays w.heap.size w' W' → ∃ v, (results fn a'.tmps).run P W' = .ok v W' ∧ ∃ v' J', Ending.returned v = .returned v' ∧ RepA (cxG P G M X L J) W' (blkL L') J' v' ret ∧ Lent (cxG P G M X L J) W' w.heap.size L' J' ∧ Grew X w W' ∧ ∀ (i : Nat) (B : Blk), L[i]? = some B → B.stays = true → J' i = J i := fun ⟨s, nx, g, q⟩ W' hkp => by
      obtain ⟨J1, S1⟩ := S'
      have S2 := S1.keeps0 hkp (Nat.le_refl _) (ds := []) ⟨trivial, fun _ => rfl⟩
      obtain ⟨J2, S3⟩ := g w { a' with defers := [] } W' ⟨J1, S2⟩
      obtain ⟨v, h1, h2⟩ := q w { a' with defers := [] } W' J2 S3
      refine ⟨v, h1, v, J2, rfl, h2, ⟨fun i B hB => S3.blk i B (by show blkL L' i = some B; rw [blkL_eq]; exact hB), fun i j b hi hj => S3.apart i j b (blkL_live.2 hi) (blkL_live.2 hj)⟩, S3.ext, fun i B hB hs => ?_⟩
      have hi : i < L'.length := Nat.lt_of_lt_of_le (List.getElem?_eq_some_iff.1 hB).1 hle
      have hp : (cxG P G M X L J).J0 i = some (J i) := by have := pinL_some J L 0 i B hB hs; rwa [Nat.zero_add] at this
      exact S3.fix i (J i) L'[i] hp (by show blkL L' i = _; rw [blkL_eq]; exact List.getElem?_eq_getElem hi) (by rw [← hk i B L'[i] hB (List.getElem?_eq_getElem hi)]; exact hs)
    have hm : Marks w.heap.size w' a'.defers := let ⟨_, S2⟩ := S'; S2.defs.1
    cases en with
    | normal => exact bodyPostM_marksP (s := Obj.stays) (fun _ => rfl) _ hm (fin q)
    | ret => exact bodyPostM_marksP (s := Obj.stays) (fun _ => rfl) _ hm (fin q)
    | _ => exact q.elim
section
variable {C : Ctx} {N : Nat} {st : St}
theorem rv_tmp {t : Nat} {x : AV} (h : st.s t = x) : ResV C N st (.tmp t) x := fun w0 a w J S => ⟨_, rfl, by rw [← h]; exact S.slot t⟩
theorem rg1 {fn : Func} {r1 : ResultVar} {x : AV} (h : fn.results = #[r1]) (h1 : ResV C N st r1 x) : ResG C N fn x st := fun w0 a w J S => by
  obtain ⟨v, q1, q2⟩ := h1 w0 a w J S
  exact ⟨v, by rw [results_eq, h]; simp [q1], q2⟩
theorem lvG_ret {fn : Func} {ret : AV} {L' : List Blk} {s : Nat → AV} {nx : Nat} (g : Gh C N st ⟨s, blkL L', nx⟩) (h : ResG C N fn ret ⟨s, blkL L', nx⟩) : LeavesG C N fn ret L' .ret st := ⟨s, nx, g, h⟩
end
end Go.Ab
namespace Go.Ab
open Go Go.RowKit Go.Shelf Go.Proofs
section
variable {C : Ctx} {N : Nat} {st : St}
def capA : AV → Option Cap
  | .f x => some (.f x)
  | .bx i off => some (.bx i off)
  | .ow i => some (.ow i)
  | .sv i off n => some (.sv i off n)
  | _ => none
def capL : List AV → Option (List Cap)
  | [] => some []
  | x :: l => match capA x, capL l with
    | some c, some r => some (c :: r)
    | _, _ => none
theorem capA_eq {x : AV} {c : Cap} (h : capA x = some c) : x = c.toA := by cases x <;> simp [capA] at h <;> subst h <;> rfl
theorem capL_eq : ∀ {l : List AV} {r : List Cap}, capL l = some r → l = r.map Cap.toA
  | [], r, h => by simp only [capL, Option.some.injEq] at h; subst h; rfl
  | x :: l, r, h => by
    unfold capL at h
    split at h
    · rename_i c r' h1 h2
      cases h
      rw [capA_eq h1, capL_eq h2]; rfl
    · cases h
theorem capL_rep {w : World} {h : Nat → Option Blk} {J : Nat → Value} {us : List Value} {l : List AV} {r : List Cap} (hr : RepAs C w h J us l) (e : capL l = some r) : RepCs C w h J us r := by
  rw [capL_eq e] at hr
  refine ⟨by simpa using hr.1, fun k u c h1 h2 => ?_⟩
  have := hr.2 k u c.toA h1 (by simp [h2])
  rwa [repA_toA] at this
def Blk.cellsL : Blk → Option (List AV)
  | .box cs => some cs
  | .row _ _ _ cs => some (cs.map .f)
  | .rowA _ _ _ cs => some cs
  | .arr _ _ _ cs => some cs
  | .map _ => none
  | .it .. => none
theorem RepAs.sub {w : World} {h : Nat → Option Blk} {J : Nat → Value} {us : List Value} {l : List AV} (r : RepAs C w h J us l) (off n : Nat) : RepAs C w h J ((us.drop off).take n) ((l.drop off).take n) :=
  ⟨by simp [r.1], fun k u x h1 h2 => by
    rw [List.getElem?_take] at h1 h2
    split at h1
    · rename_i hk
      rw [if_pos hk] at h2
      rw [List.getElem?_drop] at h1 h2
      exact r.2 _ u x h1 h2
    · cases h1⟩
theorem v_makefb {o : Oper} {g : Nat} {caps : Array Operand} {l : List Cap} (ho : o.op = .makeFunc (.func g) #[] caps) (hd : dstB N o.dst = true) (hc : capL (caps.toList.map (st.ev C)) = some l) : ValOp C N o st (AV.fbN g l) :=
  valop_run hd fun w0 a w J st' hA S => by
    have R := evs_rep S caps.toList
    rw [show caps.toList.map (st'.ev C) = caps.toList.map (st.ev C) from List.map_congr_left fun x hx => hA.ev x (by simpa [ho, Op.operands] using hx)] at R
    have e2 : caps.map a.eval = (caps.toList.map a.eval).toArray := by apply Array.ext'; simp
    exact ⟨.func (.func g) #[] (caps.toList.map a.eval).toArray, w, by simp [execOp, ho, Instr.makeFunc, ← e2], Ext.refl _, RepA.fbN ⟨_, rfl, capL_rep R hc⟩⟩
theorem RepAs.set {w : World} {h : Nat → Option Blk} {J : Nat → Value} {us : List Value} {xs : List AV} (r : RepAs C w h J us xs) {u : Value} {x : AV} (hu : RepA C w h J u x) (k : Nat) : RepAs C w h J (us.set k u) (xs.set k x) :=
  ⟨by simp [r.1], fun j v y h1 h2 => by
    rw [List.getElem?_set] at h1 h2
    by_cases e : k = j
    · subst e
      rw [if_pos rfl] at h1 h2
      split at h1
      · rename_i hk
        rw [if_pos (by rw [← r.1]; exact hk)] at h2
        cases h1; cases h2; exact hu
      · cases h1
    · rw [if_neg e] at h1 h2; exact r.2 j v y h1 h2⟩
theorem RepAs.setAt {w : World} {h : Nat → Option Blk} {J : Nat → Value} : ∀ {us' : List Value} {xs' : List AV} {us : List Value} {xs : List AV} (o : Nat), RepAs C w h J us xs → RepAs C w h J us' xs' → RepAs C w h J (Ab.setAt us o us') (Ab.setAt xs o xs')
  | [], [], _, _, _, h, _ => h
  | [], _ :: _, _, _, _, _, h => by have := h.1; simp at this
  | _ :: _, [], _, _, _, _, h => by have := h.1; simp at this
  | u :: us', x :: xs', us, xs, o, h, k => RepAs.setAt (o + 1) (h.set (k.2 0 u x rfl rfl) o) ⟨by simpa using k.1, fun j v y h1 h2 => k.2 (j + 1) v y (by simpa using h1) (by simpa using h2)⟩
end
end Go.Ab
namespace Go.Ab
open Go Go.RowKit Go.Shelf Go.Proofs
def entG {κ β : Type} (enc : κ → Value) (val : β → Value) (d : κ × β × Nat) : MapEntry := { key := enc d.1, val := val d.2.1, born := d.2.2 }
def valG {κ β : Type} [DecidableEq κ] (D : List (κ × β × Nat)) (c : κ) : Option β := (D.find? fun d => decide (c = d.1)).map (·.2.1)
def lookG {κ β : Type} [DecidableEq κ] (val : β → Value) (c : κ) : List (κ × β × Nat) → Nat → Option (Nat × Value)
  | [], _ => none
  | d :: D, i => if c = d.1 then some (i, val d.2.1) else lookG val c D (i + 1)
structure KeyOk (P : Program) (KT : TypeId) {κ : Type} [DecidableEq κ] (enc : κ → Value) : Prop where
  find : ∀ {β : Type} (val : β → Value) (D : List (κ × β × Nat)) (c : κ) (W : World), (Instr.findKey KT (enc c) (D.map (entG enc val))).run P W = .ok (lookG val c D 0) W
  check : ∀ em c W, (Instr.checkKey em 10000 KT (enc c)).run P W = .ok () W
  same : ∀ c, Instr.sameBits 10000 (enc c) (enc c) = true
theorem KeyOk.struct {P : Program} {KT : TypeId} {κ : Type} [DecidableEq κ] {enc : κ → Value} {fs : Array Field} (hu : P.underlying KT = some (.struct fs)) (hagg : ∀ c, ∃ us, enc c = .agg us) (heq : ∀ a b W, (Op.equal KT (enc a) (enc b)).run P W = .ok (decide (a = b)) W)
    (hch : ∀ em c W, (Instr.checkKey em 10000 KT (enc c)).run P W = .ok () W) (hs : ∀ c, Instr.sameBits 10000 (enc c) (enc c) = true) : KeyOk P KT enc := by
  refine ⟨fun {β} val D c W => ?_, hch, hs⟩
  have asking : ∀ (D : List (κ × β × Nat)) (i : Nat), (Instr.findAsking KT (enc c) (D.map (entG enc val)) i).run P W = .ok (lookG val c D i) W := by
    intro D
    induction D with
    | nil => intro i; simp [Instr.findAsking, lookG]
    | cons d D ih =>
      intro i
      have h1 := heq c d.1 W
      have h2 := ih (i + 1)
      simp only [List.map_cons, Instr.findAsking, Sem.run_bind]
      rw [show (entG enc val d).key = enc d.1 from rfl, h1]
      simp only [Result.andThen_ok, lookG]
      by_cases h : c = d.1
      · simp [h, entG, Sem.run_pure]
      · simp [h, h2]
  unfold Instr.findKey
  cases D with
  | nil => simp [run_underlying hu, Instr.findNow, lookG]
  | cons d D =>
    have h := asking (d :: D) 0
    obtain ⟨us, hc⟩ := hagg c
    have h0 : Instr.findNow (.struct fs) (enc c) ((d :: D).map (entG enc val)) 0 = none := by
      simp only [List.map_cons, Instr.findNow]
      rw [hc]; rfl
    simp only [Sem.run_bind, run_underlying hu, Result.andThen_ok, h0]
    exact h
section
variable {κ β : Type} [DecidableEq κ] {enc : κ → Value} {val : β → Value}
end
section
variable {κ β : Type} {enc : κ → Value} {val : β → Value}
end
section
variable {κ β : Type} [DecidableEq κ] {enc : κ → Value} {val : β → Value}
end
section
variable {κ β : Type} {enc : κ → Value} {val : β → Value}
end
def mapFn {κ β : Type} [DecidableEq κ] (enc : κ → Value) (val : β → Value) (f : κ → Option β) (o : Obj) : Prop :=
  ∃ (D : List (κ × β × Nat)) (clock : Nat), o = .map (D.map (entG enc val)).toArray clock ∧ (∀ d ∈ D, d.2.2 < clock) ∧ (D.map (·.1)).Nodup ∧ (D.map (·.2.2)).Nodup ∧ ∀ c, valG D c = f c
section
variable {κ β : Type} [DecidableEq κ] {enc : κ → Value} {val : β → Value} {P : Program} {KT MT ET : TypeId}
theorem mapFn.isM {f : κ → Option β} {o : Obj} (h : mapFn enc val f o) : o.isMap = true := by obtain ⟨D, cl, rfl, _⟩ := h; rfl
end
section
variable {C : Ctx} {N : Nat} {st : St} {ops : Array Oper} {pr : Bool} {K : St → Prop} {rest : List Oper}
variable {d : Option Tmp} {op : Op} {T0 : TypeId} {pos : String} {af : Array Edge} {g : Option (Nat × Bool)}
theorem s_makefbC {f : Nat} {caps : Array Operand} {l : List Cap} (hw : wantB st ops ⟨d, .makeFunc (.func f) #[] caps, T0, pos, af, g⟩ = some true) (hd : dstB N d = true) (hc : capL (caps.toList.map (st.ev C)) = some l) (k : R C N ops pr K rest (st.put d (AV.fbN f l))) : R C N ops pr K (⟨d, .makeFunc (.func f) #[] caps, T0, pos, af, g⟩ :: rest) st := ⟨r_val hw (v_makefb rfl hd hc) k.out⟩
end
end Go.Ab
namespace Go.Ab
open Go Go.RowKit Go.Shelf Go.Proofs
theorem wrapN {a : Nat} (h : a ≤ 9223372036854775807) : IntKind.i64.wrap (a : Int) = a := IntWalk.i64_in _ (by omega)
section
variable {C : Ctx} {N : Nat} {st : St}
variable {ops : Array Oper} {pr : Bool} {K : St → Prop} {rest : List Oper} {d : Option Tmp} {T0 T T' : TypeId} {pos : String} {af : Array Edge} {g : Option (Nat × Bool)} {x y : Operand}
end
end Go.Ab
namespace Go.Ab
open Go Go.RowKit Go.Shelf Go.Proofs
section
variable {C : Ctx} {N : Nat} {st : St}
variable {ops : Array Oper} {pr : Bool} {K : St → Prop} {rest : List Oper} {d : Option Tmp} {T0 : TypeId} {pos : String} {af : Array Edge} {g : Option (Nat × Bool)}
end
end Go.Ab
namespace Go.Proofs.YtnmaabejdmaahaaGreatDoor.Ice
open Go Go.RowKit Go.Proofs Go.Shelf Go.Ab
def iv (z : Int) : FV := .v (.int .i64 z)
def intsF (l : List Int) : List FV := l.map iv
def layF (y : Layer) : List FV := [iv y.delay, iv y.loss, iv y.scatter]
def celF (c : Cel) : List FV := [iv c.col, iv c.row]
def rngF (r : Rng) : List FV := [iv r.lo, iv r.hi]
def flaF (f : Flash) : List FV := [.v (.string f.name), iv f.frm.col, iv f.frm.row, iv f.to.col, iv f.to.row, iv f.time.lo, iv f.time.hi]
def laysF (l : List Layer) : List FV := l.flatMap layF
def celsF (l : List Cel) : List FV := l.flatMap celF
def rngsF (l : List Rng) : List FV := l.flatMap rngF
def flasF (l : List Flash) : List FV := l.flatMap flaF
def boolsF (l : List Bool) : List FV := l.map fun b => .v (.bool b)
def gridL (x : Grid) : List FV := [.sl x.layers.length (laysF x.layers), iv x.rows, .sl x.tilt.length (intsF x.tilt)]
def gridF (x : Grid) : FV := .agg (gridL x)
def classL (x : Grid) (rs : List Rng) : List FV := gridL x ++ [.sl rs.length (rngsF rs)]
def classF (x : Grid) (rs : List Rng) : FV := .agg (classL x rs)
def holeL (h : Hole) : List FV := [.sl h.widths.length (intsF h.widths), .sl h.shrinks.length (intsF h.shrinks), iv h.need]
def holeF (h : Hole) : FV := .agg (holeL h)
def sidesV : List Value := [.int .i64 (-1), .int .i64 0, .int .i64 0, .int .i64 (-1), .int .i64 0, .int .i64 1, .int .i64 1, .int .i64 0]
def GG : Nat → Option FV := fun g => bif Nat.beq g 0 then some (.tab sidesV) else none
theorem detC_append : ∀ {a b : List FV} {p q : List Value}, detC a = some p → detC b = some q → detC (a ++ b) = some (p ++ q)
  | [], b, p, q, h, h' => by simp [detC] at h; subst h; simpa using h'
  | .v x :: a, b, p, q, h, h' => by
    cases hr : detC a with
    | none => simp [detC, hr] at h
    | some l => simp [detC, hr] at h; subst h; simp [detC, detC_append hr h']
  | .sl _ _ :: _, _, _, _, h, _ => by simp [detC] at h
  | .agg _ :: _, _, _, _, h, _ => by simp [detC] at h
  | .tup _ :: _, _, _, _, h, _ => by simp [detC] at h
  | .pt _ _ :: _, _, _, _, h, _ => by simp [detC] at h
  | .fn _ _ :: _, _, _, _, h, _ => by simp [detC] at h
  | .slc _ _ :: _, _, _, _, h, _ => by simp [detC] at h
  | .mp _ :: _, _, _, _, h, _ => by simp [detC] at h
  | .any _ :: _, _, _, _, h, _ => by simp [detC] at h
  | .tab _ :: _, _, _, _, h, _ => by simp [detC] at h
theorem detC_flat {α : Type} {f : α → List FV} {e : α → List Value} (h : ∀ x, detC (f x) = some (e x)) : ∀ l : List α, detC (l.flatMap f) = some (l.flatMap e)
  | [] => rfl
  | x :: l => by rw [List.flatMap_cons, List.flatMap_cons]; exact detC_append (h x) (detC_flat h l)
theorem map_flat {α β : Type} (f : α → β) : ∀ l : List α, l.flatMap (fun x => [f x]) = l.map f
  | [] => rfl
  | x :: l => by rw [List.flatMap_cons, map_flat f l]; rfl
theorem detC_ints (l : List Int) : detC (intsF l) = some (l.flatMap encI) := by
  have := detC_flat (f := fun z => [iv z]) (e := encI) (fun _ => rfl) l
  rw [map_flat] at this
  exact this
theorem detC_lays (l : List Layer) : detC (laysF l) = some (l.flatMap Layer.enc) := detC_flat (fun _ => rfl) l
theorem detC_cels (l : List Cel) : detC (celsF l) = some (l.flatMap Cel.enc) := detC_flat (fun _ => rfl) l
theorem detC_rngs (l : List Rng) : detC (rngsF l) = some (l.flatMap Rng.enc) := detC_flat (fun _ => rfl) l
theorem detC_flas (l : List Flash) : detC (flasF l) = some (l.flatMap Flash.enc) := detC_flat (fun _ => rfl) l
theorem detC_bools (l : List Bool) : detC (boolsF l) = some (l.flatMap encB) := by
  have := detC_flat (f := fun b => [FV.v (.bool b)]) (e := encB) (fun _ => rfl) l
  rw [map_flat] at this
  exact this
theorem rep_row {w : World} {M : Nat → Prop} {v : Value} {n : Nat} {cs : List FV} {us : List Value} (h : RepF w M v (.sl n cs)) (hd : detC cs = some us) : ∃ a c, v = .slice a n c ∧ n ≤ c ∧ Row w a us := by
  cases h with
  | sl a _ c _ vs h1 h2 h3 h4 h5 =>
    have := detC_spec ⟨h2, h5⟩ hd
    subst this
    refine ⟨a, c, rfl, h1, ⟨fun hn => ?_⟩⟩
    obtain ⟨b, off, e, L⟩ := h4 hn
    exact ⟨b, off, e, L.lt, L.at_⟩
theorem rep_int {w : World} {M : Nat → Prop} {v : Value} {z : Int} (h : RepF w M v (iv z)) : v = .int .i64 z := repV h
theorem repL_det {w : World} {M : Nat → Prop} {us : List Value} : ∀ {cs : List FV}, detC cs = some us → RepL w M us cs
  | [], h => by simp [detC] at h; subst h; exact RepL.nil _ _
  | .v x :: r, h => by
    cases hr : detC r with
    | none => simp [detC, hr] at h
    | some l => simp [detC, hr] at h; subst h; exact RepL.cons (RepF.v x) (repL_det hr)
  | .sl _ _ :: _, h => by simp [detC] at h
  | .agg _ :: _, h => by simp [detC] at h
  | .tup _ :: _, h => by simp [detC] at h
  | .pt _ _ :: _, h => by simp [detC] at h
  | .fn _ _ :: _, h => by simp [detC] at h
  | .slc _ _ :: _, h => by simp [detC] at h
  | .mp _ :: _, h => by simp [detC] at h
  | .any _ :: _, h => by simp [detC] at h
  | .tab _ :: _, h => by simp [detC] at h
theorem rep_grid {w : World} {M : Nat → Prop} {us : List Value} {x : Grid} (h : RepL w M us (gridL x)) (hl : x.layers.length ≤ 140737488355328) (ht : x.tilt.length ≤ 140737488355328) :
    ∃ la ta lc tc, us = [.slice la x.layers.length lc, .int .i64 x.rows, .slice ta x.tilt.length tc] ∧ GridAt w la ta x := by
  obtain ⟨u1, us1, rfl, h1, R1⟩ := h.head
  obtain ⟨u2, us2, rfl, h2, R2⟩ := R1.head
  obtain ⟨u3, us3, rfl, h3, R3⟩ := R2.head
  have := R3.end; subst this
  obtain ⟨la, lc, rfl, _, r1⟩ := rep_row h1 (detC_lays _)
  have := rep_int h2; subst this
  obtain ⟨ta, tc, rfl, _, r3⟩ := rep_row h3 (detC_ints _)
  exact ⟨la, ta, lc, tc, rfl, r1, r3, hl, ht⟩
theorem rep_gridF {w : World} {M : Nat → Prop} {v : Value} {x : Grid} (h : RepF w M v (gridF x)) (hl : x.layers.length ≤ 140737488355328) (ht : x.tilt.length ≤ 140737488355328) :
    ∃ la ta lc tc, v = .agg #[.slice la x.layers.length lc, .int .i64 x.rows, .slice ta x.tilt.length tc] ∧ GridAt w la ta x := by
  cases h with
  | agg _ us h1 h2 h3 =>
    obtain ⟨la, ta, lc, tc, rfl, g⟩ := rep_grid ⟨h1, h3⟩ hl ht
    exact ⟨la, ta, lc, tc, rfl, g⟩
theorem rep_classF {w : World} {M : Nat → Prop} {v : Value} {x : Grid} {rs : List Rng} (h : RepF w M v (classF x rs)) (hl : x.layers.length ≤ 140737488355328) (ht : x.tilt.length ≤ 140737488355328) :
    ∃ la ta ra lc tc rc, v = .agg #[.slice la x.layers.length lc, .int .i64 x.rows, .slice ta x.tilt.length tc, .slice ra rs.length rc] ∧ GridAt w la ta x ∧ RowS Rng.enc w ra rs := by
  cases h with
  | agg _ us h1 h2 h3 =>
    have R : RepL w M us (classL x rs) := ⟨h1, h3⟩
    obtain ⟨u1, us1, rfl, r1, R1⟩ := R.head
    obtain ⟨u2, us2, rfl, r2, R2⟩ := RepL.head R1
    obtain ⟨u3, us3, rfl, r3, R3⟩ := RepL.head R2
    obtain ⟨u4, us4, rfl, r4, R4⟩ := RepL.head R3
    have := R4.end; subst this
    obtain ⟨la, lc, rfl, _, p1⟩ := rep_row r1 (detC_lays _)
    have := rep_int r2; subst this
    obtain ⟨ta, tc, rfl, _, p3⟩ := rep_row r3 (detC_ints _)
    obtain ⟨ra, rc, rfl, _, p4⟩ := rep_row r4 (detC_rngs _)
    exact ⟨la, ta, ra, lc, tc, rc, rfl, ⟨p1, p3, hl, ht⟩, p4⟩
theorem rep_cel {w : World} {M : Nat → Prop} {v : Value} {c : Cel} (h : RepF w M v (.agg (celF c))) : v = .agg #[.int .i64 c.col, .int .i64 c.row] := by
  have := detF_spec h (v := .agg #[.int .i64 c.col, .int .i64 c.row]) rfl
  exact this
theorem rep_sides {w : World} {M : Nat → Prop} (h : ∀ g cs, GG g = some cs → RepF w M (.pointer (some ⟨g, 0, none⟩)) cs) : Sides w := by
  have h0 := h 0 _ rfl
  generalize hv : (Value.pointer (some (⟨0, 0, none⟩ : Addr))) = v at h0
  cases h0 with
  | tab b l _ h =>
    cases hv
    obtain ⟨T, fr, h⟩ := h
    exact ⟨by simp [World.cell?, h, sidesV], by simp [World.cell?, h, sidesV], by simp [World.cell?, h, sidesV], by simp [World.cell?, h, sidesV], by simp [World.cell?, h, sidesV], by simp [World.cell?, h, sidesV], by simp [World.cell?, h, sidesV], by simp [World.cell?, h, sidesV]⟩
theorem own_sl {w w' : World} {M : Nat → Prop} {e sz n : Nat} {v : Value} {us : List Value} {cs : List FV} (own : w'.ownsRow w.heap.size e sz v n us) (one : ∀ u ∈ us, u.oneCell' = true) (hM : ∀ b, M b → b < w.heap.size) (R : RepL w' M us cs) : RepF w' M v (.sl n cs) := by
  rcases own.2 with ⟨h1, h2⟩ | ⟨g, cap, cur, h1, h2, h3, h4, h5, h6, h7⟩
  · subst h1; subst h2
    have hx : us = [] := List.eq_nil_of_length_eq_zero (by rw [own.1]; simp)
    subst hx
    exact RepF.sl none 0 0 cs [] (Nat.le_refl _) R.1 one (fun h => absurd rfl h) (fun k u x h => by simp at h)
  · subst h1
    refine RepF.sl _ n cap cs us h4 R.1 one (fun _ => ⟨g, 0, rfl, (Array.getElem?_eq_some_iff.1 h3).1, fun hm => by have := hM g hm; omega, fun k hk => ?_⟩) R.2
    have := own.cells (g := g) rfl k _ (List.getElem?_eq_getElem hk)
    rw [addr_add, Nat.zero_add] at this
    rw [Nat.zero_add, this, List.getElem?_eq_getElem hk]
theorem one_ints (l : List Int) : ∀ u ∈ l.flatMap encI, u.oneCell' = true := by
  intro u hu
  obtain ⟨z, _, hz⟩ := List.mem_flatMap.1 hu
  simp [encI] at hz; subst hz; rfl
theorem one_lays (l : List Layer) : ∀ u ∈ l.flatMap Layer.enc, u.oneCell' = true := by
  intro u hu
  obtain ⟨z, _, hz⟩ := List.mem_flatMap.1 hu
  simp [Layer.enc] at hz; rcases hz with rfl | rfl | rfl <;> rfl
theorem within_s (n lo hi : Int) : Summ Tryz.prog GG 69 [iv n, iv lo, iv hi] (.v (.bool (withinB n lo hi))) := by
  refine ⟨enters_of Tryz.func69 (by kernel_rfl) rfl, fun w M us hM hG R => ?_⟩
  obtain ⟨u1, us1, rfl, r1, R1⟩ := R.head
  obtain ⟨u2, us2, rfl, r2, R2⟩ := R1.head
  obtain ⟨u3, us3, rfl, r3, R3⟩ := R2.head
  have := R3.end; subst this
  have := rep_int r1; subst this
  have := rep_int r2; subst this
  have := rep_int r3; subst this
  exact (within_any n lo hi w).mono fun e w' ⟨h1, h2⟩ => ⟨_, h1, RepF.v _, h2 ▸ Ext.refl _⟩
theorem unless_s (b : Bool) (k : Int) : Summ Tryz.prog GG 36 [.v (.bool b), iv k] (iv (unlessE b k)) := by
  refine ⟨enters_of Tryz.func36 (by kernel_rfl) rfl, fun w M us hM hG R => ?_⟩
  obtain ⟨u1, us1, rfl, r1, R1⟩ := R.head
  obtain ⟨u2, us2, rfl, r2, R2⟩ := R1.head
  have := R2.end; subst this
  have := repV r1; subst this
  have := rep_int r2; subst this
  exact (unless_any b k w).mono fun e w' ⟨h1, h2⟩ => ⟨_, h1, RepF.v _, h2 ▸ Ext.refl _⟩
theorem cloneI_s (l : List Int) (hl : l.length ≤ 1000000) : SummN Tryz.prog GG 157 [.sl l.length (intsF l)] 3 1 l.length (intsF l) := by
  refine ⟨enters_of Tryz.func157 (by kernel_rfl) rfl, fun w M us hM hG R => ?_⟩
  obtain ⟨u1, us1, rfl, r1, R1⟩ := R.head
  have := R1.end; subst this
  obtain ⟨a, c, rfl, _, rr⟩ := rep_row r1 (detC_ints l)
  exact (cloneInt a l c w rr hl).mono fun e w' ⟨a', c', h1, h2, h3⟩ => ⟨_, _, h1, h2, one_ints l, repL_det (detC_ints l), h3⟩
theorem cloneL_s (l : List Layer) (hl : l.length ≤ 1000000) : SummN Tryz.prog GG 156 [.sl l.length (laysF l)] 103 3 l.length (laysF l) := by
  refine ⟨enters_of Tryz.func156 (by kernel_rfl) rfl, fun w M us hM hG R => ?_⟩
  obtain ⟨u1, us1, rfl, r1, R1⟩ := R.head
  have := R1.end; subst this
  obtain ⟨a, c, rfl, _, rr⟩ := rep_row r1 (detC_lays l)
  exact (cloneLayer a l c w rr hl).mono fun e w' ⟨a', c', h1, h2, h3⟩ => ⟨_, _, h1, h2, one_lays l, repL_det (detC_lays l), h3⟩
theorem SummN.toSumm {P : Program} {G : Nat → Option FV} {g : Nat} {args cs : List FV} {e sz n : Nat} (h : SummN P G g args e sz n cs) : Summ P G g args (.sl n cs) :=
  ⟨h.enters, fun w M us hM hG R => (h.call w M us hM hG R).mono fun _en _w' ⟨v, _xs, h1, h2, h3, h4, h5⟩ => ⟨v, h1, own_sl h2 h3 hM (h4.mono (fun _ _ _ => rfl) (Nat.le_refl _) (fun _ _ h => .inl h)), h5⟩⟩
end Go.Proofs.YtnmaabejdmaahaaGreatDoor.Ice
namespace Go.Proofs.YtnmaabejdmaahaaGreatDoor.Ice
open Go Go.RowKit Go.Proofs Go.Shelf Go.Ab
theorem firstE_zeros {l : List Int} (h : ∀ j (hj : j < l.length), l[j] = 0) : firstE l = 0 := by
  induction l with
  | nil => rfl
  | cons x l ih =>
    have h0 : x = 0 := h 0 (by simp)
    rw [firstE]
    simp only [h0]
    exact ih (fun j hj => h (j + 1) (by simpa using hj))
theorem firstE_at {l : List Int} {k : Nat} (hk : k < l.length) (h : ∀ j (hj : j < l.length), j < k → l[j] = 0) (hne : l[k] ≠ 0) : firstE l = l[k] := by
  induction l generalizing k with
  | nil => simp at hk
  | cons x l ih =>
    cases k with
    | zero => simp only [List.getElem_cons_zero] at hne ⊢; rw [firstE]; simp [hne]
    | succ k =>
      have h0 : x = 0 := h 0 (by simp) (by omega)
      rw [firstE]
      simp only [h0]
      exact ih (by simpa using hk) (fun j hj hjk => h (j + 1) (by simpa using hj) (by omega)) (by simpa using hne)
set_option maxRecDepth 100000 in
theorem first_s (l : List Int) (hl : l.length ≤ 1000) : Summ Tryz.prog GG 34 [.sl l.length (intsF l)] (iv (firstE l)) := by
  refine summW Tryz.func34 rfl rfl 15 rfl (by simp) (fun M0 => ?_)
  repeat (first
    | (apply s_move_f; exact rfl; exact rfl)
    | (apply s_assign_f; exact rfl; exact rfl)
    | (apply s_len TY; exact rfl; exact rfl; exact rfl)
    | apply w_seq
    | apply w_region
    | apply s_nil
    | apply t_norm
    | apply w_block)
  apply w_loop (fun k : Nat => ⟨(Ab.upd (Ab.upd (Ab.upd (fun _ => .bot) 7 (.f <| iv (k : Nat))) 6 (.f (iv l.length))) 5 (.f (.sl l.length (intsF l)))), fun _ => none, 0⟩) (fun k => k ≤ l.length ∧ ∀ j (hj : j < l.length), j < k → l[j] = 0) (fun k => l.length - k) 0 ⟨Nat.zero_le _, fun _ _ h => absurd h (Nat.not_lt_zero _)⟩ (gh_le ⟨le_upd rfl trivial (le_upd rfl trivial (le_upd rfl trivial (le_nil _))), le_h0 _ _⟩)
  rintro k ⟨hk, hall⟩
  by_cases hlt : k < l.length
  · have hb : decide ((k : Int) < (l.length : Int)) = true := by simpa using hlt
    have hc : (intsF l)[k * 1]? = some (iv l[k]) := map_at hlt
    have hne : intsF l ≠ [] := map_ne hlt
    by_cases hz : l[k] = 0
    · have ht : (!decide (l[k] = 0)) = false := by simpa using hz
      repeat (first
    | (apply s_move_f; exact rfl; exact rfl)
    | (apply s_assign_f; exact rfl; exact rfl)
    | (apply s_load_pt TY; exact rfl; exact rfl; exact rfl; (first | exact rfl | assumption))
    | (apply s_lss; exact rfl; exact rfl; exact rfl)
    | (apply s_neq; exact rfl; exact rfl; exact rfl)
    | apply w_seq
    | apply w_region
    | apply s_nil
    | apply t_norm
    | apply k_norm
    | apply w_block
    | apply w_skip
    | (apply s_add; exact rfl; exact rfl; exact rfl; (omega))
    | (apply s_idxN TY; exact rfl; exact rfl; exact rfl; exact rfl; assumption; assumption)
    | (apply w_condT; exact rfl; (first | exact rfl | assumption))
    | (apply w_condF; exact rfl; (first | exact rfl | assumption)))
      exact ⟨k + 1, ⟨by omega, fun j hj hjk => by rcases Nat.lt_succ_iff_lt_or_eq.1 hjk with h | rfl; exact hall j hj h; exact hz⟩, by omega, gh_le ⟨le_upd rfl trivial (le_upd rfl trivial (le_upd rfl trivial (le_nil _))), le_h0 _ _⟩⟩
    · have ht : (!decide (l[k] = 0)) = true := by simpa using hz
      repeat (first
    | (apply s_move_f; exact rfl; exact rfl)
    | (apply s_assign_f; exact rfl; exact rfl)
    | (apply s_load_pt TY; exact rfl; exact rfl; exact rfl; (first | exact rfl | assumption))
    | (apply s_lss; exact rfl; exact rfl; exact rfl)
    | (apply s_neq; exact rfl; exact rfl; exact rfl)
    | apply w_seq
    | apply w_region
    | apply s_nil
    | apply t_norm
    | apply t_ret
    | apply k_ret
    | apply w_block
    | apply w_ret
    | apply w_skip
    | (apply s_idxN TY; exact rfl; exact rfl; exact rfl; exact rfl; assumption; assumption)
    | (apply w_condT; exact rfl; (first | exact rfl | assumption)))
      refine lv_ret (ret1 rfl (res_tmp ?_))
      rw [firstE_at hlt hall hz]; rfl
  · have hb : decide ((k : Int) < (l.length : Int)) = false := by simpa using hlt
    repeat (first
    | (apply s_assign_f; exact rfl; exact rfl)
    | (apply s_lss; exact rfl; exact rfl; exact rfl)
    | apply w_seq
    | apply w_region
    | apply s_nil
    | apply t_norm
    | apply t_exit
    | apply k_hit
    | apply w_exit
    | apply w_ret
    | (apply w_condF; exact rfl; (first | exact rfl | assumption)))
    refine lv_ret (ret1 rfl (res_tmp ?_))
    rw [firstE_zeros (fun j hj => hall j hj (by omega))]; rfl
end Go.Proofs.YtnmaabejdmaahaaGreatDoor.Ice
namespace Go.Proofs.YtnmaabejdmaahaaGreatDoor.Ice
open Go Go.RowKit Go.Proofs Go.Shelf Go.Ab
structure ClassOk (x : Grid) (rs : List Rng) : Prop where
  v : Valid x
  len : rs.length = x.layers.length
  rng : ∀ r ∈ rs, 1 ≤ r.lo ∧ r.lo ≤ r.hi ∧ r.hi ≤ 1000
  cnt : (assigns rs []).length ≤ 300
theorem upTo_len (lo hi : Int) : (upTo lo hi).length = (hi + 1 - lo).toNat := by simp [upTo]
theorem assigns_len : ∀ (rs : List Rng) (p q : List Int), (assigns rs p).length = (assigns rs q).length
  | [], _, _ => rfl
  | r :: rs, p, q => by
    simp only [assigns, List.length_flatMap]
    congr 1
    apply List.map_congr_left
    intro n _
    exact assigns_len rs _ _
theorem sum_const (l : List Int) (k : Nat) : (l.map fun _ => k).sum = l.length * k := by
  induction l with
  | nil => simp
  | cons x l ih => simp [ih, Nat.add_mul]; omega
theorem assigns_cons (r : Rng) (rs : List Rng) (p : List Int) : (assigns (r :: rs) p).length = (r.hi + 1 - r.lo).toNat * (assigns rs []).length := by
  simp only [assigns, List.length_flatMap]
  rw [show (fun n => (assigns rs (p ++ [n])).length) = fun _ => (assigns rs []).length from funext fun n => assigns_len rs _ _, sum_const, upTo_len]
theorem scan_zero (l : List Rng) : ∀ (f i : Nat) (n : Int), i + f = l.length → 1 ≤ n → (classScan l f i n).2 = 0 → (∀ r ∈ l.drop i, 1 ≤ r.lo ∧ r.lo ≤ r.hi ∧ r.hi ≤ 1000) ∧ n * ((assigns (l.drop i) []).length : Int) ≤ 300
  | 0, i, n, h, _, hz => by
    have : l.drop i = [] := List.drop_eq_nil_of_le (by omega)
    rw [this]
    unfold classScan at hz
    have h1 := (unlessE_zero (by decide)).1 hz
    simp [assigns] at h1 ⊢; exact h1
  | f + 1, i, n, h, hn, hz => by
    have hi : i < l.length := by omega
    unfold classScan at hz
    rw [getDR hi] at hz
    by_cases hr : (rngE l[i] != 0) = true
    · rw [if_pos hr] at hz; simp at hr; exact absurd hz hr
    · rw [if_neg hr] at hz
      have hr0 := rngE_zero.1 (by simpa using hr)
      have hm : 1 ≤ n * (l[i].hi - l[i].lo + 1) := by
        have : 1 * 1 ≤ n * (l[i].hi - l[i].lo + 1) := Int.mul_le_mul hn (by omega) (by omega) (by omega)
        simpa using this
      obtain ⟨h1, h2⟩ := scan_zero l f (i + 1) _ (by omega) hm hz
      have hd : l.drop i = l[i] :: l.drop (i + 1) := by simp
      refine ⟨fun r hrm => ?_, ?_⟩
      · rw [hd] at hrm
        rcases List.mem_cons.1 hrm with rfl | h3
        · exact hr0
        · exact h1 r h3
      · rw [hd, assigns_cons]
        have e : ((l[i].hi + 1 - l[i].lo).toNat : Int) = l[i].hi - l[i].lo + 1 := by omega
        rw [Int.natCast_mul, e, ← Int.mul_assoc]
        exact h2
theorem classOk {x : Grid} {rs : List Rng} (h : (checkClass x rs).2 = 0) : ClassOk x rs := by
  unfold checkClass at h
  by_cases t1 : ((checkIce x).2 != 0) = true
  · rw [if_pos t1] at h; simp at t1; exact absurd h t1
  rw [if_neg t1] at h
  by_cases t2 : ((rs.length : Int) != (x.layers.length : Int)) = true
  · rw [if_pos t2] at h; simp at h
  rw [if_neg t2] at h
  obtain ⟨h1, h2⟩ := scan_zero rs rs.length 0 1 (by omega) (by omega) h
  simp only [List.drop_zero, Int.one_mul] at h1 h2
  exact ⟨(checkIce_zero x).1 (by simpa using t1), by simp at t2; omega, h1, by omega⟩
theorem own_layers (x : Grid) (ds : List Int) : (own x ds).layers.length = x.layers.length := by simp [own]
theorem own_valid {x : Grid} (v : Valid x) {ds : List Int} (hd : ∀ d ∈ ds, 1 ≤ d ∧ d ≤ 1000) : Valid (own x ds) := by
  refine ⟨by rw [own_layers]; exact v.l1, by rw [own_layers]; exact v.l6, fun l hl => ?_, v.r1, v.r12, v.t1, v.t8, v.til⟩
  simp only [own, List.mem_mapIdx] at hl
  obtain ⟨i, hi, rfl⟩ := hl
  have h0 := v.lay x.layers[i] (List.getElem_mem hi)
  refine ⟨?_, h0.2⟩
  simp only
  rw [List.getD_eq_getElem?_getD]
  cases hk : ds[i]? with
  | none => exact h0.1
  | some d => exact hd d (List.mem_of_getElem? hk)
theorem own_in (x : Grid) (ds : List Int) (c : Cel) : InG (own x ds) c ↔ InG x c := Iff.rfl
def mpT (x : Grid) (fr : Cel) : Obj → Prop := fun o => ∃ (D : List Ent) (clock : Nat), o = .map (D.map ent).toArray clock ∧ (∀ d ∈ D, d.2.2 < clock) ∧ (D.map (·.1)).Nodup ∧ (D.map (·.2.2)).Nodup ∧ ∀ c, InG x c → valOf D c = some (distOf x fr c)
theorem times_s (x : Grid) (fr : Cel) (v : Valid x) (hin : InG x fr) : Summ Tryz.prog GG 60 [gridF x, .agg (celF fr)] (.mp (mpT x fr)) := by
  refine ⟨enters_of Tryz.func60 (by kernel_rfl) rfl, fun w M us hM hG R => ?_⟩
  obtain ⟨u1, us1, rfl, r1, R1⟩ := R.head
  obtain ⟨u2, us2, rfl, r2, R2⟩ := R1.head
  have := R2.end; subst this
  have h6 := v.l6
  have h8 := v.t8
  obtain ⟨la, ta, lc, tc, rfl, hg⟩ := rep_gridF r1 (by omega) (by omega)
  have := rep_cel r2; subst this
  refine (times_fresh la ta lc tc x fr w hg (rep_sides hG) v hin).mono ?_
  rintro e w' ⟨m, D, d, rfl, hm, hd, hv, hx, hle⟩
  obtain ⟨clock, hb, hc⟩ := hm.blk
  refine ⟨_, rfl, RepF.mp _ _ ⟨hm.lt, fun h => by have := hM _ h; omega, _, hb, ⟨D, clock, rfl, hc, hm.keys, hm.born, fun c hi => ?_⟩, rfl⟩, hx⟩
  rw [(hv c hi).1, IsDist.unique v hd (distOf_is hd) hi]
theorem look_s {x : Grid} {fr c : Cel} (hc : InG x c) (ob : Obj) (r : Nat) (w : World) (hG : mpT x fr ob) (hr : w.heap[r]? = some ob) :
    (Instr.lookup 119 (.map (some r)) (.agg #[.int .i64 c.col, .int .i64 c.row]) false).run Tryz.prog w = .ok (.int .i64 (distOf x fr c)) w := by
  obtain ⟨D, clock, rfl, h1, h2, h3, h4⟩ := hG
  have := lookup_plain (W := w) (r := r) (D := D) ⟨⟨clock, hr, h1⟩, h2, h3⟩ c
  rw [h4 c hc] at this
  exact this
end Go.Proofs.YtnmaabejdmaahaaGreatDoor.Ice
namespace Go.Proofs.YtnmaabejdmaahaaGreatDoor.Ice
open Go Go.RowKit Go.Proofs Go.Shelf Go.Ab
def modF (m : List Int × List Bool) : List FV := [.sl m.1.length (intsF m.1), .sl m.2.length (boolsF m.2)]
def modelsF (ms : List (List Int × List Bool)) : List FV := ms.flatMap modF
def ownL (x : Grid) (ds : List Int) (k : Nat) : List Layer := x.layers.mapIdx fun i y => { y with delay := if i < k then ds.getD i y.delay else y.delay }
theorem ownL_len (x : Grid) (ds : List Int) (k : Nat) : (ownL x ds k).length = x.layers.length := by simp [ownL]
theorem ownL_zero (x : Grid) (ds : List Int) : ownL x ds 0 = x.layers := by
  refine List.ext_getElem (by simp [ownL]) fun i h1 h2 => ?_
  simp [ownL]
theorem ownL_end (x : Grid) (ds : List Int) : ownL x ds ds.length = (own x ds).layers := by
  refine List.ext_getElem (by simp [ownL, own]) fun i h1 h2 => ?_
  simp only [ownL, own, List.getElem_mapIdx]
  by_cases h : i < ds.length
  · rw [if_pos h]
  · rw [if_neg h, List.getD_eq_getElem?_getD, List.getElem?_eq_none (by omega)]; rfl
theorem flat_set3 {f : Layer → List FV} (hs : ∀ y, (f y).length = 3) : ∀ (l : List Layer) (k : Nat) (y : Layer) (a : FV), (hk : k < l.length) → f y = (f l[k]).set 0 a → (l.flatMap f).set (k * 3 + 0) a = (l.set k y).flatMap f
  | [], k, _, _, hk, _ => by simp at hk
  | z :: l, 0, y, a, _, h => by
    simp only [List.getElem_cons_zero] at h
    have h3 := hs z
    rw [List.set_cons_zero, List.flatMap_cons, List.flatMap_cons, h]
    match hz : f z, h3 with
    | [p, q, r], _ => simp
  | z :: l, k + 1, y, a, hk, h => by
    have h3 := hs z
    rw [List.set_cons_succ, List.flatMap_cons, List.flatMap_cons, ← flat_set3 hs l k y a (by simpa using hk) (by simpa using h)]
    rw [List.set_append_right _ _ (by rw [h3]; omega), h3]
    congr 2
    omega
theorem ownL_succ (x : Grid) (ds : List Int) {k : Nat} (hk : k < ds.length) (hl : ds.length = x.layers.length) : Ab.setAt (laysF (ownL x ds k)) (k * 3 + 0) [iv ds[k]] = laysF (ownL x ds (k + 1)) := by
  have hkl : k < (ownL x ds k).length := by rw [ownL_len]; omega
  rw [show Ab.setAt (laysF (ownL x ds k)) (k * 3 + 0) [iv ds[k]] = (laysF (ownL x ds k)).set (k * 3 + 0) (iv ds[k]) from rfl]
  unfold laysF
  rw [flat_set3 (fun _ => rfl) (ownL x ds k) k { (ownL x ds k)[k] with delay := ds[k] } (iv ds[k]) hkl rfl]
  congr 1
  refine List.ext_getElem (by simp [ownL]) fun i h1 h2 => ?_
  rw [List.getElem_set]
  split
  · rename_i e
    subst e
    have hkx : k < x.layers.length := by omega
    simp only [ownL, List.getElem_mapIdx]
    rw [if_pos (by omega), List.getD_eq_getElem?_getD, List.getElem?_eq_getElem hk]
    rfl
  · simp only [ownL, List.getElem_mapIdx]
    by_cases h : i < k
    · rw [if_pos h, if_pos (by omega)]
    · rw [if_neg h, if_neg (by omega)]
noncomputable def mo (x : Grid) (l : List Flash) (ds : List Int) : List Int × List Bool := (ds, explains (own x ds) l)
noncomputable def news (x : Grid) (l : List Flash) (rs : List Rng) (pre : List Int) : List (List Int × List Bool) := (assigns rs pre).map (mo x l)
noncomputable def msk (x : Grid) (l : List Flash) (r : Rng) (rs : List Rng) (pre : List Int) (ms : List (List Int × List Bool)) (k : Nat) : List (List Int × List Bool) := ms ++ ((upTo r.lo r.hi).take k).flatMap fun n => news x l rs (pre ++ [n])
theorem msk_zero (x : Grid) (l : List Flash) (r : Rng) (rs : List Rng) (pre : List Int) (ms : List (List Int × List Bool)) : msk x l r rs pre ms 0 = ms := by simp [msk]
theorem msk_succ (x : Grid) (l : List Flash) (r : Rng) (rs : List Rng) (pre : List Int) (ms : List (List Int × List Bool)) {k : Nat} (hk : k < (r.hi + 1 - r.lo).toNat) : msk x l r rs pre ms (k + 1) = msk x l r rs pre ms k ++ news x l rs (pre ++ [r.lo + k]) := by
  have hk' : k < (upTo r.lo r.hi).length := by rw [upTo_len]; exact hk
  have hg : (upTo r.lo r.hi)[k] = r.lo + k := by simp [upTo]
  unfold msk
  rw [List.take_succ_eq_append_getElem hk', hg, List.flatMap_append, List.append_assoc]
  simp
theorem msk_end (x : Grid) (l : List Flash) (r : Rng) (rs : List Rng) (pre : List Int) (ms : List (List Int × List Bool)) : msk x l r rs pre ms (r.hi + 1 - r.lo).toNat = ms ++ news x l (r :: rs) pre := by
  unfold msk news
  rw [List.take_of_length_le (by rw [upTo_len]; exact Nat.le_refl _), assigns, List.map_flatMap]
theorem msk_len (x : Grid) (l : List Flash) (r : Rng) (rs : List Rng) (pre : List Int) (ms : List (List Int × List Bool)) : ∀ k, k ≤ (r.hi + 1 - r.lo).toNat → (msk x l r rs pre ms k).length = ms.length + k * (assigns rs []).length
  | 0, _ => by simp [msk_zero]
  | k + 1, hk => by
    rw [msk_succ x l r rs pre ms hk, List.length_append, msk_len x l r rs pre ms k (by omega), news, List.length_map, assigns_len rs (pre ++ [r.lo + (k : Int)]) [], Nat.add_mul]
    omega
theorem intsF_snoc (l : List Int) (z : Int) : intsF (l ++ [z]) = intsF l ++ [iv z] := by simp [intsF]
theorem boolsF_take {l : List Bool} {k : Nat} (hk : k < l.length) : boolsF (l.take (k + 1)) = boolsF (l.take k) ++ [.v (.bool l[k])] := by
  unfold boolsF; rw [List.take_succ_eq_append_getElem hk, List.map_append]; rfl
theorem modelsF_snoc (ms : List (List Int × List Bool)) (m : List Int × List Bool) : modelsF (ms ++ [m]) = modelsF ms ++ modF m := by simp [modelsF]
set_option maxRecDepth 100000 in
theorem clip_s (l : List Int) (_hl : l.length ≤ 1000) : Summ Tryz.prog GG 155 [.sl l.length (intsF l)] (.slc l.length (intsF l)) := by
  have hlen : (intsF l).length = l.length * 1 := by simp [intsF]
  refine summW Tryz.func155 rfl rfl 9 rfl (by simp) (fun M0 => ?_)
  repeat (first
    | (apply s_move_f; exact rfl; exact rfl)
    | (apply s_assign_f; exact rfl; exact rfl)
    | (apply s_len TY; exact rfl; exact rfl; exact rfl)
    | apply w_seq
    | apply w_region
    | apply s_nil
    | apply t_norm)
  apply s_clip TY; exact rfl; exact rfl; exact rfl; exact rfl; exact rfl; exact rfl; exact hlen
  repeat (first
    | (apply s_assign_f; exact rfl; exact rfl)
    | apply s_nil
    | apply t_norm
    | apply w_ret)
  exact lv_ret (ret1 rfl (res_tmp rfl))
set_option maxRecDepth 100000 in
set_option maxHeartbeats 1000000 in
theorem grown_s (x : Grid) (rs : List Rng) (l : List Flash) (K : ClassOk x rs) (hl8 : l.length ≤ 8) (hf : ∀ f ∈ l, InG x f.frm ∧ InG x f.to) : ∀ (d : Nat) (pre : List Int) (ms : List (List Int × List Bool)), pre.length + d = rs.length → (∀ n ∈ pre, 1 ≤ n ∧ n ≤ 1000) → ms.length + (assigns (rs.drop pre.length) pre).length ≤ 1000 →
    SummM Tryz.prog GG 129 170 2 ms.length (modelsF ms) [classF x rs, .sl l.length (flasF l), .sl pre.length (intsF pre)] (ms ++ news x l (rs.drop pre.length) pre).length (modelsF (ms ++ news x l (rs.drop pre.length) pre)) := by
  have h6 := K.v.l6
  have hrl := K.len
  intro d
  induction d with
  | succ d ih =>
    intro pre ms hd hpre hms
    have hlt : pre.length < rs.length := by omega
    obtain ⟨r, hr⟩ : ∃ r, rs[pre.length] = r := ⟨_, rfl⟩
    have hrr := K.rng r (by rw [← hr]; exact List.getElem_mem hlt)
    have hdrop : rs.drop pre.length = r :: rs.drop (pre.length + 1) := by rw [← hr]; simp
    rw [hdrop] at hms ⊢
    rw [assigns_cons] at hms
    have hb : decide ((pre.length : Int) < (rs.length : Int)) = true := by simpa using hlt
    have hsub : ((rngsF rs).drop (pre.length * 2)).take 2 = [iv r.lo, iv r.hi] := by rw [← hr]; exact flat_sub (f := rngF) (fun _ => rfl) hlt
    have hne : rngsF rs ≠ [] := flat_ne (s := 2) (fun _ => rfl) (by decide) hlt
    refine summM_of Tryz.func129 rfl rfl 101 rfl (by simp) (fun M0 X => ?_)
    repeat (first
    | (apply s_move_f; exact rfl; exact rfl)
    | (apply s_assign_f; exact rfl; exact rfl)
    | (apply s_fld_pt TY; exact rfl; exact rfl; exact rfl)
    | (apply s_load_pt TY; exact rfl; exact rfl; exact rfl; (first | exact rfl | assumption))
    | (apply s_load_pts TY; exact rfl; exact rfl; exact rfl; (first | assumption | exact rfl); exact rfl)
    | (apply s_len TY; exact rfl; exact rfl; exact rfl)
    | (apply s_box; exact rfl; exact rfl; exact rfl)
    | (apply s_lss; exact rfl; exact rfl; exact rfl)
    | (apply s_fld_bx TY; exact rfl; exact rfl; exact rfl)
    | (apply s_load_bx_f TY; exact rfl; exact rfl; exact rfl; exact rfl; exact rfl)
    | apply w_seq
    | apply w_region
    | apply s_nil
    | apply t_norm
    | apply w_block
    | (apply s_idxN TY; exact rfl; exact rfl; exact rfl; exact rfl; assumption; assumption)
    | (apply s_alloc TY; exact rfl; exact rfl; exact rfl)
    | (apply s_store TY; exact rfl; exact rfl; exact rfl; exact rfl; exact rfl; exact rfl)
    | (apply w_condT; exact rfl; (first | exact rfl | assumption)))
    apply w_loop (fun k : Nat => ⟨(Ab.upd (Ab.upd (Ab.upd (Ab.upd (Ab.upd (Ab.upd (fun _ => .bot) 10 (.f (iv (r.lo + (k : Nat))))) 9 (.bx 1 0)) 5 (.f (.pt (classL x rs) 0))) 3 (.f (.sl pre.length (intsF pre)))) 2 (.f (.sl l.length (flasF l)))) 0 (.ow 0)), (Ab.upd (Ab.upd (fun _ => none) 0 (some (.row 170 2 (msk x l r (rs.drop (pre.length + 1)) pre ms k).length (modelsF (msk x l r (rs.drop (pre.length + 1)) pre ms k))))) 1 (some (.box [.f (iv r.lo), .f (iv r.hi)]))), 2⟩) (fun k => k ≤ (r.hi + 1 - r.lo).toNat) (fun k => (r.hi + 1 - r.lo).toNat - k) 0 (Nat.zero_le _) (gh_le ⟨le_upd rfl rfl (le_upd rfl trivial (le_upd rfl trivial (le_upd rfl trivial (le_upd rfl rfl (le_upd (congrArg (fun z => AV.f (iv z)) (Int.add_zero r.lo)) trivial (le_nil _)))))), le_hupd rfl (fun y hy => by simp at hy; rcases hy with rfl | rfl <;> first | trivial | rfl) (le_hupd (by rw [msk_zero]; rfl) trivial (le_h0 _ _))⟩)
    intro k hk
    by_cases hkc : k < (r.hi + 1 - r.lo).toNat
    · have hc : decide (r.lo + (k : Int) ≤ r.hi) = true := by simp; omega
      have hmul := Nat.mul_le_mul_right (assigns (rs.drop (pre.length + 1)) []).length (show k + 1 ≤ (r.hi + 1 - r.lo).toNat from hkc)
      have hlen := msk_len x l r (rs.drop (pre.length + 1)) pre ms k hk
      have IH := ih (pre ++ [r.lo + k]) (msk x l r (rs.drop (pre.length + 1)) pre ms k) (by simp; omega) (fun n hn => by
        rcases List.mem_append.1 hn with h | h
        · exact hpre n h
        · simp at h; omega) (by rw [hlen, assigns_len _ (pre ++ [r.lo + (k : Int)]) []]; simp only [List.length_append, List.length_cons, List.length_nil, Nat.zero_add]; rw [Nat.add_mul] at hmul; omega)
      simp only [List.length_append, List.length_cons, List.length_nil, Nat.zero_add, intsF_snoc] at IH
      rw [← List.length_append, ← msk_succ x l r (rs.drop (pre.length + 1)) pre ms hkc] at IH
      have hil : (intsF pre).length = pre.length * 1 := by simp [intsF]
      repeat (first
    | (apply s_move_f; exact rfl; exact rfl)
    | (apply s_leq; exact rfl; exact rfl; exact rfl)
    | (apply s_fld_bx TY; exact rfl; exact rfl; exact rfl)
    | (apply s_load_bx_f TY; exact rfl; exact rfl; exact rfl; exact rfl; exact rfl)
    | apply w_seq
    | apply w_region
    | apply s_nil
    | apply t_norm
    | apply w_block
    | apply w_skip
    | (apply w_condT; exact rfl; (first | exact rfl | assumption)))
      apply w_draw 8 rfl (by kernel_rfl)
      repeat (first
    | (apply s_append_clip TY; exact rfl; exact rfl; exact rfl; exact rfl; exact rfl; exact rfl; exact rfl; exact rfl; exact hil; exact rfl; (unfold maxLen; omega); omega)
    | (apply s_callM IH; exact rfl; exact rfl; exact rfl; exact rfl; exact rfl; exact rfl)
    | (apply s_move_f; exact rfl; exact rfl)
    | (apply s_assign_f; exact rfl; exact rfl)
    | (apply s_load_pts TY; exact rfl; exact rfl; exact rfl; (first | assumption | exact rfl); exact rfl)
    | (apply s_move_o; exact rfl; exact rfl)
    | (apply s_assign_o; exact rfl; exact rfl)
    | (apply s_bslice TY; exact rfl; exact rfl; exact rfl; exact rfl; exact rfl; exact rfl)
    | apply w_region
    | apply s_nil
    | apply t_norm
    | apply k_norm
    | (apply s_call (clip_s pre (by omega)); exact rfl; exact rfl; exact rfl; exact rfl)
    | (apply s_add; exact rfl; exact rfl; exact rfl; (omega)))
      exact ⟨k + 1, by omega, by omega, gh_le ⟨le_upd rfl rfl (le_upd rfl trivial (le_upd rfl trivial (le_upd rfl trivial (le_upd rfl rfl (le_upd (congrArg (fun z => AV.f (iv z)) (show r.lo + ((k + 1 : Nat) : Int) = r.lo + (k : Int) + 1 by omega)) trivial (le_nil _)))))), le_hupd rfl (fun y hy => by simp at hy; rcases hy with rfl | rfl <;> first | trivial | rfl) (le_hupd rfl trivial (le_h0 _ _))⟩⟩
    · have hc : decide (r.lo + (k : Int) ≤ r.hi) = false := by simp; omega
      have hke : k = (r.hi + 1 - r.lo).toNat := by omega
      repeat (first
    | (apply s_move_f; exact rfl; exact rfl)
    | (apply s_leq; exact rfl; exact rfl; exact rfl)
    | (apply s_move_o; exact rfl; exact rfl)
    | (apply s_assign_o; exact rfl; exact rfl)
    | (apply s_fld_bx TY; exact rfl; exact rfl; exact rfl)
    | (apply s_load_bx_f TY; exact rfl; exact rfl; exact rfl; exact rfl; exact rfl)
    | apply w_seq
    | apply w_region
    | apply s_nil
    | apply t_norm
    | apply t_exit
    | apply t_ret
    | apply k_hit
    | apply w_exit
    | apply w_ret
    | (apply w_condF; exact rfl; (first | exact rfl | assumption)))
      refine ⟨8, rfl, rfl, ?_⟩
      subst hke
      rw [← msk_end]
      rfl
  | zero =>
    intro pre ms hd hpre hms
    have hpl : pre.length = rs.length := by omega
    have hdrop : rs.drop pre.length = [] := List.drop_eq_nil_of_le (by omega)
    have hnews : news x l (rs.drop pre.length) pre = [mo x l pre] := by rw [hdrop]; rfl
    rw [hdrop] at hms
    have hms2 : ms.length + 1 ≤ 1000 := hms
    rw [hnews]
    have hxl : pre.length = x.layers.length := by omega
    have hb : decide ((pre.length : Int) < (rs.length : Int)) = false := by simp; omega
    have hil : (intsF pre).length = pre.length * 1 := by simp [intsF]
    refine summM_of Tryz.func129 rfl rfl 101 rfl (by simp) (fun M0 X => ?_)
    repeat (first
    | (apply s_callN (cloneL_s x.layers (by omega)); exact rfl; exact rfl; exact rfl; exact rfl; exact rfl)
    | (apply s_move_f; exact rfl; exact rfl)
    | (apply s_assign_f; exact rfl; exact rfl)
    | (apply s_fld_pt TY; exact rfl; exact rfl; exact rfl)
    | (apply s_load_pt TY; exact rfl; exact rfl; exact rfl; (first | exact rfl | assumption))
    | (apply s_load_pts TY; exact rfl; exact rfl; exact rfl; (first | assumption | exact rfl); exact rfl)
    | (apply s_len TY; exact rfl; exact rfl; exact rfl)
    | (apply s_box; exact rfl; exact rfl; exact rfl)
    | (apply s_lss; exact rfl; exact rfl; exact rfl)
    | (apply s_fld_bx TY; exact rfl; exact rfl; exact rfl)
    | apply w_seq
    | apply w_region
    | apply s_nil
    | apply t_norm
    | apply w_block
    | apply w_skip
    | (apply s_alloc TY; exact rfl; exact rfl; exact rfl)
    | (apply s_store TY; exact rfl; exact rfl; exact rfl; exact rfl; exact rfl; exact rfl)
    | (apply w_condF; exact rfl; (first | exact rfl | assumption)))
    apply w_loop (fun k : Nat => ⟨(Ab.upd (Ab.upd (Ab.upd (Ab.upd (Ab.upd (Ab.upd (Ab.upd (fun _ => .bot) 56 (.f (iv (k : Nat)))) 55 (.f (iv pre.length))) 54 (.f (.sl pre.length (intsF pre)))) 11 (.bx 1 0)) 3 (.f (.sl pre.length (intsF pre)))) 2 (.f (.sl l.length (flasF l)))) 0 (.ow 0)), (Ab.upd (Ab.upd (Ab.upd (fun _ => none) 0 (some (.row 170 2 ms.length (modelsF ms)))) 1 (some (.box [.ow 2, .f (iv x.rows), .f (.sl x.tilt.length (intsF x.tilt))]))) 2 (some (.row 103 3 x.layers.length (laysF (ownL x pre k))))), 3⟩) (fun k => k ≤ pre.length) (fun k => pre.length - k) 0 (Nat.zero_le _) (gh_le ⟨le_upd rfl rfl (le_upd rfl trivial (le_upd rfl trivial (le_upd rfl rfl (le_upd rfl trivial (le_upd rfl trivial (le_upd rfl trivial (le_nil _))))))), le_hupd (by rw [ownL_zero]; rfl) trivial (le_hupd rfl (fun y hy => by simp at hy; rcases hy with rfl | rfl | rfl <;> first | trivial | rfl) (le_hupd rfl trivial (le_h0 _ _)))⟩)
    intro k hk
    by_cases hkc : k < pre.length
    · have hc : decide ((k : Int) < (pre.length : Int)) = true := by simpa using hkc
      have hc1 : (intsF pre)[k * 1]? = some (iv pre[k]) := map_at hkc
      have hne : intsF pre ≠ [] := map_ne hkc
      have hkx : k < x.layers.length := by omega
      have hlen3 : (laysF (ownL x pre k)).length = x.layers.length * 3 := by rw [laysF, flatMap_length (s := 3) (fun _ => rfl), ownL_len]
      repeat (first
    | (apply s_storeR TY; exact rfl; exact rfl; exact rfl; exact rfl; exact rfl; (simp only [List.length_cons, List.length_nil]; omega))
    | (apply s_move_f; exact rfl; exact rfl)
    | (apply s_assign_f; exact rfl; exact rfl)
    | (apply s_load_pt TY; exact rfl; exact rfl; exact rfl; (first | exact rfl | assumption))
    | (apply s_lss; exact rfl; exact rfl; exact rfl)
    | (apply s_fld_bx TY; exact rfl; exact rfl; exact rfl)
    | (apply s_load_bx_o TY; exact rfl; exact rfl; exact rfl; exact rfl; exact rfl)
    | apply w_seq
    | apply w_region
    | apply s_nil
    | apply t_norm
    | apply k_norm
    | apply w_block
    | apply w_skip
    | (apply s_add; exact rfl; exact rfl; exact rfl; (omega))
    | (apply s_idxN TY; exact rfl; exact rfl; exact rfl; exact rfl; assumption; assumption)
    | (apply s_idxN_ow TY; exact rfl; exact rfl; exact rfl; exact rfl; exact rfl; assumption)
    | (apply w_condT; exact rfl; (first | exact rfl | assumption)))
      exact ⟨k + 1, by omega, by omega, gh_le ⟨le_upd rfl rfl (le_upd rfl trivial (le_upd rfl trivial (le_upd rfl rfl (le_upd rfl trivial (le_upd rfl trivial (le_upd rfl trivial (le_nil _))))))), le_hupd (by rw [← ownL_succ x pre hkc hxl]; rfl) trivial (le_hupd rfl (fun y hy => by simp at hy; rcases hy with rfl | rfl | rfl <;> first | trivial | rfl) (le_hupd rfl trivial (le_h0 _ _)))⟩⟩
    · have hc : decide ((k : Int) < (pre.length : Int)) = false := by simpa using hkc
      have hke : k = pre.length := by omega
      subst hke
      repeat (first
    | (apply s_move_f; exact rfl; exact rfl)
    | (apply s_lss; exact rfl; exact rfl; exact rfl)
    | apply w_seq
    | apply w_region
    | apply s_nil
    | apply t_norm
    | apply t_exit
    | apply k_hit
    | apply w_exit
    | (apply w_condF; exact rfl; (first | exact rfl | assumption)))
      apply s_ghost; exact rfl; exact gh_row 2 rfl
      repeat (first
    | (apply s_move_f; exact rfl; exact rfl)
    | (apply s_len TY; exact rfl; exact rfl; exact rfl)
    | (apply s_build TY; exact rfl; exact rfl; exact rfl; exact rfl; exact rfl)
    | apply w_seq
    | apply w_region
    | apply s_nil
    | apply t_norm
    | apply w_block
    | (apply s_call (SummN.toSumm (cloneI_s pre (by omega))); exact rfl; exact rfl; exact rfl; exact rfl)
    | (apply s_alloc TY; exact rfl; exact rfl; exact rfl)
    | (apply s_store TY; exact rfl; exact rfl; exact rfl; exact rfl; exact rfl; exact rfl))
      apply w_gh (gh_ownB 3 1 4 1 rfl rfl rfl)
      apply w_loop (fun k : Nat => ⟨(Ab.upd (Ab.upd (Ab.upd (Ab.upd (Ab.upd (Ab.upd (fun _ => .bot) 73 (.f (iv (k : Nat)))) 72 (.f (iv l.length))) 71 (.f (.sl l.length (flasF l)))) 14 (.bx 3 0)) 11 (.bx 1 0)) 0 (.ow 0)), (Ab.upd (Ab.upd (Ab.upd (Ab.upd (fun _ => none) 0 (some (.row 170 2 ms.length (modelsF ms)))) 1 (some (.box [.f (.sl (own x pre).layers.length (laysF (own x pre).layers)), .f (iv (own x pre).rows), .f (.sl (own x pre).tilt.length (intsF (own x pre).tilt))]))) 3 (some (.box [.f (.sl pre.length (intsF pre)), .ow 4]))) 4 (some (.row 4 1 k (boolsF ((explains (own x pre) l).take k))))), 5⟩) (fun k => k ≤ l.length) (fun k => l.length - k) 0 (Nat.zero_le _) (gh_le ⟨le_upd rfl rfl (le_upd rfl rfl (le_upd rfl rfl (le_upd rfl trivial (le_upd rfl trivial (le_upd rfl trivial (le_nil _)))))), le_hupd rfl trivial (le_hupd rfl (fun y hy => by simp at hy; rcases hy with rfl | rfl <;> first | trivial | rfl) (le_hupd (by rw [← ownL_end, ownL_len]; rfl) (fun y hy => by simp at hy; rcases hy with rfl | rfl | rfl <;> first | trivial | rfl) (le_hupd rfl trivial (le_h0 _ _))))⟩)
      intro k hk
      have hel : (explains (own x pre) l).length = l.length := by simp [explains]
      by_cases hkc : k < l.length
      · have hc : decide ((k : Int) < (l.length : Int)) = true := by simpa using hkc
        have hsub : ((flasF l).drop (k * 7)).take 7 = flaF l[k] := flat_sub (f := flaF) (fun _ => rfl) hkc
        have hne : flasF l ≠ [] := flat_ne (s := 7) (fun _ => rfl) (by decide) hkc
        have hin := hf l[k] (List.getElem_mem hkc)
        have hexp : (explains (own x pre) l)[k]'(by omega) = withinB (distOf (own x pre) l[k].frm l[k].to) l[k].time.lo l[k].time.hi := by simp [explains]
        have hv := own_valid K.v hpre
        repeat (first
    | (apply s_load_pts TY; exact rfl; exact rfl; exact rfl; (first | assumption | exact rfl); exact rfl)
    | (apply s_lss; exact rfl; exact rfl; exact rfl)
    | apply w_seq
    | apply w_region
    | apply s_nil
    | apply t_norm
    | apply w_block
    | apply w_skip
    | (apply s_idxN TY; exact rfl; exact rfl; exact rfl; exact rfl; assumption; assumption)
    | (apply s_alloc TY; exact rfl; exact rfl; exact rfl)
    | (apply s_store TY; exact rfl; exact rfl; exact rfl; exact rfl; exact rfl; exact rfl)
    | (apply w_condT; exact rfl; (first | exact rfl | assumption)))
        apply w_draw 17 rfl (by kernel_rfl)
        repeat (first
    | (apply s_lookup; exact rfl; exact rfl; exact rfl; exact rfl; exact (fun ob r w hG hr => look_s (x := own x pre) (fr := l[k].frm) (c := l[k].to) ((own_in x pre _).2 hin.2) ob r w hG hr); exact (fun w M => RepF.v _))
    | (apply s_append TY; exact rfl; exact rfl; exact rfl; exact rfl; exact rfl; exact rfl; exact rfl; exact rfl; exact rfl; (unfold maxLen; omega); omega)
    | (apply s_move_f; exact rfl; exact rfl)
    | (apply s_fld_bx TY; exact rfl; exact rfl; exact rfl)
    | (apply s_load_bx_f TY; exact rfl; exact rfl; exact rfl; exact rfl; exact rfl)
    | (apply s_load_bx_o TY; exact rfl; exact rfl; exact rfl; exact rfl; exact rfl)
    | (apply s_load_bxs TY; exact rfl; exact rfl; exact rfl; exact rfl; exact rfl; exact rfl)
    | (apply s_bslice TY; exact rfl; exact rfl; exact rfl; exact rfl; exact rfl; exact rfl)
    | apply w_region
    | apply s_nil
    | apply t_norm
    | apply k_norm
    | (apply s_call (times_s (own x pre) l[k].frm hv ((own_in x pre _).2 hin.1)); exact rfl; exact rfl; exact rfl; exact rfl)
    | (apply s_call (within_s _ _ _); exact rfl; exact rfl; exact rfl; exact rfl)
    | (apply s_add; exact rfl; exact rfl; exact rfl; (omega))
    | (apply s_store TY; exact rfl; exact rfl; exact rfl; exact rfl; exact rfl; exact rfl))
        exact ⟨k + 1, by omega, by omega, gh_le ⟨le_upd rfl rfl (le_upd rfl rfl (le_upd rfl rfl (le_upd rfl trivial (le_upd rfl trivial (le_upd rfl trivial (le_nil _)))))), le_hupd (by rw [boolsF_take (show k < (explains (own x pre) l).length by omega), hexp]; rfl) trivial (le_hupd rfl (fun y hy => by simp at hy; rcases hy with rfl | rfl <;> first | trivial | rfl) (le_hupd rfl (fun y hy => by simp at hy; rcases hy with rfl | rfl | rfl <;> first | trivial | rfl) (le_hupd rfl trivial (le_h0 _ _))))⟩⟩
      · have hc : decide ((k : Int) < (l.length : Int)) = false := by simpa using hkc
        have hke : k = l.length := by omega
        subst hke
        rw [List.take_of_length_le (by omega)]
        repeat (first
    | (apply s_lss; exact rfl; exact rfl; exact rfl)
    | (apply s_move_o; exact rfl; exact rfl)
    | apply w_seq
    | apply w_region
    | apply s_nil
    | apply t_norm
    | apply t_exit
    | apply k_hit
    | apply w_exit
    | (apply w_condF; exact rfl; (first | exact rfl | assumption)))
        apply s_ghost; exact rfl; exact gh_row 4 rfl
        repeat (first
    | (apply s_append TY; exact rfl; exact rfl; exact rfl; exact rfl; exact rfl; exact rfl; exact rfl; exact rfl; exact rfl; (unfold maxLen; omega); omega)
    | (apply s_assign_o; exact rfl; exact rfl)
    | (apply s_load_bxs TY; exact rfl; exact rfl; exact rfl; exact rfl; exact rfl; exact rfl)
    | (apply s_bslice TY; exact rfl; exact rfl; exact rfl; exact rfl; exact rfl; exact rfl)
    | apply s_nil
    | apply t_norm
    | apply w_ret)
        refine ⟨8, rfl, rfl, ?_⟩
        rw [modelsF_snoc, List.length_append]
        show _ = some (Blk.row 170 2 (ms.length + 1) (modelsF ms ++ [FV.sl pre.length (intsF pre), FV.sl (explains (own x pre) l).length (boolsF (explains (own x pre) l))]))
        rw [hel]
        rfl
end Go.Proofs.YtnmaabejdmaahaaGreatDoor.Ice
namespace Go.Proofs.YtnmaabejdmaahaaGreatDoor.Ice
open Go Go.RowKit Go.Proofs Go.Shelf Go.Ab
structure Small (x : Grid) (rs : List Rng) (l : List Flash) : Prop where
  nl : x.layers.length ≤ 140737488355328
  nt : x.tilt.length ≤ 140737488355328
  nr : rs.length ≤ 140737488355328
  nf : l.length ≤ 140737488355328
  name : ∀ f ∈ l, f.name.size ≤ 9223372036854775807
theorem CheckFlashes_s (x : Grid) (rs : List Rng) (l : List Flash) (b : Small x rs l) : Summ Tryz.prog GG 128 [classF x rs, .sl l.length (flasF l)] (.tup [iv (checkFlashes x rs l).1, iv (checkFlashes x rs l).2]) := by
  refine ⟨enters_of Tryz.func128 (by kernel_rfl) rfl, fun w M us hM hG R => ?_⟩
  obtain ⟨u1, us1, rfl, r1, R1⟩ := R.head
  obtain ⟨u2, us2, rfl, r2, R2⟩ := R1.head
  have := R2.end; subst this
  obtain ⟨la, ta, ra, lc, tc, rc, rfl, hg, hr⟩ := rep_classF r1 b.nl b.nt
  obtain ⟨fa, fc, rfl, hfc, hf⟩ := rep_row r2 (detC_flas l)
  refine (CheckFlashes_any la ta ra fa lc tc rc fc x rs l w hg hr b.nr ⟨hf, b.nf, b.name⟩ hfc).mono fun e w' ⟨h1, h2⟩ => ⟨_, h1, ?_, h2⟩
  have R := RepL.cons (RepF.v (w := w') (M := M) (.int .i64 (checkFlashes x rs l).1)) (RepL.cons (RepF.v (.int .i64 (checkFlashes x rs l).2)) (RepL.nil _ _))
  exact RepF.tup _ _ R.1 R.2
theorem containsB_s (l : List Bool) (v : Bool) (hl : l.length ≤ 140737488355328) : Summ Tryz.prog GG 96 [.sl l.length (boolsF l), .v (.bool v)] (.v (.bool (l.any fun b => v == b))) := by
  refine ⟨enters_of Tryz.func96 (by kernel_rfl) rfl, fun w M us hM hG R => ?_⟩
  obtain ⟨u1, us1, rfl, r1, R1⟩ := R.head
  obtain ⟨u2, us2, rfl, r2, R2⟩ := R1.head
  have := R2.end; subst this
  have := repV r2; subst this
  obtain ⟨a, c, rfl, _, hr⟩ := rep_row r1 (detC_bools l)
  exact (containsBool v a l c w hl hr).mono fun e w' ⟨h1, h2⟩ => ⟨_, h1, RepF.v _, h2 ▸ Ext.refl _⟩
theorem rep_nil {w : World} {M : Nat → Prop} {u : Value} (h : RepF w M u (.v (.slice none 0 0))) : RepF w M u (.sl 0 []) := by
  have := repV h; subst this
  exact RepF.sl none 0 0 [] [] (Nat.le_refl _) rfl (by simp) (fun h => absurd rfl h) (fun k u x h => by simp at h)
theorem flashScan_zero {x : Grid} {l : List Flash} : ∀ (f i : Nat), i + f = l.length → (flashScan x l f i).2 = 0 → ∀ j, i ≤ j → (hj : j < l.length) → flashE x (l.take j) l[j] = 0
  | 0, i, h, _, j, h1, hj => by omega
  | f + 1, i, h, hz, j, h1, hj => by
    have hi : i < l.length := by omega
    unfold flashScan at hz
    rw [getDF hi] at hz
    by_cases hr : (flashE x (l.take i) l[i] != 0) = true
    · rw [if_pos hr] at hz; simp at hr; exact absurd hz hr
    · rw [if_neg hr] at hz
      by_cases e : j = i
      · subst e; simpa using hr
      · exact flashScan_zero f (i + 1) (by omega) hz j (by omega) hj
structure FlashesOk (x : Grid) (rs : List Rng) (l : List Flash) : Prop where
  k : ClassOk x rs
  l8 : l.length ≤ 8
  cells : ∀ f ∈ l, InG x f.frm ∧ InG x f.to
theorem flashesOk {x : Grid} {rs : List Rng} {l : List Flash} (h : (checkFlashes x rs l).2 = 0) : FlashesOk x rs l := by
  unfold checkFlashes at h
  by_cases t1 : (flashE0 x rs l != 0) = true
  · rw [if_pos t1] at h; simp at t1; exact absurd h t1
  rw [if_neg t1] at h
  have h0 : flashE0 x rs l = 0 := by simpa using t1
  unfold flashE0 at h0
  rw [firstE_zero] at h0
  have k := classOk (h0 (checkClass x rs).2 (by simp))
  have h8 := (unlessE_zero (by decide)).1 (h0 (unlessE (decide ((l.length : Int) ≤ 8)) 8) (by simp))
  simp only [decide_eq_true_eq] at h8
  refine ⟨k, by omega, fun f hf => ?_⟩
  obtain ⟨j, hj, rfl⟩ := List.mem_iff_getElem.1 hf
  have hz := flashScan_zero (x := x) l.length 0 (by omega) h j (Nat.zero_le _) hj
  unfold flashE at hz
  rw [firstE_zero] at hz
  have a1 := (unlessE_zero (by decide)).1 (hz (cellErrE x l[j].frm) (by simp))
  have a2 := (unlessE_zero (by decide)).1 (hz (cellErrE x l[j].to) (by simp))
  exact ⟨(cellB_in k.v).1 a1, (cellB_in k.v).1 a2⟩
noncomputable def allMo (x : Grid) (rs : List Rng) (l : List Flash) : List (List Int × List Bool) := news x l rs []
theorem grown_nil (x : Grid) (rs : List Rng) (l : List Flash) (K : FlashesOk x rs l) : Summ Tryz.prog GG 129 [.v (.slice none 0 0), classF x rs, .sl l.length (flasF l), .v (.slice none 0 0)] (.sl (allMo x rs l).length (modelsF (allMo x rs l))) := by
  have G := grown_s x rs l K.k K.l8 K.cells rs.length [] [] (by simp) (by simp) (by simp; have := K.k.cnt; omega)
  simp only [List.nil_append, List.length_nil, List.drop_zero] at G
  refine ⟨G.enters, fun w M us hM hG R => ?_⟩
  obtain ⟨u1, us1, rfl, r1, R1⟩ := R.head
  obtain ⟨u2, us2, rfl, r2, R2⟩ := R1.head
  obtain ⟨u3, us3, rfl, r3, R3⟩ := R2.head
  obtain ⟨u4, us4, rfl, r4, R4⟩ := R3.head
  have := R4.end; subst this
  have e1 := repV r1; subst e1
  have hMM : ∀ b, b < w.heap.size → (M b ∨ bk (.slice none 0 0) = some b) → M b := fun b _ h => h.elim id (fun h => by simp [bk] at h)
  have RR : RepL w M [u2, u3, u4] [classF x rs, .sl l.length (flasF l), .sl 0 (intsF [])] := RepL.cons r2 (RepL.cons r3 (RepL.cons (rep_nil r4) (RepL.nil _ _)))
  refine (G.call w M [u2, u3, u4] (.slice none 0 0) [] hM (fun b hb => by simp [bk] at hb) (fun g cs hg => (hG g cs hg).ext (Ext.refl _) hMM) (RR.ext (Ext.refl _) hMM) (World.ownsRow_nil _ _ _ _) (by simp) (RepL.nil _ _)).mono ?_
  rintro e w' ⟨v', xs', rfl, h1, h2, h3, h4, h5⟩
  have hfr : ∀ c, bk v' = some c → w.heap.size ≤ c := fun c hc => (h5 c hc).elim (fun h => by simp [bk] at h) id
  refine ⟨v', rfl, own_sl (w := w) (e := 170) (sz := 2) (us := xs') ⟨h1.1, ?_⟩ h2 hM (h3.mono (fun _ _ _ => rfl) (Nat.le_refl _) (fun _ _ h => .inl h)), Ext.of_grown h4⟩
  rcases h1.2 with h | ⟨g, cap, cur, q1, q2, q3⟩
  · exact .inl h
  · exact .inr ⟨g, cap, cur, q1, hfr g (by rw [q1]; rfl), q3⟩
set_option maxRecDepth 100000 in
theorem openModels_ok (x : Grid) (rs : List Rng) (l : List Flash) (b : Small x rs l) (h : (checkFlashes x rs l).2 = 0) : Summ Tryz.prog GG 95 [classF x rs, .sl l.length (flasF l)] (.tup [.sl (allMo x rs l).length (modelsF (allMo x rs l)), iv 0]) := by
  have hb : (!decide ((checkFlashes x rs l).2 = 0)) = false := by simpa using h
  refine summW Tryz.func95 rfl rfl 20 rfl (by simp) (fun M0 => ?_)
  repeat (first
    | (apply s_move_f; exact rfl; exact rfl)
    | (apply s_assign_f; exact rfl; exact rfl)
    | (apply s_load_pts TY; exact rfl; exact rfl; exact rfl; (first | assumption | exact rfl); exact rfl)
    | (apply s_extract; exact rfl; exact rfl; exact rfl)
    | (apply s_box; exact rfl; exact rfl; exact rfl)
    | (apply s_neq; exact rfl; exact rfl; exact rfl)
    | apply w_seq
    | apply w_region
    | apply s_nil
    | apply t_norm
    | apply w_ret
    | apply w_skip
    | (apply s_call (CheckFlashes_s x rs l b); exact rfl; exact rfl; exact rfl; exact rfl)
    | (apply s_call (grown_nil x rs l (flashesOk h)); exact rfl; exact rfl; exact rfl; exact rfl)
    | (apply w_condF; exact rfl; (first | exact rfl | assumption)))
  exact lv_ret (ret2 rfl (res_tmp rfl) (res_tmp rfl))
noncomputable def fits (ms : List (List Int × List Bool)) : List (List Int) := (ms.filter fun m => !m.2.any fun b => false == b).map (·.1)
theorem fits_take {ms : List (List Int × List Bool)} {k : Nat} (hk : k < ms.length) : fits (ms.take (k + 1)) = fits (ms.take k) ++ (if (ms[k].2.any fun b => false == b) = true then [] else [ms[k].1]) := by
  unfold fits
  rw [List.take_succ_eq_append_getElem hk, List.filter_append, List.map_append]
  congr 1
  by_cases h : (ms[k].2.any fun b => false == b) = true
  · rw [if_pos h]; simp only [List.filter_cons, h]; rfl
  · rw [if_neg h]; simp only [List.filter_cons]; rw [show (ms[k].2.any fun b => false == b) = false by simpa using h]; rfl
theorem fits_len (ms : List (List Int × List Bool)) : (fits ms).length ≤ ms.length := by unfold fits; rw [List.length_map]; exact List.length_filter_le _ _
def rowF (r : List Int) : FV := .sl r.length (intsF r)
def matF (M : List (List Int)) : List FV := M.map rowF
theorem matF_snoc (M : List (List Int)) (r : List Int) : matF (M ++ [r]) = matF M ++ [rowF r] := by simp [matF]
noncomputable def modelsM (x : Grid) (rs : List Rng) (l : List Flash) : List (List Int) := fits (allMo x rs l)
theorem allMo_len {x : Grid} {rs : List Rng} {l : List Flash} (K : FlashesOk x rs l) : (allMo x rs l).length ≤ 300 := by unfold allMo news; rw [List.length_map]; exact K.k.cnt
theorem allMo_bools {x : Grid} {rs : List Rng} {l : List Flash} {m : List Int × List Bool} (h : m ∈ allMo x rs l) : m.2.length = l.length := by
  unfold allMo news at h
  obtain ⟨ds, _, rfl⟩ := List.mem_map.1 h
  simp [mo, explains]
set_option maxRecDepth 100000 in
theorem ModelsOf_ok (x : Grid) (rs : List Rng) (l : List Flash) (b : Small x rs l) (h : (checkFlashes x rs l).2 = 0) : Summ Tryz.prog GG 67 [classF x rs, .sl l.length (flasF l)] (.tup [.sl (modelsM x rs l).length (matF (modelsM x rs l)), iv 0]) := by
  have K := flashesOk h
  have h300 := allMo_len K
  have hb : (!decide ((0 : Int) = 0)) = false := by simp
  refine summW Tryz.func67 rfl rfl 37 rfl (by simp) (fun M0 => ?_)
  repeat (first
    | (apply s_move_f; exact rfl; exact rfl)
    | (apply s_assign_f; exact rfl; exact rfl)
    | (apply s_load_pts TY; exact rfl; exact rfl; exact rfl; (first | assumption | exact rfl); exact rfl)
    | (apply s_len TY; exact rfl; exact rfl; exact rfl)
    | (apply s_extract; exact rfl; exact rfl; exact rfl)
    | (apply s_box; exact rfl; exact rfl; exact rfl)
    | (apply s_neq; exact rfl; exact rfl; exact rfl)
    | apply w_seq
    | apply w_region
    | apply s_nil
    | apply t_norm
    | apply w_block
    | apply w_skip
    | (apply s_call (openModels_ok x rs l b h); exact rfl; exact rfl; exact rfl; exact rfl)
    | (apply w_condF; exact rfl; (first | exact rfl | assumption)))
  apply w_gh (gh_own 8 43 1 rfl rfl)
  apply w_loop (fun k : Nat => ⟨(Ab.upd (Ab.upd (Ab.upd (Ab.upd (fun _ => .bot) 8 (.ow 0)) 20 (.f (.sl (allMo x rs l).length (modelsF (allMo x rs l))))) 21 (.f (iv (allMo x rs l).length))) 22 (.f (iv (k : Nat)))), (Ab.upd (fun _ => none) 0 (some (.row 43 1 (fits ((allMo x rs l).take k)).length (matF (fits ((allMo x rs l).take k)))))), 1⟩) (fun k => k ≤ (allMo x rs l).length) (fun k => (allMo x rs l).length - k) 0 (Nat.zero_le _) (gh_le ⟨le_upd rfl trivial (le_upd rfl trivial (le_upd rfl trivial (le_upd rfl rfl (le_nil _)))), le_hupd rfl trivial (le_h0 _ _)⟩)
  intro k hk
  have hfl := fits_len ((allMo x rs l).take k)
  rw [List.length_take] at hfl
  by_cases hkc : k < (allMo x rs l).length
  · have hc : decide ((k : Int) < ((allMo x rs l).length : Int)) = true := by simpa using hkc
    have hsub : ((modelsF (allMo x rs l)).drop (k * 2)).take 2 = modF (allMo x rs l)[k] := flat_sub (f := modF) (fun _ => rfl) hkc
    have hne : modelsF (allMo x rs l) ≠ [] := flat_ne (s := 2) (fun _ => rfl) (by decide) hkc
    have hbl := allMo_bools (List.getElem_mem hkc)
    have h8 := K.l8
    have hft := fits_take hkc
    cases hany : ((allMo x rs l)[k].2.any fun b => false == b)
    · have hn : (!((allMo x rs l)[k].2.any fun b => false == b)) = true := by rw [hany]; rfl
      rw [hany] at hft
      simp only [Bool.false_eq_true, if_false] at hft
      repeat (first
    | (apply s_append TY; exact rfl; exact rfl; exact rfl; exact rfl; exact rfl; exact rfl; exact rfl; exact rfl; exact rfl; (unfold maxLen; omega); omega)
    | (apply s_move_f; exact rfl; exact rfl)
    | (apply s_load_pts TY; exact rfl; exact rfl; exact rfl; (first | assumption | exact rfl); exact rfl)
    | (apply s_not; exact rfl; exact rfl)
    | (apply s_lss; exact rfl; exact rfl; exact rfl)
    | (apply s_move_o; exact rfl; exact rfl)
    | (apply s_assign_o; exact rfl; exact rfl)
    | (apply s_fld_bx TY; exact rfl; exact rfl; exact rfl)
    | (apply s_load_bx_f TY; exact rfl; exact rfl; exact rfl; exact rfl; exact rfl)
    | (apply s_bslice TY; exact rfl; exact rfl; exact rfl; exact rfl; exact rfl; exact rfl)
    | apply w_seq
    | apply w_region
    | apply s_nil
    | apply t_norm
    | apply k_norm
    | apply w_block
    | apply w_skip
    | (apply s_call (containsB_s (allMo x rs l)[k].2 false (by omega)); exact rfl; exact rfl; exact rfl; exact rfl)
    | (apply s_add; exact rfl; exact rfl; exact rfl; (omega))
    | (apply s_idxN TY; exact rfl; exact rfl; exact rfl; exact rfl; assumption; assumption)
    | (apply s_alloc TY; exact rfl; exact rfl; exact rfl)
    | (apply s_store TY; exact rfl; exact rfl; exact rfl; exact rfl; exact rfl; exact rfl)
    | (apply w_condT; exact rfl; (first | exact rfl | assumption)))
      exact ⟨k + 1, by omega, by omega, gh_le ⟨le_upd rfl trivial (le_upd rfl trivial (le_upd rfl trivial (le_upd rfl rfl (le_nil _)))), le_hupd (by rw [hft, matF_snoc, List.length_append]; rfl) trivial (le_h0 _ _)⟩⟩
    · have hn : (!((allMo x rs l)[k].2.any fun b => false == b)) = false := by rw [hany]; rfl
      rw [hany] at hft
      simp only [if_true, List.append_nil] at hft
      repeat (first
    | (apply s_move_f; exact rfl; exact rfl)
    | (apply s_load_pts TY; exact rfl; exact rfl; exact rfl; (first | assumption | exact rfl); exact rfl)
    | (apply s_not; exact rfl; exact rfl)
    | (apply s_lss; exact rfl; exact rfl; exact rfl)
    | (apply s_fld_bx TY; exact rfl; exact rfl; exact rfl)
    | (apply s_load_bx_f TY; exact rfl; exact rfl; exact rfl; exact rfl; exact rfl)
    | apply w_seq
    | apply w_region
    | apply s_nil
    | apply t_norm
    | apply k_norm
    | apply w_block
    | apply w_skip
    | (apply s_call (containsB_s (allMo x rs l)[k].2 false (by omega)); exact rfl; exact rfl; exact rfl; exact rfl)
    | (apply s_add; exact rfl; exact rfl; exact rfl; (omega))
    | (apply s_idxN TY; exact rfl; exact rfl; exact rfl; exact rfl; assumption; assumption)
    | (apply s_alloc TY; exact rfl; exact rfl; exact rfl)
    | (apply s_store TY; exact rfl; exact rfl; exact rfl; exact rfl; exact rfl; exact rfl)
    | (apply w_condT; exact rfl; (first | exact rfl | assumption))
    | (apply w_condF; exact rfl; (first | exact rfl | assumption)))
      exact ⟨k + 1, by omega, by omega, gh_le ⟨le_upd rfl trivial (le_upd rfl trivial (le_upd rfl trivial (le_upd rfl rfl (le_nil _)))), le_hupd (by rw [hft]; rfl) trivial (le_h0 _ _)⟩⟩
  · have hc : decide ((k : Int) < ((allMo x rs l).length : Int)) = false := by simpa using hkc
    have hke : k = (allMo x rs l).length := by omega
    subst hke
    rw [List.take_length]
    repeat (first
    | (apply s_assign_f; exact rfl; exact rfl)
    | (apply s_lss; exact rfl; exact rfl; exact rfl)
    | (apply s_move_o; exact rfl; exact rfl)
    | (apply s_assign_o; exact rfl; exact rfl)
    | apply w_seq
    | apply w_region
    | apply s_nil
    | apply t_norm
    | apply t_exit
    | apply k_hit
    | apply w_exit
    | apply w_ret
    | (apply w_condF; exact rfl; (first | exact rfl | assumption)))
    exact lv_ret (ret_gh (gh_row 0 rfl) (ret2 rfl (res_tmp rfl) (res_tmp rfl)))
end Go.Proofs.YtnmaabejdmaahaaGreatDoor.Ice
namespace Go.Proofs.YtnmaabejdmaahaaGreatDoor.Ice
open Go Go.RowKit Go.Proofs Go.Shelf Go.Ab
theorem assigns_rows : ∀ (rs : List Rng) (pre ds : List Int), ds ∈ assigns rs pre → ds.length = pre.length + rs.length
  | [], pre, ds, h => by simp [assigns] at h; subst h; simp
  | r :: rs, pre, ds, h => by
    simp only [assigns, List.mem_flatMap] at h
    obtain ⟨n, _, h⟩ := h
    have := assigns_rows rs _ ds h
    simp at this ⊢; omega
theorem fits_mem {ms : List (List Int × List Bool)} {r : List Int} (h : r ∈ fits ms) : ∃ m ∈ ms, m.1 = r := by
  unfold fits at h
  obtain ⟨m, hm, rfl⟩ := List.mem_map.1 h
  exact ⟨m, (List.mem_filter.1 hm).1, rfl⟩
theorem modelsM_rows {x : Grid} {rs : List Rng} {l : List Flash} {r : List Int} (h : r ∈ modelsM x rs l) : r.length = rs.length := by
  obtain ⟨m, hm, rfl⟩ := fits_mem h
  unfold allMo news at hm
  obtain ⟨ds, hd, rfl⟩ := List.mem_map.1 hm
  have := assigns_rows rs [] ds hd
  simpa [mo] using this
def atI (M : List (List Int)) (k i : Nat) : Int := (M.getD k []).getD i 0
def loK (M : List (List Int)) (i : Nat) : Nat → Int
  | 0 => atI M 0 i
  | k + 1 => min (loK M i k) (atI M k i)
def hiK (M : List (List Int)) (i : Nat) : Nat → Int
  | 0 => atI M 0 i
  | k + 1 => max (hiK M i k) (atI M k i)
def rangesR (M : List (List Int)) (n : Nat) : List Rng := (List.range n).map fun i => ⟨loK M i M.length, hiK M i M.length⟩
theorem rangesR_succ (M : List (List Int)) (n : Nat) : rangesR M (n + 1) = rangesR M n ++ [⟨loK M n M.length, hiK M n M.length⟩] := by simp [rangesR, List.range_succ]
theorem rangesR_len (M : List (List Int)) (n : Nat) : (rangesR M n).length = n := by simp [rangesR]
theorem rngsF_snoc (l : List Rng) (r : Rng) : rngsF (l ++ [r]) = rngsF l ++ rngF r := by simp [rngsF]
theorem matF_at {M : List (List Int)} {k : Nat} (hk : k < M.length) : (matF M)[k * 1]? = some (rowF M[k]) := map_at hk
theorem atI_eq {M : List (List Int)} {k i : Nat} (hk : k < M.length) (hi : i < M[k].length) : atI M k i = M[k][i] := by
  unfold atI
  simp only [List.getD_eq_getElem?_getD, List.getElem?_eq_getElem hk, Option.getD_some, List.getElem?_eq_getElem hi]
set_option maxRecDepth 100000 in
set_option maxHeartbeats 1000000 in
theorem RangesOf_ok (x : Grid) (rs : List Rng) (l : List Flash) (b : Small x rs l) (h : (checkFlashes x rs l).2 = 0) (hm : 0 < (modelsM x rs l).length) : Summ Tryz.prog GG 25 [classF x rs, .sl l.length (flasF l)] (.tup [.sl (rangesR (modelsM x rs l) rs.length).length (rngsF (rangesR (modelsM x rs l) rs.length)), iv 0]) := by
  have K := flashesOk h
  have h6 := K.k.v.l6
  have hrl := K.k.len
  have h300 : (modelsM x rs l).length ≤ 300 := Nat.le_trans (fits_len _) (allMo_len K)
  have hu : unlessE (decide ((0 : Int) < ((modelsM x rs l).length : Int))) 12 = 0 := by unfold unlessE; rw [if_pos (by simpa using hm)]
  have hf : firstE [0, unlessE (decide ((0 : Int) < ((modelsM x rs l).length : Int))) 12] = 0 := by rw [hu]; rfl
  have hb : (!decide (firstE [0, unlessE (decide ((0 : Int) < ((modelsM x rs l).length : Int))) 12] = 0)) = false := by rw [hf]; rfl
  have hne : matF (modelsM x rs l) ≠ [] := map_ne hm
  have hm0 : (matF (modelsM x rs l))[0]? = some (rowF (modelsM x rs l)[0]) := by have := matF_at hm; simpa using this
  have hl0 : (modelsM x rs l)[0].length = rs.length := modelsM_rows (List.getElem_mem hm)
  refine summW Tryz.func25 rfl rfl 76 rfl (by simp) (fun M0 => ?_)
  repeat (first
    | (apply s_move_f; exact rfl; exact rfl)
    | (apply s_assign_f; exact rfl; exact rfl)
    | (apply s_fld_pt TY; exact rfl; exact rfl; exact rfl)
    | (apply s_load_pt TY; exact rfl; exact rfl; exact rfl; (first | exact rfl | assumption))
    | (apply s_load_pts TY; exact rfl; exact rfl; exact rfl; (first | assumption | exact rfl); exact rfl)
    | (apply s_len TY; exact rfl; exact rfl; exact rfl)
    | (apply s_extract; exact rfl; exact rfl; exact rfl)
    | (apply s_box; exact rfl; exact rfl; exact rfl)
    | (apply s_gtr; exact rfl; exact rfl; exact rfl)
    | (apply s_neq; exact rfl; exact rfl; exact rfl)
    | (apply s_bslice TY; exact rfl; exact rfl; exact rfl; exact rfl; exact rfl; exact rfl)
    | apply w_seq
    | apply w_region
    | apply s_nil
    | apply t_norm
    | apply w_block
    | apply w_skip
    | (apply s_call (ModelsOf_ok x rs l b h); exact rfl; exact rfl; exact rfl; exact rfl)
    | (apply s_call (unless_s _ _); exact rfl; exact rfl; exact rfl; exact rfl)
    | (apply s_call (first_s [0, unlessE (decide ((0 : Int) < ((modelsM x rs l).length : Int))) 12] (by simp)); exact rfl; exact rfl; exact rfl; exact rfl)
    | (apply w_condF; exact rfl; (first | exact rfl | assumption)))
  apply w_gh (gh_own 8 23 2 rfl rfl)
  apply w_loop (fun i : Nat => ⟨(Ab.upd (Ab.upd (Ab.upd (Ab.upd (fun _ => .bot) 6 (.f (.sl (modelsM x rs l).length (matF (modelsM x rs l))))) 8 (.ow 0)) 31 (.f (iv rs.length))) 32 (.f (iv (i : Nat)))), (Ab.upd (fun _ => none) 0 (some (.row 23 2 i (rngsF (rangesR (modelsM x rs l) i))))), 1⟩) (fun i => i ≤ rs.length) (fun i => rs.length - i) 0 (Nat.zero_le _) (gh_le ⟨le_upd rfl trivial (le_upd rfl trivial (le_upd rfl rfl (le_upd rfl trivial (le_nil _)))), le_hupd rfl trivial (le_h0 _ _)⟩)
  intro i hi
  by_cases hic : i < rs.length
  · have hc : decide ((i : Int) < (rs.length : Int)) = true := by simpa using hic
    have hi0 : i < (modelsM x rs l)[0].length := by omega
    have hc0 : (intsF (modelsM x rs l)[0])[i * 1]? = some (iv (modelsM x rs l)[0][i]) := map_at hi0
    have hne0 : intsF (modelsM x rs l)[0] ≠ [] := map_ne hi0
    have ha0 := atI_eq hm hi0
    repeat (first
    | (apply s_move_f; exact rfl; exact rfl)
    | (apply s_assign_f; exact rfl; exact rfl)
    | (apply s_lss; exact rfl; exact rfl; exact rfl)
    | apply w_seq
    | apply w_region
    | apply s_nil
    | apply t_norm
    | apply w_block
    | apply w_skip
    | (apply w_condT; exact rfl; (first | exact rfl | assumption)))
    apply w_draw 14 rfl (by kernel_rfl)
    repeat (first
    | (apply s_move_f; exact rfl; exact rfl)
    | (apply s_load_pt TY; exact rfl; exact rfl; exact rfl; (first | exact rfl | assumption))
    | (apply s_len TY; exact rfl; exact rfl; exact rfl)
    | (apply s_build TY; exact rfl; exact rfl; exact rfl; exact rfl; exact rfl)
    | apply w_seq
    | apply w_region
    | apply s_nil
    | apply t_norm
    | apply w_block
    | (apply s_idxN TY; exact rfl; exact rfl; exact rfl; exact rfl; assumption; assumption)
    | (apply s_alloc TY; exact rfl; exact rfl; exact rfl)
    | (apply s_store TY; exact rfl; exact rfl; exact rfl; exact rfl; exact rfl; exact rfl))
    apply w_loop (fun k : Nat => ⟨(Ab.upd (Ab.upd (Ab.upd (Ab.upd (Ab.upd (Ab.upd (Ab.upd (Ab.upd (Ab.upd (fun _ => .bot) 6 (.f (.sl (modelsM x rs l).length (matF (modelsM x rs l))))) 8 (.ow 0)) 9 (.f (iv (i : Nat)))) 10 (.bx 1 0)) 31 (.f (iv rs.length))) 32 (.f (iv (i : Nat)))) 48 (.f (.sl (modelsM x rs l).length (matF (modelsM x rs l))))) 49 (.f (iv (modelsM x rs l).length))) 50 (.f (iv (k : Nat)))), (Ab.upd (Ab.upd (fun _ => none) 0 (some (.row 23 2 i (rngsF (rangesR (modelsM x rs l) i))))) 1 (some (.box [.f (iv (loK (modelsM x rs l) i k)), .f (iv (hiK (modelsM x rs l) i k))]))), 2⟩) (fun k => k ≤ (modelsM x rs l).length) (fun k => (modelsM x rs l).length - k) 0 (Nat.zero_le _) (gh_le ⟨le_upd rfl trivial (le_upd rfl trivial (le_upd rfl trivial (le_upd rfl trivial (le_upd rfl trivial (le_upd rfl rfl (le_upd rfl trivial (le_upd rfl rfl (le_upd rfl trivial (le_nil _))))))))), le_hupd (by rw [loK, hiK, ha0]; rfl) (fun y hy => by simp at hy; rcases hy with rfl | rfl <;> first | trivial | rfl) (le_hupd rfl trivial (le_h0 _ _))⟩)
    intro k hk
    by_cases hkc : k < (modelsM x rs l).length
    · have hck : decide ((k : Int) < ((modelsM x rs l).length : Int)) = true := by simpa using hkc
      have hlk : (modelsM x rs l)[k].length = rs.length := modelsM_rows (List.getElem_mem hkc)
      have hik : i < (modelsM x rs l)[k].length := by omega
      have hr : (matF (modelsM x rs l))[k * 1]? = some (rowF (modelsM x rs l)[k]) := matF_at hkc
      have hci : (intsF (modelsM x rs l)[k])[i * 1]? = some (iv (modelsM x rs l)[k][i]) := map_at hik
      have hnek : intsF (modelsM x rs l)[k] ≠ [] := map_ne hik
      have hak := atI_eq hkc hik
      repeat (first
    | (apply s_assign_f; exact rfl; exact rfl)
    | (apply s_load_pt TY; exact rfl; exact rfl; exact rfl; (first | exact rfl | assumption))
    | (apply s_lss; exact rfl; exact rfl; exact rfl)
    | apply w_seq
    | apply w_region
    | apply s_nil
    | apply t_norm
    | apply w_block
    | apply w_skip
    | (apply s_idxN TY; exact rfl; exact rfl; exact rfl; exact rfl; assumption; assumption)
    | (apply w_condT; exact rfl; (first | exact rfl | assumption)))
      apply w_draw 15 rfl (by kernel_rfl)
      repeat (first
    | (apply s_move_f; exact rfl; exact rfl)
    | (apply s_load_pt TY; exact rfl; exact rfl; exact rfl; (first | exact rfl | assumption))
    | (apply s_fld_bx TY; exact rfl; exact rfl; exact rfl)
    | (apply s_load_bx_f TY; exact rfl; exact rfl; exact rfl; exact rfl; exact rfl)
    | (apply s_min; exact rfl; exact rfl; exact rfl)
    | (apply s_max; exact rfl; exact rfl; exact rfl)
    | (apply s_build TY; exact rfl; exact rfl; exact rfl; exact rfl; exact rfl)
    | apply w_region
    | apply s_nil
    | apply t_norm
    | apply k_norm
    | (apply s_add; exact rfl; exact rfl; exact rfl; (omega))
    | (apply s_idxN TY; exact rfl; exact rfl; exact rfl; exact rfl; assumption; assumption)
    | (apply s_store TY; exact rfl; exact rfl; exact rfl; exact rfl; exact rfl; exact rfl))
      exact ⟨k + 1, by omega, by omega, gh_le ⟨le_upd rfl trivial (le_upd rfl trivial (le_upd rfl trivial (le_upd rfl trivial (le_upd rfl trivial (le_upd rfl rfl (le_upd rfl trivial (le_upd rfl rfl (le_upd rfl trivial (le_nil _))))))))), le_hupd (by rw [loK, hiK, hak]; rfl) (fun y hy => by simp at hy; rcases hy with rfl | rfl <;> first | trivial | rfl) (le_hupd rfl trivial (le_h0 _ _))⟩⟩
    · have hck : decide ((k : Int) < ((modelsM x rs l).length : Int)) = false := by simpa using hkc
      have hke : k = (modelsM x rs l).length := by omega
      subst hke
      repeat (first
    | (apply s_append TY; exact rfl; exact rfl; exact rfl; exact rfl; exact rfl; exact rfl; exact rfl; exact rfl; exact rfl; (unfold maxLen; omega); omega)
    | (apply s_move_f; exact rfl; exact rfl)
    | (apply s_lss; exact rfl; exact rfl; exact rfl)
    | (apply s_move_o; exact rfl; exact rfl)
    | (apply s_assign_o; exact rfl; exact rfl)
    | (apply s_load_bxs TY; exact rfl; exact rfl; exact rfl; exact rfl; exact rfl; exact rfl)
    | (apply s_bslice TY; exact rfl; exact rfl; exact rfl; exact rfl; exact rfl; exact rfl)
    | apply w_seq
    | apply w_region
    | apply s_nil
    | apply t_norm
    | apply t_exit
    | apply k_hit
    | apply k_norm
    | apply w_exit
    | (apply s_add; exact rfl; exact rfl; exact rfl; (omega))
    | (apply w_condF; exact rfl; (first | exact rfl | assumption)))
      exact ⟨i + 1, by omega, by omega, gh_le ⟨le_upd rfl trivial (le_upd rfl trivial (le_upd rfl rfl (le_upd rfl trivial (le_nil _)))), le_hupd (by rw [rangesR_succ, rngsF_snoc]; rfl) trivial (le_h0 _ _)⟩⟩
  · have hc : decide ((i : Int) < (rs.length : Int)) = false := by simpa using hic
    have hie : i = rs.length := by omega
    subst hie
    repeat (first
    | (apply s_assign_f; exact rfl; exact rfl)
    | (apply s_lss; exact rfl; exact rfl; exact rfl)
    | (apply s_move_o; exact rfl; exact rfl)
    | (apply s_assign_o; exact rfl; exact rfl)
    | apply w_seq
    | apply w_region
    | apply s_nil
    | apply t_norm
    | apply t_exit
    | apply k_hit
    | apply w_exit
    | apply w_ret
    | (apply w_condF; exact rfl; (first | exact rfl | assumption)))
    rw [rangesR_len]
    exact lv_ret (ret_gh (gh_row 0 rfl) (ret2 rfl (res_tmp rfl) (res_tmp rfl)))
end Go.Proofs.YtnmaabejdmaahaaGreatDoor.Ice
namespace Go.Proofs.YtnmaabejdmaahaaGreatDoor.Ice
open Go.RowKit Go.Proofs Go.Shelf
def grid0 : Grid := ⟨[⟨2, 100, 500⟩, ⟨5, 0, 0⟩], 2, [0, 0, 1]⟩
def rngs0 : List Rng := [⟨1, 3⟩, ⟨5, 5⟩]
def hole0 : Hole := ⟨[20, 16, 16], [1, 1, 2], 10⟩
end Go.Proofs.YtnmaabejdmaahaaGreatDoor.Ice
namespace Go.Proofs.YtnmaabejdmaahaaGreatDoor.Ice
open Go.RowKit Go.Proofs Go.Shelf
attribute [local go_sem ↓] eql_cel neq_cel
theorem stood101 : Tryz.prog.stoodInHeld 23 = false := by kernel_rfl
theorem fields101 : Tryz.prog.fieldsOf 23 = #[{ name := "Lo", type := 3, offset := 0, embedded := false, tag := "", pkgPath := "", byteOffset := 0 }, { name := "Hi", type := 3, offset := 1, embedded := false, tag := "", pkgPath := "", byteOffset := 8 }] := by kernel_rfl
theorem equalIn_rng (d : Nat) (a b : Rng) (W : World) : (Op.equalIn (d + 2) 23 (.agg #[.int .i64 a.lo, .int .i64 a.hi]) (.agg #[.int .i64 b.lo, .int .i64 b.hi])).run Tryz.prog W = .ok (decide (a = b)) W := by
  rw [run_equalIn_agg W (d + 1) 23 _ _ (by rw [fields101]; exact Tryz.underlying23) stood101, fields101]
  have e : decide (a = b) = (a.lo == b.lo && a.hi == b.hi) := by
    cases a; cases b; simp [Rng.mk.injEq]; rfl
  rw [e]
  cases h1 : a.lo == b.lo <;> cases h2 : a.hi == b.hi <;> simp [Op.eqFields, part, run_equalIn_int W d 3 _ _ _ _ Tryz.underlying3, h1, h2]
theorem neq_rng (a b : Rng) (W : World) : (binOp .neq 23 (.agg #[.int .i64 a.lo, .int .i64 a.hi]) (.agg #[.int .i64 b.lo, .int .i64 b.hi])).run Tryz.prog W = .ok (.bool (!decide (a = b))) W := by
  rw [run_neq_struct, equalIn_rng 9998 a b W]
  rfl
attribute [local go_sem ↓] neq_rng
theorem list_eq_of {α : Type} {l m : List α} (hl : l.length = m.length) (h : ∀ j (h1 : j < l.length) (h2 : j < m.length), l[j] = m[j]) : l = m := List.ext_getElem hl h
set_option maxRecDepth 100000 in
theorem Ints_any (a a' : Option Addr) (l m : List Int) (c c' : Nat) (w : World) (hl : RowS encI w a l) (hm : RowS encI w a' m) (hn : l.length ≤ 140737488355328) :
    Calls Tryz.prog 57 #[.slice a l.length c, .slice a' m.length c'] w fun e w' => e = .returned (.bool (decide (l = m))) ∧ Ext w w' := by
  have HL := Lib.hid hl
  have HM := Lib.hid hm
  clear hl hm
  go_enter Tryz.func57, Tryz.ntmps57
  by_cases hlen : ((l.length : Int) != (m.length : Int)) = true
  · go_wp2_with fail
    go_ret
    exact ⟨ret_bool (by symm; simp only [decide_eq_false_iff_not]; intro e; subst e; simp at hlen), Ext.refl _⟩
  have hle : l.length = m.length := by
    have : (l.length : Int) = m.length := by simpa using hlen
    omega
  replace hlen : ((l.length : Int) != (m.length : Int)) = false := by simpa using hlen
  have HLE := Lib.hid hle
  clear hle
  go_wp2_with fail
  go_loopw [5] (fun i wr => ∃ k : Nat, k ≤ l.length ∧ i = .int .i64 k ∧ Hid (Ext w wr) ∧ Hid (∀ j (h1 : j < l.length) (h2 : j < m.length), j < k → l[j] = m[j])) (fun i _ => l.length - (intOf i).toNat)
  case atStart => exact ⟨0, Nat.zero_le _, rfl, Lib.hid (Ext.refl _), Lib.hid (fun _ _ _ h => absurd h (Nat.not_lt_zero _))⟩
  case round =>
  obtain ⟨k, hk, rfl, Hx, Hf⟩ := hrel
  by_cases hlt : k < l.length
  · have hlt2 : k < m.length := by rw [← HLE.out]; exact hlt
    obtain ⟨b1, o1, rfl, q1, hc⟩ := (HL.out.ext Hx.out).get encI_length (by decide) hlt
    obtain ⟨b2, o2, rfl, q2, hd⟩ := (HM.out.ext Hx.out).get encI_length (by decide) hlt2
    have c0 : wr.cell? ⟨b1, o1 + k, none⟩ = some (.int .i64 l[k]) := by have := hc k 0 hlt (by decide); rwa [Nat.mul_one] at this
    have d0 : wr.cell? ⟨b2, o2 + k, none⟩ = some (.int .i64 m[k]) := by have := hd k 0 hlt2 (by decide); rwa [Nat.mul_one] at this
    clear hc hd
    go_wp2_with fail
    refine wp_region_over_all (by kernel_rfl) (by kernel_rfl) ?_
    repeat (quiet_step (fail))
    refine wpQuiet_nil ?_
    rintro _ ⟨x1, rfl⟩
    have Hx2 := Lib.hid (Hx.out.trans (wr.over_ext x1))
    have HN := Lib.hid hlt2
    cases t : (l[k] != m[k])
    · have he : l[k] = m[k] := by simpa using t
      have HE := Lib.hid he
      clear he
      go_wp2_with fail
      go_roundw
      case rel => exact ⟨k + 1, by omega, by go_num, Hx2, Lib.hid (fun j h1 h2 hj => by rcases Nat.lt_succ_iff_lt_or_eq.1 hj with h' | rfl; exact Hf.out j h1 h2 h'; exact HE.out)⟩
      case measure => simp [intOf]; omega
    · have he : ¬ l[k] = m[k] := by simpa using t
      have HE := Lib.hid he
      clear he
      go_wp2_with fail
      go_ret
      exact ⟨ret_bool (by symm; simp only [decide_eq_false_iff_not]; intro e; subst e; exact HE.out rfl), Hx2.out⟩
  · go_wp2_with fail
    go_ret
    exact ⟨ret_bool (by symm; simp only [decide_eq_true_eq]; exact list_eq_of HLE.out (fun j h1 h2 => Hf.out j h1 h2 (by omega))), Hx.out⟩
set_option maxRecDepth 100000 in
theorem SameWay_any (a a' : Option Addr) (l m : List Cel) (c c' : Nat) (w : World) (hl : RowS Cel.enc w a l) (hm : RowS Cel.enc w a' m) (hn : l.length ≤ 140737488355328) :
    Calls Tryz.prog 30 #[.slice a l.length c, .slice a' m.length c'] w fun e w' => e = .returned (.bool (decide (l = m))) ∧ Ext w w' := by
  have HL := Lib.hid hl
  have HM := Lib.hid hm
  clear hl hm
  go_enter Tryz.func30, Tryz.ntmps30
  by_cases hlen : ((l.length : Int) != (m.length : Int)) = true
  · go_wp2_with fail
    go_ret
    exact ⟨ret_bool (by symm; simp only [decide_eq_false_iff_not]; intro e; subst e; simp at hlen), Ext.refl _⟩
  have hle : l.length = m.length := by
    have : (l.length : Int) = m.length := by simpa using hlen
    omega
  replace hlen : ((l.length : Int) != (m.length : Int)) = false := by simpa using hlen
  have HLE := Lib.hid hle
  clear hle
  go_wp2_with fail
  go_loopw [5] (fun i wr => ∃ k : Nat, k ≤ l.length ∧ i = .int .i64 k ∧ Hid (Ext w wr) ∧ Hid (∀ j (h1 : j < l.length) (h2 : j < m.length), j < k → l[j] = m[j])) (fun i _ => l.length - (intOf i).toNat)
  case atStart => exact ⟨0, Nat.zero_le _, rfl, Lib.hid (Ext.refl _), Lib.hid (fun _ _ _ h => absurd h (Nat.not_lt_zero _))⟩
  case round =>
  obtain ⟨k, hk, rfl, Hx, Hf⟩ := hrel
  by_cases hlt : k < l.length
  · have hlt2 : k < m.length := by rw [← HLE.out]; exact hlt
    obtain ⟨b1, o1, rfl, q1, hc⟩ := (HL.out.ext Hx.out).get Cel.enc_length (by decide) hlt
    obtain ⟨b2, o2, rfl, q2, hd⟩ := (HM.out.ext Hx.out).get Cel.enc_length (by decide) hlt2
    have c0 : wr.cell? ⟨b1, o1 + k * 2, none⟩ = some (.int .i64 l[k].col) := by have := hc k 0 hlt (by decide); exact this
    have c1 : wr.cell? ⟨b1, o1 + k * 2 + 1, none⟩ = some (.int .i64 l[k].row) := by have := hc k 1 hlt (by decide); exact this
    have d0 : wr.cell? ⟨b2, o2 + k * 2, none⟩ = some (.int .i64 m[k].col) := by have := hd k 0 hlt2 (by decide); exact this
    have d1 : wr.cell? ⟨b2, o2 + k * 2 + 1, none⟩ = some (.int .i64 m[k].row) := by have := hd k 1 hlt2 (by decide); exact this
    clear hc hd
    go_wp2_with fail
    refine wp_region_over_all (by kernel_rfl) (by kernel_rfl) ?_
    repeat (quiet_step (fail))
    refine wpQuiet_nil ?_
    rintro _ ⟨x1, rfl⟩
    have Hx2 := Lib.hid (Hx.out.trans (wr.over_ext x1))
    have HN := Lib.hid hlt2
    cases t : (!decide (l[k] = m[k]))
    · have he : l[k] = m[k] := by simpa using t
      have HE := Lib.hid he
      clear he
      go_wp2_with fail
      go_roundw
      case rel => exact ⟨k + 1, by omega, by go_num, Hx2, Lib.hid (fun j h1 h2 hj => by rcases Nat.lt_succ_iff_lt_or_eq.1 hj with h' | rfl; exact Hf.out j h1 h2 h'; exact HE.out)⟩
      case measure => simp [intOf]; omega
    · have he : ¬ l[k] = m[k] := by simpa using t
      have HE := Lib.hid he
      clear he
      go_wp2_with fail
      go_ret
      exact ⟨ret_bool (by symm; simp only [decide_eq_false_iff_not]; intro e; subst e; exact HE.out rfl), Hx2.out⟩
  · go_wp2_with fail
    go_ret
    exact ⟨ret_bool (by symm; simp only [decide_eq_true_eq]; exact list_eq_of HLE.out (fun j h1 h2 => Hf.out j h1 h2 (by omega))), Hx.out⟩
set_option maxRecDepth 100000 in
theorem Ranges_any (a a' : Option Addr) (l m : List Rng) (c c' : Nat) (w : World) (hl : RowS Rng.enc w a l) (hm : RowS Rng.enc w a' m) (hn : l.length ≤ 140737488355328) :
    Calls Tryz.prog 31 #[.slice a l.length c, .slice a' m.length c'] w fun e w' => e = .returned (.bool (decide (l = m))) ∧ Ext w w' := by
  have HL := Lib.hid hl
  have HM := Lib.hid hm
  clear hl hm
  go_enter Tryz.func31, Tryz.ntmps31
  by_cases hlen : ((l.length : Int) != (m.length : Int)) = true
  · go_wp2_with fail
    go_ret
    exact ⟨ret_bool (by symm; simp only [decide_eq_false_iff_not]; intro e; subst e; simp at hlen), Ext.refl _⟩
  have hle : l.length = m.length := by
    have : (l.length : Int) = m.length := by simpa using hlen
    omega
  replace hlen : ((l.length : Int) != (m.length : Int)) = false := by simpa using hlen
  have HLE := Lib.hid hle
  clear hle
  go_wp2_with fail
  go_loopw [5] (fun i wr => ∃ k : Nat, k ≤ l.length ∧ i = .int .i64 k ∧ Hid (Ext w wr) ∧ Hid (∀ j (h1 : j < l.length) (h2 : j < m.length), j < k → l[j] = m[j])) (fun i _ => l.length - (intOf i).toNat)
  case atStart => exact ⟨0, Nat.zero_le _, rfl, Lib.hid (Ext.refl _), Lib.hid (fun _ _ _ h => absurd h (Nat.not_lt_zero _))⟩
  case round =>
  obtain ⟨k, hk, rfl, Hx, Hf⟩ := hrel
  by_cases hlt : k < l.length
  · have hlt2 : k < m.length := by rw [← HLE.out]; exact hlt
    obtain ⟨b1, o1, rfl, q1, hc⟩ := (HL.out.ext Hx.out).get Rng.enc_length (by decide) hlt
    obtain ⟨b2, o2, rfl, q2, hd⟩ := (HM.out.ext Hx.out).get Rng.enc_length (by decide) hlt2
    have c0 : wr.cell? ⟨b1, o1 + k * 2, none⟩ = some (.int .i64 l[k].lo) := by have := hc k 0 hlt (by decide); exact this
    have c1 : wr.cell? ⟨b1, o1 + k * 2 + 1, none⟩ = some (.int .i64 l[k].hi) := by have := hc k 1 hlt (by decide); exact this
    have d0 : wr.cell? ⟨b2, o2 + k * 2, none⟩ = some (.int .i64 m[k].lo) := by have := hd k 0 hlt2 (by decide); exact this
    have d1 : wr.cell? ⟨b2, o2 + k * 2 + 1, none⟩ = some (.int .i64 m[k].hi) := by have := hd k 1 hlt2 (by decide); exact this
    clear hc hd
    go_wp2_with fail
    refine wp_region_over_all (by kernel_rfl) (by kernel_rfl) ?_
    repeat (quiet_step (fail))
    refine wpQuiet_nil ?_
    rintro _ ⟨x1, rfl⟩
    have Hx2 := Lib.hid (Hx.out.trans (wr.over_ext x1))
    have HN := Lib.hid hlt2
    cases t : (!decide (l[k] = m[k]))
    · have he : l[k] = m[k] := by simpa using t
      have HE := Lib.hid he
      clear he
      go_wp2_with fail
      go_roundw
      case rel => exact ⟨k + 1, by omega, by go_num, Hx2, Lib.hid (fun j h1 h2 hj => by rcases Nat.lt_succ_iff_lt_or_eq.1 hj with h' | rfl; exact Hf.out j h1 h2 h'; exact HE.out)⟩
      case measure => simp [intOf]; omega
    · have he : ¬ l[k] = m[k] := by simpa using t
      have HE := Lib.hid he
      clear he
      go_wp2_with fail
      go_ret
      exact ⟨ret_bool (by symm; simp only [decide_eq_false_iff_not]; intro e; subst e; exact HE.out rfl), Hx2.out⟩
  · go_wp2_with fail
    go_ret
    exact ⟨ret_bool (by symm; simp only [decide_eq_true_eq]; exact list_eq_of HLE.out (fun j h1 h2 => Hf.out j h1 h2 (by omega))), Hx.out⟩
end Go.Proofs.YtnmaabejdmaahaaGreatDoor.Ice
namespace Go.Proofs.YtnmaabejdmaahaaGreatDoor.Ice
open Go.RowKit Go.Proofs Go.Shelf
set_option maxRecDepth 100000 in
theorem SameTimes_any (a a' : Option Addr) (ss ss' : List Sl) (M M' : List (List Int)) (c c' : Nat) (w : World) (hl : MatAt w a ss M) (hm : MatAt w a' ss' M') (hn : M.length ≤ 140737488355328) (hn2 : ∀ r ∈ M, r.length ≤ 140737488355328) :
    Calls Tryz.prog 29 #[.slice a M.length c, .slice a' M'.length c'] w fun e w' => e = .returned (.bool (decide (M = M'))) ∧ Ext w w' := by
  have HL := Lib.hid hl
  have HM := Lib.hid hm
  clear hl hm
  go_enter Tryz.func29, Tryz.ntmps29
  by_cases hlen : ((M.length : Int) != (M'.length : Int)) = true
  · go_wp2_with fail
    go_ret
    exact ⟨ret_bool (by symm; simp only [decide_eq_false_iff_not]; intro e; subst e; simp at hlen), Ext.refl _⟩
  have hle : M.length = M'.length := by
    have : (M.length : Int) = M'.length := by simpa using hlen
    omega
  replace hlen : ((M.length : Int) != (M'.length : Int)) = false := by simpa using hlen
  have HLE := Lib.hid hle
  clear hle
  go_wp2_with fail
  go_loopw [5] (fun i wr => ∃ k : Nat, k ≤ M.length ∧ i = .int .i64 k ∧ Hid (Ext w wr) ∧ Hid (∀ j (h1 : j < M.length) (h2 : j < M'.length), j < k → M[j] = M'[j])) (fun i _ => M.length - (intOf i).toNat)
  case atStart => exact ⟨0, Nat.zero_le _, rfl, Lib.hid (Ext.refl _), Lib.hid (fun _ _ _ h => absurd h (Nat.not_lt_zero _))⟩
  case round =>
  obtain ⟨k, hk, rfl, Hx, Hf⟩ := hrel
  by_cases hlt : k < M.length
  · have hlt2 : k < M'.length := by rw [← HLE.out]; exact hlt
    have s1 : k < ss.length := by rw [HL.out.len]; exact hlt
    have s2 : k < ss'.length := by rw [HM.out.len]; exact hlt2
    obtain ⟨b1, o1, rfl, q1, hc⟩ := (HL.out.row.ext Hx.out).get Sl.enc_length (by decide) s1
    obtain ⟨b2, o2, rfl, q2, hd⟩ := (HM.out.row.ext Hx.out).get Sl.enc_length (by decide) s2
    have e1 := HL.out.rows k s1 hlt
    have e2 := HM.out.rows k s2 hlt2
    have c0 : wr.cell? ⟨b1, o1 + k, none⟩ = some (.slice ss[k].a M[k].length ss[k].c) := by have := hc k 0 s1 (by decide); rw [Nat.mul_one] at this; rw [← e1.1]; exact this
    have d0 : wr.cell? ⟨b2, o2 + k, none⟩ = some (.slice ss'[k].a M'[k].length ss'[k].c) := by have := hd k 0 s2 (by decide); rw [Nat.mul_one] at this; rw [← e2.1]; exact this
    have LC : Hid (∀ y, Calls Tryz.prog 57 #[.slice ss[k].a M[k].length ss[k].c, .slice ss'[k].a M'[k].length ss'[k].c] (wr.over y) fun e w' => e = .returned (.bool (decide (M[k] = M'[k]))) ∧ Ext (wr.over y) w') := Lib.hid (fun y =>
      Ints_any _ _ _ _ _ _ _ (e1.2.ext (Hx.out.trans (wr.over_ext y))) (e2.2.ext (Hx.out.trans (wr.over_ext y))) (hn2 _ (List.getElem_mem hlt)))
    clear hc hd e1 e2
    go_wp2_with fail
    refine wp_region_over_all (by kernel_rfl) (by kernel_rfl) ?_
    repeat (quiet_step ((go_at_call 57; exact Calls.over_ext (LC.out _))))
    refine wpQuiet_nil ?_
    rintro _ ⟨x1, rfl⟩
    have Hx2 := Lib.hid (Hx.out.trans (wr.over_ext x1))
    have HN := Lib.hid hlt2
    cases t : decide (M[k] = M'[k])
    · have he : ¬ M[k] = M'[k] := by simpa using t
      have HE := Lib.hid he
      clear he
      go_wp2_with fail
      go_ret
      exact ⟨ret_bool (by symm; simp only [decide_eq_false_iff_not]; intro e; subst e; exact HE.out rfl), Hx2.out⟩
    · have he : M[k] = M'[k] := by simpa using t
      have HE := Lib.hid he
      clear he
      go_wp2_with fail
      go_roundw
      case rel => exact ⟨k + 1, by omega, by go_num, Hx2, Lib.hid (fun j h1 h2 hj => by rcases Nat.lt_succ_iff_lt_or_eq.1 hj with h' | rfl; exact Hf.out j h1 h2 h'; exact HE.out)⟩
      case measure => simp [intOf]; omega
  · go_wp2_with fail
    go_ret
    exact ⟨ret_bool (by symm; simp only [decide_eq_true_eq]; exact list_eq_of HLE.out (fun j h1 h2 => Hf.out j h1 h2 (by omega))), Hx.out⟩
end Go.Proofs.YtnmaabejdmaahaaGreatDoor.Ice
namespace Go.Proofs.YtnmaabejdmaahaaGreatDoor.Ice
open Go Go.RowKit Go.Proofs Go.Shelf Go.Ab
theorem row_sl {w w' : World} {M : Nat → Prop} {a : Option Addr} {n c : Nat} {us : List Value} {cs : List FV} (hr : Row w' a us) (hn : n ≤ c) (hd : detC cs = some us) (one : ∀ u ∈ us, u.oneCell' = true) (hM : ∀ b, M b → b < w.heap.size) (hf : ∀ ad, a = some ad → w.heap.size ≤ ad.block) : RepF w' M (.slice a n c) (.sl n cs) := by
  have R := repL_det (w := w') (M := M) hd
  refine RepF.sl a n c cs us hn R.1 one (fun hne => ?_) R.2
  obtain ⟨b, off, e, hb, hc⟩ := hr.at_ hne
  exact ⟨b, off, e, hb, fun hm => by have := hM b hm; have := hf _ e; simp at this; omega, hc⟩
theorem one_cels (l : List Cel) : ∀ u ∈ l.flatMap Cel.enc, u.oneCell' = true := encC_one l
theorem mat_sl {w w' : World} {M : Nat → Prop} {a : Option Addr} {ss : List Sl} {c : Nat} {T : List (List Int)} (h : MatAt w' a ss T) (hc : T.length ≤ c) (hM : ∀ b, M b → b < w.heap.size) (hf : ∀ ad, a = some ad → w.heap.size ≤ ad.block) (hr : ∀ r (hr : r < ss.length), ss[r].n ≤ ss[r].c ∧ ∀ ad, ss[r].a = some ad → w.heap.size ≤ ad.block) : RepF w' M (.slice a T.length c) (.sl T.length (matF T)) := by
  have hx : (ss.flatMap Sl.enc) = ss.map fun s => Value.slice s.a s.n s.c := by
    rw [← List.flatMap_singleton' (ss.map _), List.flatMap_map]; rfl
  refine RepF.sl a _ c (matF T) (ss.map fun s => Value.slice s.a s.n s.c) hc (by simp [matF, h.len]) (by simp [Value.oneCell']) (fun hne => ?_) (fun k u x h1 h2 => ?_)
  · obtain ⟨b, off, e, hb, hcc⟩ := h.row.at_ (by rw [hx]; exact hne)
    rw [hx] at hcc
    exact ⟨b, off, e, hb, fun hm => by have := hM b hm; have := hf _ e; simp at this; omega, hcc⟩
  · rw [List.getElem?_map] at h1
    rw [matF, List.getElem?_map] at h2
    cases hs : ss[k]? with
    | none => rw [hs] at h1; simp at h1
    | some s =>
      cases ht : T[k]? with
      | none => rw [ht] at h2; simp at h2
      | some t =>
        rw [hs] at h1; rw [ht] at h2
        simp at h1 h2; subst h1; subst h2
        obtain ⟨k1, e1⟩ := List.getElem?_eq_some_iff.1 hs
        obtain ⟨k2, e2⟩ := List.getElem?_eq_some_iff.1 ht
        obtain ⟨p1, p2⟩ := h.rows k k1 k2
        obtain ⟨q1, q2⟩ := hr k k1
        rw [e1] at p1 p2 q1 q2; rw [e2] at p1 p2
        rw [p1]
        exact row_sl p2 (by omega) (detC_ints t) (one_ints t) hM q2
theorem rep_mat {w : World} {M : Nat → Prop} {v : Value} {T : List (List Int)} (h : RepF w M v (.sl T.length (matF T))) : ∃ a ss c, v = .slice a T.length c ∧ MatAt w a ss T := by
  cases h with
  | sl a _ c _ us h1 h2 h3 h4 h5 =>
    have hlen : us.length = T.length := by rw [h2]; simp [matF]
    have hex : ∀ k, k < T.length → ∃ s : Sl, us[k]? = some (.slice s.a s.n s.c) ∧ (∀ (hk : k < T.length), s.n = T[k].length ∧ RowS encI w s.a T[k]) := fun k hk => by
      have hu : us[k]? = some us[k] := List.getElem?_eq_getElem (by omega)
      have := h5 k _ _ hu (show (matF T)[k]? = some (rowF T[k]) by simp [matF, hk])
      obtain ⟨a', c', e, _, r⟩ := rep_row this (detC_ints _)
      exact ⟨⟨a', T[k].length, c'⟩, by rw [hu, e], fun _ => ⟨rfl, r⟩⟩
    obtain ⟨ss, l1, l2⟩ := exists_list (fun k (s : Sl) => us[k]? = some (.slice s.a s.n s.c) ∧ ∀ (hk : k < T.length), s.n = T[k].length ∧ RowS encI w s.a T[k]) T.length hex
    have hx : (ss.flatMap Sl.enc) = us := by
      have : (ss.flatMap Sl.enc) = ss.map fun s => Value.slice s.a s.n s.c := by
        rw [← List.flatMap_singleton' (ss.map _), List.flatMap_map]; rfl
      rw [this]
      apply List.ext_getElem?
      intro k
      by_cases hk : k < ss.length
      · rw [(l2 k hk).1]; simp [hk]
      · rw [List.getElem?_eq_none (by simp; omega), List.getElem?_eq_none (by omega)]
    refine ⟨a, ss, c, rfl, ⟨fun hn => ?_⟩, l1, fun r hr hr' => (l2 r hr).2 hr'⟩
    rw [hx] at hn ⊢
    obtain ⟨b, off, e, L⟩ := h4 hn
    exact ⟨b, off, e, L.lt, L.at_⟩
theorem rep_hole {w : World} {M : Nat → Prop} {v : Value} {h : Hole} (r : RepF w M v (holeF h)) (hl : h.widths.length ≤ 140737488355328) (ht : h.shrinks.length ≤ 140737488355328) :
    ∃ wa sa wc sc, v = .agg #[.slice wa h.widths.length wc, .slice sa h.shrinks.length sc, .int .i64 h.need] ∧ HoleAt w wa sa h := by
  cases r with
  | agg _ us h1 h2 h3 =>
    have R : RepL w M us (holeL h) := ⟨h1, h3⟩
    obtain ⟨u1, us1, rfl, r1, R1⟩ := R.head
    obtain ⟨u2, us2, rfl, r2, R2⟩ := R1.head
    obtain ⟨u3, us3, rfl, r3, R3⟩ := R2.head
    have := R3.end; subst this
    obtain ⟨wa, wc, rfl, _, p1⟩ := rep_row r1 (detC_ints _)
    obtain ⟨sa, sc, rfl, _, p2⟩ := rep_row r2 (detC_ints _)
    have := rep_int r3; subst this
    exact ⟨wa, sa, wc, sc, rfl, p1, p2, hl, ht⟩
theorem tup2 {w : World} {M : Nat → Prop} (a b : Int) : RepF w M (.tuple #[.int .i64 a, .int .i64 b]) (.tup [iv a, iv b]) := by
  have R := RepL.cons (RepF.v (w := w) (M := M) (.int .i64 a)) (RepL.cons (RepF.v (.int .i64 b)) (RepL.nil _ _))
  exact RepF.tup _ _ R.1 R.2
structure SmallG (x : Grid) : Prop where
  nl : x.layers.length ≤ 140737488355328
  nt : x.tilt.length ≤ 140737488355328
theorem TimesFrom_s (x : Grid) (fr : Cel) (b : SmallG x) : Summ Tryz.prog GG 21 [gridF x, .agg (celF fr)] (.tup [.sl (timesR x fr).1.length (matF (timesR x fr).1), iv (timesR x fr).2]) := by
  refine ⟨enters_of Tryz.func21 (by kernel_rfl) rfl, fun w M us hM hG R => ?_⟩
  obtain ⟨u1, us1, rfl, r1, R1⟩ := R.head
  obtain ⟨u2, us2, rfl, r2, R2⟩ := R1.head
  have := R2.end; subst this
  obtain ⟨la, ta, lc, tc, rfl, hg⟩ := rep_gridF r1 b.nl b.nt
  have := rep_cel r2; subst this
  refine (TimesFrom_any la ta lc tc x fr w hg (rep_sides hG)).mono fun e w' ⟨a, ss, c, h1, h2, h3, h4, h5, h6⟩ => ⟨_, h1, ?_, h3⟩
  have R := RepL.cons (mat_sl h2 h4 hM h5 h6) (RepL.cons (RepF.v (.int .i64 (timesR x fr).2)) (RepL.nil _ _))
  exact RepF.tup _ _ R.1 R.2
theorem WayTo_s (x : Grid) (fr to : Cel) (b : SmallG x) : Summ Tryz.prog GG 23 [gridF x, .agg (celF fr), .agg (celF to)] (.tup [.sl (wayR x fr to).1.length (celsF (wayR x fr to).1), iv (wayR x fr to).2]) := by
  refine ⟨enters_of Tryz.func23 (by kernel_rfl) rfl, fun w M us hM hG R => ?_⟩
  obtain ⟨u1, us1, rfl, r1, R1⟩ := R.head
  obtain ⟨u2, us2, rfl, r2, R2⟩ := R1.head
  obtain ⟨u3, us3, rfl, r3, R3⟩ := R2.head
  have := R3.end; subst this
  obtain ⟨la, ta, lc, tc, rfl, hg⟩ := rep_gridF r1 b.nl b.nt
  have := rep_cel r2; subst this
  have := rep_cel r3; subst this
  refine (WayTo_any la ta lc tc x fr to w hg (rep_sides hG)).mono fun e w' ⟨a, c, h1, h2, h3, h4, h5⟩ => ⟨_, h1, ?_, h3⟩
  have R := RepL.cons (row_sl h2 h4 (detC_cels _) (one_cels _) hM h5) (RepL.cons (RepF.v (.int .i64 (wayR x fr to).2)) (RepL.nil _ _))
  exact RepF.tup _ _ R.1 R.2
theorem SurvivalOf_s (x : Grid) (n : Int) (l : List Int) (b : SmallG x) (hm : l.length ≤ 140737488355328) : Summ Tryz.prog GG 24 [gridF x, iv n, .sl l.length (intsF l)] (.tup [iv (survR x n l).1, iv (survR x n l).2]) := by
  refine ⟨enters_of Tryz.func24 (by kernel_rfl) rfl, fun w M us hM hG R => ?_⟩
  obtain ⟨u1, us1, rfl, r1, R1⟩ := R.head
  obtain ⟨u2, us2, rfl, r2, R2⟩ := R1.head
  obtain ⟨u3, us3, rfl, r3, R3⟩ := R2.head
  have := R3.end; subst this
  obtain ⟨la, ta, lc, tc, rfl, hg⟩ := rep_gridF r1 b.nl b.nt
  have := rep_int r2; subst this
  obtain ⟨a, c, rfl, _, hr⟩ := rep_row r3 (detC_ints l)
  exact (SurvivalOf_any la ta lc tc x n a c l w hg hr hm).mono fun e w' ⟨h1, h2⟩ => ⟨_, h1, tup2 _ _, h2⟩
structure SmallH (h : Hole) : Prop where
  nw : h.widths.length ≤ 140737488355328
  ns : h.shrinks.length ≤ 140737488355328
theorem LatestStart_s (h : Hole) (d : Int) (b : SmallH h) : Summ Tryz.prog GG 27 [holeF h, iv d] (.tup [iv (latestR h d).1, iv (latestR h d).2]) := by
  refine ⟨enters_of Tryz.func27 (by kernel_rfl) rfl, fun w M us hM hG R => ?_⟩
  obtain ⟨u1, us1, rfl, r1, R1⟩ := R.head
  obtain ⟨u2, us2, rfl, r2, R2⟩ := R1.head
  have := R2.end; subst this
  obtain ⟨wa, sa, wc, sc, rfl, hh⟩ := rep_hole r1 b.nw b.ns
  have := rep_int r2; subst this
  exact (LatestStart_any wa sa wc sc h d w hh).mono fun e w' ⟨h1, h2⟩ => ⟨_, h1, tup2 _ _, h2⟩
theorem SameWay_s (l m : List Cel) (hn : l.length ≤ 140737488355328) : Summ Tryz.prog GG 30 [.sl l.length (celsF l), .sl m.length (celsF m)] (.v (.bool (decide (l = m)))) := by
  refine ⟨enters_of Tryz.func30 (by kernel_rfl) rfl, fun w M us hM hG R => ?_⟩
  obtain ⟨u1, us1, rfl, r1, R1⟩ := R.head
  obtain ⟨u2, us2, rfl, r2, R2⟩ := R1.head
  have := R2.end; subst this
  obtain ⟨a, c, rfl, _, hr⟩ := rep_row r1 (detC_cels l)
  obtain ⟨a', c', rfl, _, hr'⟩ := rep_row r2 (detC_cels m)
  exact (SameWay_any a a' l m c c' w hr hr' hn).mono fun e w' ⟨h1, h2⟩ => ⟨_, h1, RepF.v _, h2⟩
theorem Ranges_s (l m : List Rng) (hn : l.length ≤ 140737488355328) : Summ Tryz.prog GG 31 [.sl l.length (rngsF l), .sl m.length (rngsF m)] (.v (.bool (decide (l = m)))) := by
  refine ⟨enters_of Tryz.func31 (by kernel_rfl) rfl, fun w M us hM hG R => ?_⟩
  obtain ⟨u1, us1, rfl, r1, R1⟩ := R.head
  obtain ⟨u2, us2, rfl, r2, R2⟩ := R1.head
  have := R2.end; subst this
  obtain ⟨a, c, rfl, _, hr⟩ := rep_row r1 (detC_rngs l)
  obtain ⟨a', c', rfl, _, hr'⟩ := rep_row r2 (detC_rngs m)
  exact (Ranges_any a a' l m c c' w hr hr' hn).mono fun e w' ⟨h1, h2⟩ => ⟨_, h1, RepF.v _, h2⟩
theorem SameTimes_s (T T' : List (List Int)) (hn : T.length ≤ 140737488355328) (hn2 : ∀ r ∈ T, r.length ≤ 140737488355328) : Summ Tryz.prog GG 29 [.sl T.length (matF T), .sl T'.length (matF T')] (.v (.bool (decide (T = T')))) := by
  refine ⟨enters_of Tryz.func29 (by kernel_rfl) rfl, fun w M us hM hG R => ?_⟩
  obtain ⟨u1, us1, rfl, r1, R1⟩ := R.head
  obtain ⟨u2, us2, rfl, r2, R2⟩ := R1.head
  have := R2.end; subst this
  obtain ⟨a, ss, c, rfl, hr⟩ := rep_mat r1
  obtain ⟨a', ss', c', rfl, hr'⟩ := rep_mat r2
  exact (SameTimes_any a a' ss ss' T T' c c' w hr hr' hn hn2).mono fun e w' ⟨h1, h2⟩ => ⟨_, h1, RepF.v _, h2⟩
end Go.Proofs.YtnmaabejdmaahaaGreatDoor.Ice
namespace Go.Proofs.YtnmaabejdmaahaaGreatDoor.Ice
open Go Go.RowKit Go.Proofs Go.Shelf Go.Ab
def cellsG (x : Grid) : List Cel := (List.range x.tilt.length).flatMap fun c => (List.range x.rows.toNat).map fun r => ⟨(c : Nat), (r : Nat)⟩
theorem mem_cellsG {x : Grid} {c : Cel} : InG x c ↔ c ∈ cellsG x := by
  unfold InG cellsG
  simp only [List.mem_flatMap, List.mem_range, List.mem_map]
  constructor
  · rintro ⟨⟨h1, h2⟩, h3, h4⟩
    exact ⟨c.col.toNat, by omega, c.row.toNat, by omega, by cases c; simp at *; omega⟩
  · rintro ⟨a, ha, b, hb, rfl⟩
    simp; omega
def tab (T : List (List Int)) (c : Cel) : Int := (T.getD c.row.toNat []).getD c.col.toNat 0
def chkD (x : Grid) (fr : Cel) (d : Cel → Int) : Bool := decide (d fr = 0) && (cellsG x).all fun c => decide (0 ≤ d c) && ((nbrs x c).all fun n => decide (d n ≤ d c + stepI x c n)) && (decide (c = fr) || (nbrs x c).any fun n => decide (d c = d n + stepI x n c))
theorem chkD_is {x : Grid} {fr : Cel} {d : Cel → Int} (h : chkD x fr d = true) : IsDist x fr d := by
  unfold chkD at h
  simp only [Bool.and_eq_true, List.all_eq_true, Bool.or_eq_true, List.any_eq_true, decide_eq_true_eq] at h
  obtain ⟨h0, h1⟩ := h
  exact ⟨h0, fun c hc => (h1 c (mem_cellsG.1 hc)).1.1, fun c n hc hn => (h1 c (mem_cellsG.1 hc)).1.2 n hn, fun c hc hne => ((h1 c (mem_cellsG.1 hc)).2).resolve_left hne⟩
theorem distOf_tab {x : Grid} (v : Valid x) {fr : Cel} {d : Cel → Int} (h : chkD x fr d = true) {c : Cel} (hc : InG x c) : distOf x fr c = d c :=
  (distOf_is (chkD_is h)).unique v (chkD_is h) hc
theorem timesM_tab {x : Grid} (v : Valid x) {fr : Cel} {d : Cel → Int} (h : chkD x fr d = true) : timesM x fr = (List.range x.rows.toNat).map fun r => (List.range x.tilt.length).map fun c => d ⟨(c : Nat), (r : Nat)⟩ := by
  unfold timesM
  refine List.map_congr_left fun r hr => List.map_congr_left fun c hc => ?_
  have h1 := List.mem_range.1 hr
  have h2 := List.mem_range.1 hc
  exact distOf_tab v h (by unfold InG; simp; omega)
def nextD (x : Grid) (d : Cel → Int) (c : Cel) : Option Cel := (nbrs x c).find? fun n => decide (d n + stepI x c n = d c)
def wayD (x : Grid) (d : Cel → Int) (to : Cel) : Nat → Cel → List Cel
  | 0, _ => []
  | k + 1, c => if c = to then [] else match nextD x d c with
    | some n => n :: wayD x d to k n
    | none => []
theorem find_congr {α : Type} {p q : α → Bool} : ∀ {l : List α}, (∀ x ∈ l, p x = q x) → l.find? p = l.find? q
  | [], _ => rfl
  | a :: l, h => by
    rw [List.find?_cons, List.find?_cons, h a (by simp), find_congr fun x hx => h x (by simp [hx])]
theorem nextC_tab {x : Grid} (v : Valid x) {to c : Cel} {d : Cel → Int} (h : chkD x to d = true) (hc : InG x c) : nextC x to c = nextD x d c := by
  unfold nextC nextD
  exact find_congr fun n hn => by rw [distOf_tab v h hc, distOf_tab v h (nbrs_in v hn)]
theorem wayGo_tab {x : Grid} (v : Valid x) {to : Cel} {d : Cel → Int} (h : chkD x to d = true) : ∀ (k : Nat) (c : Cel), InG x c → wayGo x to k c = wayD x d to k c
  | 0, _, _ => rfl
  | k + 1, c, hc => by
    rw [wayGo, wayD, nextC_tab v h hc]
    split
    · rfl
    · cases hn : nextD x d c with
      | none => rfl
      | some n => exact congrArg (n :: ·) (wayGo_tab v h k n (nbrs_in v (List.mem_of_find?_eq_some hn)))
theorem wayM_tab {x : Grid} (v : Valid x) {fr to : Cel} {d : Cel → Int} (h : chkD x to d = true) (hc : InG x fr) : wayM x fr to = fr :: wayD x d to (d fr).toNat fr := by
  rw [wayM, distOf_tab v h hc, wayGo_tab v h _ _ hc]
def T0 : List (List Int) := [[0, 4, 8], [7, 11, 12]]
def T0r : List (List Int) := [[12, 8, 4], [17, 7, 0]]
def W0 : List Cel := [⟨0, 0⟩, ⟨1, 0⟩, ⟨2, 0⟩, ⟨2, 1⟩]
theorem grid0_valid : Valid grid0 := (checkIce_zero grid0).1 (by decide +kernel)
theorem timesR0 : timesR grid0 ⟨0, 0⟩ = (T0, 0) := by
  have h : fromE grid0 ⟨0, 0⟩ = 0 := by decide +kernel
  rw [timesR, h, if_neg (by decide), timesM_tab grid0_valid (d := tab T0) (by decide +kernel)]
  exact congrArg (·, 0) (by decide +kernel)
theorem wayR0 : wayR grid0 ⟨0, 0⟩ ⟨2, 1⟩ = (W0, 0) := by
  have h : wayE grid0 ⟨0, 0⟩ ⟨2, 1⟩ = 0 := by decide +kernel
  rw [wayR, h, if_neg (by decide), wayM_tab grid0_valid (d := tab T0r) (by decide +kernel) (mem_cellsG.2 (by decide +kernel))]
  exact congrArg (·, 0) (by decide +kernel)
theorem survR0 : survR grid0 100 [0, 0] = (82, 0) := by decide +kernel
theorem latestR0 : latestR hole0 1 = (1, 0) := by decide +kernel
def fl0 : Flash := { name := "a".toByteArray, frm := ⟨0, 0⟩, to := ⟨2, 1⟩, time := ⟨10, 14⟩ }
theorem dist_own (k : Int) (T : List (List Int)) (v : (checkIce (own grid0 [k, 5])).2 = 0) (h : chkD (own grid0 [k, 5]) ⟨0, 0⟩ (tab T) = true) (hi : (⟨2, 1⟩ : Cel) ∈ cellsG (own grid0 [k, 5])) : distOf (own grid0 [k, 5]) ⟨0, 0⟩ ⟨2, 1⟩ = tab T ⟨2, 1⟩ :=
  distOf_tab ((checkIce_zero _).1 v) h (mem_cellsG.2 hi)
theorem models0 : modelsM grid0 rngs0 [fl0] = [[2, 5]] := by
  have h1 := dist_own 1 [[0, 2, 4], [6, 8, 6]] (by decide +kernel) (by decide +kernel) (by decide +kernel)
  have h2 := dist_own 2 [[0, 4, 8], [7, 11, 12]] (by decide +kernel) (by decide +kernel) (by decide +kernel)
  have h3 := dist_own 3 [[0, 6, 12], [8, 14, 18]] (by decide +kernel) (by decide +kernel) (by decide +kernel)
  have ha : assigns rngs0 [] = [[1, 5], [2, 5], [3, 5]] := by decide +kernel
  unfold modelsM allMo news
  rw [ha]
  simp only [List.map_cons, List.map_nil, mo, explains, fl0, h1, h2, h3]
  decide +kernel
theorem Grid_s : Summ Tryz.prog GG 22 [] (gridF grid0) := by
  refine summW Tryz.func22 rfl rfl 6 rfl (by simp) (fun M0 => ?_)
  repeat (first
    | (apply s_build TY; exact rfl; exact rfl; exact rfl; exact rfl; exact rfl)
    | (apply s_bslice TY; exact rfl; exact rfl; exact rfl; exact rfl; exact rfl; exact rfl)
    | apply w_seq
    | apply w_region
    | apply s_nil
    | apply t_norm
    | apply w_ret
    | (apply s_alloc TY; exact rfl; exact rfl; exact rfl)
    | (apply s_store TY; exact rfl; exact rfl; exact rfl; exact rfl; exact rfl; exact rfl))
  exact lv_ret (ret1 rfl (res_bxs TY rfl rfl rfl rfl rfl))
theorem Class_s : Summ Tryz.prog GG 26 [] (classF grid0 rngs0) := by
  refine summW Tryz.func26 rfl rfl 6 rfl (by simp) (fun M0 => ?_)
  repeat (first
    | (apply s_build TY; exact rfl; exact rfl; exact rfl; exact rfl; exact rfl)
    | (apply s_bslice TY; exact rfl; exact rfl; exact rfl; exact rfl; exact rfl; exact rfl)
    | apply w_seq
    | apply w_region
    | apply s_nil
    | apply t_norm
    | apply w_ret
    | (apply s_call (Grid_s); exact rfl; exact rfl; exact rfl; exact rfl)
    | (apply s_alloc TY; exact rfl; exact rfl; exact rfl)
    | (apply s_store TY; exact rfl; exact rfl; exact rfl; exact rfl; exact rfl; exact rfl))
  exact lv_ret (ret1 rfl (res_bxs TY rfl rfl rfl rfl rfl))
theorem Hole_s : Summ Tryz.prog GG 28 [] (holeF hole0) := by
  refine summW Tryz.func28 rfl rfl 4 rfl (by simp) (fun M0 => ?_)
  repeat (first
    | (apply s_build TY; exact rfl; exact rfl; exact rfl; exact rfl; exact rfl)
    | (apply s_bslice TY; exact rfl; exact rfl; exact rfl; exact rfl; exact rfl; exact rfl)
    | apply w_seq
    | apply w_region
    | apply s_nil
    | apply t_norm
    | apply w_ret
    | (apply s_alloc TY; exact rfl; exact rfl; exact rfl)
    | (apply s_store TY; exact rfl; exact rfl; exact rfl; exact rfl; exact rfl; exact rfl))
  exact lv_ret (ret1 rfl (res_bxs TY rfl rfl rfl rfl rfl))
theorem TimesFrom0 : Summ Tryz.prog GG 21 [gridF grid0, .agg (celF ⟨0, 0⟩)] (.tup [.sl 2 (matF T0), iv 0]) := by
  have := TimesFrom_s grid0 ⟨0, 0⟩ ⟨by decide, by decide⟩
  rw [timesR0] at this
  exact this
theorem WayTo0 : Summ Tryz.prog GG 23 [gridF grid0, .agg (celF ⟨0, 0⟩), .agg (celF ⟨2, 1⟩)] (.tup [.sl 4 (celsF W0), iv 0]) := by
  have := WayTo_s grid0 ⟨0, 0⟩ ⟨2, 1⟩ ⟨by decide, by decide⟩
  rw [wayR0] at this
  exact this
theorem SurvivalOf0 : Summ Tryz.prog GG 24 [gridF grid0, iv 100, .sl 2 (intsF [0, 0])] (.tup [iv 82, iv 0]) := by
  have := SurvivalOf_s grid0 100 [0, 0] ⟨by decide, by decide⟩ (by decide)
  rw [survR0] at this
  exact this
theorem LatestStart0 : Summ Tryz.prog GG 27 [holeF hole0, iv 1] (.tup [iv 1, iv 0]) := by
  have := LatestStart_s hole0 1 ⟨by decide, by decide⟩
  rw [latestR0] at this
  exact this
theorem RangesOf0 : Summ Tryz.prog GG 25 [classF grid0 rngs0, .sl 1 (flasF [fl0])] (.tup [.sl 2 (rngsF [⟨2, 2⟩, ⟨5, 5⟩]), iv 0]) := by
  have := RangesOf_ok grid0 rngs0 [fl0] ⟨by decide, by decide, by decide, by decide, by decide +kernel⟩ (by decide +kernel) (by rw [models0]; decide)
  rw [models0] at this
  exact this
theorem SameTimes0 : Summ Tryz.prog GG 29 [.sl 2 (matF T0), .sl 2 (matF T0)] (.v (.bool true)) := SameTimes_s T0 T0 (by decide) (by decide)
theorem SameWay0 : Summ Tryz.prog GG 30 [.sl 4 (celsF W0), .sl 4 (celsF W0)] (.v (.bool true)) := SameWay_s W0 W0 (by decide)
theorem Ranges0 : Summ Tryz.prog GG 31 [.sl 2 (rngsF [⟨2, 2⟩, ⟨5, 5⟩]), .sl 2 (rngsF [⟨2, 2⟩, ⟨5, 5⟩])] (.v (.bool true)) := Ranges_s [⟨2, 2⟩, ⟨5, 5⟩] [⟨2, 2⟩, ⟨5, 5⟩] (by decide)
set_option maxRecDepth 100000 in
theorem awake_s : Summ Tryz.prog GG 5 [] (.v (.bool true)) := by
  refine summW Tryz.func5 rfl rfl 93 rfl (by simp) (fun M0 => ?_)
  repeat (first
    | (apply s_move_f; exact rfl; exact rfl)
    | (apply s_assign_f; exact rfl; exact rfl)
    | (apply s_extract; exact rfl; exact rfl; exact rfl)
    | (apply s_eql; exact rfl; exact rfl; exact rfl)
    | (apply s_build TY; exact rfl; exact rfl; exact rfl; exact rfl; exact rfl)
    | (apply s_bslice TY; exact rfl; exact rfl; exact rfl; exact rfl; exact rfl; exact rfl)
    | (apply s_pickT; exact rfl; exact rfl; (first | exact rfl | assumption); exact rfl)
    | apply w_seq
    | apply w_region
    | apply s_nil
    | apply t_norm
    | apply w_ret
    | (apply s_call (Grid_s); exact rfl; exact rfl; exact rfl; exact rfl)
    | (apply s_call (Class_s); exact rfl; exact rfl; exact rfl; exact rfl)
    | (apply s_call (Hole_s); exact rfl; exact rfl; exact rfl; exact rfl)
    | (apply s_call (TimesFrom0); exact rfl; exact rfl; exact rfl; exact rfl)
    | (apply s_call (WayTo0); exact rfl; exact rfl; exact rfl; exact rfl)
    | (apply s_call (SurvivalOf0); exact rfl; exact rfl; exact rfl; exact rfl)
    | (apply s_call (LatestStart0); exact rfl; exact rfl; exact rfl; exact rfl)
    | (apply s_call (RangesOf0); exact rfl; exact rfl; exact rfl; exact rfl)
    | (apply g_move_f; exact rfl; (first | exact rfl | assumption); exact rfl; exact rfl)
    | (apply g_eql; exact rfl; (first | exact rfl | assumption); exact rfl; exact rfl; exact rfl)
    | (apply g_build TY; exact rfl; (first | exact rfl | assumption); exact rfl; exact rfl; exact rfl; exact rfl; exact rfl)
    | (apply g_bslice TY; exact rfl; (first | exact rfl | assumption); exact rfl; exact rfl; exact rfl; exact rfl; exact rfl; exact rfl)
    | (apply g_call (SameTimes0); exact rfl; (first | exact rfl | assumption); exact rfl; exact rfl; exact rfl; exact rfl)
    | (apply g_call (SameWay0); exact rfl; (first | exact rfl | assumption); exact rfl; exact rfl; exact rfl; exact rfl)
    | (apply g_call (Ranges0); exact rfl; (first | exact rfl | assumption); exact rfl; exact rfl; exact rfl; exact rfl))
  exact lv_ret (ret1 rfl (res_tmp rfl))
end Go.Proofs.YtnmaabejdmaahaaGreatDoor.Ice
namespace Go
open Go.RowKit
def SeqH {α σ : Type} (P : Program) (g : Nat) (lb : Array Value) (encs : α → Array Value) (L : List α) (Rd : σ → World → Prop) (Stp : σ → World → σ → World → Prop) (s0 : σ) : Prop :=
  ∀ (l : Nat) (J Jx : Nat → σ → World → Prop) (W : World), (∀ k x A A', Ext A A' → J k x A → J k x A') → (∀ k x A A', Ext A A' → Jx k x A → Jx k x A') → (∀ k x x' A A', Stp x A x' A' → J k x A → J k x' A') → (∀ k x A, J k x A → Rd x A) →
    (∀ (k : Nat) (hk : k < L.length) (x : σ) (W1 : World), J k x W1 → YieldAt Fence.wide 7 P l (encs L[k]) W1 fun e W' =>
      (e = .returned (.bool true) ∧ J (k + 1) x W') ∨ (e = .returned (.bool false) ∧ Jx (k + 1) x W')) →
    J 0 s0 W →
    CallsIn Fence.wide 8 P g (#[.func (.yield l) #[] #[]] ++ lb) W fun e W' => (∃ v, e = .returned v) ∧ ((∃ x, J L.length x W') ∨ ∃ k x, k ≤ L.length ∧ Jx k x W')
theorem wp_rangeH {s : Obj → Bool} (sl : ∀ r, s (.loop r) = false) {P : Program} {α σ : Type} {g : Operand} {ps : Array Tmp} {assign body : Code} {Q : Exit → Act → World → Prop} {a : Act} {w : World}
    {gf : Nat} {lb : Array Value} (hg : a.eval g = .func (.func gf) #[] lb) (eg : ∀ args w, (callFunc gf args).run P w = .ok (.enter gf args) w)
    {encs : α → Array Value} {L : List α} {Rd : σ → World → Prop} {Stp : σ → World → σ → World → Prop} {s0 : σ} (hseq : SeqH P gf lb encs L Rd Stp s0) (hps : ∀ x, (encs x).size = ps.size)
    (I : Nat → σ → World → Prop) (Ix : Code → Nat → σ → World → Prop) (hI : ∀ k x A A', KeepsP s w.heap.size A A' → I k x A → I k x A') (hIx : ∀ c k x A A', KeepsP s w.heap.size A A' → Ix c k x A → Ix c k x A') (hSt : ∀ k x x' A A', Stp x A x' A' → I k x A → I k x' A') (hSl : ∀ x x' A A', Stp x A x' A' → ∀ (b : Nat) (o : Obj), w.heap.size ≤ b → A.heap[b]? = some o → A'.heap[b]? = some o) (hRd : ∀ k x A, I k x A → Rd x A) (h0 : I 0 s0 w)
    (Ax : Act → Nat → Act → World → Prop) (hAx : ∀ k a' A A', KeepsP s w.heap.size A A' → Ax a k a' A → Ax a k a' A')
    (hassign : ∀ (l k : Nat) (hk : k < L.length) (x : σ) (W : World) (K : Act → World → Prop), I k x W → (∀ a' W', KeepsFrom w.heap.size W W' → I k x W' → Ax a k a' W' → K a' W') →
      assign.wpIn (Fence.wide.inRound l) 7 P (Exit.then K (fun _ _ _ => False)) { tmps := (ps.zip (encs L[k])).foldl (fun t (p, v) => t.setIfInBounds p v) a.tmps, defers := [] } W)
    (hbody : ∀ (l k : Nat) (_ : k < L.length) (x : σ) (a' : Act) (W : World), w.heap.size ≤ l → I k x W → Ax a k a' W → body.wpIn (Fence.wide.inRound l) 7 P (rangeRound w.heap.size (fun k => I k x) (fun c k => Ix c k x) k W) a' W)
    (hdone : ∀ (D : Nat) (x : σ) (W : World), w.heap.size ≤ D → I L.length x W → W.heap[D]? = some (.deferred (some [])) → Q .normal { a with defers := markOf D :: a.defers } W)
    (hstop : ∀ (D : Nat) (c : Code) (k : Nat) (x : σ) (W : World), w.heap.size ≤ D → k ≤ L.length → Ix c k x W → W.heap[D]? = some (.deferred (some [])) → c.wp P Q { a with defers := markOf D :: a.defers } W) :
    (Code.rangeFunc g ps assign body).wp P Q a w := by
  refine (wpIn_wide (n := 9)).1 ?_
  refine wpIn_rangeFunc ?_
  intro fn hfn
  obtain ⟨rec, hrec⟩ : ∃ rec : LoopState → Option Code → Loop, rec = fun st pe => { state := st, pending := pe, fn, tmps := a.tmps, params := ps, assign, body, defers := w.heap.size } := ⟨_, rfl⟩
  obtain ⟨W1, hW1⟩ : ∃ W1, (w.alloc (.deferred (some []))).alloc (.loop (rec .ready none)) = W1 := ⟨_, rfl⟩
  have hL1 : W1.heap[w.heap.size + 1]? = some (.loop (rec .ready none)) := by
    rw [← hW1]; have := World.alloc_heap_new (w.alloc (.deferred (some []))) (.loop (rec .ready none)); rwa [World.size_alloc] at this
  have hK1 : W1.heap[w.heap.size]? = some (.deferred (some [])) := by
    rw [← hW1]; exact (Below.heap_alloc _ _ _ (by simp)).trans (World.alloc_heap_new w _)
  have hx1 : Ext w W1 := by rw [← hW1]; exact (Ext.alloc _ _).toAlloc _
  have hI1 : I 0 s0 W1 := hI 0 s0 w W1 (hx1.keepsP _) h0
  refine ⟨w.heap.size + 1, [{ target := .collected w.heap.size, args := #[] }], W1, { target := .fn (.func gf) lb, args := #[.func (.yield (w.heap.size + 1)) #[] #[]] }, W1, gf,
    #[.func (.yield (w.heap.size + 1)) #[] #[]] ++ lb, W1, ?_, ?_, ?_, ?_, (fun h => by simp [Fence.wide] at h), ?_⟩
  · rw [← hW1, hrec]; exact run_enterLoop_outer _ _ _ _ _
  · simp only [resolve, hg]
    simp [go_sem]
  · intro f' hf'; trivial
  · simp [invoke, go_sem, eg]
  · refine (hseq (w.heap.size + 1)
      (fun k x W => I k x W ∧ W.heap[w.heap.size + 1]? = some (.loop (rec .ready none)) ∧ W.heap[w.heap.size]? = some (.deferred (some [])))
      (fun k x W => ∃ c, Ix c k x W ∧ W.heap[w.heap.size + 1]? = some (.loop (rec .done (some c))) ∧ W.heap[w.heap.size]? = some (.deferred (some [])))
      W1
      (fun k x A A' hx hs => ⟨hI k x A A' (hx.keepsP _) hs.1, hx.heap hs.2.1, hx.heap hs.2.2⟩)
      (fun k x A A' hx hs => by
        obtain ⟨c, hc, hl, hk⟩ := hs
        exact ⟨c, hIx c k x A A' (hx.keepsP _) hc, hx.heap hl, hx.heap hk⟩)
      (fun k x x' A A' hx hs => ⟨hSt k x x' A A' hx hs.1, hSl x x' A A' hx _ _ (by omega) hs.2.1, hSl x x' A A' hx _ _ (Nat.le_refl _) hs.2.2⟩)
      (fun k x A hs => hRd k x A hs.1) ?_ ⟨hI1, hL1, hK1⟩).mono ?_
    · rintro k hk x W ⟨hi, hl, hkk⟩
      have hlt : w.heap.size + 1 < W.heap.size := (Array.getElem?_eq_some_iff.1 hl).1
      have hy := run_yield (P := P) (args := encs L[k]) hl (by rw [hrec]; exact hps _)
      rw [hrec] at hy
      refine ⟨fn, _, assign, body, hy, roundIn_of_wpIn hfn (hassign _ k hk x W _ hi ?_)⟩
      clear hy
      intro a' Wa hkfa hia hax
      replace hl := hkfa.same _ _ (by omega) hl rfl
      replace hkk := hkfa.same _ _ (Nat.le_refl _) hkk rfl
      replace hlt : w.heap.size + 1 < Wa.heap.size := (Array.getElem?_eq_some_iff.1 hl).1
      refine ⟨_, run_beginRound hl (by rw [hrec]), ?_⟩
      have hl2 : (Wa.putObj (w.heap.size + 1) (.loop { rec .ready none with state := .busy })).heap[w.heap.size + 1]? = some (.loop { rec .ready none with state := .busy }) := World.putObj_heap_same hlt
      have hk2 : (Wa.putObj (w.heap.size + 1) (.loop { rec .ready none with state := .busy })).heap[w.heap.size]? = some (.deferred (some [])) := (World.putObj_heap_other (by omega)).trans hkk
      have kp2 : KeepsP s w.heap.size Wa (Wa.putObj (w.heap.size + 1) (.loop { rec .ready none with state := .busy })) := KeepsP.putObj _ _ (by omega) hl (sl _)
      refine wpIn_mono (hbody _ k hk x a' _ (by omega) (hI k x _ _ kp2 hia) (hAx k a' _ _ kp2 hax)) ?_
      have fin : ∀ (jump : Option Code) (W3 : World), KeepsFrom w.heap.size (Wa.putObj (w.heap.size + 1) (.loop { rec .ready none with state := .busy })) W3 →
          (Instr.endRound (w.heap.size + 1) jump).run P W3 = .ok (.bool jump.isNone) (W3.putObj (w.heap.size + 1) (.loop (rec (if jump.isNone then .ready else .done) jump))) ∧
          KeepsP s w.heap.size W3 (W3.putObj (w.heap.size + 1) (.loop (rec (if jump.isNone then .ready else .done) jump))) ∧ w.heap.size ≤ W3.heap.size ∧
          (W3.putObj (w.heap.size + 1) (.loop (rec (if jump.isNone then .ready else .done) jump))).heap[w.heap.size + 1]? = some (.loop (rec (if jump.isNone then .ready else .done) jump)) ∧
          (W3.putObj (w.heap.size + 1) (.loop (rec (if jump.isNone then .ready else .done) jump))).heap[w.heap.size]? = some (.deferred (some [])) := fun jump W3 hk3 => by
        have hl3 := hk3.same _ _ (by omega) hl2 rfl
        have := run_endRound (P := P) jump hl3
        have hsz := (Array.getElem?_eq_some_iff.1 hl3).1
        have kp3 := KeepsP.putObj (B := w.heap.size) W3 (.loop (rec (if jump.isNone then .ready else .done) jump)) (by omega) hl3 (sl _)
        refine ⟨?_, kp3, by omega, World.putObj_heap_same hsz, (World.putObj_heap_other (by omega)).trans (hk3.same _ _ (Nat.le_refl _) hk2 rfl)⟩
        rw [hrec] at this ⊢
        exact this
      rintro e a3 W3 hp
      cases e with
      | normal =>
        obtain ⟨hk3, hi3⟩ := hp
        obtain ⟨hr, kp3, hs3, hl4, hk4⟩ := fin none W3 hk3
        exact ⟨_, _, hr, .inl ⟨rfl, hI _ _ _ _ kp3 hi3, hl4, hk4⟩⟩
      | ret =>
        obtain ⟨hk3, hi3⟩ := hp
        obtain ⟨hr, kp3, hs3, hl4, hk4⟩ := fin (some .ret) W3 hk3
        exact ⟨_, _, hr, .inr ⟨rfl, .ret, hIx _ _ _ _ _ kp3 hi3, hl4, hk4⟩⟩
      | exit id =>
        obtain ⟨hk3, hi3⟩ := hp
        obtain ⟨hr, kp3, hs3, hl4, hk4⟩ := fin (some (.exit id)) W3 hk3
        exact ⟨_, _, hr, .inr ⟨rfl, .exit id, hIx _ _ _ _ _ kp3 hi3, hl4, hk4⟩⟩
      | goto t =>
        obtain ⟨hk3, hi3⟩ := hp
        obtain ⟨hr, kp3, hs3, hl4, hk4⟩ := fin (some (.goto t)) W3 hk3
        exact ⟨_, _, hr, .inr ⟨rfl, .goto t, hIx _ _ _ _ _ kp3 hi3, hl4, hk4⟩⟩
      | panic ch => exact hp.elim
      | outgrown => exact hp.elim
    · rintro e W2 ⟨⟨v, rfl⟩, (⟨x, hi, hl, hk⟩ | ⟨k, x, hkl, c, hi, hl, hk⟩)⟩
      · have kp := KeepsP.putObj (B := w.heap.size) W2 (.loop { rec .ready none with state := .exhausted }) (by omega) hl (sl _)
        exact ⟨none, _, by have := run_endLoop (P := P) hl (by rw [hrec]; simp); rw [hrec] at this; exact this, hdone _ x _ (Nat.le_refl _) (hI _ _ _ _ (by rw [hrec] at kp; exact kp) hi) ((World.putObj_heap_other (by omega)).trans hk)⟩
      · have kp := KeepsP.putObj (B := w.heap.size) W2 (.loop { rec .done (some c) with state := .exhausted }) (by omega) hl (sl _)
        exact ⟨some c, _, by have := run_endLoop (P := P) hl (by rw [hrec]; simp); rw [hrec] at this; exact this, wpIn_wide.2 (hstop _ c k x _ (Nat.le_refl _) hkl (hIx _ _ _ _ _ (by rw [hrec] at kp; exact kp) hi) ((World.putObj_heap_other (by omega)).trans hk))⟩
end Go
namespace Go.Ab
open Go Go.RowKit Go.Shelf Go.Proofs
def OneAt (b : Nat) (v : Value) (A : World) : Prop := ∃ T, A.heap[b]? = some (.cells #[v] T (0, 0))
structure SeqB {α : Type} (P : Program) (G : Nat → Option FV) (gf : Nat) (pre post : List FV) (encs : α → Array Value) (L : List α) (v0 : Value) : Prop where
  enters : Enters P gf
  seq : ∀ (w : World) (M : Nat → Prop) (us vs : List Value) (b : Nat), (∀ b, M b → b < w.heap.size) → (∀ g cs, G g = some cs → RepF w M (.pointer (some ⟨g, 0, none⟩)) cs) → RepL w M us pre → RepL w M vs post → M b →
    SeqH P gf (us ++ Value.pointer (some ⟨b, 0, none⟩) :: vs).toArray encs L (fun v A => w.heap.size ≤ A.heap.size ∧ (∀ k, k < w.heap.size → ¬ M k → A.heap[k]? = w.heap[k]?) ∧ OneAt b v A)
      (fun v A v' A' => OneAt b v A ∧ A.grownBy A' (some b) ∧ OneAt b v' A' ∧ v'.oneCell' = true) v0
def boxV (F : Nat → Option Blk) (i : Nat) (v : Value) : Nat → Option Blk := upd F i (some (.box [.f (.v v)]))
theorem sim_one {C : Ctx} {N nx i : Nat} {w0 w : World} {s : Nat → AV} {F : Nat → Option Blk} {a : Act} {J : Nat → Value} {v : Value} (S : Sim C w0 N ⟨s, boxV F i v, nx⟩ a w J) : ∃ b, J i = .pointer (some ⟨b, 0, none⟩) ∧ (w0.heap.size ≤ b ∨ C.X b) ∧ OneAt b v w ∧ v.oneCell' = true := by
  obtain ⟨b, T, us, e, h1, h2, h3, h4, h5⟩ := S.blk i (.box [.f (.v v)]) (upd_same _ _ _)
  obtain ⟨u, rfl⟩ : ∃ u, us = #[u] := by
    match us, h3 with
    | ⟨[u]⟩, _ => exact ⟨u, rfl⟩
  have := repV (h5 0 u (.f (.v v)) rfl rfl)
  subst this
  exact ⟨b, e, h1, ⟨T, h2⟩, h4 _ (by simp)⟩
theorem sim_step {C : Ctx} {N nx i : Nat} {w0 w w' : World} {s : Nat → AV} {F : Nat → Option Blk} {a : Act} {J : Nat → Value} {v v' : Value} {b : Nat} (S : Sim C w0 N ⟨s, boxV F i v, nx⟩ a w J) (hb : J i = .pointer (some ⟨b, 0, none⟩)) (g : w.grownBy w' (some b)) (h : OneAt b v' w') (h1 : v'.oneCell' = true) : Sim C w0 N ⟨s, boxV F i v', nx⟩ a w' J := by
  obtain ⟨b1, e1, hx, _, _⟩ := sim_one S
  have eb : b1 = b := by rw [hb] at e1; injection e1 with e1; injection e1 with e1; injection e1 with e1; exact e1.symm
  subst eb
  obtain ⟨T, hT⟩ := h
  have := S.write (i := i) (b := b1) (by show (upd F i _ i).isSome = true; rw [upd_same]; rfl) (by rw [hb]; rfl) g (B := .box [.f (.v v')]) ⟨b1, T, #[v'], hb, hx, hT, rfl, fun u hu => by simp at hu; subst hu; exact h1, fun k u x q1 q2 => by
    match k with
    | 0 => simp at q1 q2; subst q1; subst q2; exact RepF.v _
    | k + 1 => simp at q1⟩ (fun _ => ⟨_, upd_same _ _ _, rfl⟩)
  have eh : upd (boxV F i v) i (some (Blk.box [AV.f (FV.v v')])) = boxV F i v' := by
    funext k
    by_cases e : k = i
    · subst e; unfold boxV; rw [upd_same, upd_same]
    · unfold boxV; rw [upd_other _ _ e, upd_other _ _ e, upd_other _ _ e]
  rw [show (⟨s, boxV F i v', nx⟩ : St) = ⟨s, upd (boxV F i v) i (some (Blk.box [AV.f (FV.v v')])), nx⟩ by rw [eh]]
  exact this
theorem one_eq {C C' : Ctx} {N nx nx' i b : Nat} {w0 w0' w : World} {s s' : Nat → AV} {F F' : Nat → Option Blk} {a a' : Act} {J J' : Nat → Value} {v v' : Value} (e : J i = .pointer (some ⟨b, 0, none⟩)) (e' : J' i = .pointer (some ⟨b, 0, none⟩)) (S : Sim C w0 N ⟨s, boxV F i v, nx⟩ a w J) (S' : Sim C' w0' N ⟨s', boxV F' i v', nx'⟩ a' w J') : v' = v := by
  obtain ⟨b1, q1, _, ⟨T, o1⟩, _⟩ := sim_one S
  obtain ⟨b2, q2, _, ⟨T', o2⟩, _⟩ := sim_one S'
  rw [e] at q1; injection q1 with q1; injection q1 with q1; injection q1 with q1; subst q1
  rw [e'] at q2; injection q2 with q2; injection q2 with q2; injection q2 with q2; subst q2
  rw [o1] at o2
  injection o2 with o2; injection o2 with o2; injection o2 with o2; injection o2 with o2
  exact o2.symm
theorem mo_boxV {nx i : Nat} {F0 h : Nat → Option Blk} {v0 v : Value} (hh : mapsOk nx F0 h) : mapsOk nx (boxV F0 i v0) (boxV h i v) := fun j B e hm => by
  by_cases ej : j = i
  · subst ej; unfold boxV at e; rw [upd_same] at e; cases e; cases hm
  · unfold boxV at e
    rw [upd_other _ _ ej] at e
    obtain ⟨h1, h2⟩ := hh j B e hm
    exact ⟨h1, by unfold boxV; rw [upd_other _ _ ej]; exact h2⟩
section
variable {C : Ctx} {N nx : Nat} {l : Option Nat} {p : Nat → Value}
theorem w_rangeH {α : Type} {g : Operand} {ps : Array Tmp} {assign body : Code} {Q : Exit → St → Prop} {st : St} {s : Nat → AV} {s1 : Nat → AV} {gf i0 : Nat} {pre post : List FV} {v0 : Value} {encs : α → Array Value} {L : List α} (K : SeqB C.P C.G gf pre post encs L v0) (F : Nat → Nat → Option Blk) (mid : Nat → α → Nat → Option Blk) (ms : Nat → α → Nat → AV) (nx mx : Nat) (ok : Nat → Prop) (fvs : α → List FV) (Pr : Nat → Prop) (p0 : Pr 0)
    (hro : C.ro = none) (hJ0 : ∀ i, C.J0 i = none) (hi0 : i0 < nx) (h0 : Gh C N st ⟨s1, boxV (F 0) i0 v0, nx⟩) (hgs : (⟨s1, boxV (F 0) i0 v0, nx⟩ : St).ev C g = .fb gf (pre.map Cap.f ++ Cap.bx i0 0 :: post.map Cap.f)) (hs1 : Le ⟨s1, boxV (F 0) i0 v0, nx⟩ ⟨s, boxV (F 0) i0 v0, nx⟩) (hps : ∀ x, (encs x).size = ps.size) (hfv : ∀ x, (fvs x).length = ps.size) (hpN : ∀ q ∈ ps.toList, Nat.blt q N = true)
    (hen : ∀ (x : α) (w : World) (M : Nat → Prop), RepL w M (encs x).toList (fvs x)) (hk : kept nx s ok) (hF : ∀ k v i, ok i → boxAt (boxV (F k) i0 v) i) (hmid : ∀ k x v, Le ⟨ms k x, boxV (mid k x) i0 v, mx⟩ ⟨fun _ => .bot, boxV (F k) i0 v, nx⟩) (hmo : ∀ k x, mapsOk nx (F 0) (F k) ∧ mapsOk nx (F 0) (mid k x))
    (hA : ∀ k (hk : k < L.length) v X l p, W (rdC C nx X (some l) p) N assign (AT (fun st' => Gh (rdC C nx X (some l) p) N st' ⟨ms k L[k], boxV (mid k L[k]) i0 v, mx⟩) (fun _ _ => False)) ⟨putAll s (ps.toList.zip (fvs L[k])), boxV (F k) i0 v, nx⟩)
    (hB : ∀ k (_ : k < L.length), Pr k → ∀ v X l p, W (rdC C nx X (some l) p) N body (Rng N nx s ok Q (rdC C nx X (some l) p) (Pr (k + 1)) (boxV (F (k + 1)) i0 v)) ⟨ms k L[k], boxV (mid k L[k]) i0 v, mx⟩)
    (hQ : Pr L.length → ∀ v, Q .normal ⟨s, boxV (F L.length) i0 v, nx⟩) : W C N (.rangeFunc g ps assign body) Q st := by
  refine ⟨fun w0 a w Qc S0 hq => ?_⟩
  obtain ⟨J, S1⟩ := h0 w0 a w S0
  have eg := S1.eval g
  rw [hgs] at eg
  obtain ⟨us0, hgv, u1, u2⟩ := eg
  have S := S1.weaken hs1
  obtain ⟨b0, hJ0i, _, _, _⟩ := sim_one S
  have hbm : Mb C (boxV (F 0) i0 v0) J b0 := .inr ⟨i0, by show (upd (F 0) i0 _ i0).isSome = true; rw [upd_same]; rfl, by rw [hJ0i]; rfl⟩
  obtain ⟨us, vs, rfl, u3, u4⟩ : ∃ us vs, us0 = us ++ Value.pointer (some ⟨b0, 0, none⟩) :: vs ∧ RepL w (Mb C (boxV (F 0) i0 v0) J) us pre ∧ RepL w (Mb C (boxV (F 0) i0 v0) J) vs post := by
    have hl : us0.length = pre.length + (post.length + 1) := by rw [u1]; simp
    have hmid : us0[pre.length]? = some (Value.pointer (some ⟨b0, 0, none⟩)) := by
      have hlt : pre.length < us0.length := by omega
      have := u2 pre.length us0[pre.length] (.bx i0 0) (List.getElem?_eq_getElem hlt) (by rw [List.getElem?_append_right (by simp)]; simp)
      obtain ⟨_, b, hb, e⟩ := this
      rw [hJ0i] at hb
      simp [bk] at hb
      subst hb
      rw [List.getElem?_eq_getElem hlt, e]
    refine ⟨us0.take pre.length, us0.drop (pre.length + 1), ?_, ⟨by simp; omega, fun k u x q1 q2 => ?_⟩, ⟨by simp; omega, fun k u x q1 q2 => ?_⟩⟩
    · have hlt : pre.length < us0.length := by omega
      rw [List.getElem?_eq_getElem hlt] at hmid
      rw [← Option.some.inj hmid, ← List.drop_eq_getElem_cons hlt, List.take_append_drop]
    · have hk : k < pre.length := (List.getElem?_eq_some_iff.1 q2).1
      rw [List.getElem?_take_of_lt hk] at q1
      exact u2 k u (.f x) q1 (by rw [List.getElem?_append_left (by simpa using hk)]; simp [q2])
    · rw [List.getElem?_drop] at q1
      refine u2 _ u (.f x) q1 ?_
      rw [List.getElem?_append_right (by simp; omega), List.length_map, show pre.length + 1 + k - pre.length = k + 1 by omega]
      simp [q2]
  have hseq := K.seq w (Mb C (boxV (F 0) i0 v0) J) us vs b0 (mb_lt S) S.glob u3 u4 hbm
  have S00 : Sim (rdC C nx (ownM (boxV (F 0) i0 v0) J) none J) w N ⟨s, boxV (F 0) i0 v0, nx⟩ { a with defers := [] } w J := by
    refine ⟨Grew.refl _ _, S.size, ⟨trivial, fun _ => rfl⟩, fun t => repA_ctx rfl (S.slot t), fun i B hB => ?_, S.apart, fun b hb => ⟨Nat.lt_of_lt_of_le (S.old b hb).1 S.ext.le, fun ⟨i, hi, h⟩ => ?_⟩, fun g cs hg => repF_ctx rfl (S.glob g cs hg), fun i q cells h1 h2 _ => ?_⟩
    · exact (S.blk i B hB).conv0 (fun _ _ => rfl) (fun b hb _ => .inr ⟨i, by rw [show boxV (F 0) i0 v0 i = some B from hB]; rfl, hb⟩) (fun _ _ => repA_ctx rfl) (fun _ _ => repF_ctx rfl)
    · rcases (S.own_at hi h).1 with h2 | h2
      · have := (S.old b hb).1; omega
      · exact (S.old b hb).2 h2
    · have : (bif Nat.blt i nx then some (J i) else none) = some q := h1
      cases hbl : Nat.blt i nx with
      | true => rw [hbl] at this; exact Option.some.inj this
      | false => rw [hbl] at this; cases this
  have kf0 : ∀ {J1 : Nat → Value} {a1 : Act} {W W' : World} {l1 : Option Nat} {st1 st2 : St} {w1 : World} {a2 : Act} {J2 : Nat → Value} {l2 : Option Nat}, Sim (rdC C nx (ownM (boxV (F 0) i0 v0) J) l1 J) w N st1 a1 W J1 → mapsOk nx (boxV (F 0) i0 v0) st1.h → Sim (rdC C nx (ownM st1.h J1) l2 J) W N st2 a2 W' J2 → KeepsFrom w.heap.size W W' := fun {J1 a1 W W' l1 st1 st2 w1 a2 J2 l2} S1 hm S2 => S2.ext.keepsFrom fun b hb hge => by
    obtain ⟨i, hi, hbk⟩ := hb
    obtain ⟨B, hB⟩ := Option.isSome_iff_exists.1 hi
    refine (S1.blk i B hB).cellsN ?_ hbk
    cases hM : B.isM with
    | false => rfl
    | true =>
    obtain ⟨h1, h2⟩ := hm i B hB hM
    have e : J1 i = J i := S1.fix i (J i) _ (by show (bif Nat.blt i nx then some (J i) else none) = some (J i); rw [show Nat.blt i nx = true from Nat.ble_eq_true_of_le h1]; rfl) hB (by cases B <;> first | rfl | cases hM)
    rw [e] at hbk
    have := (S.own_at (i := i) h2 hbk).2
    omega
  have fx2 : ∀ {l1 : Option Nat} {s2 : Nat → AV} {F2 : Nat → Option Blk} {v : Value} {n2 : Nat} {w1 : World} {a1 : Act} {A : World} {J1 : Nat → Value}, Sim (rdC C nx (ownM (boxV (F 0) i0 v0) J) l1 J) w1 N ⟨s2, boxV F2 i0 v, n2⟩ a1 A J1 → J1 i0 = .pointer (some ⟨b0, 0, none⟩) := fun {l1 s2 F2 v n2 w1 a1 A J1} S' => by
    rw [S'.fix i0 (J i0) (.box [.f (.v v)]) (by show (bif Nat.blt i0 nx then some (J i0) else none) = some (J i0); rw [show Nat.blt i0 nx = true from Nat.ble_eq_true_of_le hi0]; rfl) (upd_same _ _ _) rfl, hJ0i]
  have fx : ∀ {l1 : Option Nat} {s2 : Nat → AV} {F2 : Nat → Option Blk} {v : Value} {n2 : Nat} {w1 : World} {a1 : Act} {A : World} {J1 : Nat → Value}, Sim (rdC C nx (ownM (boxV (F 0) i0 v0) J) l1 J) w1 N ⟨s2, boxV F2 i0 v, n2⟩ a1 A J1 → J1 i0 = .pointer (some ⟨b0, 0, none⟩) := fx2
  have key : (Code.rangeFunc g ps assign body).wp C.P Qc a w := by
    refine wp_rangeH (s := Obj.stays) (fun _ => rfl) (gf := gf) (lb := (us ++ Value.pointer (some ⟨b0, 0, none⟩) :: vs).toArray) hgv K.enters hseq hps
      (fun k v A => Pr k ∧ ∃ J', Sim (rdC C nx (ownM (boxV (F 0) i0 v0) J) none J) w N ⟨s, boxV (F k) i0 v, nx⟩ { a with defers := [] } A J')
      (fun c k _ A => ∃ e h J', c = (match e with | Exit.ret => Code.ret | Exit.exit id => Code.exit id | _ => Code.skip) ∧ (match e with | Exit.ret => True | Exit.exit _ => True | _ => False) ∧ Q e ⟨s, h, nx⟩ ∧ Sim (rdC C nx (ownM (boxV (F 0) i0 v0) J) none J) w N ⟨s, h, nx⟩ { a with defers := [] } A J')
      (fun k v A A' hK ⟨hp, J', S'⟩ => ⟨hp, J', S'.keeps0 hK (Nat.le_refl _) ⟨trivial, fun _ => rfl⟩⟩)
      (fun c k v A A' hK ⟨e, h, J', e1, e2, e3, S'⟩ => ⟨e, h, J', e1, e2, e3, S'.keeps0 hK (Nat.le_refl _) ⟨trivial, fun _ => rfl⟩⟩)
      (fun k v v' A A' ⟨o1, g1, o2, o3⟩ ⟨hp, J', S'⟩ => ⟨hp, J', sim_step S' (fx S') g1 o2 o3⟩)
      (fun v v' A A' ⟨o1, g1, o2, o3⟩ b o hb ho => (g1.block b (Array.getElem?_eq_some_iff.1 ho).1 (fun e => by
        have := (S.own_at (i := i0) (b := b0) (by show (upd (F 0) i0 _ i0).isSome = true; rw [upd_same]; rfl) (by rw [hJ0i]; rfl)).2
        injection e with e
        omega)).trans ho)
      (fun k v A ⟨_, J', S'⟩ => ⟨S'.ext.le, fun b hb hm => S'.ext.block b hb (fun h => hm (.inr h)), by
        obtain ⟨b2, e2, _, o, _⟩ := sim_one S'
        rw [fx S'] at e2
        injection e2 with e2; injection e2 with e2; injection e2 with e2
        subst e2; exact o⟩) ⟨p0, J, S00⟩
      (fun _ k a' A => a'.defers = [] ∧ ∃ (hk : k < L.length) (l : Nat) (J' : Nat → Value) (v : Value), Sim (rdC C nx (ownM (boxV (F 0) i0 v0) J) (some l) J) w N ⟨ms k L[k], boxV (mid k L[k]) i0 v, mx⟩ a' A J')
      (fun k a' A A' hK ⟨hd, hk, l, J', v, S'⟩ => ⟨hd, hk, l, J', v, by
        have := S'.keeps0 hK (Nat.le_refl _) (ds := []) ⟨trivial, fun _ => rfl⟩
        rw [show ({ a' with defers := [] } : Act) = a' by cases a'; simp only at hd; rw [hd]] at this
        exact this⟩) ?_ ?_ ?_ ?_
    · rintro l k hkl v W K1 ⟨hpk, J1, S1⟩ hK1
      have pz : (ps.toList.zip (encs L[k]).toList).map (·.1) = (ps.toList.zip (fvs L[k])).map (·.1) := by
        rw [List.map_fst_zip (by simp [hps]), List.map_fst_zip (by simp [hfv])]
      have S2 := Sim.puts (a := { a with defers := [] }) (pv := ps.toList.zip (encs L[k]).toList) (px := ps.toList.zip (fvs L[k])) S1 pz (fun q hq => hpN q.1 (List.of_mem_zip hq).1) (fun j v x h1 h2 => by
        rw [List.getElem?_zip_eq_some] at h1 h2
        exact (hen L[k] W _).2 j v.2 x.2 h1.2 h2.2)
      have S3 := S2.into (l' := some l) rfl
      have hd3 : ({ ({ a with defers := [] } : Act) with tmps := (ps.toList.zip (encs L[k]).toList).foldl (fun t (p, v) => t.setIfInBounds p v) a.tmps } : Act) = { tmps := (ps.zip (encs L[k])).foldl (fun t (p, v) => t.setIfInBounds p v) a.tmps, defers := [] } := by
        congr 1
        rw [← Array.foldl_toList, Array.toList_zip]
      rw [hd3] at S3 S2
      refine (hA k hkl v _ l J).out W _ W _ ⟨_, S3⟩ ?_
      intro e st' a' W' hat S4
      cases e with
      | normal =>
        obtain ⟨J5, S5⟩ := hat.out W a' W' S4
        have S6 := S2.outOf S5 rfl
        have S7 := S6.weaken (hmid k L[k] v)
        refine hK1 a' W' (kf0 (w1 := W) S2 (mo_boxV (hmo k L[k]).1) S5) ⟨hpk, J5, ?_⟩ ⟨S6.defs.2 rfl, hkl, l, J5, v, S6⟩
        exact S.again rfl hk S7 (fun i hi => hF k v i hi)
      | _ => exact hat.out.elim
    · rintro l k hk' v a' W hl ⟨hpk, J1, S1⟩ ⟨hd, _, l', J2, v2, S2⟩
      obtain rfl : v2 = v := one_eq (fx S1) (fx2 S2) S1 S2
      have S3 := S2.into (l' := some l) hd
      refine (hB k hk' hpk v2 _ l J).out W _ W _ ⟨_, S3⟩ ?_
      intro e st' a'' W' hr S4
      have kf : ∀ {J4 : Nat → Value} {st4 : St}, Sim (rdC C nx (ownM (boxV (mid k L[k]) i0 v2) J2) (some l) J) W N st4 a'' W' J4 → KeepsFrom w.heap.size W W' := fun S5 => kf0 (w1 := W) S2 (mo_boxV (hmo k L[k]).2) S5
      cases e with
      | normal =>
        obtain ⟨J5, S5⟩ := hr.2 W a'' W' S4
        exact ⟨kf S5, hr.1, J5, S.again rfl hk (S2.outOf S5 rfl) (fun i hi => hF (k + 1) v2 i hi)⟩
      | ret =>
        obtain ⟨h, g1, g2, g3⟩ := hr
        obtain ⟨J5, S5⟩ := g1 W a'' W' S4
        exact ⟨kf S5, .ret, h, J5, rfl, trivial, g3, S.again rfl hk (S2.outOf S5 rfl) g2⟩
      | exit id =>
        obtain ⟨h, g1, g2, g3⟩ := hr
        obtain ⟨J5, S5⟩ := g1 W a'' W' S4
        exact ⟨kf S5, .exit id, h, J5, rfl, trivial, g3, S.again rfl hk (S2.outOf S5 rfl) g2⟩
      | _ => exact hr.elim
    · rintro D v W hD ⟨hpk, J', S'⟩ hd
      exact hq .normal _ _ _ (hQ hpk v) ⟨J', S.endLoop hro hJ0 S' hD hd⟩
    · rintro D c k v W hD hkl ⟨e, h, J', rfl, he, hQe, S'⟩ hd
      have S'' := S.endLoop hro hJ0 S' hD hd
      cases e with
      | ret => exact wp_ret (hq .ret _ _ _ hQe ⟨J', S''⟩)
      | exit id => exact wp_exit (hq (.exit id) _ _ _ hQe ⟨J', S''⟩)
      | _ => exact he.elim
  rw [hro]
  exact wpIn_wide.2 key
end
end Go.Ab
namespace Go.Ab
open Go Go.RowKit Go.Shelf Go.Proofs
section
variable {C : Ctx} {N : Nat} {st : St} {Q : Exit → St → Prop}
end
end Go.Ab
namespace Go.Ab
open Go Go.RowKit Go.Shelf Go.Proofs
section
variable {C : Ctx} {N : Nat} {st : St}
variable {ops : Array Oper} {pr : Bool} {K : St → Prop} {rest : List Oper} {d : Option Tmp} {T0 : TypeId} {pos : String} {af : Array Edge} {g : Option (Nat × Bool)}
end
end Go.Ab
namespace Go.Ab
open Go Go.RowKit Go.Shelf Go.Proofs
section
variable {C : Ctx} {N : Nat}
variable {Q : Exit → St → Prop} {st : St} {ops : Array Oper} {pr : Bool} {K : St → Prop} {rest : List Oper}
end
end Go.Ab
namespace Go.Ab
open Go Go.RowKit Go.Shelf Go.Proofs
section
variable {C : Ctx} {N : Nat}
variable {Q : Exit → St → Prop} {st : St} {ops : Array Oper} {pr : Bool} {K : St → Prop} {rest : List Oper} {d : Option Tmp} {T0 : TypeId} {pos : String} {af : Array Edge} {g : Option (Nat × Bool)}
end
end Go.Ab
namespace Go.Ab
open Go Go.RowKit Go.Shelf Go.Proofs
section
variable {C : Ctx} {N : Nat}
def GroOp (C : Ctx) (N : Nat) (o : Oper) (st : St) (i : Nat) (B : Blk) (d : Nat) : Prop := o.guard = none ∧ o.dst = some d ∧
  ∀ w0 a w st', Agree C o st st' → (∀ k, st'.h k = st.h k) → SimE C w0 N st' a w → ∀ K Q, (∀ v w', SimE C w0 N ((st'.grow i B).put (some d) (.ow i)) (a.put o.dst v) w' → K (a.put o.dst v) w') → o.wpIn (Fence.wr C.ro) 7 C.P a w K Q
def dstsB (l : List Oper) (s1 s2 : Nat → AV) (i : Nat) : Prop := match l with
  | [] => True
  | o :: l => (match o.dst with | some t => killA i (s1 t) = s2 t | none => True) ∧ dstsB l s1 s2 i
variable {l : List Oper} {n0 : Nat}
structure GD (C : Ctx) (N : Nat) (ops : Array Oper) (o : Oper) (mid : List Oper) (K : St → Prop) (st : St) : Prop where
  out : ∃ i B d, GroOp C N o st i B d ∧ Run C N ops true (fun st1 => Run C N ops true (fun st2 => (dstsB mid st1.s st2.s i ∧ st1.nx = st.nx ∧ st2.nx = st.nx) ∧ K st2) mid ((st.grow i B).put (some d) (.ow i))) mid st
structure KD (mid : List Oper) (i n : Nat) (K : St → Prop) (st1 st2 : St) : Prop where
  eqs : dstsB mid st1.s st2.s i
  nx1 : st1.nx = n
  nx2 : st2.nx = n
  out : K st2
end
end Go.Ab
namespace Go.Ab
open Go Go.RowKit Go.Shelf Go.Proofs
section
variable {C : Ctx} {N : Nat}
variable {l : List Oper} {n0 : Nat}
structure GE (C : Ctx) (N : Nat) (ops : Array Oper) (o : Oper) (all mid : List Oper) (K : St → Prop) (stE stA stP : St) : Prop where
  out : ∃ i B d, GroOp C N o stP i B d ∧ (∀ x ∈ o.op.operands.toList, stE.ev C x = stP.ev C x) ∧ (∀ k, stA.h k = stP.h k) ∧ Run C N ops true (fun stB => dstsB all stA.s stB.s i ∧ K stB) mid ((stP.grow i B).put (some d) (.ow i))
structure KE (all : List Oper) (i : Nat) (K : St → Prop) (stA stB : St) : Prop where
  eqs : dstsB all stA.s stB.s i
  out : K stB
end
end Go.Ab
namespace Go.Ab
open Go Go.RowKit Go.Shelf Go.Proofs
def OpensFs (P : Program) (w : World) (fs : List Field) (off tot : Nat) {α : Type} (k : α → List FV) : Prop :=
  ∀ (H : Type) (enc : TypeId × Value → H) (base : Nat) (sp : Nat → Bool) (hd : Bool) (n : Nat) (cs : List Value), cs.length = off + tot → (∀ (i : Nat) (f : Field), fs[i]? = some f → ∃ x, DataW.trod enc P w base sp hd n f.type ((cs.drop f.offset).take (P.cellsOf f.type)) = some x) → ∃ a : α, RepL w (fun _ => False) (cs.drop off) (k a) ∧ ∀ u ∈ cs.drop off, u.oneCell'
section
variable {P : Program} {w : World}
theorem ofs_nil {off : Nat} : OpensFs P w [] off 0 (fun _ : Unit => []) := fun H enc base sp hd n cs hl _ => by
  rw [List.drop_eq_nil_of_le (by omega)]
  exact ⟨(), RepL.nil _ _, by simp⟩
theorem ofs_cons {f : Field} {fs : List Field} {off s tot : Nat} {α β : Type} {g : α → List FV} {k : β → List FV} (hc : P.cellsOf f.type = s) (ho : f.offset = off) (h : Opens P w f.type g) (hr : OpensFs P w fs (off + s) tot k) : OpensFs P w (f :: fs) off (s + tot) (fun p : α × β => g p.1 ++ k p.2) := fun H enc base sp hd n cs hl hx => by
  obtain ⟨x, hx0⟩ := hx 0 f rfl
  obtain ⟨a, r0, q0⟩ := h H enc base sp hd n _ _ hx0
  obtain ⟨b, r1, q1⟩ := hr H enc base sp hd n cs (by omega) (fun i f' hf => hx (i + 1) f' hf)
  rw [ho, hc] at r0 q0
  have hs : cs.drop off = (cs.drop off).take s ++ cs.drop (off + s) := by rw [← List.drop_drop, List.take_append_drop]
  refine ⟨(a, b), ?_, fun u hu => ?_⟩
  · rw [hs]; exact RepL.append r0 r1
  · rw [hs] at hu
    rcases List.mem_append.1 hu with h | h
    · exact q0 u h
    · exact q1 u h
theorem opens_st {T : TypeId} {fs : Array Field} {tot : Nat} {α : Type} {k : α → List FV} (ht : P.underlying T = some (.struct fs)) (ct : P.cellsOf T = tot) (h : OpensFs P w fs.toList 0 tot k) : Opens P w T k := fun H enc base sp hd fuel cs x hx => by
  obtain ⟨xs, n, _, _, hlen, hxl, hf⟩ := DataW.trod_struct ht hx
  have := h H enc base sp hd n cs (by rw [hlen, ct]; omega) (fun i f hi => by
    have hi' : fs[i]? = some f := by rw [← hi]; simp
    have e := hf i f hi'
    have hlt : i < xs.length := by
      rw [hxl]
      exact (Array.getElem?_eq_some_iff.1 hi').1
    rw [List.getElem?_eq_getElem hlt] at e
    exact ⟨_, e⟩)
  rwa [List.drop_zero] at this
end
end Go.Ab
namespace Go.Ab
open Go Go.RowKit Go.Shelf Go.Proofs
section
variable {C : Ctx} {N : Nat} {st : St} {ops : Array Oper} {pr : Bool} {K : St → Prop} {rest : List Oper}
theorem b_remT {P : Program} {T : TypeId} {x y : Operand} {a b : Int} (h : b ≠ 0) (w : World) : (do eqGuard .rem T x y (.int .i64 a) (.int .i64 b); binOp .rem T (.int .i64 a) (.int .i64 b) : Sem Value).run P w = .ok (.int .i64 (a.tmod b)) w := by
  simp [eqGuard, binOp, Op.intDiv, h]
theorem s_remT {d : Option Tmp} {T0 : TypeId} {pos : String} {af : Array Edge} {T T' : TypeId} {x y : Operand} {p q : Int} (hd : dstB N d = true) (hx : st.ev C x = .f (.v (.int .i64 p))) (hy' : st.ev C y = .f (.v (.int .i64 q))) (hr : q ≠ 0) (h : R C N ops pr K rest (st.put d (.f (.v (.int .i64 (p.tmod q)))))) : R C N ops pr K (⟨d, .binOp .rem T x y T', T0, pos, af, none⟩ :: rest) st := ⟨r_val rfl (v_bin rfl hd hx hy' (b_remT hr)) h.out⟩
end
end Go.Ab
namespace Go.Ab
open Go Go.RowKit Go.Shelf Go.Proofs
section
variable {C : Ctx} {N : Nat} {st : St}
def Hp (st st' : St) : Prop := ∀ i B, st.h i = some B → st'.h i = none ∨ ∃ B', st'.h i = some B' ∧ More B B'
def Sees (C : Ctx) (N : Nat) (st : St) (x : AV) (y : FV) : Prop := ∀ st', Hp st st' → ∀ w0 a w J, Sim C w0 N st' a w J → ∀ v, RepA C w st'.h J v x → RepF w C.M0 v y
theorem Hp.blk {st st' : St} {w0 : World} {a : Act} {w : World} {J : Nat → Value} (H : Hp st st') (S : Sim C w0 N st' a w J) {i : Nat} {B : Blk} (hi : st.h i = some B) (hl : (st'.h i).isSome = true) : RepB C w w0.heap.size st'.h J (J i) B := by
  rcases H i B hi with h | ⟨B', h, m⟩
  · rw [h] at hl; cases hl
  · exact m.rep (S.blk i B' h)
def SeesL (C : Ctx) (N : Nat) (st : St) : List AV → List FV → Prop
  | [], [] => True
  | x :: xs, y :: ys => Sees C N st x y ∧ SeesL C N st xs ys
  | _, _ => False
theorem SeesL.len : ∀ {xs : List AV} {ys : List FV}, SeesL C N st xs ys → xs.length = ys.length
  | [], [], _ => rfl
  | _ :: _, _ :: _, h => by simp [SeesL.len h.2]
  | [], _ :: _, h => h.elim
  | _ :: _, [], h => h.elim
theorem SeesL.at_ : ∀ {xs : List AV} {ys : List FV}, SeesL C N st xs ys → ∀ (k : Nat) (x : AV) (y : FV), xs[k]? = some x → ys[k]? = some y → Sees C N st x y
  | [], [], _, k, x, y, h, _ => by simp at h
  | x :: xs, y :: ys, h, k, x', y', h1, h2 => by
    cases k with
    | zero => simp at h1 h2; subst h1; subst h2; exact h.1
    | succ k => exact SeesL.at_ h.2 k x' y' (by simpa using h1) (by simpa using h2)
  | [], _ :: _, h, _, _, _, _, _ => h.elim
  | _ :: _, [], h, _, _, _, _, _ => h.elim
theorem SeesL.append : ∀ {xs xs' : List AV} {ys ys' : List FV}, SeesL C N st xs ys → SeesL C N st xs' ys' → SeesL C N st (xs ++ xs') (ys ++ ys')
  | [], _, [], _, _, k => k
  | _ :: _, _, _ :: _, _, h, k => ⟨h.1, SeesL.append h.2 k⟩
  | [], _, _ :: _, _, h, _ => h.elim
  | _ :: _, _, [], _, h, _ => h.elim
theorem SeesL.of : ∀ {xs : List AV} {ys : List FV}, xs.length = ys.length → (∀ (k : Nat) (x : AV) (y : FV), xs[k]? = some x → ys[k]? = some y → Sees C N st x y) → SeesL C N st xs ys
  | [], [], _, _ => trivial
  | x :: xs, y :: ys, hl, h => ⟨h 0 x y rfl rfl, SeesL.of (by simpa using hl) fun k x' y' h1 h2 => h (k + 1) x' y' (by simpa using h1) (by simpa using h2)⟩
  | [], _ :: _, hl, _ => by simp at hl
  | _ :: _, [], hl, _ => by simp at hl
theorem m0_not {w0 : World} {a : Act} {w : World} {J : Nat → Value} (S : Sim C w0 N st a w J) {i b : Nat} (hi : (st.h i).isSome = true) (hb : bk (J i) = some b) : ¬ C.M0 b := fun hm => by
  obtain ⟨h1, h2⟩ := S.old b hm
  rcases (S.own_at hi hb).1 with h | h
  · omega
  · exact h2 h
theorem lies_row {w0 : World} {a : Act} {w : World} {J : Nat → Value} (S : Sim C w0 N st a w J) {i e sz n : Nat} {xs : List Value} (hl : (st.h i).isSome = true) (q1 : w.ownsRow 0 e sz (J i) n xs) : ∀ b, bk (J i) = some b → Lies w C.M0 b 0 xs := fun b hb =>
  ⟨(S.own_at hl hb).2, m0_not S hl hb, fun k hk => by
    rw [Nat.zero_add]
    rw [own_bk q1] at hb
    obtain ⟨ad, c, e1⟩ := q1.isSlice
    have := q1.cells hb k xs[k] (List.getElem?_eq_getElem hk)
    rw [addr_add, Nat.zero_add] at this
    rw [this, List.getElem?_eq_getElem hk]⟩
theorem sees_own {w0 : World} {a : Act} {w : World} {J : Nat → Value} (S : Sim C w0 N st a w J) {i e sz n : Nat} {xs : List Value} {ys : List FV} (hl : (st.h i).isSome = true) (q1 : w.ownsRow 0 e sz (J i) n xs) (q2 : ∀ u ∈ xs, u.oneCell' = true) (q3 : RepL w C.M0 xs ys) : RepF w C.M0 (J i) (.sl n ys) := by
  have lies := lies_row S hl q1
  rcases q1.2 with ⟨e1, e2⟩ | ⟨g, cap, cur, e1, h1, h2, h3, h4, h5, h6⟩
  · rw [e1]
    have hx : xs = [] := List.eq_nil_of_length_eq_zero (by rw [q1.1, e2]; simp)
    subst hx
    subst e2
    exact RepF.sl none 0 0 ys [] (Nat.le_refl _) q3.1 q2 (fun h => absurd rfl h) (fun k u x h => by simp at h)
  · have hL := lies g (by rw [e1]; rfl)
    rw [e1]
    exact RepF.sl _ n cap ys xs h3 q3.1 q2 (fun _ => ⟨g, 0, rfl, hL⟩) (fun k u x a b => q3.2 k u x a b)
theorem sees_row {i e sz n : Nat} {ys : List FV} (hi : st.h i = some (.row e sz n ys)) : Sees C N st (.ow i) (.sl n ys) := fun st' H w0 a w J S v r => by
  obtain ⟨hl, rfl⟩ := r
  obtain ⟨xs, q1, _, q2, q3⟩ := H.blk S hi hl
  exact sees_own S hl q1 q2 ⟨q3.1, fun k u x h1 h2 => RepF.ext (q3.2 k u x h1 h2) (Ext.refl _) (fun _ _ h => .inl h)⟩
variable {ops : Array Oper} {pr : Bool} {K : St → Prop} {rest : List Oper} {d : Option Tmp} {T0 : TypeId} {pos : String} {af : Array Edge} {gd : Option (Nat × Bool)}
end
end Go.Ab
namespace Go.Ab
open Go Go.RowKit Go.Shelf Go.Proofs
section
variable {C : Ctx} {N : Nat} {st : St} {ops : Array Oper} {pr : Bool} {K : St → Prop} {rest : List Oper}
variable {d : Option Tmp} {T0 : TypeId} {pos : String} {af : Array Edge} {g : Option (Nat × Bool)}
end
end Go.Ab
namespace Go.Ab
open Go Go.RowKit Go.Shelf Go.Proofs
section
variable {C : Ctx} {N : Nat}
def StW (C : Ctx) (N : Nat) (o : Oper) (st : St) (i : Nat) (B : Blk) : Prop := o.guard = none ∧ o.dst = none ∧
  ∀ w0 a w st', Agree C o st st' → (∀ k, st'.h k = st.h k) → SimE C w0 N st' a w → ∀ K Q, (∀ v w', SimE C w0 N { st' with h := upd st'.h i (some B) } (a.put o.dst v) w' → K (a.put o.dst v) w') → o.wpIn (Fence.wr C.ro) 7 C.P a w K Q
def dstsE (l : List Oper) (s1 s2 : Nat → AV) : Prop := match l with
  | [] => True
  | o :: l => (match o.dst with | some t => s1 t = s2 t | none => True) ∧ dstsE l s1 s2
variable {l : List Oper} {n0 : Nat}
structure GW (C : Ctx) (N : Nat) (ops : Array Oper) (o : Oper) (all mid : List Oper) (K : St → Prop) (stE stA stP : St) : Prop where
  out : ∃ i B, StW C N o stP i B ∧ (∀ x ∈ o.op.operands.toList, stE.ev C x = stP.ev C x) ∧ (∀ k, stA.h k = stP.h k) ∧ Run C N ops true (fun stB => dstsE all stA.s stB.s ∧ K stB) mid { stP with h := upd stP.h i (some B) }
structure KW (all : List Oper) (K : St → Prop) (stA stB : St) : Prop where
  eqs : dstsE all stA.s stB.s
  out : K stB
end
end Go.Ab
namespace Go.Ab
open Go Go.RowKit Go.Shelf Go.Proofs
section
variable {C : Ctx} {N : Nat} {st : St}
variable {ops : Array Oper} {pr : Bool} {K : St → Prop} {rest : List Oper} {d : Option Tmp} {T0 : TypeId} {pos : String} {af : Array Edge} {gd : Option (Nat × Bool)}
theorem s_convW {T T' : TypeId} {x : Operand} {vx v : Value} (hw : wantB st ops ⟨d, .convert T T' x, T0, pos, af, gd⟩ = some true) (hd : dstB N d = true) (hx : st.ev C x = .f (.v vx)) (hrun : ∀ w, (convert T T' vx).run C.P w = .ok v w) (h : R C N ops pr K rest (st.put d (.f (.v v)))) : R C N ops pr K (⟨d, .convert T T' x, T0, pos, af, gd⟩ :: rest) st := ⟨r_val hw (v_conv rfl hd hx hrun) h.out⟩
end
end Go.Ab
namespace Go.Ab
open Go Go.RowKit Go.Shelf Go.Proofs
end Go.Ab
namespace Go.Ab
open Go Go.RowKit Go.Shelf Go.Proofs
def pin0 (J : Nat → Value) (i : Nat) : Option Value := bif Nat.beq i 0 then some (J 0) else none
def cxH (P : Program) (G : Nat → Option FV) (M X : Nat → Prop) (J : Nat → Value) : Ctx := ⟨P, G, M, X, none, pin0 J⟩
structure SummH (P : Program) (G : Nat → Option FV) (g : Nat) (h : Nat → Option Blk) (args : List AV) (ret : AV) (h' : Nat → Option Blk) : Prop where
  enters : Enters P g
  one : ∃ B B', h 0 = some B ∧ B.stays = true ∧ h' 0 = some B' ∧ B'.stays = true
  cl : ∀ i B, h i = some B → closedB h B
  call : ∀ (w : World) (M X : Nat → Prop) (us : List Value) (J : Nat → Value), (∀ b, X b ↔ ownM h J b) → (∀ b, M b → b < w.heap.size ∧ ¬ X b) → (∀ k, G k = none) →
    RepAs (cxH P G M X J) w h J us args → (∀ i B, h i = some B → RepB (cxH P G M X J) w w.heap.size h J (J i) B) → (∀ i j b, (h i).isSome = true → (h j).isSome = true → bk (J i) = some b → bk (J j) = some b → i = j) →
    Calls P g us.toArray w fun en w' => ∃ v J', en = .returned v ∧ RepA (cxH P G M X J) w' h' J' v ret ∧ (∀ i B, h' i = some B → RepB (cxH P G M X J) w' w.heap.size h' J' (J' i) B) ∧ (∀ i j b, (h' i).isSome = true → (h' j).isSome = true → bk (J' i) = some b → bk (J' j) = some b → i = j) ∧ Grew X w w' ∧ J' 0 = J 0
section
variable {C : Ctx} {N : Nat} {st : St}
variable {ops : Array Oper} {K : St → Prop} {rest : List Oper} {d : Option Tmp} {T0 : TypeId} {pos : String} {af : Array Edge}
theorem gh_eq {s : Nat → AV} {h h' : Nat → Option Blk} {n : Nat} (e : h = h') : Gh C N ⟨s, h, n⟩ ⟨s, h', n⟩ := by subst e; exact gh_refl _
end
end Go.Ab
namespace Go.Ab
open Go Go.RowKit Go.Shelf Go.Proofs
section
variable {C : Ctx} {N : Nat} {st : St}
variable {ops : Array Oper} {pr : Bool} {K : St → Prop} {rest : List Oper} {d : Option Tmp} {T0 : TypeId} {pos : String} {af : Array Edge} {g : Option (Nat × Bool)}
end
end Go.Ab
namespace Go.Ab
open Go Go.RowKit Go.Shelf Go.Proofs
section
variable {C : Ctx} {N : Nat}
variable {ops : Array Oper} {pr : Bool} {K : St → Prop} {rest : List Oper} {d : Option Tmp} {T0 : TypeId} {pos : String} {af : Array Edge} {gd : Option (Nat × Bool)} {st : St}
end
end Go.Ab
namespace Go.Ab
open Go Go.RowKit Go.Shelf Go.Proofs
section
variable {C : Ctx} {N : Nat}
variable {ops : Array Oper} {pr : Bool} {K : St → Prop} {rest : List Oper} {d : Option Tmp} {T0 : TypeId} {pos : String} {af : Array Edge} {gd : Option (Nat × Bool)} {st : St}
end
end Go.Ab
namespace Go.Ab
open Go Go.RowKit Go.Shelf Go.Proofs
section
variable {C : Ctx} {N : Nat}
end
end Go.Ab
namespace Go.Ab
open Go Go.RowKit Go.Shelf Go.Proofs
section
variable {C : Ctx} {N : Nat}
theorem extract_list (s : List UInt8) (a b : Nat) : (⟨s.toArray⟩ : ByteArray).extract a b = ⟨((s.drop a).take (b - a)).toArray⟩ := by
  apply ByteArray.ext
  apply Array.ext'
  simp [ByteArray.data_extract]
theorem v_sliceStr {o : Oper} {st : St} {T : TypeId} {x : Operand} {lo hi : Option Operand} {s : List UInt8} {l h : Int} (ty : Ty C.P) (hT : (ty.ty T).str = true) (ho : o.op = .slice T x lo hi none) (hd : dstB N o.dst = true) (hx : st.ev C x = .f (.v (.string ⟨s.toArray⟩)))
    (hlo : bnd C st lo 0 l) (hhi : bnd C st hi s.length h) (h0 : 0 ≤ l) (hlh : l ≤ h) (hhn : h ≤ s.length) : ValOp C N o st (.f (.v (.string ⟨((s.drop l.toNat).take (h.toNat - l.toNat)).toArray⟩))) :=
  valop_run hd fun w0 a w J st' hA S => by
    have e1 := evV S ((hA.ev x (by simp [ho, Op.operands])).trans hx)
    have hu := strB_spec ((ty.ok T).str hT)
    have hsz : (⟨s.toArray⟩ : ByteArray).size = s.length := by simp [ByteArray.size]
    have hlo' : (lo = none ∧ l = 0) ∨ ∃ y k, lo = some y ∧ a.eval y = .int k l := by
      cases lo with
      | none => exact .inl ⟨rfl, hlo⟩
      | some y => obtain ⟨k, hk⟩ := hlo; exact .inr ⟨y, k, rfl, evV S ((hA.ev y (by simp [ho, Op.operands])).trans hk)⟩
    have hhi' : (hi = none ∧ h = s.length) ∨ ∃ y k, hi = some y ∧ a.eval y = .int k h := by
      cases hi with
      | none => exact .inl ⟨rfl, hhi⟩
      | some y => obtain ⟨k, hk⟩ := hhi; exact .inr ⟨y, k, rfl, evV S ((hA.ev y (by simp [ho, Op.operands])).trans hk)⟩
    rw [← extract_list]
    have hh0 : 0 ≤ h := by omega
    refine ⟨_, w, ?_, Ext.refl _, RepF.v _⟩
    rcases hlo' with ⟨rfl, rfl⟩ | ⟨y, k, rfl, hy⟩ <;> rcases hhi' with ⟨rfl, rfl⟩ | ⟨y', k', rfl, hy'⟩
    · have := run_slice_string_all (P := C.P) w T ⟨s.toArray⟩ hu
      rw [hsz] at this
      simp [execOp, ho, e1, Instr.sliceAt, run_underlying hu, this]
    · have := run_slice_string_h (P := C.P) w T ⟨s.toArray⟩ hu k' h hh0 (by rw [hsz]; exact hhn)
      simp [execOp, ho, e1, hy', Instr.sliceAt, run_underlying hu, this]
    · have := run_slice_string_l (P := C.P) w T ⟨s.toArray⟩ hu k l h0 (by rw [hsz]; omega)
      rw [hsz] at this
      simp [execOp, ho, e1, hy, Instr.sliceAt, run_underlying hu, this]
    · have := run_slice_string (P := C.P) w T ⟨s.toArray⟩ k k' l h hu h0 hlh (by rw [hsz]; exact hhn)
      simp [execOp, ho, e1, hy, hy', Instr.sliceAt, run_underlying hu, this]
def isIfc (u : Value) : Prop := ∃ t p, u = .iface t p
def isI64 (u : Value) : Prop := ∃ m, u = .int .i64 m
theorem evAny {w0 : World} {a : Act} {w : World} {J : Nat → Value} {st' : St} (S : Sim C w0 N st' a w J) {x : Operand} {G : Value → Prop} (h : st'.ev C x = .f (.any G)) : G (a.eval x) := by
  have e := evF S h
  generalize a.eval x = v at e
  cases e with
  | any _ _ h1 _ => exact h1
theorem v_ifcNil {o : Oper} {st : St} {neg : Bool} {T T' : TypeId} {x : Operand} (hu : C.P.underlying T = some (.interface (C.P.methodsAt T))) (ho : o.op = .binOp (bif neg then .neq else .eql) T x (.const .nilIface) T') (hd : dstB N o.dst = true) (hx : st.ev C x = .f (.any isIfc)) : ValOp C N o st (.f (.v (.bool neg))) :=
  valop_run hd fun w0 a w J st' hA S => by
    obtain ⟨t, p, e1⟩ := evAny S ((hA.ev x (by simp [ho, Op.operands])).trans hx)
    refine ⟨.bool neg, w, ?_, Ext.refl _, RepF.v _⟩
    have hc : a.eval (.const .nilIface) = .nilIface := rfl
    cases neg <;> simp [execOp, ho, e1, hc, eqGuard, run_eql_held_nil w T t p hu, run_neq_held_nil w T t p hu]
theorem v_strOw {o : Oper} {st : St} {T T' E : TypeId} {x : Operand} {i e : Nat} {z : Int} (h1 : C.P.underlying T = some (.slice E)) (h2 : C.P.underlying T' = some .string) (h3 : C.P.underlying E = some (.int .u8)) (ho : o.op = .convert T T' x) (hd : dstB N o.dst = true) (hx : st.ev C x = .ow i) (hi : st.h i = some (.row e 1 1 [.v (.int .u8 z)])) : ValOp C N o st (.f (.v (.string ⟨#[UInt8.ofNat z.toNat]⟩))) :=
  valop_run hd fun w0 a w J st' hA S => by
    have e1 := S.eval x
    rw [hA.ev x (by simp [ho, Op.operands]), hx] at e1
    obtain ⟨hlv, hv⟩ := e1
    obtain ⟨xs, q1, q0, q2, q3⟩ := blkOf hA S hi hlv
    obtain rfl : xs = [.int .u8 z] := by
      obtain ⟨u, us', rfl, hu, hR'⟩ := RepL.head q3
      obtain rfl := hR'.end
      rw [repV hu]
    rcases q1.2 with ⟨hj, hn⟩ | ⟨g, cap, cur, hj, g1, g2, g3, g4, g5, g6⟩
    · cases hn
    · have hown : (J i).ownBlock = some g := by rw [hj]; rfl
      have hcell := q1.cells hown 0 (.int .u8 z) rfl
      have hld : (loadCells ⟨g, 0, none⟩ 1).run C.P w = .ok ([z].map (Value.int .u8)).toArray w := run_loadCells_list (P := C.P) w (⟨g, 0, none⟩ : Addr) [.int .u8 z] fun j v hv => by
        match j, hv with
        | 0, hv => cases hv; exact hcell
        | j + 1, hv => simp at hv
      have hrun : (convert T T' (.slice (some ⟨g, 0, none⟩) 1 cap)).run C.P w = .ok (.string ⟨#[UInt8.ofNat z.toNat]⟩) w := by
        rw [run_convert_bytes_string w T T' E _ _ _ h1 h3 h2]
        exact run_bytesToString w _ _ _ [z] hld
      exact ⟨_, w, by simp [execOp, ho, hv, hj, hrun], Ext.refl _, RepF.v _⟩
variable {ops : Array Oper} {pr : Bool} {K : St → Prop} {rest : List Oper} {d : Option Tmp} {T0 : TypeId} {pos : String} {af : Array Edge} {gd : Option (Nat × Bool)} {st : St}
theorem s_strOw {T T' E : TypeId} {x : Operand} {i e : Nat} {z : Int} (h1 : C.P.underlying T = some (.slice E)) (h2 : C.P.underlying T' = some .string) (h3 : C.P.underlying E = some (.int .u8)) (hw : wantB st ops ⟨d, .convert T T' x, T0, pos, af, gd⟩ = some true) (hd : dstB N d = true) (hx : st.ev C x = .ow i) (hi : st.h i = some (.row e 1 1 [.v (.int .u8 z)])) (k : R C N ops pr K rest (st.put d (.f (.v (.string ⟨#[UInt8.ofNat z.toNat]⟩))))) : R C N ops pr K (⟨d, .convert T T' x, T0, pos, af, gd⟩ :: rest) st := ⟨r_val hw (v_strOw h1 h2 h3 rfl hd hx hi) k.out⟩
theorem s_sliceStr (ty : Ty C.P) {T : TypeId} {x : Operand} {lo hi : Option Operand} {s : List UInt8} {l h' : Int} (hT : (ty.ty T).str = true) (hw : wantB st ops ⟨d, .slice T x lo hi none, T0, pos, af, gd⟩ = some true) (hd : dstB N d = true) (hx : st.ev C x = .f (.v (.string ⟨s.toArray⟩))) (hlo : bnd C st lo 0 l) (hhi : bnd C st hi s.length h') (h0 : 0 ≤ l) (hlh : l ≤ h') (hhn : h' ≤ s.length)
    (k : R C N ops pr K rest (st.put d (.f (.v (.string ⟨((s.drop l.toNat).take (h'.toNat - l.toNat)).toArray⟩))))) : R C N ops pr K (⟨d, .slice T x lo hi none, T0, pos, af, gd⟩ :: rest) st := ⟨r_val hw (v_sliceStr ty hT rfl hd hx hlo hhi h0 hlh hhn) k.out⟩
theorem s_ifcNe {T T' : TypeId} {x : Operand} (hu : C.P.underlying T = some (.interface (C.P.methodsAt T))) (hw : wantB st ops ⟨d, .binOp .neq T x (.const .nilIface) T', T0, pos, af, gd⟩ = some true) (hd : dstB N d = true) (hx : st.ev C x = .f (.any isIfc)) (k : R C N ops pr K rest (st.put d (.f (.v (.bool true))))) : R C N ops pr K (⟨d, .binOp .neq T x (.const .nilIface) T', T0, pos, af, gd⟩ :: rest) st := ⟨r_val hw (v_ifcNil (neg := true) hu rfl hd hx) k.out⟩
theorem s_ifcNil {T T' : TypeId} {x : Operand} (hu : C.P.underlying T = some (.interface (C.P.methodsAt T))) (hw : wantB st ops ⟨d, .binOp .neq T x (.const .nilIface) T', T0, pos, af, gd⟩ = some true) (hd : dstB N d = true) (hx : st.ev C x = .f (.v .nilIface)) (k : R C N ops pr K rest (st.put d (.f (.v (.bool false))))) : R C N ops pr K (⟨d, .binOp .neq T x (.const .nilIface) T', T0, pos, af, gd⟩ :: rest) st := ⟨r_val hw (v_bin rfl hd hx rfl (fun w => by simp [eqGuard, run_neq_nil_nil w T hu])) k.out⟩
end
end Go.Ab
namespace Go.Ab
open Go Go.RowKit Go.Shelf Go.Proofs
section
variable {C : Ctx} {N : Nat}
theorem byte_at {s : List UInt8} {i : Nat} {b : UInt8} (h : s[i]? = some b) : (⟨s.toArray⟩ : ByteArray)[i]? = some b := by
  obtain ⟨hi, e⟩ := List.getElem?_eq_some_iff.1 h
  have hi2 : i < (⟨s.toArray⟩ : ByteArray).size := by simpa [ByteArray.size] using hi
  rw [getElem?_pos (⟨s.toArray⟩ : ByteArray) i hi2, ← e]
  show some (s.toArray[i]) = _
  simp
variable {ops : Array Oper} {pr : Bool} {K : St → Prop} {rest : List Oper} {d : Option Tmp} {T0 : TypeId} {pos : String} {af : Array Edge} {gd : Option (Nat × Bool)} {st : St}
theorem s_idxS (ty : Ty C.P) {T : TypeId} {x y : Operand} {s : List UInt8} {k : IntKind} {z : Int} {b : UInt8} (hT : (ty.ty T).str = true) (hw : wantB st ops ⟨d, .index T x y, T0, pos, af, gd⟩ = some true) (hd : dstB N d = true) (hx : st.ev C x = .f (.v (.string ⟨s.toArray⟩))) (hy : st.ev C y = .f (.v (.int k z))) (h0 : 0 ≤ z) (hb : s[z.toNat]? = some b) (h : R C N ops pr K rest (st.put d (.f (.v (.int .u8 b.toNat))))) : R C N ops pr K (⟨d, .index T x y, T0, pos, af, gd⟩ :: rest) st := ⟨r_val hw (v_index_str ty hT rfl hd hx hy h0 (byte_at hb)) h.out⟩
theorem v_sliceFrom {o : Oper} {st : St} {T E s bs : Nat} {x y : Operand} {cs cs' : List FV} {n m : Nat} {k : IntKind} (ty : Ty C.P) (ho : o.op = .slice T x (some y) none none) (hd : dstB N o.dst = true) (hT : (ty.ty T).sl = some (E, s, bs)) (hx : st.ev C x = .f (.sl n cs)) (hy : st.ev C y = .f (.v (.int k ((m : Nat) : Int)))) (hm : m ≤ n) (hl : cs.length = n * s) (hc : cs.drop (m * s) = cs') : ValOp C N o st (.f (.sl (n - m) cs')) := by
  have h := v_slice (l := ((m : Nat) : Int)) (h := ((n : Nat) : Int)) (lo := some y) (hi := none) ty ho hd hT hx ⟨_, hy⟩ rfl (by omega) (by omega) (by omega)
  have e : FV.sl (((n : Nat) : Int).toNat - ((m : Nat) : Int).toNat) ((cs.drop (((m : Nat) : Int).toNat * s)).take ((((n : Nat) : Int).toNat - ((m : Nat) : Int).toNat) * s)) = .sl (n - m) cs' := by
    rw [← hc, Int.toNat_natCast, Int.toNat_natCast, List.take_of_length_le]
    rw [List.length_drop, hl, Nat.sub_mul]
    exact Nat.le_refl _
  rwa [e] at h
theorem s_sliceFrom (ty : Ty C.P) {T E s bs : Nat} {x y : Operand} {cs cs' : List FV} {n m : Nat} {k : IntKind} (hw : wantB st ops ⟨d, .slice T x (some y) none none, T0, pos, af, gd⟩ = some true) (hd : dstB N d = true) (hT : (ty.ty T).sl = some (E, s, bs)) (hx : st.ev C x = .f (.sl n cs)) (hy : st.ev C y = .f (.v (.int k ((m : Nat) : Int)))) (hm : m ≤ n) (hl : cs.length = n * s) (hc : cs.drop (m * s) = cs')
    (h : R C N ops pr K rest (st.put d (.f (.sl (n - m) cs')))) : R C N ops pr K (⟨d, .slice T x (some y) none none, T0, pos, af, gd⟩ :: rest) st := ⟨r_val hw (v_sliceFrom ty rfl hd hT hx hy hm hl hc) h.out⟩
end
end Go.Ab
namespace Go.Proofs.YtnmaabejdmaahaaGreatDoor
open Go Go.RowKit Go.Proofs Go.Shelf Go.Ab
structure Cel where
  ring : Int
  before : Int
  count : Int
  index : Int
deriving DecidableEq, Inhabited
def befK (rs : List Int) : Nat → Int
  | 0 => 0
  | k + 1 => befK rs k + rs.getD k default
structure SkyOk (rs : List Int) : Prop where
  pos : 1 ≤ rs.length
  len : rs.length ≤ 8
  ring : ∀ i, i < rs.length → 1 ≤ rs.getD i default ∧ rs.getD i default ≤ 12
def upB (rs : List Int) (h b : Int) : Bool := decide (h * befK rs rs.length ≤ 1000000 * (befK rs rs.length - 2 * b))
end Go.Proofs.YtnmaabejdmaahaaGreatDoor
namespace Go.Proofs.YtnmaabejdmaahaaGreatDoor
open Go Go.RowKit Go.Proofs Go.Shelf Go.Ab
structure Job where
  ready : Int
  length : Int
  due : Int
  rank : Int
deriving DecidableEq, Inhabited
def bestF (P : Nat → Bool) (v : Nat → Int) : Nat → Int
  | 0 => -1
  | k + 1 => if P k = true ∧ (bestF P v k < 0 ∨ v (bestF P v k).toNat < v k) then (k : Int) else bestF P v k
theorem bestF_bd {P : Nat → Bool} {v : Nat → Int} : ∀ n, -1 ≤ bestF P v n ∧ bestF P v n < n
  | 0 => by simp [bestF]
  | k + 1 => by
    have := bestF_bd (P := P) (v := v) k
    rw [bestF]; split <;> omega
theorem bestF_none {P : Nat → Bool} {v : Nat → Int} : ∀ {n : Nat}, (∀ i, i < n → P i = false) → bestF P v n = -1
  | 0, _ => rfl
  | k + 1, h => by
    rw [bestF, if_neg (by rw [h k (by omega)]; simp)]
    exact bestF_none fun i hi => h i (by omega)
theorem bestF_some {P : Nat → Bool} {v : Nat → Int} : ∀ {n : Nat}, (∃ i, i < n ∧ P i = true) → 0 ≤ bestF P v n ∧ P (bestF P v n).toNat = true ∧ ∀ i, i < n → P i = true → v i ≤ v (bestF P v n).toNat
  | 0, ⟨i, h, _⟩ => absurd h (Nat.not_lt_zero i)
  | k + 1, ⟨j, hj, hP⟩ => by
    rw [bestF]
    have hb := bestF_bd (P := P) (v := v) k
    by_cases hc : P k = true ∧ (bestF P v k < 0 ∨ v (bestF P v k).toNat < v k)
    · rw [if_pos hc]
      refine ⟨by omega, by simpa using hc.1, fun i hi hPi => ?_⟩
      show v i ≤ v k
      by_cases e : i = k
      · subst e; exact Int.le_refl _
      · have := (bestF_some (v := v) (n := k) ⟨i, by omega, hPi⟩)
        have h2 := this.2.2 i (by omega) hPi
        rcases hc.2 with h3 | h3
        · omega
        · omega
    · rw [if_neg hc]
      by_cases e : ∃ i, i < k ∧ P i = true
      · obtain ⟨a, b, c⟩ := bestF_some (v := v) e
        refine ⟨a, b, fun i hi hPi => ?_⟩
        by_cases e2 : i = k
        · subst e2
          refine Classical.byContradiction fun h => hc ⟨hPi, .inr (by omega)⟩
        · exact c i (by omega) hPi
      · exfalso
        have hn : bestF P v k = -1 := bestF_none fun i hi => by
          cases h : P i with
          | false => rfl
          | true => exact absurd ⟨i, hi, h⟩ e
        have : j = k := Classical.byContradiction fun h => e ⟨j, by omega, hP⟩
        subst this
        exact hc ⟨hP, .inl (by omega)⟩
def begF (U : Nat → Bool) (r : Nat → Int) (now : Int) : Nat → Int
  | 0 => -1
  | k + 1 => if U k = true ∧ (begF U r now k < 0 ∨ max now (r k) < begF U r now k) then max now (r k) else begF U r now k
theorem begF_none {U : Nat → Bool} {r : Nat → Int} {now : Int} : ∀ {n : Nat}, (∀ i, i < n → U i = false) → begF U r now n = -1
  | 0, _ => rfl
  | k + 1, h => by
    rw [begF, if_neg (by rw [h k (by omega)]; simp)]
    exact begF_none fun i hi => h i (by omega)
theorem begF_some {U : Nat → Bool} {r : Nat → Int} {now : Int} (h0 : 0 ≤ now) : ∀ {n : Nat}, (∃ i, i < n ∧ U i = true) → now ≤ begF U r now n ∧ (∃ i, i < n ∧ U i = true ∧ begF U r now n = max now (r i)) ∧ ∀ i, i < n → U i = true → begF U r now n ≤ max now (r i)
  | 0, ⟨i, h, _⟩ => absurd h (Nat.not_lt_zero i)
  | k + 1, ⟨j, hj, hP⟩ => by
    rw [begF]
    by_cases hc : U k = true ∧ (begF U r now k < 0 ∨ max now (r k) < begF U r now k)
    · rw [if_pos hc]
      refine ⟨by omega, ⟨k, by omega, hc.1, rfl⟩, fun i hi hPi => ?_⟩
      by_cases e : i = k
      · subst e; exact Int.le_refl _
      · obtain ⟨a, _, c⟩ := begF_some h0 (r := r) (n := k) ⟨i, by omega, hPi⟩
        have := c i (by omega) hPi
        rcases hc.2 with h3 | h3 <;> omega
    · rw [if_neg hc]
      by_cases e : ∃ i, i < k ∧ U i = true
      · obtain ⟨a, ⟨i0, b1, b2, b3⟩, c⟩ := begF_some h0 (r := r) e
        refine ⟨a, ⟨i0, by omega, b2, b3⟩, fun i hi hPi => ?_⟩
        by_cases e2 : i = k
        · subst e2
          refine Classical.byContradiction fun h => hc ⟨hPi, .inr (by omega)⟩
        · exact c i (by omega) hPi
      · exfalso
        have hn : begF U r now k = -1 := begF_none fun i hi => by
          cases h : U i with
          | false => rfl
          | true => exact absurd ⟨i, hi, h⟩ e
        have : j = k := Classical.byContradiction fun h => e ⟨j, by omega, hP⟩
        subst this
        exact hc ⟨hP, .inl (by omega)⟩
def nextR (U : Nat → Bool) (r k : Nat → Int) (n : Nat) (now : Int) : Int × Int :=
  let b := begF U r now n
  (bestF (fun i => U i && decide (r i ≤ b)) k n, b)
end Go.Proofs.YtnmaabejdmaahaaGreatDoor
namespace Go.Proofs.YtnmaabejdmaahaaGreatDoor
open Go Go.RowKit Go.Proofs Go.Shelf Go.Ab
def jobA (l : List Job) (z : Int) : Job := l.getD z.toNat default
def endT (l : List Job) (now z : Int) : Int := max now (jobA l z).ready + (jobA l z).length
def nowK (l : List Job) (o : List Int) : Nat → Int
  | 0 => 0
  | k + 1 => endT l (nowK l o k) (o.getD k default)
def endsK (l : List Job) (o : List Int) : Nat → List Int
  | 0 => List.replicate l.length 0
  | k + 1 => (endsK l o k).set (o.getD k default).toNat (nowK l o (k + 1))
def lateB (l : List Job) (o : List Int) : Prop := ∃ i, i < l.length ∧ (l.getD i default).due < (endsK l o o.length).getD i default
structure OrdOk (l : List Job) (o : List Int) : Prop where
  nd : o.Nodup
  mem : ∀ z, z ∈ o → 0 ≤ z ∧ z < l.length
theorem OrdOk.snoc {l : List Job} {o : List Int} (q : OrdOk l o) {i : Nat} (hi : i < l.length) (hm : (i : Int) ∉ o) : OrdOk l (o ++ [(i : Int)]) :=
  ⟨List.nodup_append.2 ⟨q.nd, by simp, fun a ha b hb => by rw [List.mem_singleton] at hb; subst hb; exact fun e => hm (e ▸ ha)⟩, fun z hz => by
    rcases List.mem_append.1 hz with h | h
    · exact q.mem z h
    · rw [List.mem_singleton] at h; subst h; omega⟩
theorem pig : ∀ {n : Nat} {o : List Nat}, o.Nodup → (∀ z, z ∈ o → z < n) → o.length ≤ n
  | 0, o, _, h => by
    cases o with
    | nil => exact Nat.le_refl _
    | cons a t => exact absurd (h a (by simp)) (Nat.not_lt_zero _)
  | n + 1, o, hd, h => by
    have h1 := pig (n := n) (o := o.erase n) (hd.erase n) fun z hz => by
      have := (hd.mem_erase_iff).1 hz
      have := h z this.2
      omega
    rw [List.length_erase] at h1
    split at h1 <;> omega
theorem OrdOk.full {l : List Job} {o : List Int} (q : OrdOk l o) (hl : o.length = l.length) {i : Nat} (hi : i < l.length) : (i : Int) ∈ o := by
  refine Classical.byContradiction fun h => ?_
  have q2 := q.snoc hi h
  have := pig (n := l.length) (o := (o ++ [(i : Int)]).map Int.toNat) (by
    refine (List.pairwise_map).2 (q2.nd.imp_of_mem fun {a b} ha hb hab he => hab ?_)
    have h1 := q2.mem a ha
    have h2 := q2.mem b hb
    omega) (fun z hz => by
    obtain ⟨x, hx, rfl⟩ := List.mem_map.1 hz
    have := q2.mem x hx
    omega)
  rw [List.length_map, List.length_append, List.length_singleton] at this
  omega
instance (l : List Job) (o : List Int) : Decidable (lateB l o) := by unfold lateB; infer_instance
end Go.Proofs.YtnmaabejdmaahaaGreatDoor
namespace Go.Proofs.YtnmaabejdmaahaaGreatDoor
open Go Go.RowKit Go.Proofs Go.Shelf Go.Ab
def idxL (n : Nat) : List Int := (List.range n).map fun i : Nat => (i : Int)
theorem idxL_nd (n : Nat) : (idxL n).Nodup := List.pairwise_map.2 (List.nodup_range.imp fun h e => h (by omega))
theorem idxL_mem {n : Nat} {z : Int} : z ∈ idxL n ↔ 0 ≤ z ∧ z < n := by
  unfold idxL
  rw [List.mem_map]
  constructor
  · rintro ⟨i, hi, rfl⟩
    rw [List.mem_range] at hi
    omega
  · intro h
    exact ⟨z.toNat, List.mem_range.2 (by omega), by omega⟩
def sumI (f : Int → Int) : List Int → Int
  | [] => 0
  | x :: l => f x + sumI f l
theorem sumI_app {f : Int → Int} : ∀ {a b : List Int}, sumI f (a ++ b) = sumI f a + sumI f b
  | [], b => by rw [List.nil_append, sumI]; omega
  | x :: a, b => by rw [List.cons_append, sumI, sumI, sumI_app]; omega
end Go.Proofs.YtnmaabejdmaahaaGreatDoor
namespace Go.Proofs.YtnmaabejdmaahaaGreatDoor
open Go Go.RowKit Go.Proofs Go.Shelf Go.Ab
structure JobsOk (l : List Job) : Prop where
  len : l.length ≤ 7
  job : ∀ i, i < l.length → (0 ≤ (l.getD i default).ready ∧ (l.getD i default).ready ≤ 1000000000000) ∧ (0 ≤ (l.getD i default).due ∧ (l.getD i default).due ≤ 1000000000000) ∧ (1 ≤ (l.getD i default).length ∧ (l.getD i default).length ≤ 100000) ∧ (0 ≤ (l.getD i default).rank ∧ (l.getD i default).rank ≤ 100000)
def outU (out : List Int) (i : Nat) : Bool := decide (out.getD i default = 0)
def stepR (l : List Job) (out : List Int) (now : Int) : Int × Int := nextR (outU out) (fun i => (l.getD i default).ready) (fun i => (l.getD i default).rank) l.length now
theorem sub_len {α : Type} [DecidableEq α] : ∀ {s o : List α}, s.Nodup → (∀ x, x ∈ s → x ∈ o) → s.length ≤ o.length
  | [], _, _, _ => Nat.zero_le _
  | a :: t, o, hd, hs => by
    rw [List.nodup_cons] at hd
    have ha := hs a (by simp)
    have := sub_len (o := o.erase a) hd.2 (fun x hx => (List.mem_erase_of_ne (fun e : x = a => hd.1 (by subst e; exact hx))).2 (hs x (by simp [hx])))
    rw [List.length_erase_of_mem ha] at this
    have := List.length_pos_of_mem ha
    simp only [List.length_cons]
    omega
theorem getD_set {l : List Int} {i j : Nat} {x : Int} (hi : i < l.length) : (l.set i x).getD j default = if i = j then x else l.getD j default := by
  rw [List.getD_eq_getElem?_getD, List.getElem?_set]
  by_cases e : i = j
  · subst e; rw [if_pos rfl, if_pos hi, if_pos rfl]; rfl
  · rw [if_neg e, if_neg e, ← List.getD_eq_getElem?_getD]
structure FinOk (l : List Job) (k : Nat) (out : List Int) (now b : Int) (S T : List Int) : Prop where
  len : out.length = l.length
  now0 : 0 ≤ now ∧ now ≤ 1000000000000 + 100000 * k
  b0 : b ≤ now
  nd : S.Nodup
  cnt : S.length = k
  rng : ∀ z, z ∈ S → 0 ≤ z ∧ z < l.length
  memS : ∀ i : Nat, i < l.length → ((i : Int) ∈ S ↔ out.getD i default ≠ 0)
  ndT : T.Nodup
  ne : k = 0 ∨ T ≠ []
  subT : ∀ z, z ∈ T → z ∈ S ∧ (0 ≤ z ∧ z < l.length) ∧ b ≤ (jobA l z).ready
  rest : ∀ i, i < l.length → out.getD i default = 0 → b ≤ (l.getD i default).ready
  eq : now = b + sumI (fun z => (jobA l z).length) T
  fin : ∀ i, i < l.length → out.getD i default ≠ 0 → (l.getD i default).ready + (l.getD i default).length ≤ out.getD i default ∧ out.getD i default ≤ now
  apart : ∀ i j, i < l.length → j < l.length → i ≠ j → out.getD i default ≠ 0 → out.getD j default ≠ 0 → out.getD i default ≤ out.getD j default - (l.getD j default).length ∨ out.getD j default ≤ out.getD i default - (l.getD i default).length
  top : k = 0 ∧ now = 0 ∨ ∃ i, i < l.length ∧ out.getD i default = now ∧ now ≠ 0
theorem FinOk.left {l : List Job} {k : Nat} {out : List Int} {now b : Int} {S T : List Int} (F : FinOk l k out now b S T) (hk : k < l.length) : ∃ i, i < l.length ∧ outU out i = true := by
  refine Classical.byContradiction fun h => ?_
  have := sub_len (idxL_nd l.length) (o := S) fun x hx => by
    have hx := idxL_mem.1 hx
    have e : ((x.toNat : Nat) : Int) = x := by omega
    rw [← e]
    refine (F.memS x.toNat (by omega)).2 fun h0 => h ⟨x.toNat, by omega, ?_⟩
    unfold outU; rw [decide_eq_true_eq]; exact h0
  have e1 := F.cnt
  simp only [idxL, List.length_map, List.length_range] at this
  omega
theorem FinOk.next {l : List Job} {k : Nat} {out : List Int} {now b : Int} {S T : List Int} (F : FinOk l k out now b S T) (hk : k < l.length) : (0 ≤ (stepR l out now).1 ∧ (stepR l out now).1 < l.length) ∧ out.getD (stepR l out now).1.toNat default = 0 ∧ (jobA l (stepR l out now).1).ready ≤ (stepR l out now).2 ∧ now ≤ (stepR l out now).2 ∧
    (∃ i, i < l.length ∧ (stepR l out now).2 = max now (l.getD i default).ready) ∧ ∀ i, i < l.length → out.getD i default = 0 → (stepR l out now).2 ≤ max now (l.getD i default).ready := by
  obtain ⟨a, ⟨i0, b1, b2, b3⟩, c⟩ := begF_some F.now0.1 (r := fun i => (l.getD i default).ready) (F.left hk)
  have e2 : (stepR l out now).2 = begF (outU out) (fun i => (l.getD i default).ready) now l.length := rfl
  have e1 : (stepR l out now).1 = bestF (fun i => outU out i && decide ((l.getD i default).ready ≤ (stepR l out now).2)) (fun i => (l.getD i default).rank) l.length := rfl
  have hU : ∀ i, outU out i = true ↔ out.getD i default = 0 := fun i => by unfold outU; rw [decide_eq_true_eq]
  rw [← e2] at a b3 c
  obtain ⟨q1, q2, _⟩ := bestF_some (P := fun i => outU out i && decide ((l.getD i default).ready ≤ (stepR l out now).2)) (v := fun i => (l.getD i default).rank) (n := l.length) ⟨i0, b1, by rw [b2, Bool.true_and, decide_eq_true_eq, b3]; omega⟩
  have q3 := (bestF_bd (P := fun i => outU out i && decide ((l.getD i default).ready ≤ (stepR l out now).2)) (v := fun i => (l.getD i default).rank) l.length).2
  rw [← e1] at q1 q2 q3
  rw [Bool.and_eq_true, decide_eq_true_eq, hU] at q2
  exact ⟨⟨q1, q3⟩, q2.1, q2.2, a, ⟨i0, b1, b3⟩, fun i hi h0 => c i hi ((hU i).2 h0)⟩
theorem FinOk.step {l : List Job} {k : Nat} {out : List Int} {now b : Int} {S T : List Int} (o : JobsOk l) (F : FinOk l k out now b S T) (hk : k < l.length) : ∃ b' S' T', FinOk l (k + 1) (out.set (stepR l out now).1.toNat ((stepR l out now).2 + (jobA l (stepR l out now).1).length)) ((stepR l out now).2 + (jobA l (stepR l out now).1).length) b' S' T' := by
  obtain ⟨⟨x0, x1⟩, x2, x3, x4, ⟨i0, x5, x6⟩, x7⟩ := F.next hk
  generalize (stepR l out now).1 = x at *
  generalize (stepR l out now).2 = t at *
  have hx := o.job x.toNat (by omega)
  have hi0 := o.job i0 x5
  have hJ : jobA l x = l.getD x.toNat default := rfl
  have hxr : (l.getD x.toNat default).ready ≤ t := x3
  have hn := F.now0
  have hlen := F.len
  have hG : ∀ j, (out.set x.toNat (t + (jobA l x).length)).getD j default = if x.toNat = j then t + (jobA l x).length else out.getD j default := fun j => getD_set (by omega)
  have exx : ((x.toNat : Nat) : Int) = x := by omega
  have hxS : x ∉ S := fun h => ((F.memS x.toNat (by omega)).1 (by rw [exx]; exact h)) x2
  have hmem : ∀ i : Nat, i < l.length → ((i : Int) ∈ S ++ [x] ↔ (out.set x.toNat (t + (jobA l x).length)).getD i default ≠ 0) := fun i hi => by
    rw [hG, List.mem_append, List.mem_singleton]
    by_cases e : x.toNat = i
    · rw [if_pos e]
      constructor
      · intro _; rw [hJ]; omega
      · intro _; exact .inr (by omega)
    · rw [if_neg e, F.memS i hi]
      constructor
      · rintro (h | h)
        · exact h
        · omega
      · exact .inl
  have hnd : (S ++ [x]).Nodup := List.nodup_append.2 ⟨F.nd, by simp, fun a ha b hb => by rw [List.mem_singleton] at hb; subst hb; exact fun e => hxS (e ▸ ha)⟩
  have hrng : ∀ z, z ∈ S ++ [x] → 0 ≤ z ∧ z < l.length := fun z hz => by
    rcases List.mem_append.1 hz with h | h
    · exact F.rng z h
    · rw [List.mem_singleton] at h; omega
  have hfin : ∀ i, i < l.length → (out.set x.toNat (t + (jobA l x).length)).getD i default ≠ 0 → (l.getD i default).ready + (l.getD i default).length ≤ (out.set x.toNat (t + (jobA l x).length)).getD i default ∧ (out.set x.toNat (t + (jobA l x).length)).getD i default ≤ t + (jobA l x).length := fun i hi => by
    rw [hG]
    by_cases e : x.toNat = i
    · subst e; rw [if_pos rfl]; intro _; rw [hJ]; omega
    · rw [if_neg e]; intro h
      have := F.fin i hi h
      rw [hJ]; omega
  have hap : ∀ i j, i < l.length → j < l.length → i ≠ j → (out.set x.toNat (t + (jobA l x).length)).getD i default ≠ 0 → (out.set x.toNat (t + (jobA l x).length)).getD j default ≠ 0 → (out.set x.toNat (t + (jobA l x).length)).getD i default ≤ (out.set x.toNat (t + (jobA l x).length)).getD j default - (l.getD j default).length ∨ (out.set x.toNat (t + (jobA l x).length)).getD j default ≤ (out.set x.toNat (t + (jobA l x).length)).getD i default - (l.getD i default).length := fun i j hi hj hij => by
    rw [hG, hG]
    by_cases e : x.toNat = i
    · subst e
      rw [if_pos rfl, if_neg hij]
      intro _ h
      have := F.fin j hj h
      rw [hJ]; right; omega
    · rw [if_neg e]
      by_cases e2 : x.toNat = j
      · subst e2
        rw [if_pos rfl]
        intro h _
        have := F.fin i hi h
        rw [hJ]; left; omega
      · rw [if_neg e2]; exact F.apart i j hi hj hij
  have htop : k + 1 = 0 ∧ t + (jobA l x).length = 0 ∨ ∃ i, i < l.length ∧ (out.set x.toNat (t + (jobA l x).length)).getD i default = t + (jobA l x).length ∧ t + (jobA l x).length ≠ 0 := .inr ⟨x.toNat, by omega, by rw [hG, if_pos rfl], by rw [hJ]; omega⟩
  have hnow : 0 ≤ t + (jobA l x).length ∧ t + (jobA l x).length ≤ 1000000000000 + 100000 * ((k + 1 : Nat) : Int) := by rw [hJ]; omega
  by_cases hc : t = now
  · refine ⟨b, S ++ [x], T ++ [x], ?_⟩
    have hb := F.b0
    have hxT : x ∉ T := fun h => hxS (F.subT x h).1
    exact { len := by simp [hlen], now0 := hnow, b0 := by rw [hJ]; omega, nd := hnd, cnt := by simp [F.cnt], rng := hrng, memS := hmem
            ne := .inr (by simp)
            ndT := List.nodup_append.2 ⟨F.ndT, by simp, fun a ha b hb => by rw [List.mem_singleton] at hb; subst hb; exact fun e => hxT (e ▸ ha)⟩
            subT := fun z hz => by
              rcases List.mem_append.1 hz with h | h
              · exact ⟨List.mem_append.2 (.inl (F.subT z h).1), (F.subT z h).2⟩
              · rw [List.mem_singleton] at h
                subst h
                exact ⟨by simp, ⟨x0, x1⟩, F.rest _ (by omega) x2⟩
            rest := fun i hi => by
              rw [hG]
              by_cases e : x.toNat = i
              · rw [if_pos e]; intro h; rw [hJ] at h; omega
              · rw [if_neg e]; exact F.rest i hi
            eq := by
              have := F.eq
              rw [sumI_app]
              show _ = _ + (_ + ((jobA l x).length + 0))
              omega
            fin := hfin, apart := hap, top := htop }
  · refine ⟨t, S ++ [x], [x], ?_⟩
    exact { len := by simp [hlen], now0 := hnow, b0 := by rw [hJ]; omega, nd := hnd, cnt := by simp [F.cnt], rng := hrng, memS := hmem, ndT := by simp, ne := .inr (by simp)
            subT := fun z hz => by
              rw [List.mem_singleton] at hz
              subst hz
              refine ⟨by simp, ⟨x0, x1⟩, ?_⟩
              have := x7 _ (show z.toNat < l.length by omega) x2
              rw [hJ]; omega
            rest := fun i hi => by
              rw [hG]
              by_cases e : x.toNat = i
              · rw [if_pos e]; intro h; rw [hJ] at h; omega
              · rw [if_neg e]; intro h
                have := x7 i hi h
                omega
            eq := by show _ = _ + ((jobA l x).length + 0); omega
            fin := hfin, apart := hap, top := htop }
end Go.Proofs.YtnmaabejdmaahaaGreatDoor
namespace Go.Proofs.YtnmaabejdmaahaaGreatDoor
open Go Go.RowKit Go.Proofs Go.Shelf Go.Ab
end Go.Proofs.YtnmaabejdmaahaaGreatDoor
namespace Go.Proofs.YtnmaabejdmaahaaGreatDoor
open Go Go.RowKit Go.Proofs Go.Shelf Go.Ab
def befW (w : Int → Int) (i j : Int) : Prop := w j < w i ∨ (w i = w j ∧ i < j)
theorem befW_irr {w : Int → Int} {i j : Int} (h : befW w i j) : ¬ befW w j i := by unfold befW at *; omega
theorem befW_tot {w : Int → Int} {i j : Int} (h : i ≠ j) : befW w i j ∨ befW w j i := by unfold befW; omega
structure SortW (w : Int → Int) (n : Nat) (L : List Int) : Prop where
  perm : L.Perm (idxL n)
  ord : L.Pairwise (befW w)
theorem SortW.len {w : Int → Int} {n : Nat} {L : List Int} (s : SortW w n L) : L.length = n := by rw [s.perm.length_eq]; simp [idxL]
theorem SortW.nd {w : Int → Int} {n : Nat} {L : List Int} (s : SortW w n L) : L.Nodup := s.perm.nodup_iff.2 (idxL_nd n)
theorem SortW.mem {w : Int → Int} {n : Nat} {L : List Int} (s : SortW w n L) {z : Int} : z ∈ L ↔ 0 ≤ z ∧ z < n := by rw [s.perm.mem_iff, idxL_mem]
end Go.Proofs.YtnmaabejdmaahaaGreatDoor
namespace Go.Proofs.YtnmaabejdmaahaaGreatDoor
open Go Go.RowKit Go.Proofs Go.Shelf Go.Ab
section
variable {w : Int → Int} {n : Nat} {L : List Int} {want : Int}
end
end Go.Proofs.YtnmaabejdmaahaaGreatDoor
namespace Go.Proofs.YtnmaabejdmaahaaGreatDoor
open Go Go.RowKit Go.Proofs Go.Shelf Go.Ab
structure ActN (N : Type) where
  kind : Int
  name : N
  cells : List Int
section
variable {N : Type} [DecidableEq N]
def pplK (l : List (ActN N)) : Nat → List N
  | 0 => []
  | k + 1 => match l[k]? with
    | none => pplK l k
    | some a => if a.kind = 0 then pplK l k ++ [a.name] else if a.kind = 1 then (pplK l k).filter (fun x => !decide (x = a.name)) else pplK l k
def newV (name : N) (a : ActN N) : Bool := decide (a.name = name) && (decide (a.kind = 2) || decide (a.kind = 3))
def verK (l : List (ActN N)) (name : N) : Nat → Int
  | 0 => 0
  | k + 1 => match l[k]? with
    | none => verK l name k
    | some a => if newV name a then verK l name k + 1 else verK l name k
def wdrK (l : List (ActN N)) (name : N) : Nat → Bool
  | 0 => false
  | k + 1 => match l[k]? with
    | none => wdrK l name k
    | some a => if a.name = name ∧ a.kind = 4 then true else wdrK l name k
structure ActsOk (l : List (ActN N)) : Prop where
  kind : ∀ (k : Nat) (a : ActN N), l[k]? = some a → 0 ≤ a.kind ∧ a.kind ≤ 4
  join : ∀ (k : Nat) (a : ActN N), l[k]? = some a → a.kind = 0 → a.name ∉ pplK l k
  leave : ∀ (k : Nat) (a : ActN N), l[k]? = some a → a.kind = 1 → a.name ∈ pplK l k
  send : ∀ (k : Nat) (a : ActN N), l[k]? = some a → a.kind = 2 → verK l a.name k = 0
  later : ∀ (k : Nat) (a : ActN N), l[k]? = some a → 3 ≤ a.kind → 0 < verK l a.name k ∧ wdrK l a.name k = false
end
end Go.Proofs.YtnmaabejdmaahaaGreatDoor
namespace Go.Proofs.YtnmaabejdmaahaaGreatDoor
open Go Go.RowKit Go.Proofs Go.Shelf Go.Ab
section
variable {near : Int → Int → Bool}
inductive Conn (near : Int → Int → Bool) (X : List Int) : Int → Int → Prop
  | refl (a : Int) : Conn near X a a
  | step {a b c : Int} (h : Conn near X a b) (hb : b ∈ X) (hc : c ∈ X) (hn : near b c = true) : Conn near X a c
theorem Conn.trans {X : List Int} {a b c : Int} (h : Conn near X a b) (k : Conn near X b c) : Conn near X a c := by
  induction k with
  | refl => exact h
  | step _ hb hc hn ih => exact .step ih hb hc hn
theorem Conn.symm {X : List Int} (hs : ∀ a b, near a b = near b a) {a b : Int} (h : Conn near X a b) : Conn near X b a := by
  induction h with
  | refl => exact .refl _
  | step _ hb hc hn ih => exact (Conn.step (.refl _) hc hb (by rw [hs]; exact hn)).trans ih
structure BfsOk (near : Int → Int → Bool) (X : List Int) (a : Int) (re le : List Int) (i : Nat) : Prop where
  inX : ∀ x, x ∈ re ∨ x ∈ le → x ∈ X
  conn : ∀ x, x ∈ re → Conn near X a x
  start : a ∈ re
  done : ∀ j, j < i → ∀ k, k ∈ le → near (re.getD j default) k = false
  ile : i ≤ re.length
end
end Go.Proofs.YtnmaabejdmaahaaGreatDoor
namespace Go.Proofs.YtnmaabejdmaahaaGreatDoor
open Go Go.RowKit Go.Proofs Go.Shelf Go.Ab
section
variable {near : Int → Int → Bool}
end
end Go.Proofs.YtnmaabejdmaahaaGreatDoor
namespace Go.Proofs.YtnmaabejdmaahaaGreatDoor
open Go Go.RowKit Go.Proofs Go.Shelf Go.Ab
theorem befW_trans {w : Int → Int} {i j k : Int} (h : befW w i j) (g : befW w j k) : befW w i k := by unfold befW at *; omega
section
variable {w : Int → Int}
end
end Go.Proofs.YtnmaabejdmaahaaGreatDoor
namespace Go.Proofs.YtnmaabejdmaahaaGreatDoor
open Go Go.RowKit Go.Proofs Go.Shelf Go.Ab
instance (w : Int → Int) (i j : Int) : Decidable (befW w i j) := by unfold befW; infer_instance
section
variable {w : Int → Int}
theorem sort_uniq : ∀ {a b : List Int}, a.Pairwise (befW w) → b.Pairwise (befW w) → (∀ x, x ∈ a ↔ x ∈ b) → a = b
  | [], [], _, _, _ => rfl
  | [], y :: b, _, _, h => absurd ((h y).2 (by simp)) (by simp)
  | x :: a, [], _, _, h => absurd ((h x).1 (by simp)) (by simp)
  | x :: a, y :: b, ha, hb, h => by
    rw [List.pairwise_cons] at ha hb
    have e : x = y := by
      rcases List.mem_cons.1 ((h x).1 (by simp)) with e | e
      · exact e
      · rcases List.mem_cons.1 ((h y).2 (by simp)) with e2 | e2
        · exact e2.symm
        · exact absurd (ha.1 y e2) (befW_irr (hb.1 x e))
    subst e
    congr 1
    refine sort_uniq ha.2 hb.2 fun z => ?_
    constructor
    · intro hz
      rcases List.mem_cons.1 ((h z).1 (by simp [hz])) with e | e
      · subst e; exact absurd (ha.1 z hz) (befW_irr (ha.1 z hz))
      · exact e
    · intro hz
      rcases List.mem_cons.1 ((h z).2 (by simp [hz])) with e | e
      · subst e; exact absurd (hb.1 z hz) (befW_irr (hb.1 z hz))
      · exact e
def insO (w : Int → Int) (x : Int) : List Int → List Int
  | [] => [x]
  | y :: t => if befW w x y then x :: y :: t else y :: insO w x t
def sortO (w : Int → Int) : List Int → List Int
  | [] => []
  | x :: t => insO w x (sortO w t)
theorem insO_perm (x : Int) : ∀ l : List Int, (insO w x l).Perm (x :: l)
  | [] => .refl _
  | y :: t => by
    rw [insO]
    split
    · exact .refl _
    · exact (List.Perm.cons y (insO_perm x t)).trans (.swap x y t)
theorem sortO_perm : ∀ l : List Int, (sortO w l).Perm l
  | [] => .refl _
  | x :: t => (insO_perm x _).trans (.cons x (sortO_perm t))
theorem insO_sorted {x : Int} : ∀ {l : List Int}, l.Pairwise (befW w) → x ∉ l → (insO w x l).Pairwise (befW w)
  | [], _, _ => by simp [insO]
  | y :: t, h, hx => by
    rw [List.pairwise_cons] at h
    rw [insO]
    split
    · rename_i hb
      refine List.pairwise_cons.2 ⟨fun z hz => ?_, List.pairwise_cons.2 h⟩
      rcases List.mem_cons.1 hz with e | e
      · subst e; exact hb
      · exact befW_trans hb (h.1 z e)
    · rename_i hb
      refine List.pairwise_cons.2 ⟨fun z hz => ?_, insO_sorted h.2 fun hm => hx (by simp [hm])⟩
      rcases List.mem_cons.1 ((insO_perm x t).mem_iff.1 hz) with e | e
      · subst e
        exact (befW_tot (fun e => hx (by simp [e]))).resolve_left hb
      · exact h.1 z e
theorem sortO_sorted : ∀ {l : List Int}, l.Nodup → (sortO w l).Pairwise (befW w)
  | [], _ => List.Pairwise.nil
  | x :: t, h => by
    rw [List.nodup_cons] at h
    exact insO_sorted (sortO_sorted h.2) fun hm => h.1 ((sortO_perm t).mem_iff.1 hm)
theorem sortO_of {l L : List Int} (hn : l.Nodup) (hL : L.Pairwise (befW w)) (hm : ∀ x, x ∈ L ↔ x ∈ l) : sortO w l = L :=
  sort_uniq (sortO_sorted hn) hL fun x => by rw [(sortO_perm l).mem_iff, hm]
theorem SortW.eq {n : Nat} {L : List Int} (s : SortW w n L) : L = sortO w (idxL n) := (sortO_of (idxL_nd n) s.ord fun _ => s.perm.mem_iff).symm
end
end Go.Proofs.YtnmaabejdmaahaaGreatDoor
namespace Go.Proofs.YtnmaabejdmaahaaGreatDoor
open Go Go.RowKit Go.Proofs Go.Shelf Go.Ab
end Go.Proofs.YtnmaabejdmaahaaGreatDoor
namespace Go.Proofs.YtnmaabejdmaahaaGreatDoor
open Go Go.RowKit Go.Proofs Go.Shelf Go.Ab
end Go.Proofs.YtnmaabejdmaahaaGreatDoor
namespace Go.Proofs.YtnmaabejdmaahaaGreatDoor
open Go Go.RowKit Go.Proofs Go.Shelf Go.Ab
end Go.Proofs.YtnmaabejdmaahaaGreatDoor
namespace Go.Proofs.YtnmaabejdmaahaaGreatDoor
open Go Go.RowKit Go.Proofs Go.Shelf Go.Ab
section
variable {N : Type} {lt : N → N → Bool}
structure LtOk (lt : N → N → Bool) : Prop where
  irr : ∀ a, lt a a = false
  trans : ∀ a b c, lt a b = true → lt b c = true → lt a c = true
  tot : ∀ a b, a ≠ b → lt a b = true ∨ lt b a = true
def AscN (lt : N → N → Bool) (l : List N) : Prop := l.Pairwise fun a b => lt a b = true
theorem AscN.nodup (o : LtOk lt) {l : List N} (h : AscN lt l) : l.Nodup := List.Pairwise.imp (fun {a b} hab e => by subst e; rw [o.irr] at hab; cases hab) h
end
end Go.Proofs.YtnmaabejdmaahaaGreatDoor
namespace Go.Proofs.YtnmaabejdmaahaaGreatDoor
open Go Go.RowKit Go.Proofs Go.Shelf Go.Ab
section
variable {α : Type}
end
structure CutOk (w : Int → Int) (D : Nat → Int) (p lo hi s : Nat) : Prop where
  le : lo ≤ s ∧ s ≤ hi
  left : ∀ c, lo ≤ c → c < s → ¬ befW w (D (p - c)) (D c)
  right : ∀ c, s ≤ c → c < hi → befW w (D (p - c)) (D c)
end Go.Proofs.YtnmaabejdmaahaaGreatDoor
namespace Go.Proofs.YtnmaabejdmaahaaGreatDoor
open Go Go.RowKit Go.Proofs Go.Shelf Go.Ab
def SrtI (w : Int → Int) (D : Nat → Int) (a b : Nat) : Prop := ∀ i j, a ≤ i → i < j → j < b → befW w (D i) (D j)
theorem SrtI.sub {w : Int → Int} {D : Nat → Int} {a b c d : Nat} (h : SrtI w D a b) (h1 : a ≤ c) (h2 : d ≤ b) : SrtI w D c d := fun i j p q r => h i j (by omega) q (by omega)
theorem SrtI.join {w : Int → Int} {D : Nat → Int} {a m b : Nat} (h1 : SrtI w D a m) (h2 : SrtI w D m b) (h : ∀ i j, a ≤ i → i < m → m ≤ j → j < b → befW w (D i) (D j)) : SrtI w D a b := fun i j p q r => by
  by_cases hj : j < m
  · exact h1 i j p q hj
  · by_cases hi : i < m
    · exact h i j p hi (by omega) r
    · exact h2 i j (by omega) q r
end Go.Proofs.YtnmaabejdmaahaaGreatDoor
namespace Go.Proofs.YtnmaabejdmaahaaGreatDoor
open Go Go.RowKit Go.Proofs Go.Shelf Go.Ab
end Go.Proofs.YtnmaabejdmaahaaGreatDoor
namespace Go.Proofs.YtnmaabejdmaahaaGreatDoor
open Go Go.RowKit Go.Proofs Go.Shelf Go.Ab
section
variable {N : Type} [DecidableEq N] [Inhabited N] {lt : N → N → Bool}
end
end Go.Proofs.YtnmaabejdmaahaaGreatDoor
namespace Go.Proofs.YtnmaabejdmaahaaGreatDoor
open Go Go.RowKit Go.Proofs Go.Shelf Go.Ab
def iv (z : Int) : FV := .v (.int .i64 z)
def bv (b : Bool) : FV := .v (.bool b)
def intsF (l : List Int) : List FV := l.map iv
def boolsF (l : List Bool) : List FV := l.map bv
def GG : Nat → Option FV := fun _ => none
theorem intsF_len (l : List Int) : (intsF l).length = l.length * 1 := by simp [intsF]
theorem intsF_ne {l : List Int} {k : Nat} (h : k < l.length) : intsF l ≠ [] := map_ne h
theorem intsF_at {l : List Int} {k : Nat} (h : k < l.length) : (intsF l)[k * 1]? = some (iv l[k]) := map_at h
theorem intsF_snoc (l : List Int) (z : Int) : intsF (l ++ [z]) = intsF l ++ [iv z] := by simp [intsF]
theorem flat_len {α : Type} {f : α → List FV} {s : Nat} (hs : ∀ x, (f x).length = s) (l : List α) : (l.flatMap f).length = l.length * s := by
  induction l with
  | nil => simp
  | cons x l ih => rw [List.flatMap_cons, List.length_append, ih, hs, List.length_cons, Nat.succ_mul, Nat.add_comm]
abbrev Nm := List UInt8
def sv (s : Nm) : FV := .v (.string ⟨s.toArray⟩)
def strsF (l : List Nm) : List FV := l.map sv
theorem strsF_len (l : List Nm) : (strsF l).length = l.length * 1 := by simp [strsF]
theorem strsF_ne {l : List Nm} {k : Nat} (h : k < l.length) : strsF l ≠ [] := map_ne h
theorem strsF_at {l : List Nm} {k : Nat} (h : k < l.length) : (strsF l)[k * 1]? = some (sv l[k]) := map_at h
theorem strsF_snoc (l : List Nm) (z : Nm) : strsF (l ++ [z]) = strsF l ++ [sv z] := by simp [strsF]
structure Aev where
  tick : Int
  cell : Int
deriving DecidableEq, Inhabited
abbrev Act := ActN Nm
instance : Inhabited Act := ⟨⟨0, [], []⟩⟩
structure Ast where
  name : Nm
  version : Int
  cells : List Int
  gone : Bool
  had : List Nm
instance : Inhabited Ast := ⟨⟨[], 0, [], false, []⟩⟩
abbrev Pr := Int × Int
structure Pt where
  height : Int
  turn : Int
deriving DecidableEq, Inhabited
def celF (x : Cel) : List FV := [iv x.ring, iv x.before, iv x.count, iv x.index]
def celsF (l : List Cel) : List FV := l.flatMap celF
theorem getD_at {α : Type} [Inhabited α] {l : List α} {i : Nat} (h : i < l.length) : l.getD i default = l[i] := by simp [List.getD_eq_getElem?_getD, List.getElem?_eq_getElem h]
def withinB (n lo hi : Int) : Bool := decide (lo ≤ n) && decide (n ≤ hi)
def unlessE (b : Bool) (k : Int) : Int := if b then 0 else k
def firstE : List Int → Int
  | [] => 0
  | e :: l => if e = 0 then firstE l else e
theorem firstE_hd {a : Int} {l : List Int} (h : a ≠ 0) : firstE (a :: l) = a := by unfold firstE; rw [if_neg h]
theorem firstE_tl {l : List Int} : firstE (0 :: l) = firstE l := by rw [firstE, if_pos rfl]
theorem firstE_zeros {l : List Int} (h : ∀ j (hj : j < l.length), l[j] = 0) : firstE l = 0 := by
  induction l with
  | nil => rfl
  | cons a l ih =>
    have h0 := h 0 (by simp)
    simp only [List.getElem_cons_zero] at h0
    subst h0
    rw [firstE_tl]
    exact ih fun j hj => by have := h (j + 1) (by simpa using hj); simpa using this
theorem firstE_at {l : List Int} {k : Nat} (hk : k < l.length) (h : ∀ j (hj : j < l.length), j < k → l[j] = 0) (hne : l[k] ≠ 0) : firstE l = l[k] := by
  induction l generalizing k with
  | nil => simp at hk
  | cons a l ih =>
    cases k with
    | zero => simp only [List.getElem_cons_zero] at hne ⊢; exact firstE_hd hne
    | succ k =>
      have h0 := h 0 (by simp) (by omega)
      simp only [List.getElem_cons_zero] at h0
      subst h0
      rw [firstE_tl]
      simp only [List.getElem_cons_succ] at hne ⊢
      exact ih (by simpa using hk) (fun j hj hlt => by have := h (j + 1) (by simpa using hj) (by omega); simpa using this) hne
end Go.Proofs.YtnmaabejdmaahaaGreatDoor
namespace Go.Proofs.YtnmaabejdmaahaaGreatDoor
open Go Go.RowKit Go.Proofs Go.Shelf Go.Ab
theorem bwithin_T (n lo hi : Int) (h : lo ≤ n ∧ n ≤ hi) : Summ Tryz.prog GG 33 [iv n, iv lo, iv hi] (.v (.bool true)) := by
  obtain ⟨h1, h2⟩ := h
  refine summW Tryz.func33 rfl rfl 15 rfl (by simp) (fun M0 => ?_)
  repeat (first
    | (apply s_a TY; exact rfl)
    | (apply s_t; exact rfl; (first | assumption | omega))
    | apply w_seq
    | apply w_region
    | apply s_nil
    | apply t_norm
    | apply w_ret)
  exact lv_ret (ret1 rfl (res_tmp rfl))
theorem bwithin_F (n lo hi : Int) (h : ¬ (lo ≤ n ∧ n ≤ hi)) : Summ Tryz.prog GG 33 [iv n, iv lo, iv hi] (.v (.bool false)) := by
  by_cases h1 : lo ≤ n
  · have h2 : ¬ n ≤ hi := fun h2 => h ⟨h1, h2⟩
    refine summW Tryz.func33 rfl rfl 15 rfl (by simp) (fun M0 => ?_)
    repeat (first
    | (apply s_a TY; exact rfl)
    | (apply s_t; exact rfl; (first | assumption | omega))
    | (apply s_f; exact rfl; (first | assumption | omega))
    | apply w_seq
    | apply w_region
    | apply s_nil
    | apply t_norm
    | apply w_ret)
    exact lv_ret (ret1 rfl (res_tmp rfl))
  · refine summW Tryz.func33 rfl rfl 15 rfl (by simp) (fun M0 => ?_)
    repeat (first
    | (apply s_a TY; exact rfl)
    | (apply s_f; exact rfl; (first | assumption | omega))
    | apply w_seq
    | apply w_region
    | apply s_nil
    | apply t_norm
    | apply w_ret
    | (apply s_s; exact rfl))
    exact lv_ret (ret1 rfl (res_tmp rfl))
end Go.Proofs.YtnmaabejdmaahaaGreatDoor
namespace Go.Proofs.YtnmaabejdmaahaaGreatDoor
open Go Go.RowKit Go.Proofs Go.Shelf Go.Ab
open Go.Lib (decFrom digitVal decDigits itoa atoiAll parseUint10 parseMag)
theorem digV_lt {b : UInt8} {d : Nat} (h : digitVal b = some d) : d < 10 ∧ b = UInt8.ofNat (48 + d) := by
  unfold digitVal at h
  split at h
  · rename_i hb
    have e := Option.some.inj h
    refine ⟨by omega, ?_⟩
    rw [show 48 + d = b.toNat by omega]
    exact (UInt8.ofNat_toNat).symm
  · cases h
theorem digV_of {d : Nat} (h : d < 10) : digitVal (UInt8.ofNat (48 + d)) = some d := by
  unfold digitVal
  have e : (UInt8.ofNat (48 + d)).toNat = 48 + d := by rw [UInt8.toNat_ofNat']; omega
  rw [e, if_pos (by omega)]
  congr 1; omega
theorem decFrom_snoc (c : UInt8) : ∀ (l : List UInt8) (acc : Nat), decFrom acc (l ++ [c]) = (decFrom acc l).bind fun m => (digitVal c).map fun d => m * 10 + d
  | [], acc => by
    rw [List.nil_append, decFrom, decFrom]
    cases digitVal c <;> rfl
  | b :: r, acc => by
    rw [List.cons_append, decFrom, decFrom]
    cases digitVal b with
    | none => rfl
    | some d => exact decFrom_snoc c r _
theorem dec_digits (n : Nat) : decFrom 0 (decDigits n) = some n := by
  induction n using Nat.strongRecOn with
  | _ n ih =>
    rw [decDigits]
    split
    · rename_i h
      rw [decFrom, digV_of h]
      show decFrom (0 * 10 + n) [] = _
      rw [Nat.zero_mul, Nat.zero_add]; rfl
    · rename_i h
      rw [decFrom_snoc, ih (n / 10) (by omega), digV_of (Nat.mod_lt n (by decide))]
      show some (n / 10 * 10 + n % 10) = _
      congr 1; omega
theorem decFrom_le : ∀ {l : List UInt8} {acc n : Nat}, decFrom acc l = some n → acc ≤ n
  | [], acc, n, h => by rw [decFrom] at h; have := Option.some.inj h; omega
  | b :: r, acc, n, h => by
    rw [decFrom] at h
    cases hd : digitVal b with
    | none => rw [hd] at h; cases h
    | some d =>
      rw [hd] at h
      have := decFrom_le (l := r) h
      omega
theorem decFrom_lt : ∀ {l : List UInt8} {acc n : Nat}, decFrom acc l = some n → n < (acc + 1) * 10 ^ l.length
  | [], acc, n, h => by rw [decFrom] at h; have := Option.some.inj h; simp; omega
  | b :: r, acc, n, h => by
    rw [decFrom] at h
    cases hd : digitVal b with
    | none => rw [hd] at h; cases h
    | some d =>
      rw [hd] at h
      have h1 := decFrom_lt (l := r) h
      have h2 := (digV_lt hd).1
      rw [List.length_cons, Nat.pow_succ, ← Nat.mul_assoc, Nat.mul_right_comm]
      exact Nat.lt_of_lt_of_le h1 (Nat.mul_le_mul_right _ (by omega))
theorem dec_back : ∀ (k : Nat) {l : List UInt8} {n : Nat}, l.length = k → l ≠ [] → decFrom 0 l = some n → (l.head? ≠ some 48 ∨ l.length = 1) → l = decDigits n ∧ (l.head? ≠ some 48 → 0 < n)
  | 0, l, n, hk, hne, _, _ => absurd (List.eq_nil_of_length_eq_zero hk) hne
  | k + 1, l, n, hk, hne, h, hz => by
    rcases List.eq_nil_or_concat l with e | ⟨l', c, e⟩
    · exact absurd e hne
    · rw [List.concat_eq_append] at e
      subst e
      rw [decFrom_snoc] at h
      cases hl : decFrom 0 l' with
      | none => rw [hl] at h; cases h
      | some m =>
        rw [hl] at h
        cases hd : digitVal c with
        | none => rw [hd] at h; cases h
        | some d =>
          rw [hd] at h
          have hn : m * 10 + d = n := Option.some.inj h
          obtain ⟨hd1, hc⟩ := digV_lt hd
          by_cases h0 : l' = []
          · subst h0
            have hm : m = 0 := by rw [decFrom] at hl; exact (Option.some.inj hl).symm
            subst hm
            refine ⟨?_, fun hh => ?_⟩
            · rw [decDigits, dif_pos (by omega), List.nil_append, hc, ← hn, Nat.zero_mul, Nat.zero_add]
            · refine Nat.pos_of_ne_zero fun e => hh ?_
              rw [List.nil_append, hc, show d = 0 by omega]; rfl
          · have hh : (l' ++ [c]).head? = l'.head? := by
              cases l' with
              | nil => exact absurd rfl h0
              | cons a t => rfl
            have hl2 : (l' ++ [c]).length = l'.length + 1 := by simp
            have hpl : 0 < l'.length := List.length_pos_iff.2 h0
            rcases hz with hz | hz
            · rw [hh] at hz ⊢
              obtain ⟨i1, i2⟩ := dec_back k (l := l') (n := m) (by omega) h0 hl (.inl hz)
              have hm := i2 hz
              refine ⟨?_, fun _ => by omega⟩
              rw [decDigits, dif_neg (by omega), show n / 10 = m by omega, show n % 10 = d by omega, ← i1, hc]
            · omega
theorem decDigits_ne (n : Nat) : decDigits n ≠ [] := by
  rw [decDigits]
  split <;> simp
theorem decDigits_head (n : Nat) : (decDigits n).head? ≠ some 48 ∨ (decDigits n).length = 1 := by
  induction n using Nat.strongRecOn with
  | _ n ih =>
    rw [decDigits]
    split
    · right; rfl
    · rename_i h
      left
      have hne := decDigits_ne (n / 10)
      have hh : (decDigits (n / 10) ++ [UInt8.ofNat (48 + n % 10)]).head? = (decDigits (n / 10)).head? := by
        cases hc : decDigits (n / 10) with
        | nil => exact absurd hc hne
        | cons a t => rfl
      rw [hh]
      rcases ih (n / 10) (by omega) with h1 | h1
      · exact h1
      · by_cases h9 : n / 10 < 10
        · rw [decDigits, dif_pos h9]
          intro e
          have e2 : UInt8.ofNat (48 + n / 10) = 48 := Option.some.inj e
          have e3 : (UInt8.ofNat (48 + n / 10)).toNat = 48 := by rw [e2]; rfl
          rw [UInt8.toNat_ofNat'] at e3
          omega
        · rw [decDigits, dif_neg h9] at h1
          have := List.length_pos_iff.2 (decDigits_ne (n / 10 / 10))
          simp at h1
          exact absurd h1 (decDigits_ne _)
theorem decDigits_byte {n : Nat} {b : UInt8} (h : b ∈ decDigits n) : 48 ≤ b.toNat ∧ b.toNat ≤ 57 := by
  induction n using Nat.strongRecOn with
  | _ n ih =>
    rw [decDigits] at h
    split at h
    · rename_i h9
      rw [List.mem_singleton] at h
      rw [h, UInt8.toNat_ofNat']
      omega
    · rename_i h9
      rcases List.mem_append.1 h with h | h
      · exact ih (n / 10) (by omega) h
      · rw [List.mem_singleton] at h
        rw [h, UInt8.toNat_ofNat']
        omega
def atS (w : List UInt8) : Nat := if w.head? = some 45 then 1 else 0
def numO (w : List UInt8) (d : Nat) : Option Int :=
  if w.drop (atS w) = [] ∨ d < (w.drop (atS w)).length ∨ ((w.drop (atS w)).head? = some 48 ∧ 1 < w.length) then none
  else (decFrom 0 (w.drop (atS w))).map fun n => if atS w = 1 then -(n : Int) else n
theorem atS_dec (n : Nat) : atS (decDigits n) = 0 := by
  unfold atS
  rw [if_neg]
  intro h
  have hm : (45 : UInt8) ∈ decDigits n := List.mem_of_mem_head? h
  have := decDigits_byte hm
  revert this; decide
theorem atS_neg (n : Nat) : atS (45 :: decDigits n) = 1 := if_pos rfl
theorem numO_itoa (v : Int) {d : Nat} (hd : ((itoa v).drop (atS (itoa v))).length ≤ d) : numO (itoa v) d = some v := by
  unfold itoa at hd ⊢
  split
  · rename_i h
    rw [if_pos h] at hd
    unfold numO
    rw [atS_neg] at hd ⊢
    rw [List.drop_succ_cons, List.drop_zero] at hd ⊢
    have hne := decDigits_ne v.natAbs
    rw [if_neg, dec_digits]
    · show some (if (1 : Nat) = 1 then -((v.natAbs : Nat) : Int) else _) = _
      rw [if_pos rfl]
      congr 1; omega
    · rintro (h1 | h1 | ⟨h1, h2⟩)
      · exact hne h1
      · omega
      · have hb := (dec_back _ rfl hne (dec_digits v.natAbs) (decDigits_head _))
        rcases decDigits_head v.natAbs with h3 | h3
        · exact h3 h1
        · have e := hb.1
          have h9 : v.natAbs < 10 := by
            refine Classical.byContradiction fun hc => ?_
            rw [decDigits, dif_neg hc] at h3
            simp at h3
            exact decDigits_ne _ h3
          rw [decDigits, dif_pos h9] at h1
          have e2 : UInt8.ofNat (48 + v.natAbs) = 48 := Option.some.inj h1
          have e3 : (UInt8.ofNat (48 + v.natAbs)).toNat = 48 := by rw [e2]; rfl
          rw [UInt8.toNat_ofNat'] at e3
          omega
  · rename_i h
    rw [if_neg h] at hd
    unfold numO
    rw [atS_dec] at hd ⊢
    rw [List.drop_zero] at hd ⊢
    have hne := decDigits_ne v.toNat
    rw [if_neg, dec_digits]
    · show some (if (0 : Nat) = 1 then -((v.toNat : Nat) : Int) else _) = _
      rw [if_neg (by decide)]
      congr 1; omega
    · rintro (h1 | h1 | ⟨h1, h2⟩)
      · exact hne h1
      · omega
      · rcases decDigits_head v.toNat with h3 | h3
        · exact h3 h1
        · omega
theorem numO_back {w : List UInt8} {d : Nat} {v : Int} (h : numO w d = some v) : w = itoa v ∧ (w.drop (atS w)).length ≤ d := by
  unfold numO at h
  split at h
  · cases h
  · rename_i hc
    have h1 : w.drop (atS w) ≠ [] := fun e => hc (.inl e)
    have h2 : (w.drop (atS w)).length ≤ d := Nat.le_of_not_lt fun e => hc (.inr (.inl e))
    refine ⟨?_, h2⟩
    cases hn : decFrom 0 (w.drop (atS w)) with
    | none => rw [hn] at h; cases h
    | some n =>
      rw [hn] at h
      have hv : (if atS w = 1 then -(n : Int) else n) = v := Option.some.inj h
      by_cases ha : w.head? = some 45
      · have e1 : atS w = 1 := if_pos ha
        rw [e1] at h1 hn hc hv
        rw [if_pos rfl] at hv
        obtain ⟨c, r, rfl⟩ : ∃ c r, w = c :: r := by
          cases w with
          | nil => cases ha
          | cons c r => exact ⟨c, r, rfl⟩
        have ec : c = 45 := Option.some.inj ha
        subst ec
        rw [List.drop_succ_cons, List.drop_zero] at h1 hn hc
        have hlr := List.length_pos_iff.2 h1
        have hz : r.head? ≠ some 48 := fun e => hc (.inr (.inr ⟨e, by rw [List.length_cons]; omega⟩))
        obtain ⟨b1, b2⟩ := dec_back _ rfl h1 hn (.inl hz)
        have hp := b2 hz
        unfold itoa
        rw [if_pos (by omega), show v.natAbs = n by omega, ← b1]
      · have e1 : atS w = 0 := if_neg ha
        rw [e1] at h1 hn hc hv
        rw [if_neg (by decide)] at hv
        rw [List.drop_zero] at h1 hn hc
        have hlr := List.length_pos_iff.2 h1
        have hz : w.head? ≠ some 48 ∨ w.length = 1 := by
          by_cases e : w.head? = some 48
          · right
            have : ¬ 1 < w.length := fun h => hc (.inr (.inr ⟨e, h⟩))
            omega
          · exact .inl e
        obtain ⟨b1, _⟩ := dec_back _ rfl h1 hn hz
        unfold itoa
        rw [if_neg (by omega), show v.toNat = n by omega, ← b1]
theorem parse_of : ∀ {l : List UInt8} {acc n : Nat}, decFrom acc l = some n → n < 1000000000000000000 → parseUint10 acc l = .ok n
  | [], acc, n, h, _ => by rw [decFrom] at h; rw [parseUint10, Option.some.inj h]
  | b :: r, acc, n, h, hb => by
    rw [decFrom] at h
    cases hd : digitVal b with
    | none => rw [hd] at h; cases h
    | some d =>
      rw [hd] at h
      have h1 := decFrom_le (l := r) h
      have h2 := hd
      unfold digitVal at h2
      split at h2
      · rename_i hc
        have e := Option.some.inj h2
        rw [parseUint10, if_pos hc, if_neg (by omega), if_neg (by omega), e]
        exact parse_of h hb
      · cases h2
theorem mag_dec {n : Nat} (h : n < 1000000000000000000) : parseMag (decDigits n) = .ok n := by
  unfold parseMag
  rw [if_neg (decDigits_ne n)]
  exact parse_of (dec_digits n) h
theorem atoi_itoa {v : Int} (h : -1000000000000000000 < v ∧ v < 1000000000000000000) : atoiAll (itoa v) = .ok v := by
  unfold itoa
  split
  · rename_i hn
    unfold atoiAll
    dsimp only
    rw [if_pos (show (45 : UInt8).toNat = 43 ∨ (45 : UInt8).toNat = 45 from .inr rfl), mag_dec (by omega)]
    dsimp only
    rw [if_neg (by rintro ⟨h1, _⟩; exact h1 rfl), if_neg (by rintro ⟨_, h2⟩; omega), if_pos (show (45 : UInt8).toNat = 45 from rfl)]
    congr 1; omega
  · rename_i hn
    have hne := decDigits_ne v.toNat
    have hby := fun b (hb : b ∈ decDigits v.toNat) => decDigits_byte hb
    have hm := mag_dec (n := v.toNat) (by omega)
    cases hc : decDigits v.toNat with
    | nil => exact absurd hc hne
    | cons c r =>
      rw [hc] at hby hm
      have h1 := hby c (by simp)
      unfold atoiAll
      dsimp only
      rw [if_neg (show ¬ (c.toNat = 43 ∨ c.toNat = 45) by omega), hm]
      dsimp only
      rw [if_neg (by rintro ⟨_, h2⟩; omega), if_neg (by rintro ⟨h1, _⟩; omega), if_neg (by omega)]
      congr 1; omega
theorem num_lib {w : List UInt8} {d : Nat} (hd : d ≤ 17) {v : Int} : numO w d = some v ↔ atoiAll w = .ok v ∧ itoa v = w ∧ (w.drop (atS w)).length ≤ d := by
  constructor
  · intro h
    obtain ⟨h1, h2⟩ := numO_back h
    refine ⟨?_, h1.symm, h2⟩
    have hb : -1000000000000000000 < v ∧ v < 1000000000000000000 := by
      unfold numO at h
      split at h
      · cases h
      · cases hn : decFrom 0 (w.drop (atS w)) with
        | none => rw [hn] at h; cases h
        | some n =>
          rw [hn] at h
          have hv : (if atS w = 1 then -(n : Int) else n) = v := Option.some.inj h
          have h3 := decFrom_lt hn
          have h4 : 10 ^ (w.drop (atS w)).length ≤ 10 ^ 17 := Nat.pow_le_pow_right (by decide) (by omega)
          have h5 : (10 : Nat) ^ 17 = 100000000000000000 := by decide
          rw [Nat.zero_add, Nat.one_mul] at h3
          split at hv <;> omega
    rw [h1]
    exact atoi_itoa hb
  · rintro ⟨_, h2, h3⟩
    rw [← h2] at h3 ⊢
    exact numO_itoa v h3
end Go.Proofs.YtnmaabejdmaahaaGreatDoor
namespace Go.Proofs.YtnmaabejdmaahaaGreatDoor
open Go Go.RowKit Go.Proofs Go.Shelf Go.Ab
open Go.Lib (index count countFrom splitK join joinTail)
def cutS (c : UInt8) : List UInt8 → List (List UInt8)
  | [] => [[]]
  | b :: r => if b = c then [] :: cutS c r else match cutS c r with
    | [] => [[b]]
    | w :: ws => (b :: w) :: ws
theorem cutS_ne (c : UInt8) (s : List UInt8) : cutS c s ≠ [] := by
  cases s with
  | nil => simp [cutS]
  | cons b r =>
    rw [cutS]
    split
    · simp
    · split <;> simp
theorem cutS_hit (c : UInt8) : ∀ (a b : List UInt8), c ∉ a → cutS c (a ++ c :: b) = a :: cutS c b
  | [], b, _ => by rw [List.nil_append, cutS, if_pos rfl]
  | x :: a, b, h => by
    have hx : x ≠ c := fun e => h (by rw [e]; simp)
    have ha : c ∉ a := fun e => h (by simp [e])
    rw [List.cons_append, cutS, if_neg hx, cutS_hit c a b ha]
theorem cutS_miss (c : UInt8) : ∀ (a : List UInt8), c ∉ a → cutS c a = [a]
  | [], _ => rfl
  | x :: a, h => by
    have hx : x ≠ c := fun e => h (by rw [e]; simp)
    have ha : c ∉ a := fun e => h (by simp [e])
    rw [cutS, if_neg hx, cutS_miss c a ha]
theorem pre_one (c b : UInt8) (l : List UInt8) : ([c] : List UInt8).isPrefixOf (b :: l) = (c == b) := by
  simp [List.isPrefixOf]
theorem index_cases (c : UInt8) : ∀ (s : List UInt8), (index s [c] = -1 ∧ c ∉ s) ∨ ∃ a b, s = a ++ c :: b ∧ c ∉ a ∧ index s [c] = (a.length : Nat)
  | [] => .inl ⟨rfl, by simp⟩
  | x :: s => by
    rw [index, pre_one]
    by_cases hx : c = x
    · subst hx
      rw [if_pos (by simp)]
      exact .inr ⟨[], s, rfl, by simp, rfl⟩
    · rw [if_neg (by simpa using hx)]
      rcases index_cases c s with ⟨h1, h2⟩ | ⟨a, b, h1, h2, h3⟩
      · rw [h1]
        exact .inl ⟨rfl, by simp [h2, hx]⟩
      · rw [h3, if_neg (by simp)]
        refine .inr ⟨x :: a, b, by rw [h1]; rfl, by simp [h2, hx], ?_⟩
        rw [List.length_cons]; omega
theorem split_cut (c : UInt8) : ∀ (f : Nat) (s : List UInt8), s.length < f → splitK [c] 0 (countFrom [c] f s) s = cutS c s
  | 0, s, h => absurd h (Nat.not_lt_zero _)
  | f + 1, s, h => by
    rw [countFrom]
    rcases index_cases c s with ⟨h1, h2⟩ | ⟨a, b, h1, h2, h3⟩
    · rw [h1, if_pos (show ((-1 : Int) == -1) = true from rfl), splitK, cutS_miss c s h2]
    · rw [h3, if_neg (by simp), Nat.add_comm 1, splitK, h3, if_neg (by simp), h1, cutS_hit c a b h2]
      have e1 : (((a.length : Nat) : Int)).toNat = a.length := by omega
      have e2 : (a ++ c :: b).take (((a.length : Nat) : Int).toNat + 0) = a := by rw [e1, Nat.add_zero, List.take_left]
      have e3 : (a ++ c :: b).drop (((a.length : Nat) : Int).toNat + [c].length) = b := by
        rw [e1, ← List.drop_drop, List.drop_left]; rfl
      rw [e2, e3]
      congr 1
      refine split_cut c f b ?_
      rw [h1, List.length_append, List.length_cons] at h
      omega
theorem split_all (c : UInt8) (s : List UInt8) : splitK [c] 0 (count s [c]) s = cutS c s := split_cut c _ s (by omega)
theorem cutS_len (c : UInt8) : ∀ (s : List UInt8), (cutS c s).length ≤ s.length + 1
  | [] => by simp [cutS]
  | b :: r => by
    have h := cutS_len c r
    rw [cutS]
    split
    · rw [List.length_cons, List.length_cons]; omega
    · split
      · simp
      · rename_i w ws e
        rw [e, List.length_cons] at h
        rw [List.length_cons, List.length_cons]; omega
theorem cutS_mem_len (c : UInt8) : ∀ (s : List UInt8) (w : List UInt8), w ∈ cutS c s → w.length ≤ s.length
  | [], w, h => by rw [cutS, List.mem_singleton] at h; subst h; simp
  | b :: r, w, h => by
    have ih := cutS_mem_len c r
    rw [cutS] at h
    split at h
    · rcases List.mem_cons.1 h with e | e
      · subst e; simp
      · have := ih w e; rw [List.length_cons]; omega
    · split at h
      · rw [List.mem_singleton] at h; subst h; simp
      · rename_i v ws e
        rcases List.mem_cons.1 h with e2 | e2
        · subst e2
          have := ih v (by rw [e]; simp)
          rw [List.length_cons, List.length_cons]; omega
        · have := ih w (by rw [e]; simp [e2])
          rw [List.length_cons]; omega
def textS (sep : List UInt8) (l : List (List UInt8)) : Nat → List UInt8
  | 0 => []
  | k + 1 => (if 0 < k then textS sep l k ++ sep else textS sep l k) ++ l.getD k []
theorem join_snoc (sep x : List UInt8) (l : List (List UInt8)) (h : l ≠ []) : join (l ++ [x]) sep = join l sep ++ sep ++ x := by
  cases l with
  | nil => exact absurd rfl h
  | cons a r =>
    rw [List.cons_append, Lib.join_cons, Lib.join_cons]
    unfold joinTail
    simp
theorem textS_join (sep : List UInt8) (l : List (List UInt8)) : ∀ k, k ≤ l.length → textS sep l k = join (l.take k) sep
  | 0, _ => by rw [List.take_zero]; rfl
  | k + 1, h => by
    have hk : k < l.length := h
    have ih := textS_join sep l k (by omega)
    rw [textS, ih]
    have e1 : l.take (k + 1) = l.take k ++ [l[k]] := List.take_succ_eq_append_getElem hk
    have e2 : l.getD k [] = l[k] := by rw [List.getD_eq_getElem?_getD, List.getElem?_eq_getElem hk]; rfl
    rw [e1, e2]
    by_cases h0 : 0 < k
    · rw [if_pos h0, join_snoc _ _ _ (by
        intro e
        have := congrArg List.length e
        rw [List.length_take, List.length_nil] at this
        omega)]
    · have : k = 0 := by omega
      subst this
      rw [if_neg (by decide), List.take_zero, Lib.join_nil, List.nil_append, List.nil_append, Lib.join_one]
theorem cut_join {c : UInt8} : ∀ {l : List (List UInt8)}, l ≠ [] → (∀ w ∈ l, c ∉ w) → cutS c (join l [c]) = l
  | [], h, _ => absurd rfl h
  | [x], _, h => by rw [Lib.join_one, cutS_miss c x (h x (by simp))]
  | x :: y :: r, _, h => by
    have ih := cut_join (c := c) (l := y :: r) (by simp) (fun w hw => h w (by simp [List.mem_cons.1 hw]))
    have e : join (x :: y :: r) [c] = x ++ c :: join (y :: r) [c] := by
      rw [Lib.join_cons, Lib.join_cons]
      unfold joinTail
      simp
    rw [e, cutS_hit c x _ (h x (by simp)), ih]
end Go.Proofs.YtnmaabejdmaahaaGreatDoor
namespace Go.Proofs.YtnmaabejdmaahaaGreatDoor
open Go.Proofs Go.Shelf
def laysItoa_ren : Go.Shelf.Ren := ⟨fun | 171 => 79 | 243 => 111 | 246 => 136 | 283 => 159 | 284 => 160 | 285 => 161 | 286 => 162 | 129 => 109 | 317 => 172 | 318 => 173 | 319 => 174 | 320 => 175 | 337 => 180 | 338 => 181 | n => n, fun | 3 => 3 | 9 => 9 | 2 => 2 | 4 => 4 | 171 => 226 | 0 => 0 | 53 => 185 | 37 => 142 | 5 => 5 | 173 => 228 | 212 => 238 | 51 => 183 | 20 => 20 | 213 => 239 | 46 => 138 | 232 => 250 | 233 => 251 | n => n, fun | 17 => 4 | 18 => 7 | 19 => 8 | n => n⟩
theorem laysItoa : Go.Proofs.LaysM.n171 Tryz.prog laysItoa_ren := {
  mixed := by kernel_rfl
  f129 := Tryz.func109.trans (congrArg some (by kernel_rfl))
  f171 := Tryz.func79.trans (congrArg some (by kernel_rfl))
  f243 := Tryz.func111.trans (congrArg some (by kernel_rfl))
  f246 := Tryz.func136.trans (congrArg some (by kernel_rfl))
  f283 := Tryz.func159.trans (congrArg some (by kernel_rfl))
  f284 := Tryz.func160.trans (congrArg some (by kernel_rfl))
  f285 := Tryz.func161.trans (congrArg some (by kernel_rfl))
  f286 := Tryz.func162.trans (congrArg some (by kernel_rfl))
  f317 := Tryz.func172.trans (congrArg some (by kernel_rfl))
  f318 := Tryz.func173.trans (congrArg some (by kernel_rfl))
  f319 := Tryz.func174.trans (congrArg some (by kernel_rfl))
  f320 := Tryz.func175.trans (congrArg some (by kernel_rfl))
  f337 := Tryz.func180.trans (congrArg some (by kernel_rfl))
  f338 := Tryz.func181.trans (congrArg some (by kernel_rfl))
  t0 := Tryz.underlying0
  a0 := Tryz.isAgg0
  z0 := Tryz.sizeOf0
  v0 := Tryz.zeroValue0
  t2 := Tryz.underlying2
  a2 := Tryz.isAgg2
  z2 := Tryz.sizeOf2
  v2 := Tryz.zeroValue2
  t3 := Tryz.underlying3
  a3 := Tryz.isAgg3
  z3 := Tryz.sizeOf3
  v3 := Tryz.zeroValue3
  t4 := Tryz.underlying4
  a4 := Tryz.isAgg4
  z4 := Tryz.sizeOf4
  v4 := Tryz.zeroValue4
  t5 := Tryz.underlying5
  a5 := Tryz.isAgg5
  z5 := Tryz.sizeOf5
  v5 := Tryz.zeroValue5
  t9 := Tryz.underlying9
  a9 := Tryz.isAgg9
  z9 := Tryz.sizeOf9
  v9 := Tryz.zeroValue9
  t20 := Tryz.underlying20
  a20 := Tryz.isAgg20
  z20 := Tryz.sizeOf20
  v20 := Tryz.zeroValue20
  t37 := Tryz.underlying142
  a37 := Tryz.isAgg142
  z37 := Tryz.sizeOf142
  v37 := Tryz.zeroValue142
  t46 := Tryz.underlying138
  a46 := Tryz.isAgg138
  z46 := Tryz.sizeOf138
  v46 := Tryz.zeroValue138
  t51 := Tryz.underlying183
  a51 := Tryz.isAgg183
  z51 := Tryz.sizeOf183
  v51 := Tryz.zeroValue183
  t53 := Tryz.underlying185
  a53 := Tryz.isAgg185
  z53 := Tryz.sizeOf185
  v53 := Tryz.zeroValue185
  t171 := Tryz.underlying226
  a171 := Tryz.isAgg226
  z171 := Tryz.sizeOf226
  v171 := Tryz.zeroValue226
  t173 := Tryz.underlying228
  a173 := Tryz.isAgg228
  z173 := Tryz.sizeOf228
  v173 := Tryz.zeroValue228
  t212 := Tryz.underlying238
  a212 := Tryz.isAgg238
  z212 := Tryz.sizeOf238
  v212 := Tryz.zeroValue238
  t213 := Tryz.underlying239
  a213 := Tryz.isAgg239
  z213 := Tryz.sizeOf239
  t232 := Tryz.underlying250
  a232 := Tryz.isAgg250
  z232 := Tryz.sizeOf250
  v232 := Tryz.zeroValue250
  t233 := Tryz.underlying251
  a233 := Tryz.isAgg251
  z233 := Tryz.sizeOf251
  v233 := Tryz.zeroValue251
  g17 := by kernel_rfl
  g18 := by kernel_rfl
  g19 := by kernel_rfl
  i0 := by kernel_rfl
  i2 := by kernel_rfl
  i3 := by kernel_rfl
  i4 := by kernel_rfl
  i5 := by kernel_rfl
  i9 := by kernel_rfl
  i20 := by kernel_rfl
  i37 := by kernel_rfl
  i46 := by kernel_rfl
  i51 := by kernel_rfl
  i53 := by kernel_rfl
  i171 := by kernel_rfl
  i173 := by kernel_rfl
  i212 := by kernel_rfl
  i232 := by kernel_rfl
  i233 := by kernel_rfl
  m17 := by kernel_rfl
  m18 := by kernel_rfl
  m19 := by kernel_rfl }
def laysAtoi_ren : Go.Shelf.Ren := ⟨fun | 172 => 85 | 244 => 118 | 245 => 119 | 247 => 144 | 279 => 145 | 280 => 146 | 281 => 147 | 282 => 148 | 287 => 168 | 316 => 169 | 171 => 79 | 205 => 170 | 321 => 178 | 322 => 179 | 243 => 111 | 246 => 136 | 283 => 159 | 284 => 160 | 285 => 161 | 286 => 162 | 129 => 109 | 317 => 172 | 318 => 173 | 319 => 174 | 320 => 175 | 337 => 180 | 338 => 181 | n => n, fun | 9 => 9 | 3 => 3 | 75 => 147 | 76 => 148 | 4 => 4 | 5 => 5 | 167 => 213 | 37 => 142 | 0 => 0 | 85 => 214 | 2 => 2 | 168 => 216 | 53 => 185 | 175 => 230 | 46 => 138 | 210 => 234 | 127 => 186 | 145 => 249 | 143 => 247 | 21 => 21 | 171 => 226 | 173 => 228 | 212 => 238 | 51 => 183 | 20 => 20 | 213 => 239 | 232 => 250 | 233 => 251 | 80 => 150 | n => n, fun | 15 => 2 | 16 => 3 | 17 => 4 | 18 => 7 | 19 => 8 | n => n⟩
theorem laysAtoi : Go.Proofs.LaysC.n172 Tryz.prog laysAtoi_ren := {
  mixed := by kernel_rfl
  f129 := Tryz.func109.trans (congrArg some (by kernel_rfl))
  f171 := Tryz.func79.trans (congrArg some (by kernel_rfl))
  f172 := Tryz.func85.trans (congrArg some (by kernel_rfl))
  f205 := Tryz.func170.trans (congrArg some (by kernel_rfl))
  f243 := Tryz.func111.trans (congrArg some (by kernel_rfl))
  f244 := Tryz.func118.trans (congrArg some (by kernel_rfl))
  f245 := Tryz.func119.trans (congrArg some (by kernel_rfl))
  f246 := Tryz.func136.trans (congrArg some (by kernel_rfl))
  f247 := Tryz.func144.trans (congrArg some (by kernel_rfl))
  f279 := Tryz.func145.trans (congrArg some (by kernel_rfl))
  f280 := Tryz.func146.trans (congrArg some (by kernel_rfl))
  f281 := Tryz.func147.trans (congrArg some (by kernel_rfl))
  f282 := Tryz.func148.trans (congrArg some (by kernel_rfl))
  f283 := Tryz.func159.trans (congrArg some (by kernel_rfl))
  f284 := Tryz.func160.trans (congrArg some (by kernel_rfl))
  f285 := Tryz.func161.trans (congrArg some (by kernel_rfl))
  f286 := Tryz.func162.trans (congrArg some (by kernel_rfl))
  f287 := Tryz.func168.trans (congrArg some (by kernel_rfl))
  f316 := Tryz.func169.trans (congrArg some (by kernel_rfl))
  f317 := Tryz.func172.trans (congrArg some (by kernel_rfl))
  f318 := Tryz.func173.trans (congrArg some (by kernel_rfl))
  f319 := Tryz.func174.trans (congrArg some (by kernel_rfl))
  f320 := Tryz.func175.trans (congrArg some (by kernel_rfl))
  f321 := Tryz.func178.trans (congrArg some (by kernel_rfl))
  f322 := Tryz.func179.trans (congrArg some (by kernel_rfl))
  f337 := Tryz.func180.trans (congrArg some (by kernel_rfl))
  f338 := Tryz.func181.trans (congrArg some (by kernel_rfl))
  t0 := Tryz.underlying0
  a0 := Tryz.isAgg0
  z0 := Tryz.sizeOf0
  v0 := Tryz.zeroValue0
  t2 := Tryz.underlying2
  a2 := Tryz.isAgg2
  z2 := Tryz.sizeOf2
  v2 := Tryz.zeroValue2
  t3 := Tryz.underlying3
  a3 := Tryz.isAgg3
  z3 := Tryz.sizeOf3
  v3 := Tryz.zeroValue3
  t4 := Tryz.underlying4
  a4 := Tryz.isAgg4
  z4 := Tryz.sizeOf4
  v4 := Tryz.zeroValue4
  t5 := Tryz.underlying5
  a5 := Tryz.isAgg5
  z5 := Tryz.sizeOf5
  v5 := Tryz.zeroValue5
  t9 := Tryz.underlying9
  a9 := Tryz.isAgg9
  z9 := Tryz.sizeOf9
  v9 := Tryz.zeroValue9
  t20 := Tryz.underlying20
  a20 := Tryz.isAgg20
  z20 := Tryz.sizeOf20
  v20 := Tryz.zeroValue20
  t21 := Tryz.underlying21
  a21 := Tryz.isAgg21
  z21 := Tryz.sizeOf21
  v21 := Tryz.zeroValue21
  t37 := Tryz.underlying142
  a37 := Tryz.isAgg142
  z37 := Tryz.sizeOf142
  v37 := Tryz.zeroValue142
  t46 := Tryz.underlying138
  a46 := Tryz.isAgg138
  z46 := Tryz.sizeOf138
  v46 := Tryz.zeroValue138
  t51 := Tryz.underlying183
  a51 := Tryz.isAgg183
  z51 := Tryz.sizeOf183
  v51 := Tryz.zeroValue183
  t53 := Tryz.underlying185
  a53 := Tryz.isAgg185
  z53 := Tryz.sizeOf185
  v53 := Tryz.zeroValue185
  t75 := Tryz.underlying147
  a75 := Tryz.isAgg147
  z75 := Tryz.sizeOf147
  v75 := Tryz.zeroValue147
  t76 := Tryz.underlying148
  a76 := Tryz.isAgg148
  z76 := Tryz.sizeOf148
  v76 := Tryz.zeroValue148
  t85 := Tryz.underlying214
  a85 := Tryz.isAgg214
  z85 := Tryz.sizeOf214
  v85 := Tryz.zeroValue214
  t127 := Tryz.underlying186
  a127 := Tryz.isAgg186
  z127 := Tryz.sizeOf186
  v127 := Tryz.zeroValue186
  t143 := Tryz.underlying247
  a143 := Tryz.isAgg247
  z143 := Tryz.sizeOf247
  v143 := Tryz.zeroValue247
  t145 := Tryz.underlying249
  a145 := Tryz.isAgg249
  z145 := Tryz.sizeOf249
  v145 := Tryz.zeroValue249
  t167 := Tryz.underlying213
  a167 := Tryz.isAgg213
  z167 := Tryz.sizeOf213
  v167 := Tryz.zeroValue213
  t168 := Tryz.underlying216
  a168 := Tryz.isAgg216
  z168 := Tryz.sizeOf216
  v168 := Tryz.zeroValue216
  t171 := Tryz.underlying226
  a171 := Tryz.isAgg226
  z171 := Tryz.sizeOf226
  v171 := Tryz.zeroValue226
  t173 := Tryz.underlying228
  a173 := Tryz.isAgg228
  z173 := Tryz.sizeOf228
  v173 := Tryz.zeroValue228
  t175 := Tryz.underlying230
  a175 := Tryz.isAgg230
  z175 := Tryz.sizeOf230
  v175 := Tryz.zeroValue230
  t210 := Tryz.underlying234
  a210 := Tryz.isAgg234
  z210 := Tryz.sizeOf234
  v210 := Tryz.zeroValue234
  t212 := Tryz.underlying238
  a212 := Tryz.isAgg238
  z212 := Tryz.sizeOf238
  v212 := Tryz.zeroValue238
  t213 := Tryz.underlying239
  a213 := Tryz.isAgg239
  z213 := Tryz.sizeOf239
  t232 := Tryz.underlying250
  a232 := Tryz.isAgg250
  z232 := Tryz.sizeOf250
  v232 := Tryz.zeroValue250
  t233 := Tryz.underlying251
  a233 := Tryz.isAgg251
  z233 := Tryz.sizeOf251
  v233 := Tryz.zeroValue251
  g15 := by kernel_rfl
  g16 := by kernel_rfl
  g17 := by kernel_rfl
  g18 := by kernel_rfl
  g19 := by kernel_rfl
  t80 := Tryz.underlying150
  a80 := Tryz.isAgg150
  z80 := Tryz.sizeOf150
  v80 := Tryz.zeroValue150
  i0 := by kernel_rfl
  i2 := by kernel_rfl
  i3 := by kernel_rfl
  i4 := by kernel_rfl
  i5 := by kernel_rfl
  i9 := by kernel_rfl
  i20 := by kernel_rfl
  i21 := by kernel_rfl
  i37 := by kernel_rfl
  i46 := by kernel_rfl
  i51 := by kernel_rfl
  i53 := by kernel_rfl
  i75 := by kernel_rfl
  i76 := by kernel_rfl
  i80 := by kernel_rfl
  i85 := by kernel_rfl
  i127 := by kernel_rfl
  i143 := by kernel_rfl
  i145 := by kernel_rfl
  i167 := by kernel_rfl
  i168 := by kernel_rfl
  i171 := by kernel_rfl
  i173 := by kernel_rfl
  i175 := by kernel_rfl
  i210 := by kernel_rfl
  i212 := by kernel_rfl
  i232 := by kernel_rfl
  i233 := by kernel_rfl
  m15 := by kernel_rfl
  m16 := by kernel_rfl
  m17 := by kernel_rfl
  m18 := by kernel_rfl
  m19 := by kernel_rfl
  c0 := by kernel_rfl
  c2 := by kernel_rfl
  c3 := by kernel_rfl
  c4 := by kernel_rfl
  c5 := by kernel_rfl
  c9 := by kernel_rfl
  c20 := by kernel_rfl
  c21 := by kernel_rfl
  c37 := by kernel_rfl
  c46 := by kernel_rfl
  c51 := by kernel_rfl
  c53 := by kernel_rfl
  c75 := by kernel_rfl
  c76 := by kernel_rfl
  c80 := by kernel_rfl
  c85 := by kernel_rfl
  c127 := by kernel_rfl
  c143 := by kernel_rfl
  c145 := by kernel_rfl
  c167 := by kernel_rfl
  c168 := by kernel_rfl
  c171 := by kernel_rfl
  c173 := by kernel_rfl
  c175 := by kernel_rfl
  c210 := by kernel_rfl
  c212 := by kernel_rfl
  c213 := by kernel_rfl
  c232 := by kernel_rfl
  c233 := by kernel_rfl }
def laysSplit_ren : Go.Shelf.Ren := ⟨fun | 146 => 50 | 221 => 83 | 268 => 114 | 138 => 115 | 143 => 116 | 195 => 139 | 197 => 140 | 218 => 141 | 219 => 142 | 260 => 163 | 217 => 164 | 225 => 165 | 224 => 166 | 267 => 167 | 266 => 176 | 314 => 177 | n => n, fun | 9 => 9 | 31 => 101 | 3 => 3 | 4 => 4 | 0 => 0 | 105 => 209 | 21 => 21 | 5 => 5 | 46 => 138 | 119 => 240 | 139 => 243 | 138 => 242 | 146 => 244 | 51 => 183 | n => n, fun | 1 => 1 | 3 => 5 | 4 => 6 | n => n⟩
theorem laysSplit : Go.Proofs.Lays.n146 Tryz.prog laysSplit_ren := {
  mixed := by kernel_rfl
  f138 := Tryz.func115.trans (congrArg some (by kernel_rfl))
  f143 := Tryz.func116.trans (congrArg some (by kernel_rfl))
  f146 := Tryz.func50.trans (congrArg some (by kernel_rfl))
  f195 := Tryz.func139.trans (congrArg some (by kernel_rfl))
  f197 := Tryz.func140.trans (congrArg some (by kernel_rfl))
  f217 := Tryz.func164.trans (congrArg some (by kernel_rfl))
  f218 := Tryz.func141.trans (congrArg some (by kernel_rfl))
  f219 := Tryz.func142.trans (congrArg some (by kernel_rfl))
  f221 := Tryz.func83.trans (congrArg some (by kernel_rfl))
  f224 := Tryz.func166.trans (congrArg some (by kernel_rfl))
  f225 := Tryz.func165.trans (congrArg some (by kernel_rfl))
  f260 := Tryz.func163.trans (congrArg some (by kernel_rfl))
  f266 := Tryz.func176.trans (congrArg some (by kernel_rfl))
  f267 := Tryz.func167.trans (congrArg some (by kernel_rfl))
  f268 := Tryz.func114.trans (congrArg some (by kernel_rfl))
  f314 := Tryz.func177.trans (congrArg some (by kernel_rfl))
  t0 := Tryz.underlying0
  a0 := Tryz.isAgg0
  z0 := Tryz.sizeOf0
  v0 := Tryz.zeroValue0
  t3 := Tryz.underlying3
  a3 := Tryz.isAgg3
  z3 := Tryz.sizeOf3
  v3 := Tryz.zeroValue3
  t4 := Tryz.underlying4
  a4 := Tryz.isAgg4
  z4 := Tryz.sizeOf4
  v4 := Tryz.zeroValue4
  t5 := Tryz.underlying5
  a5 := Tryz.isAgg5
  z5 := Tryz.sizeOf5
  v5 := Tryz.zeroValue5
  t9 := Tryz.underlying9
  a9 := Tryz.isAgg9
  z9 := Tryz.sizeOf9
  v9 := Tryz.zeroValue9
  t21 := Tryz.underlying21
  a21 := Tryz.isAgg21
  z21 := Tryz.sizeOf21
  v21 := Tryz.zeroValue21
  t31 := Tryz.underlying101
  a31 := Tryz.isAgg101
  z31 := Tryz.sizeOf101
  v31 := Tryz.zeroValue101
  t46 := Tryz.underlying138
  a46 := Tryz.isAgg138
  z46 := Tryz.sizeOf138
  v46 := Tryz.zeroValue138
  t51 := Tryz.underlying183
  a51 := Tryz.isAgg183
  z51 := Tryz.sizeOf183
  v51 := Tryz.zeroValue183
  t105 := Tryz.underlying209
  a105 := Tryz.isAgg209
  z105 := Tryz.sizeOf209
  v105 := Tryz.zeroValue209
  t119 := Tryz.underlying240
  a119 := Tryz.isAgg240
  z119 := Tryz.sizeOf240
  t138 := Tryz.underlying242
  a138 := Tryz.isAgg242
  z138 := Tryz.sizeOf242
  v138 := Tryz.zeroValue242
  t139 := Tryz.underlying243
  a139 := Tryz.isAgg243
  z139 := Tryz.sizeOf243
  v139 := Tryz.zeroValue243
  t146 := Tryz.underlying244
  a146 := Tryz.isAgg244
  z146 := Tryz.sizeOf244
  v146 := Tryz.zeroValue244
  g1 := by kernel_rfl
  g3 := by kernel_rfl
  g4 := by kernel_rfl }
def laysJoin_ren : Go.Shelf.Ren := ⟨fun | 156 => 48 | 165 => 80 | 166 => 81 | 169 => 82 | 240 => 112 | 241 => 113 | 276 => 137 | 277 => 138 | n => n, fun | 31 => 101 | 9 => 9 | 3 => 3 | 4 => 4 | 0 => 0 | 20 => 20 | 72 => 144 | 76 => 148 | 70 => 141 | 37 => 142 | 75 => 147 | 127 => 186 | 164 => 205 | 5 => 5 | 80 => 150 | n => n, fun | n => n⟩
theorem laysJoin : Go.Proofs.Lays.n156 Tryz.prog laysJoin_ren := {
  mixed := by kernel_rfl
  f156 := Tryz.func48.trans (congrArg some (by kernel_rfl))
  f165 := Tryz.func80.trans (congrArg some (by kernel_rfl))
  f166 := Tryz.func81.trans (congrArg some (by kernel_rfl))
  f169 := Tryz.func82.trans (congrArg some (by kernel_rfl))
  f240 := Tryz.func112.trans (congrArg some (by kernel_rfl))
  f241 := Tryz.func113.trans (congrArg some (by kernel_rfl))
  f276 := Tryz.func137.trans (congrArg some (by kernel_rfl))
  f277 := Tryz.func138.trans (congrArg some (by kernel_rfl))
  t0 := Tryz.underlying0
  a0 := Tryz.isAgg0
  z0 := Tryz.sizeOf0
  v0 := Tryz.zeroValue0
  t3 := Tryz.underlying3
  a3 := Tryz.isAgg3
  z3 := Tryz.sizeOf3
  v3 := Tryz.zeroValue3
  t4 := Tryz.underlying4
  a4 := Tryz.isAgg4
  z4 := Tryz.sizeOf4
  v4 := Tryz.zeroValue4
  t9 := Tryz.underlying9
  a9 := Tryz.isAgg9
  z9 := Tryz.sizeOf9
  v9 := Tryz.zeroValue9
  t20 := Tryz.underlying20
  a20 := Tryz.isAgg20
  z20 := Tryz.sizeOf20
  v20 := Tryz.zeroValue20
  t31 := Tryz.underlying101
  a31 := Tryz.isAgg101
  z31 := Tryz.sizeOf101
  v31 := Tryz.zeroValue101
  t37 := Tryz.underlying142
  a37 := Tryz.isAgg142
  z37 := Tryz.sizeOf142
  v37 := Tryz.zeroValue142
  t70 := Tryz.underlying141
  a70 := Tryz.isAgg141
  z70 := Tryz.sizeOf141
  v70 := Tryz.zeroValue141
  t72 := Tryz.underlying144
  a72 := Tryz.isAgg144
  z72 := Tryz.sizeOf144
  v72 := Tryz.zeroValue144
  t75 := Tryz.underlying147
  a75 := Tryz.isAgg147
  z75 := Tryz.sizeOf147
  v75 := Tryz.zeroValue147
  t76 := Tryz.underlying148
  a76 := Tryz.isAgg148
  z76 := Tryz.sizeOf148
  v76 := Tryz.zeroValue148
  t127 := Tryz.underlying186
  a127 := Tryz.isAgg186
  z127 := Tryz.sizeOf186
  v127 := Tryz.zeroValue186
  t164 := Tryz.underlying205
  a164 := Tryz.isAgg205
  z164 := Tryz.sizeOf205
  v164 := Tryz.zeroValue205 }
def laysIndex_ren : Go.Shelf.Ren := ⟨fun | 143 => 116 | 219 => 142 | 217 => 164 | 225 => 165 | 224 => 166 | 267 => 167 | 266 => 176 | 314 => 177 | n => n, fun | 9 => 9 | 3 => 3 | 4 => 4 | 5 => 5 | 46 => 138 | 146 => 244 | 51 => 183 | n => n, fun | 1 => 1 | n => n⟩
theorem laysIndex : Go.Proofs.Lays.n143 Tryz.prog laysIndex_ren := {
  mixed := by kernel_rfl
  f143 := Tryz.func116.trans (congrArg some (by kernel_rfl))
  f217 := Tryz.func164.trans (congrArg some (by kernel_rfl))
  f219 := Tryz.func142.trans (congrArg some (by kernel_rfl))
  f224 := Tryz.func166.trans (congrArg some (by kernel_rfl))
  f225 := Tryz.func165.trans (congrArg some (by kernel_rfl))
  f266 := Tryz.func176.trans (congrArg some (by kernel_rfl))
  f267 := Tryz.func167.trans (congrArg some (by kernel_rfl))
  f314 := Tryz.func177.trans (congrArg some (by kernel_rfl))
  t3 := Tryz.underlying3
  a3 := Tryz.isAgg3
  z3 := Tryz.sizeOf3
  v3 := Tryz.zeroValue3
  t4 := Tryz.underlying4
  a4 := Tryz.isAgg4
  z4 := Tryz.sizeOf4
  v4 := Tryz.zeroValue4
  t5 := Tryz.underlying5
  a5 := Tryz.isAgg5
  z5 := Tryz.sizeOf5
  v5 := Tryz.zeroValue5
  t9 := Tryz.underlying9
  a9 := Tryz.isAgg9
  z9 := Tryz.sizeOf9
  v9 := Tryz.zeroValue9
  t46 := Tryz.underlying138
  a46 := Tryz.isAgg138
  z46 := Tryz.sizeOf138
  v46 := Tryz.zeroValue138
  t51 := Tryz.underlying183
  a51 := Tryz.isAgg183
  z51 := Tryz.sizeOf183
  v51 := Tryz.zeroValue183
  t146 := Tryz.underlying244
  a146 := Tryz.isAgg244
  z146 := Tryz.sizeOf244
  v146 := Tryz.zeroValue244
  g1 := by kernel_rfl }
def laysTrimp_ren : Go.Shelf.Ren := ⟨fun | 101 => 86 | 208 => 120 | 206 => 149 | n => n, fun | 9 => 9 | 4 => 4 | 3 => 3 | n => n, fun | n => n⟩
theorem laysTrimp : Go.Proofs.Lays.n101 Tryz.prog laysTrimp_ren := {
  mixed := by kernel_rfl
  f101 := Tryz.func86.trans (congrArg some (by kernel_rfl))
  f206 := Tryz.func149.trans (congrArg some (by kernel_rfl))
  f208 := Tryz.func120.trans (congrArg some (by kernel_rfl))
  t3 := Tryz.underlying3
  a3 := Tryz.isAgg3
  z3 := Tryz.sizeOf3
  v3 := Tryz.zeroValue3
  t4 := Tryz.underlying4
  a4 := Tryz.isAgg4
  z4 := Tryz.sizeOf4
  v4 := Tryz.zeroValue4
  t9 := Tryz.underlying9
  a9 := Tryz.isAgg9
  z9 := Tryz.sizeOf9
  v9 := Tryz.zeroValue9 }
theorem laysJoin_extra : Builder.Extra Tryz.prog laysJoin_ren := {
  sizeBuilder := by kernel_rfl
  liesBuilder := by kernel_rfl
  t5 := Tryz.underlying5
  a5 := Tryz.isAgg5
  z5 := Tryz.sizeOf5
  v5 := Tryz.zeroValue5
  infoByte := by kernel_rfl
  cellsByte := by kernel_rfl
  sizeByte := by kernel_rfl
  neB5 := by decide }
open Go Go.RowKit Go.Proofs Go.Shelf Go.Ab
def GS : Nat → Option FV
  | 2 => some (.pt [.any isIfc] 0)
  | 3 => some (.pt [.any isIfc] 0)
  | 1 => some (.pt [.any isI64] 0)
  | 4 => some (.tab (Lib.pow10Tab.map (Value.int .u64)))
  | _ => none
theorem summ_up {P : Program} {G G' : Nat → Option FV} {f : Nat} {a : List FV} {r : FV} (S : Summ P G f a r) (h : ∀ g x, G g = some x → G' g = some x) : Summ P G' f a r :=
  ⟨S.enters, fun w M us h1 h2 h3 => S.call w M us h1 (fun g x e => h2 g x (h g x e)) h3⟩
theorem up {f : Nat} {a : List FV} {r : FV} (S : Summ Tryz.prog GG f a r) : Summ Tryz.prog GS f a r := summ_up S fun g x e => by cases e
theorem pt_cell {w : World} {M : Nat → Prop} {b : Nat} {x : FV} (h : RepF w M (.pointer (some ⟨b, 0, none⟩)) (.pt [x] 0)) : ∃ u, w.cell? ⟨b, 0, none⟩ = some u ∧ RepF w M u x := by
  generalize hp : Value.pointer (some ⟨b, 0, none⟩) = v at h
  cases h with
  | pt b' off o cs us h1 h2 h3 h4 =>
    obtain ⟨u, rfl⟩ : ∃ u, us = [u] := by
      match us, h1 with
      | [u], _ => exact ⟨u, rfl⟩
    have e := h3.at_ 0 (by simp)
    have hb : b' = b ∧ off = 0 := by
      injection hp with hp
      injection hp with hp
      injection hp with p1 p2
      exact ⟨p1.symm, by omega⟩
    obtain ⟨rfl, rfl⟩ := hb
    exact ⟨u, e, h4 0 u x rfl rfl⟩
theorem any_of {w : World} {M : Nat → Prop} {u : Value} {G : Value → Prop} (h : RepF w M u (.any G)) : G u := by
  cases h with
  | any _ _ h1 _ => exact h1
def Globs (w : World) (M : Nat → Prop) : Prop := ∀ g x, GS g = some x → RepF w M (.pointer (some ⟨g, 0, none⟩)) x
theorem globE {w : World} {M : Nat → Prop} (h : Globs w M) : ∃ t q, w.cell? ⟨2, 0, none⟩ = some (.iface t q) := by
  obtain ⟨u, e, r⟩ := pt_cell (h 2 _ rfl)
  obtain ⟨t, q, rfl⟩ := any_of r
  exact ⟨t, q, e⟩
theorem globR {w : World} {M : Nat → Prop} (h : Globs w M) : ∃ t q, w.cell? ⟨3, 0, none⟩ = some (.iface t q) := by
  obtain ⟨u, e, r⟩ := pt_cell (h 3 _ rfl)
  obtain ⟨t, q, rfl⟩ := any_of r
  exact ⟨t, q, e⟩
theorem globM {w : World} {M : Nat → Prop} (h : Globs w M) : ∃ m, w.cell? ⟨1, 0, none⟩ = some (.int .i64 m) := by
  obtain ⟨u, e, r⟩ := pt_cell (h 1 _ rfl)
  obtain ⟨m, rfl⟩ := any_of r
  exact ⟨m, e⟩
theorem gTab : Tryz.prog.globalNamed "internal/strconv.uint64pow10" = some 4 := by kernel_rfl
theorem globT {w : World} {M : Nat → Prop} (h : Globs w M) : Lib.TabIs Tryz.prog w "internal/strconv.uint64pow10" .u64 Lib.pow10Tab := by
  have r := h 4 _ rfl
  generalize hp : Value.pointer (some ⟨4, 0, none⟩) = v at r
  cases r with
  | tab b l h1 h2 =>
    obtain ⟨T, fr, e⟩ := h2
    have hb : b = 4 := by
      injection hp with hp
      injection hp with hp
      injection hp with p1 p2
      exact p1.symm
    subst hb
    unfold Lib.TabIs World.var?
    rw [gTab]
    show (match w.heap[4]? with | some (.cells cs _ _) => some cs | _ => none) = _
    rw [e]
theorem below_grow (w : World) (k : Nat) (os : Array Obj) : Below w.heap.size w (Sort.grow (w.drewN k) os) :=
  ⟨rfl, rfl, rfl, by simp [Sort.grow], fun i hi => by
    show ((w.drewN k).heap ++ os)[i]? = _
    rw [Array.getElem?_append_left (by show i < w.heap.size; omega)]
    rfl⟩
theorem one_arg {w : World} {M : Nat → Prop} {us : List Value} {v : Value} (h : RepL w M us [.v v]) : us = [v] := by
  obtain ⟨u, us', rfl, hu, hR'⟩ := h.head
  obtain rfl := hR'.end
  obtain rfl := repV hu
  rfl
theorem Itoa_s (n : Int) (h : -9223372036854775808 ≤ n ∧ n ≤ 9223372036854775807) : Summ Tryz.prog GS 79 [iv n] (sv (Lib.itoa n)) :=
  ⟨enters_of Tryz.func79 (by kernel_rfl) rfl, fun w M us _ hG hR => by
    obtain rfl := one_arg hR
    exact (Any.strconv_Itoa laysItoa n h.1 h.2 w (globT hG)).mono fun e w' ⟨he, k, os, hw⟩ => ⟨_, he, RepF.v _, by rw [hw]; exact below_grow w k os⟩⟩
theorem rep_tup2 {w : World} {M : Nat → Prop} {u v : Value} {x y : FV} (h1 : RepF w M u x) (h2 : RepF w M v y) : RepF w M (.tuple #[u, v]) (.tup [x, y]) :=
  RepF.tup [x, y] [u, v] rfl fun k a b e1 e2 => by
    match k with
    | 0 => cases e1; cases e2; exact h1
    | 1 => cases e1; cases e2; exact h2
    | k + 2 => simp at e1
theorem Atoi_ok (s : Nm) (hs : s.length ≤ 1000000) {v : Int} (h : Lib.atoiAll s = .ok v) : Summ Tryz.prog GS 85 [sv s] (.tup [iv v, .v .nilIface]) :=
  ⟨enters_of Tryz.func85 (by kernel_rfl) rfl, fun w M us _ hG hR => by
    obtain rfl := one_arg hR
    refine (Any.strconv_Atoi_ok laysAtoi ⟨s.toArray⟩ (by simp [ByteArray.size]; omega) v h w).mono fun e w' ⟨he, hw⟩ => ⟨_, he, rep_tup2 (RepF.v _) (RepF.v _), ?_⟩
    rcases hw with rfl | ⟨t, rfl⟩
    · exact Ext.refl _
    · exact Lib.bytesWorld_below w _ t⟩
theorem Atoi_err (s : Nm) (hs : s.length ≤ 1000000) (h : ∀ v, Lib.atoiAll s ≠ .ok v) : ∃ n, Summ Tryz.prog GS 85 [sv s] (.tup [iv n, .any isIfc]) := by
  have hz : (⟨s.toArray⟩ : ByteArray).size ≤ 281474976710656 := by simp [ByteArray.size]; omega
  cases hc : Lib.atoiAll s
  · exact absurd hc (h _)
  · exact ⟨0, enters_of Tryz.func85 (by kernel_rfl) rfl, fun w M us _ hG hR => by
      obtain rfl := one_arg hR
      obtain ⟨t, q, e⟩ := globE hG
      exact (Any.strconv_Atoi_syntax laysAtoi ⟨s.toArray⟩ hz hc _ w e (.inr ⟨t, q, rfl⟩)).mono fun e w' ⟨N, he, _, _, hb⟩ => ⟨_, he, rep_tup2 (RepF.v _) (RepF.any _ _ ⟨_, _, rfl⟩ rfl), hb⟩⟩
  · exact ⟨_, enters_of Tryz.func85 (by kernel_rfl) rfl, fun w M us _ hG hR => by
      obtain rfl := one_arg hR
      obtain ⟨t, q, e⟩ := globR hG
      exact (Any.strconv_Atoi_range laysAtoi ⟨s.toArray⟩ hz hc _ w e (.inr ⟨t, q, rfl⟩)).mono fun e w' ⟨N, he, _, _, hb⟩ => ⟨_, he, rep_tup2 (RepF.v _) (RepF.any _ _ ⟨_, _, rfl⟩ rfl), hb⟩⟩
theorem two_args {w : World} {M : Nat → Prop} {us : List Value} {v v' : Value} (h : RepL w M us [.v v, .v v']) : us = [v, v'] := by
  obtain ⟨u, us', rfl, hu, hR'⟩ := h.head
  obtain rfl := repV hu
  rw [one_arg hR']
theorem rep_strs {w : World} {M : Nat → Prop} (T : TypeId) (l : List Nm) (hM : ∀ b, M b → b < w.heap.size) : RepF (w.alloc (.cells (l.map fun s => Value.string ⟨s.toArray⟩).toArray T)) M (.slice (some ⟨w.heap.size, 0, none⟩) l.length l.length) (.sl l.length (strsF l)) := by
  refine RepF.sl _ _ _ _ (l.map fun s => Value.string ⟨s.toArray⟩) (Nat.le_refl _) (by simp [strsF]) (fun u hu => ?_) (fun _ => ⟨_, _, rfl, ⟨by simp, fun h => Nat.lt_irrefl _ (hM _ h), fun k hk => ?_⟩⟩) (fun k u x h1 h2 => ?_)
  · obtain ⟨s, _, rfl⟩ := List.mem_map.1 hu; rfl
  · rw [Nat.zero_add, World.cell?_alloc_at _ _ _ _ rfl]; simp
  · unfold strsF at h2
    rw [List.getElem?_map] at h1 h2
    cases hk : l[k]? with
    | none => rw [hk] at h1; cases h1
    | some s => rw [hk] at h1 h2; cases h1; cases h2; exact RepF.v _
theorem Split_s (s : Nm) (c : UInt8) (hs : s.length ≤ 1000000) : Summ Tryz.prog GS 50 [sv s, sv [c]] (.sl (cutS c s).length (strsF (cutS c s))) :=
  ⟨enters_of Tryz.func50 (by kernel_rfl) rfl, fun w M us hM hG hR => by
    obtain rfl := two_args hR
    obtain ⟨m, hm⟩ := globM hG
    have C := Any.strings_Split laysSplit (by kernel_rfl) ⟨s.toArray⟩ ⟨#[c]⟩ m w (by simp [ByteArray.size]; omega) hm (by simp [ByteArray.size])
    have e1 : (Lib.splitB ⟨#[c]⟩ 0 (Lib.countB ⟨s.toArray⟩ ⟨#[c]⟩) ⟨s.toArray⟩).map (·.data.toList) = cutS c s := by
      rw [Lib.splitB_data]
      exact split_all c s
    have e2 : (Lib.splitB ⟨#[c]⟩ 0 (Lib.countB ⟨s.toArray⟩ ⟨#[c]⟩) ⟨s.toArray⟩).map Value.string = (cutS c s).map fun s => Value.string ⟨s.toArray⟩ := by
      rw [← e1, List.map_map]
      exact List.map_congr_left fun x _ => by
        show Value.string x = Value.string ⟨x.data.toList.toArray⟩
        rw [Lib.mk_data]
    have e3 : Lib.countB ⟨s.toArray⟩ ⟨#[c]⟩ + 1 = (cutS c s).length := by
      rw [← e1, List.length_map]
      exact (Lib.splitB_all ⟨#[c]⟩ (by simp [ByteArray.size]) 0 _ _ rfl).symm
    rw [e2, e3] at C
    exact C.mono fun e w' ⟨he, hw⟩ => ⟨_, he, by rw [hw]; exact rep_strs _ _ hM, by rw [hw]; exact Ext.alloc _ _⟩⟩
theorem Join_s (l : List Nm) (sep : Nm) (hl : l.length ≤ 1000000) (hj : (Lib.join l sep).length ≤ 100000000) : Summ Tryz.prog GS 48 [.sl l.length (strsF l), sv sep] (sv (Lib.join l sep)) :=
  ⟨enters_of Tryz.func48 (by kernel_rfl) rfl, fun w M us _ hG hR => by
    obtain ⟨u, us', rfl, hu, hR'⟩ := hR.head
    obtain rfl := one_arg hR'
    have he : (l.map fun s => (⟨s.toArray⟩ : ByteArray)).map (·.data.toList) = l := by
      rw [List.map_map]; exact (List.map_congr_left fun x _ => rfl).trans (List.map_id l)
    have hd : (⟨sep.toArray⟩ : ByteArray).data.toList = sep := rfl
    cases hu with
    | sl a _ c _ vs p0 p1 p2 p3 p4 =>
      by_cases h0 : l = []
      · subst h0
        exact (Any.strings_Join_none laysJoin laysJoin_extra a c ⟨sep.toArray⟩ w).mono fun e w' ⟨he, hw⟩ => ⟨_, he, RepF.v _, by rw [hw]; exact Ext.refl _⟩
      · have hvl : vs.length = l.length := by rw [p1]; simp [strsF]
        have hne : vs ≠ [] := fun e => h0 (List.eq_nil_of_length_eq_zero (by rw [← hvl, e]; rfl))
        obtain ⟨b, off, rfl, L⟩ := p3 hne
        have C := Any.strings_Join laysJoin laysJoin_extra b off c (l.map fun s => (⟨s.toArray⟩ : ByteArray)) ⟨sep.toArray⟩ w (fun j x hx => by
          rw [List.getElem?_map] at hx
          cases hk : l[j]? with
          | none => rw [hk] at hx; cases hx
          | some s =>
            rw [hk] at hx; cases hx
            have hj2 : j < vs.length := by rw [hvl]; exact (List.getElem?_eq_some_iff.1 hk).1
            rw [L.at_ j hj2, List.getElem?_eq_getElem hj2]
            have r := p4 j vs[j] (sv s) (List.getElem?_eq_getElem hj2) (by unfold strsF; rw [List.getElem?_map, hk]; rfl)
            rw [repV r]) L.lt (by simp; omega) (by simp; omega) (by rw [he, hd]; omega)
        rw [he, hd, List.length_map] at C
        exact C.mono fun e w' ⟨h1, h2⟩ => ⟨_, h1, RepF.v _, h2⟩⟩
end Go.Proofs.YtnmaabejdmaahaaGreatDoor
namespace Go.Proofs.YtnmaabejdmaahaaGreatDoor
open Go Go.RowKit Go.Proofs Go.Shelf Go.Ab
theorem rep_nilsl {w : World} {M : Nat → Prop} {v : Value} (h : RepF w M v (.v (.slice none 0 0))) : RepF w M v (.sl 0 []) := by
  have := repV h; subst this
  exact RepF.sl none 0 0 [] [] (Nat.le_refl _) rfl (fun u hu => by cases hu) (fun h => absurd rfl h) (fun k u x h => by simp at h)
end Go.Proofs.YtnmaabejdmaahaaGreatDoor
namespace Go.Ab
open Go Go.RowKit Go.Shelf Go.Proofs
section
variable {C : Ctx} {N : Nat} {st : St}
variable {ops : Array Oper} {pr : Bool} {K : St → Prop} {rest : List Oper} {d : Option Tmp} {T0 : TypeId} {pos : String} {af : Array Edge} {gd : Option (Nat × Bool)}
end
end Go.Ab
namespace Go.Ab
open Go Go.RowKit Go.Shelf Go.Proofs
section
variable {C : Ctx} {N : Nat} {st : St}
theorem res_sees {t : Nat} {x : AV} {y : FV} (h : st.s t = x) (H : Sees C N st x y) : ResOk C N st (.tmp t) y := fun w0 a w ⟨J, S⟩ => by
  have h1 := S.slot t
  rw [h] at h1
  exact ⟨_, rfl, H st (fun i B hi => .inr ⟨B, hi, .inl rfl⟩) w0 a w J S _ h1⟩
end
end Go.Ab
namespace Go.Proofs.YtnmaabejdmaahaaGreatDoor
open Go Go.RowKit Go.Proofs Go.Shelf Go.Ab
theorem strSz (s : Nm) : (⟨s.toArray⟩ : ByteArray).size = s.length := by simp [ByteArray.size]
theorem conv_run {n : Nat} (h : n < 256) (w : World) : (convert 5 3 (.int .u8 (n : Int))).run Tryz.prog w = .ok (.int .i64 (n : Nat)) w := by
  have e : IntKind.i64.wrap ((n : Nat) : Int) = n := wrapN (by omega)
  simp [convert, run_underlying Tryz.underlying5, run_underlying Tryz.underlying3, Conv.intToInt, e]
theorem nes_run (x y : Operand) (a b : Nm) (w : World) : (do eqGuard .neq 9 x y (.string ⟨a.toArray⟩) (.string ⟨b.toArray⟩); binOp .neq 9 (.string ⟨a.toArray⟩) (.string ⟨b.toArray⟩) : Sem Value).run Tryz.prog w = .ok (.bool (!decide (a = b))) w := by
  simp [eqGuard, binOp, Op.stringOp]
  exact Bool.eq_iff_iff.2 (by rw [beq_iff_eq, decide_eq_true_eq])
theorem nes_t {x y : Operand} {a b : Nm} (h : ¬ a = b) (w : World) : (do eqGuard .neq 9 x y (.string ⟨a.toArray⟩) (.string ⟨b.toArray⟩); binOp .neq 9 (.string ⟨a.toArray⟩) (.string ⟨b.toArray⟩) : Sem Value).run Tryz.prog w = .ok (.bool true) w := by
  rw [nes_run, decide_eq_false h]; rfl
theorem nes_f {x y : Operand} {a b : Nm} (h : a = b) (w : World) : (do eqGuard .neq 9 x y (.string ⟨a.toArray⟩) (.string ⟨b.toArray⟩); binOp .neq 9 (.string ⟨a.toArray⟩) (.string ⟨b.toArray⟩) : Sem Value).run Tryz.prog w = .ok (.bool false) w := by
  rw [nes_run, decide_eq_true h]; rfl
set_option maxRecDepth 100000 in
theorem Size_s (n : Int) (h : -9000000000000000000 ≤ n ∧ n ≤ 9000000000000000000) : Summ Tryz.prog GG 89 [iv n] (iv (max n (-n))) := by
  refine summW Tryz.func89 rfl rfl 7 rfl (by simp) (fun M0 => ?_)
  repeat (first
    | (apply s_a TY; exact rfl)
    | apply w_seq
    | apply w_region
    | apply s_nil
    | apply t_norm
    | apply w_ret
    | (apply s_c TY; exact rfl; omega))
  exact lv_ret (ret1 rfl (res_tmp rfl))
end Go.Proofs.YtnmaabejdmaahaaGreatDoor
namespace Go.Proofs.YtnmaabejdmaahaaGreatDoor
open Go Go.RowKit Go.Proofs Go.Shelf Go.Ab
end Go.Proofs.YtnmaabejdmaahaaGreatDoor
