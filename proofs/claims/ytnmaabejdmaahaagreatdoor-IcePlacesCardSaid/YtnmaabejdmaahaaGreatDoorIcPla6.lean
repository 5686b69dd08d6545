/- Laws on which the proofs of this seat stand. No condition. -/
import Derived.Test.YtnmaabejdmaahaaGreatDoorIcPla5
import Derived.Test.YtnmaabejdmaahaaGreatDoorTie
import Derived.Test.YtnmaabejdmaahaaGreatDoorCards
import Derived.HandedShaped
import Derived.Lay
import Derived.LaidMore
import Derived.Lib.LaidTab
import Derived.Stop.LaidErr
import Derived.Shelf.Vars
import Derived.ChangeMaps5
import Derived.SevenTiedAt
namespace Go.Proofs.YtnmaabejdmaahaaGreatDoor
open Go Go.Ab Go.ChangeShapes Go.WideShapes Go.ChangeAt Go.RowKit
theorem rih_and {H : Type} {enc : TypeId × Value → H} {a : Assume} {C : Checked} {os : Os} {f : FuncId} {fn : Func} {s : ChangeSpec} {conds : List PathCond} {apart fresh handsOn again : Bool} {X : World → Array Value → Prop}
    (hX : ∀ (w w' : World) (args : Array Value), w.heap = w'.heap → X w args → X w' args)
    (own : ownKnob C.prog.godebug = none) (started : os.Started) (noInit : C.prog.inits.idxOf? f = none) (hfn : C.prog.funcs[f]? = some fn)
    (witness : ∃ (w : World) (tape : Tape) (i : Input), w.os = os ∧ (w.forCall tape i).Shaped C.prog ∧ i.vars = [] ∧ Input.okWide C.prog (w.forCall tape i) .any w.heap.size f i ∧
      ((s.pre enc C.prog fn conds apart (w.forCall tape i).memory i.args ∧ X (w.forCall tape i).memory i.args) ∧ sizedMet enc C.prog fn (OpenSpec.ofChange s) apart (w.forCall tape i).memory i.args) ∧ a.holds C.prog (lone (Frame.enter C.prog f i.args .normal) [] (w.forCall tape i)))
    (contract : ∀ (W : World) (base : Nat) (args : Array Value) (ds gs : List (DataW H)) (before : List MemPlace),
      (∀ (j : Nat) t v, fn.params[j]? = some t → args[j]? = some v → Value.okWide C.prog W .any base t v) →
      DataW.Whole enc C.prog fn.params.toList s.vars apart W args.toList ds gs before → W.ShapedOpen C.prog → X W args →
      Calls C.prog f args W fun e W' => ∃ v, e = .returned v ∧ s.post enc C.prog fn apart fresh handsOn again W args v W') :
    ReturnsInHanded a C os f .any (fun w args => (s.pre enc C.prog fn conds apart w args ∧ X w args) ∧ sizedMet enc C.prog fn (OpenSpec.ofChange s) apart w args) (s.post enc C.prog fn apart fresh handsOn again) := by
  refine returnsInHanded_of_calls own started noInit witness ?_
  intro w tape i _ hsh _ hok hpre _
  obtain ⟨_, _, _, fn', hfn', _, _, _, _, hval⟩ := hok
  have e : fn' = fn := Option.some.inj (hfn'.symm.trans hfn)
  subst e
  obtain ⟨⟨⟨ds, gs, before, hw, _⟩, hx⟩, _⟩ := hpre
  have hw' := DataW.Whole.of_heap (w' := w.forCall tape i) (by rfl) hw
  refine (contract (w.forCall tape i) w.heap.size i.args ds gs before hval hw' hsh (hX _ _ _ (by rfl) hx)).mono fun e W' ⟨v, he, hp⟩ => ?_
  subst he
  exact ChangeSpec.post_blind hp
def laid1 : List (String × DataW Unit) := [("cherenkov/ice.sides", Rows.laid_cherenkov_ice_sides)]
theorem gSides : Tryz.prog.globalNamed "cherenkov/ice.sides" = some 0 := by kernel_rfl
theorem tSides : (Tryz.prog.globals[0]?).map (·.type) = some 162 := by kernel_rfl
set_option maxRecDepth 100000 in
theorem cell_read {W : World} {m : Nat} {sp : Nat → Bool} {l : List Value} {a b : Int} {p : List MemPlace} (h : DataW.trod (fun _ => ()) Tryz.prog W 0 sp false m 61 l = some (.agg [.lit (.int .i64 a), .lit (.int .i64 b)], p)) : l = [.int .i64 a, .int .i64 b] := by
  obtain ⟨xs, n, _, hx, hlen, hxl, hf⟩ := DataW.trod_struct Tryz.underlying61 h
  have c27 : Tryz.prog.cellsOf 61 = 2 := by kernel_rfl
  have c3 : Tryz.prog.cellsOf 3 = 1 := by kernel_rfl
  rw [c27] at hlen
  simp only [Prod.mk.injEq, DataW.agg.injEq] at hx
  obtain ⟨v0, v1, rfl⟩ : ∃ v0 v1, l = [v0, v1] := by
    match l, hlen with
    | [a, b], _ => exact ⟨a, b, rfl⟩
  obtain ⟨x0, x1, rfl⟩ : ∃ x0 x1, xs = [x0, x1] := by
    match xs, hxl with
    | [a, b], _ => exact ⟨a, b, rfl⟩
  have e0 : DataW.trod (fun _ => ()) Tryz.prog W 0 sp false n 3 (([v0, v1].drop 0).take (Tryz.prog.cellsOf 3)) = [x0, x1][0]? := hf 0 _ rfl
  have e1 : DataW.trod (fun _ => ()) Tryz.prog W 0 sp false n 3 (([v0, v1].drop 1).take (Tryz.prog.cellsOf 3)) = [x0, x1][1]? := hf 1 _ rfl
  rw [c3] at e0 e1
  simp only [List.map_cons, List.map_nil, List.cons.injEq, and_true] at hx
  obtain ⟨k, q1, q2, _⟩ := DataW.trod_int Tryz.underlying3 (show DataW.trod _ Tryz.prog W 0 _ false n 3 [v0] = some x0 from e0)
  obtain ⟨j, r1, r2, _⟩ := DataW.trod_int Tryz.underlying3 (show DataW.trod _ Tryz.prog W 0 _ false n 3 [v1] = some x1 from e1)
  rw [q2, r2] at hx
  simp at hx q1 r1
  rw [q1, r1, hx.1.1, hx.1.2]
theorem sides_of_laid {l : List (String × DataW Unit)} {W : World} (h : laidMet Tryz.prog (("cherenkov/ice.sides", Rows.laid_cherenkov_ice_sides) :: l) W) : RepF W (fun _ => False) (.pointer (some ⟨0, 0, none⟩)) (.tab Ice.sidesV) := by
  obtain ⟨ps, ⟨g0, t0, cs0, f0, p0, q0, hg0, ht0, hv0, hd0, _, _⟩, _, _⟩ := h
  obtain rfl := Option.some.inj (gSides.symm.trans hg0)
  obtain rfl := Option.some.inj (tSides.symm.trans ht0)
  obtain ⟨xs, m1, rfl, hx1, hlen, hn4, hel⟩ := DataW.trod_array Tryz.underlying162 hd0
  have c27 : Tryz.prog.cellsOf 61 = 2 := by kernel_rfl
  have c181 : Tryz.prog.cellsOf 162 = 8 := by kernel_rfl
  rw [c181] at hlen
  rw [c27] at hel
  simp only [Rows.laid_cherenkov_ice_sides, Prod.mk.injEq, DataW.agg.injEq] at hx1
  have hcells : cs0.toList = [.int .i64 (-1), .int .i64 0, .int .i64 0, .int .i64 (-1), .int .i64 0, .int .i64 1, .int .i64 1, .int .i64 0] := by
    match xs, hn4, hx1, hel with
    | [x0, x1, x2, x3], _, hx1, hel =>
      have h0 := hel 0 (by decide)
      have h1 := hel 1 (by decide)
      have h2 := hel 2 (by decide)
      have h3 := hel 3 (by decide)
      simp only [List.map_cons, List.map_nil, List.cons.injEq, and_true] at hx1
      obtain ⟨⟨e0, e1, e2, e3⟩, _⟩ := hx1
      obtain ⟨d0, r0⟩ := x0; obtain ⟨d1, r1⟩ := x1; obtain ⟨d2, r2⟩ := x2; obtain ⟨d3, r3⟩ := x3
      simp only at e0 e1 e2 e3
      subst e0; subst e1; subst e2; subst e3
      have k0 := cell_read h0
      have k1 := cell_read h1
      have k2 := cell_read h2
      have k3 := cell_read h3
      match cs0.toList, hlen, k0, k1, k2, k3 with
      | [a, b, c, d, e, f, g, i], _, k0, k1, k2, k3 =>
        simp at k0 k1 k2 k3
        simp [k0, k1, k2, k3]
  have hw := hv0
  unfold World.var? at hw
  rw [gSides] at hw
  refine RepF.tab _ _ (fun h => h) ?_
  change (match W.heap[0]? with | some (.cells cs _ _) => some cs | _ => none) = _ at hw
  split at hw
  · rename_i cs T fr e
    have hs : cs0 = Ice.sidesV.toArray := by
      have hq : cs0.toList.toArray = Ice.sidesV.toArray := congrArg List.toArray hcells
      rwa [Array.toArray_toList] at hq
    exact ⟨T, fr, by rw [e, Option.some.inj hw, hs]⟩
  · cases hw
theorem globs_ofI {W : World} (h : laidMetH Tryz.prog laid1 W) (_hs : W.ShapedOpen Tryz.prog) : ∀ g x, Ice.GG g = some x → RepF W (fun _ => False) (.pointer (some ⟨g, 0, none⟩)) x := by
  rw [MakeChecks.laidMetH_plain _ _ _ (by kernel_rfl)] at h
  have r := sides_of_laid h
  intro g x hg
  unfold Ice.GG at hg
  cases hb : Nat.beq g 0 with
  | true => rw [hb] at hg; obtain rfl := Nat.eq_of_beq_eq_true hb; cases hg; exact r
  | false => rw [hb] at hg; cases hg
theorem law_callsI {f : Nat} {xs : List FV} (S : Summ Tryz.prog Ice.GG f xs (.v (.bool true))) {W : World} {args : Array Value} (hg : ∀ g x, Ice.GG g = some x → RepF W (fun _ => False) (.pointer (some ⟨g, 0, none⟩)) x) (R : RepL W (fun _ => False) args.toList xs) : Calls Tryz.prog f args W fun e W' => e = .returned (.bool true) ∧ Below W.heap.size W W' := by
  have := S.call W (fun _ => False) args.toList (fun _ h => h.elim) hg R
  simp only [Array.toArray_toList] at this
  refine this.mono fun e w' ⟨v, h1, h2, h3⟩ => ⟨?_, h3⟩
  rw [h1, repV h2]
end Go.Proofs.YtnmaabejdmaahaaGreatDoor
