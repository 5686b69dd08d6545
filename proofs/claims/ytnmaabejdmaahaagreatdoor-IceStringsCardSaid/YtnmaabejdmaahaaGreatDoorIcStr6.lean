/- Laws on which the proofs of this seat stand. No condition. -/
import Derived.Test.YtnmaabejdmaahaaGreatDoorIcStr5
import Derived.Test.YtnmaabejdmaahaaGreatDoorTie
import Derived.Test.YtnmaabejdmaahaaGreatDoorCards
import Derived.HandedShaped
import Derived.Lay
import Derived.LaidMore
import Derived.Lib.LaidTab
import Derived.Stop.LaidErr
import Derived.Shelf.Vars
import Derived.ChangeMaps5
import Derived.SevenTiedAt
namespace Go.Proofs.YtnmaabejdmaahaaGreatDoor
open Go Go.Ab Go.ChangeShapes Go.WideShapes Go.ChangeAt Go.RowKit
theorem rih_and {H : Type} {enc : TypeId × Value → H} {a : Assume} {C : Checked} {os : Os} {f : FuncId} {fn : Func} {s : ChangeSpec} {conds : List PathCond} {apart fresh handsOn again : Bool} {X : World → Array Value → Prop}
    (hX : ∀ (w w' : World) (args : Array Value), w.heap = w'.heap → X w args → X w' args)
    (own : ownKnob C.prog.godebug = none) (started : os.Started) (noInit : C.prog.inits.idxOf? f = none) (hfn : C.prog.funcs[f]? = some fn)
    (witness : ∃ (w : World) (tape : Tape) (i : Input), w.os = os ∧ (w.forCall tape i).Shaped C.prog ∧ i.vars = [] ∧ Input.okWide C.prog (w.forCall tape i) .any w.heap.size f i ∧
      ((s.pre enc C.prog fn conds apart (w.forCall tape i).memory i.args ∧ X (w.forCall tape i).memory i.args) ∧ sizedMet enc C.prog fn (OpenSpec.ofChange s) apart (w.forCall tape i).memory i.args) ∧ a.holds C.prog (lone (Frame.enter C.prog f i.args .normal) [] (w.forCall tape i)))
    (contract : ∀ (W : World) (base : Nat) (args : Array Value) (ds gs : List (DataW H)) (before : List MemPlace),
      (∀ (j : Nat) t v, fn.params[j]? = some t → args[j]? = some v → Value.okWide C.prog W .any base t v) →
      DataW.Whole enc C.prog fn.params.toList s.vars apart W args.toList ds gs before → W.ShapedOpen C.prog → X W args →
      Calls C.prog f args W fun e W' => ∃ v, e = .returned v ∧ s.post enc C.prog fn apart fresh handsOn again W args v W') :
    ReturnsInHanded a C os f .any (fun w args => (s.pre enc C.prog fn conds apart w args ∧ X w args) ∧ sizedMet enc C.prog fn (OpenSpec.ofChange s) apart w args) (s.post enc C.prog fn apart fresh handsOn again) := by
  refine returnsInHanded_of_calls own started noInit witness ?_
  intro w tape i _ hsh _ hok hpre _
  obtain ⟨_, _, _, fn', hfn', _, _, _, _, hval⟩ := hok
  have e : fn' = fn := Option.some.inj (hfn'.symm.trans hfn)
  subst e
  obtain ⟨⟨⟨ds, gs, before, hw, _⟩, hx⟩, _⟩ := hpre
  have hw' := DataW.Whole.of_heap (w' := w.forCall tape i) (by rfl) hw
  refine (contract (w.forCall tape i) w.heap.size i.args ds gs before hval hw' hsh (hX _ _ _ (by rfl) hx)).mono fun e W' ⟨v, he, hp⟩ => ?_
  subst he
  exact ChangeSpec.post_blind hp
def laid8 : List (String × DataW Unit) := [("math/bits.deBruijn32tab", Rows.laid_math_bits_deBruijn32tab), ("math/bits.deBruijn64tab", Rows.laid_math_bits_deBruijn64tab), ("internal/strconv.uint64pow10", Rows.laid_internal_strconv_uint64pow10), ("unicode/utf8.acceptRanges", Rows.laid_unicode_utf8_acceptRanges), ("strconv.ErrRange", Rows.laid_strconv_ErrRange), ("strconv.ErrSyntax", Rows.laid_strconv_ErrSyntax), ("cherenkov/ice.sides", Rows.laid_cherenkov_ice_sides), ("unicode/utf8.first", Rows.laid_unicode_utf8_first)]
theorem star_err : "*" ++ "errors.errorString" = "*errors.errorString" := by decide
theorem errRow (u : TypeId) (h : Tryz.prog.typeName? 3 u = some "*errors.errorString") : u = 247 :=
  typeName_ptr_named (nm := "errors.errorString") (by rw [star_err]; kernel_rfl) (by kernel_rfl) (by decide) u (by rw [star_err]; exact h)
theorem rep_cell {W : World} {g : Nat} {u : Value} {x : FV} (hc : W.cell? ⟨g, 0, none⟩ = some u) (h1 : u.oneCell' = true) (hr : RepF W (fun _ => False) u x) : RepF W (fun _ => False) (.pointer (some ⟨g, 0, none⟩)) (.pt [x] 0) := by
  refine RepF.pt g 0 0 [x] [u] rfl (fun v hv => by rw [List.mem_singleton] at hv; rw [hv]; exact h1) ⟨?_, fun h => h, fun k hk => ?_⟩ (fun k v y a b => ?_)
  · exact World.block_lt_of_cell? _ _ hc
  · have hk0 : k = 0 := by simp at hk; exact hk
    subst hk0
    exact hc
  · match k with
    | 0 => cases a; cases b; exact hr
    | k + 1 => simp at a
theorem globs_of {W : World} (h : laidMetH Tryz.prog laid8 W) (hs : W.ShapedOpen Tryz.prog) : Globs W (fun _ => False) := by
  rw [MakeChecks.laidMetH_plain _ _ _ (by kernel_rfl)] at h
  have h3 : laidMet Tryz.prog (("internal/strconv.uint64pow10", Lib.tabData .u64 Lib.pow10Tab) :: [("unicode/utf8.acceptRanges", Rows.laid_unicode_utf8_acceptRanges), ("strconv.ErrRange", Rows.laid_strconv_ErrRange), ("strconv.ErrSyntax", Rows.laid_strconv_ErrSyntax), ("cherenkov/ice.sides", Rows.laid_cherenkov_ice_sides), ("unicode/utf8.first", Rows.laid_unicode_utf8_first)]) W := h.tail.tail
  have hT := Lib.tabIs_of_head gTab (show (Tryz.prog.globals[4]?).map (·.type) = some 238 by kernel_rfl) Tryz.underlying238 Tryz.underlying185 (by kernel_rfl) (by kernel_rfl) h3
  have h5 := h3.tail.tail
  obtain ⟨a1, _, hv1, _, _, _⟩ := laid_sentinel h5 (show Tryz.prog.globalNamed "strconv.ErrRange" = some 3 by kernel_rfl) (show (Tryz.prog.globals[3]?).map (·.type) = some 147 by kernel_rfl) Tryz.underlying147 errRow Tryz.underlying247 Tryz.underlying249 rfl rfl Tryz.underlying9 (by kernel_rfl) (by kernel_rfl)
  obtain ⟨a2, _, hv2, _, _, _⟩ := laid_sentinel h5.tail (show Tryz.prog.globalNamed "strconv.ErrSyntax" = some 2 by kernel_rfl) (show (Tryz.prog.globals[2]?).map (·.type) = some 147 by kernel_rfl) Tryz.underlying147 errRow Tryz.underlying247 Tryz.underlying249 rfl rfl Tryz.underlying9 (by kernel_rfl) (by kernel_rfl)
  have hc1 : W.cell? ⟨3, 0, none⟩ = some (.iface 247 (.pointer (some a1))) := by
    have := World.var?_cell (show Tryz.prog.globalNamed "strconv.ErrRange" = some 3 by kernel_rfl) hv1 0
    simpa using this
  have hc2 : W.cell? ⟨2, 0, none⟩ = some (.iface 247 (.pointer (some a2))) := by
    have := World.var?_cell (show Tryz.prog.globalNamed "strconv.ErrSyntax" = some 2 by kernel_rfl) hv2 0
    simpa using this
  obtain ⟨m, hm⟩ := cell_of_shapedOpen_int (zero := #[.int .i64 0]) (t := 3) (g := 1) hs (of_decide_eq_true (by kernel_rfl)) (by kernel_rfl) rfl (by kernel_rfl) (by kernel_rfl) Tryz.underlying3
  intro g x hg
  unfold GS at hg
  split at hg
  · cases hg; exact rep_cell hc2 rfl (RepF.any _ _ ⟨_, _, rfl⟩ rfl)
  · cases hg; exact rep_cell hc1 rfl (RepF.any _ _ ⟨_, _, rfl⟩ rfl)
  · cases hg; exact rep_cell hm rfl (RepF.any _ _ ⟨_, rfl⟩ rfl)
  · cases hg
    unfold Lib.TabIs World.var? at hT
    rw [gTab] at hT
    refine RepF.tab _ _ (fun h => h) ?_
    change (match W.heap[4]? with | some (.cells cs _ _) => some cs | _ => none) = _ at hT
    split at hT
    · rename_i cs T fr e
      exact ⟨T, fr, by rw [e, Option.some.inj hT]⟩
    · cases hT
  · cases hg
set_option maxRecDepth 100000 in
set_option maxHeartbeats 12800000 in
theorem arg_s {H : Type} {enc : TypeId × Value → H} {W : World} {base : Nat} {v : Value} {d : DataW H} {ps : List MemPlace} (hv : Value.okWide Tryz.prog W .any base 9 v) (hd : DataW.Trod enc Tryz.prog W 0 (fun _ => true) true 9 v d ps) : ∃ s : Nm, RepF W (fun _ => False) v (sv s) := by
  obtain ⟨s, rfl, _, _, _⟩ := Go.ChangeMaps.open_string Tryz.underlying9 hv hd
  exact ⟨s.data.toList, RepF.v _⟩
theorem gSides : Tryz.prog.globalNamed "cherenkov/ice.sides" = some 0 := by kernel_rfl
theorem tSides : (Tryz.prog.globals[0]?).map (·.type) = some 162 := by kernel_rfl
set_option maxRecDepth 100000 in
theorem cell_read {W : World} {m : Nat} {sp : Nat → Bool} {l : List Value} {a b : Int} {p : List MemPlace} (h : DataW.trod (fun _ => ()) Tryz.prog W 0 sp false m 61 l = some (.agg [.lit (.int .i64 a), .lit (.int .i64 b)], p)) : l = [.int .i64 a, .int .i64 b] := by
  obtain ⟨xs, n, _, hx, hlen, hxl, hf⟩ := DataW.trod_struct Tryz.underlying61 h
  have c27 : Tryz.prog.cellsOf 61 = 2 := by kernel_rfl
  have c3 : Tryz.prog.cellsOf 3 = 1 := by kernel_rfl
  rw [c27] at hlen
  simp only [Prod.mk.injEq, DataW.agg.injEq] at hx
  obtain ⟨v0, v1, rfl⟩ : ∃ v0 v1, l = [v0, v1] := by
    match l, hlen with
    | [a, b], _ => exact ⟨a, b, rfl⟩
  obtain ⟨x0, x1, rfl⟩ : ∃ x0 x1, xs = [x0, x1] := by
    match xs, hxl with
    | [a, b], _ => exact ⟨a, b, rfl⟩
  have e0 : DataW.trod (fun _ => ()) Tryz.prog W 0 sp false n 3 (([v0, v1].drop 0).take (Tryz.prog.cellsOf 3)) = [x0, x1][0]? := hf 0 _ rfl
  have e1 : DataW.trod (fun _ => ()) Tryz.prog W 0 sp false n 3 (([v0, v1].drop 1).take (Tryz.prog.cellsOf 3)) = [x0, x1][1]? := hf 1 _ rfl
  rw [c3] at e0 e1
  simp only [List.map_cons, List.map_nil, List.cons.injEq, and_true] at hx
  obtain ⟨k, q1, q2, _⟩ := DataW.trod_int Tryz.underlying3 (show DataW.trod _ Tryz.prog W 0 _ false n 3 [v0] = some x0 from e0)
  obtain ⟨j, r1, r2, _⟩ := DataW.trod_int Tryz.underlying3 (show DataW.trod _ Tryz.prog W 0 _ false n 3 [v1] = some x1 from e1)
  rw [q2, r2] at hx
  simp at hx q1 r1
  rw [q1, r1, hx.1.1, hx.1.2]
theorem sides_of_laid {l : List (String × DataW Unit)} {W : World} (h : laidMet Tryz.prog (("cherenkov/ice.sides", Rows.laid_cherenkov_ice_sides) :: l) W) : RepF W (fun _ => False) (.pointer (some ⟨0, 0, none⟩)) (.tab Ice.sidesV) := by
  obtain ⟨ps, ⟨g0, t0, cs0, f0, p0, q0, hg0, ht0, hv0, hd0, _, _⟩, _, _⟩ := h
  obtain rfl := Option.some.inj (gSides.symm.trans hg0)
  obtain rfl := Option.some.inj (tSides.symm.trans ht0)
  obtain ⟨xs, m1, rfl, hx1, hlen, hn4, hel⟩ := DataW.trod_array Tryz.underlying162 hd0
  have c27 : Tryz.prog.cellsOf 61 = 2 := by kernel_rfl
  have c181 : Tryz.prog.cellsOf 162 = 8 := by kernel_rfl
  rw [c181] at hlen
  rw [c27] at hel
  simp only [Rows.laid_cherenkov_ice_sides, Prod.mk.injEq, DataW.agg.injEq] at hx1
  have hcells : cs0.toList = [.int .i64 (-1), .int .i64 0, .int .i64 0, .int .i64 (-1), .int .i64 0, .int .i64 1, .int .i64 1, .int .i64 0] := by
    match xs, hn4, hx1, hel with
    | [x0, x1, x2, x3], _, hx1, hel =>
      have h0 := hel 0 (by decide)
      have h1 := hel 1 (by decide)
      have h2 := hel 2 (by decide)
      have h3 := hel 3 (by decide)
      simp only [List.map_cons, List.map_nil, List.cons.injEq, and_true] at hx1
      obtain ⟨⟨e0, e1, e2, e3⟩, _⟩ := hx1
      obtain ⟨d0, r0⟩ := x0; obtain ⟨d1, r1⟩ := x1; obtain ⟨d2, r2⟩ := x2; obtain ⟨d3, r3⟩ := x3
      simp only at e0 e1 e2 e3
      subst e0; subst e1; subst e2; subst e3
      have k0 := cell_read h0
      have k1 := cell_read h1
      have k2 := cell_read h2
      have k3 := cell_read h3
      match cs0.toList, hlen, k0, k1, k2, k3 with
      | [a, b, c, d, e, f, g, i], _, k0, k1, k2, k3 =>
        simp at k0 k1 k2 k3
        simp [k0, k1, k2, k3]
  have hw := hv0
  unfold World.var? at hw
  rw [gSides] at hw
  refine RepF.tab _ _ (fun h => h) ?_
  change (match W.heap[0]? with | some (.cells cs _ _) => some cs | _ => none) = _ at hw
  split at hw
  · rename_i cs T fr e
    have hs : cs0 = Ice.sidesV.toArray := by
      have hq : cs0.toList.toArray = Ice.sidesV.toArray := congrArg List.toArray hcells
      rwa [Array.toArray_toList] at hq
    exact ⟨T, fr, by rw [e, Option.some.inj hw, hs]⟩
  · cases hw
theorem globs_ofI {W : World} (h : laidMetH Tryz.prog laid8 W) (hs : W.ShapedOpen Tryz.prog) : ∀ g x, GSI g = some x → RepF W (fun _ => False) (.pointer (some ⟨g, 0, none⟩)) x := by
  have hG := globs_of h hs
  rw [MakeChecks.laidMetH_plain _ _ _ (by kernel_rfl)] at h
  have h6 : laidMet Tryz.prog [("cherenkov/ice.sides", Rows.laid_cherenkov_ice_sides), ("unicode/utf8.first", Rows.laid_unicode_utf8_first)] W := h.tail.tail.tail.tail.tail.tail
  have r := sides_of_laid h6
  intro g x hg
  unfold GSI at hg
  cases hb : Nat.beq g 0 with
  | true => rw [hb] at hg; obtain rfl := Nat.eq_of_beq_eq_true hb; cases hg; exact r
  | false => rw [hb] at hg; exact hG g x hg
theorem law_callsI {f : Nat} {xs : List FV} (S : Summ Tryz.prog GSI f xs (.v (.bool true))) {W : World} {args : Array Value} (hg : ∀ g x, GSI g = some x → RepF W (fun _ => False) (.pointer (some ⟨g, 0, none⟩)) x) (R : RepL W (fun _ => False) args.toList xs) : Calls Tryz.prog f args W fun e W' => e = .returned (.bool true) ∧ Below W.heap.size W W' := by
  have := S.call W (fun _ => False) args.toList (fun _ h => h.elim) hg R
  simp only [Array.toArray_toList] at this
  refine this.mono fun e w' ⟨v, h1, h2, h3⟩ => ⟨?_, h3⟩
  rw [h1, repV h2]
end Go.Proofs.YtnmaabejdmaahaaGreatDoor
