/- Laws on which the proofs of this seat stand. No condition. -/
import Derived.Test.YtbkdjlahhcofmaaGreatDoorTpTrW6
import Derived.Test.YtbkdjlahhcofmaaGreatDoorTie
import Derived.Test.YtbkdjlahhcofmaaGreatDoorCards
import Derived.HandedShaped
import Derived.Lay
import Derived.LaidMore
import Derived.Lib.LaidTab
import Derived.Stop.LaidErr
import Derived.Shelf.Vars
import Derived.ChangeMaps5
import Derived.SevenTiedAt
namespace Go.Proofs.YtbkdjlahhcofmaaGreatDoor
open Go Go.Ab Go.ChangeShapes Go.WideShapes Go.ChangeAt Go.RowKit
theorem rih_and {H : Type} {enc : TypeId × Value -> H} {a : Assume} {C : Checked} {os : Os} {f : FuncId} {fn : Func} {s : ChangeSpec} {conds : List PathCond} {apart fresh handsOn again : Bool} {X : World -> Array Value -> Prop}
 (hX : ∀ (w w' : World) (args : Array Value), w.heap = w'.heap -> X w args -> X w' args)
 (own : ownKnob C.prog.godebug = none) (started : os.Started) (noInit : C.prog.inits.idxOf? f = none) (hfn : C.prog.funcs[f]? = some fn)
 (witness : ∃ (w : World) (tape : Tape) (i : Input), w.os = os /\ (w.forCall tape i).Shaped C.prog /\ i.vars = [] /\ Input.okWide C.prog (w.forCall tape i) .any w.heap.size f i /\
   ((s.pre enc C.prog fn conds apart (w.forCall tape i).memory i.args /\ X (w.forCall tape i).memory i.args) /\ sizedMet enc C.prog fn (OpenSpec.ofChange s) apart (w.forCall tape i).memory i.args) /\ a.holds C.prog (lone (Frame.enter C.prog f i.args .normal) [] (w.forCall tape i)))
 (contract : ∀ (W : World) (base : Nat) (args : Array Value) (ds gs : List (DataW H)) (before : List MemPlace),
   (∀ (j : Nat) t v, fn.params[j]? = some t -> args[j]? = some v -> Value.okWide C.prog W .any base t v) ->
   DataW.Whole enc C.prog fn.params.toList s.vars apart W args.toList ds gs before -> W.ShapedOpen C.prog -> X W args ->
   Calls C.prog f args W fun e W' => ∃ v, e = .returned v /\ s.post enc C.prog fn apart fresh handsOn again W args v W') :
 ReturnsInHanded a C os f .any (fun w args => (s.pre enc C.prog fn conds apart w args /\ X w args) /\ sizedMet enc C.prog fn (OpenSpec.ofChange s) apart w args) (s.post enc C.prog fn apart fresh handsOn again) := by
 refine returnsInHanded_of_calls own started noInit witness ?_
 intro w tape i _ hsh _ hok hpre _
 obtain ⟨_, _, _, fn', hfn', _, _, _, _, hval⟩ := hok
 have e : fn' = fn := Option.some.inj (hfn'.symm.trans hfn)
 subst e
 obtain ⟨⟨⟨ds, gs, before, hw, _⟩, hx⟩, _⟩ := hpre
 have hw' := DataW.Whole.of_heap (w' := w.forCall tape i) (by rfl) hw
 refine (contract (w.forCall tape i) w.heap.size i.args ds gs before hval hw' hsh (hX _ _ _ (by rfl) hx)).mono fun e W' ⟨v, he, hp⟩ => ?_
 subst he
 exact ChangeSpec.post_blind hp
def laid7 : List (String × DataW Unit) := [("math/bits.deBruijn32tab", Rows.laid_math_bits_deBruijn32tab), ("math/bits.deBruijn64tab", Rows.laid_math_bits_deBruijn64tab), ("internal/strconv.uint64pow10", Rows.laid_internal_strconv_uint64pow10), ("unicode/utf8.acceptRanges", Rows.laid_unicode_utf8_acceptRanges), ("strconv.ErrRange", Rows.laid_strconv_ErrRange), ("strconv.ErrSyntax", Rows.laid_strconv_ErrSyntax), ("unicode/utf8.first", Rows.laid_unicode_utf8_first)]
theorem star_err : "*" ++ "errors.errorString" = "*errors.errorString" := by decide
theorem errRow (u : TypeId) (h : Tryz.prog.typeName? 3 u = some "*errors.errorString") : u = 539 :=
 typeName_ptr_named (nm := "errors.errorString") (by rw [star_err]; kernel_rfl) (by kernel_rfl) (by decide) u (by rw [star_err]; exact h)
theorem rep_cell {W : World} {g : Nat} {u : Value} {x : FV} (hc : W.cell? ⟨g, 0, none⟩ = some u) (h1 : u.oneCell' = true) (hr : RepF W (fun _ => False) u x) : RepF W (fun _ => False) (.pointer (some ⟨g, 0, none⟩)) (.pt [x] 0) := by
 refine RepF.pt g 0 0 [x] [u] rfl (fun v hv => by rw [List.mem_singleton] at hv; rw [hv]; exact h1) ⟨?_, fun h => h, fun k hk => ?_⟩ (fun k v y a b => ?_)
 · exact World.block_lt_of_cell? _ _ hc
 · have hk0 : k = 0 := by simp at hk; exact hk
   subst hk0
   exact hc
 · match k with
   | 0 => cases a; cases b; exact hr
   | k + 1 => simp at a
theorem globs_of {W : World} (h : laidMetH Tryz.prog laid7 W) (hs : W.ShapedOpen Tryz.prog) : Globs W (fun _ => False) := by
 rw [MakeChecks.laidMetH_plain _ _ _ (by kernel_rfl)] at h
 have h3 : laidMet Tryz.prog (("internal/strconv.uint64pow10", Lib.tabData .u64 Lib.pow10Tab) :: [("unicode/utf8.acceptRanges", Rows.laid_unicode_utf8_acceptRanges), ("strconv.ErrRange", Rows.laid_strconv_ErrRange), ("strconv.ErrSyntax", Rows.laid_strconv_ErrSyntax), ("unicode/utf8.first", Rows.laid_unicode_utf8_first)]) W := h.tail.tail
 have hT := Lib.tabIs_of_head gTab (show (Tryz.prog.globals[4]?).map (·.type) = some 543 by kernel_rfl) Tryz.underlying543 Tryz.underlying455 (by kernel_rfl) (by kernel_rfl) h3
 have h5 := h3.tail.tail
 obtain ⟨a1, _, hv1, _, _, _⟩ := laid_sentinel h5 (show Tryz.prog.globalNamed "strconv.ErrRange" = some 2 by kernel_rfl) (show (Tryz.prog.globals[2]?).map (·.type) = some 338 by kernel_rfl) Tryz.underlying338 errRow Tryz.underlying539 Tryz.underlying541 rfl rfl Tryz.underlying9 (by kernel_rfl) (by kernel_rfl)
 obtain ⟨a2, _, hv2, _, _, _⟩ := laid_sentinel h5.tail (show Tryz.prog.globalNamed "strconv.ErrSyntax" = some 1 by kernel_rfl) (show (Tryz.prog.globals[1]?).map (·.type) = some 338 by kernel_rfl) Tryz.underlying338 errRow Tryz.underlying539 Tryz.underlying541 rfl rfl Tryz.underlying9 (by kernel_rfl) (by kernel_rfl)
 have hc1 : W.cell? ⟨2, 0, none⟩ = some (.iface 539 (.pointer (some a1))) := by
  have := World.var?_cell (show Tryz.prog.globalNamed "strconv.ErrRange" = some 2 by kernel_rfl) hv1 0
  simpa using this
 have hc2 : W.cell? ⟨1, 0, none⟩ = some (.iface 539 (.pointer (some a2))) := by
  have := World.var?_cell (show Tryz.prog.globalNamed "strconv.ErrSyntax" = some 1 by kernel_rfl) hv2 0
  simpa using this
 obtain ⟨m, hm⟩ := cell_of_shapedOpen_int (zero := #[.int .i64 0]) (t := 3) (g := 3) hs (of_decide_eq_true (by kernel_rfl)) (by kernel_rfl) rfl (by kernel_rfl) (by kernel_rfl) Tryz.underlying3
 intro g x hg
 unfold GS at hg
 split at hg
 · cases hg; exact rep_cell hc2 rfl (RepF.any _ _ ⟨_, _, rfl⟩ rfl)
 · cases hg; exact rep_cell hc1 rfl (RepF.any _ _ ⟨_, _, rfl⟩ rfl)
 · cases hg; exact rep_cell hm rfl (RepF.any _ _ ⟨_, rfl⟩ rfl)
 · cases hg
   unfold Lib.TabIs World.var? at hT
   rw [gTab] at hT
   refine RepF.tab _ _ (fun h => h) ?_
   change (match W.heap[4]? with | some (.cells cs _ _) => some cs | _ => none) = _ at hT
   split at hT
   · rename_i cs T fr e
     exact ⟨T, fr, by rw [e, Option.some.inj hT]⟩
   · cases hT
 · cases hg
theorem law_callsS {f : Nat} {xs : List FV} (S : Summ Tryz.prog GS f xs (.v (.bool true))) {W : World} {args : Array Value} (hg : Globs W (fun _ => False)) (R : RepL W (fun _ => False) args.toList xs) : Calls Tryz.prog f args W fun e W' => e = .returned (.bool true) /\ Below W.heap.size W W' := by
 have := S.call W (fun _ => False) args.toList (fun _ h => h.elim) hg R
 simp only [Array.toArray_toList] at this
 refine this.mono fun e w' ⟨v, h1, h2, h3⟩ => ⟨?_, h3⟩
 rw [h1, repV h2]
end Go.Proofs.YtbkdjlahhcofmaaGreatDoor
