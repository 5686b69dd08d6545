/- Laws on which the proofs of this seat stand. No condition. -/
import Derived.Test.YtbkdjlahhcofmaaGreatDoorTaMail7
namespace Go.Proofs.YtbkdjlahhcofmaaGreatDoor
open Go Go.RowKit Go.Proofs Go.Shelf Go.Ab
structure Sn where
  pt : Pt
  tick : Int
instance : Inhabited Sn := ⟨⟨default, 0⟩⟩
structure Wt (N c : Nat) (ws : List Int) (k a : Nat) : Prop where
  len : ws.length = N
  each : ∀ i, i < N → 0 ≤ ws.getD i default ∧ ws.getD i default ≤ k
  sum : allW ws = k
  low : (a : Int) ≤ ws.getD c default
theorem getD_setW {ws : List Int} {o i : Nat} {v : Int} (h : o < ws.length) : (ws.set o v).getD i default = if i = o then v else ws.getD i default := by
  rw [List.getD_eq_getElem?_getD, List.getD_eq_getElem?_getD, List.getElem?_set]
  by_cases e : o = i
  · subst e; rw [if_pos rfl, if_pos rfl, if_pos h]; rfl
  · rw [if_neg e, if_neg (fun x => e x.symm)]
theorem allW_set {ws : List Int} {o : Nat} (h : o < ws.length) (v : Int) : allW (ws.set o v) = allW ws - ws.getD o default + v := by
  have hm : (o : Int) ∈ idxL ws.length := idxL_mem.2 (by omega)
  unfold allW
  rw [List.length_set, sumI_erase hm, sumI_erase (f := wI ws) hm]
  have e1 : wI (ws.set o v) (o : Int) = v := by
    unfold wI
    rw [show ((o : Int)).toNat = o by omega, getD_setW h, if_pos rfl]
  have e2 : wI ws (o : Int) = ws.getD o default := rfl
  have e3 : sumI (wI (ws.set o v)) ((idxL ws.length).erase (o : Int)) = sumI (wI ws) ((idxL ws.length).erase (o : Int)) := sumI_congr fun z hz => by
    have hz2 := (idxL_nd ws.length).mem_erase_iff.1 hz
    have hz3 := idxL_mem.1 hz2.2
    unfold wI
    rw [getD_setW h, if_neg (by omega)]
  rw [e1, e2, e3]
  omega
theorem Wt.step {N c k a o : Nat} {ws : List Int} (h : Wt N c ws k a) (ho : o < N) : Wt N c (ws.set o (ws.getD o default + 1)) (k + 1) (if o = c then a + 1 else a) := by
  have hl := h.len
  have e := h.each
  refine ⟨by rw [List.length_set, hl], fun i hi => ?_, ?_, ?_⟩
  · rw [getD_setW (by omega)]
    have h1 := e i hi
    have h2 := e o ho
    split <;> omega
  · rw [allW_set (by omega), h.sum]; omega
  · rw [getD_setW (by omega)]
    have := h.low
    by_cases hc : c = o
    · subst hc; rw [if_pos rfl, if_pos rfl]; omega
    · rw [if_neg hc, if_neg (fun x => hc x.symm)]; exact this
theorem sumI_zero {f : Int → Int} : ∀ {l : List Int}, (∀ z, z ∈ l → f z = 0) → sumI f l = 0
  | [], _ => rfl
  | x :: l, h => by rw [sumI, h x (by simp), sumI_zero fun z hz => h z (by simp [hz])]; rfl
theorem Wt.zero (N c : Nat) : Wt N c (List.replicate N 0) 0 0 := by
  have z : ∀ i, (List.replicate N (0 : Int)).getD i default = 0 := fun i => by
    rw [List.getD_eq_getElem?_getD, List.getElem?_replicate]
    split <;> rfl
  refine ⟨List.length_replicate, fun i _ => by rw [z]; omega, ?_, by rw [z]; omega⟩
  exact sumI_zero fun i _ => z _
theorem Wt.ok {N c k a : Nat} {ws : List Int} (h : Wt N c ws k a) (hc : c < N) (ha : 1 ≤ a) (hk : k ≤ 1000000) : MapOk N ws := by
  have hl := h.len
  refine ⟨by rw [hl], fun i hi => ?_, c, by omega, ?_⟩
  · have := h.each i (by omega); omega
  · have := h.low; omega
theorem Wt.i64 {N c k a : Nat} {ws : List Int} (h : Wt N c ws k a) (hk : k ≤ 1000000) : ∀ z, z ∈ ws → 0 ≤ z ∧ z ≤ 1000000 := fun z hz => by
  obtain ⟨i, hi, rfl⟩ := List.getElem_of_mem hz
  have := h.each i (by have := h.len; omega)
  rw [getD_at hi] at this
  omega
end Go.Proofs.YtbkdjlahhcofmaaGreatDoor
namespace Go.Proofs.YtbkdjlahhcofmaaGreatDoor
open Go Go.RowKit Go.Proofs Go.Shelf Go.Ab
section
variable {W : World}
theorem opens_ints : Opens Tryz.prog W 29 (fun l : List Int => [.sl l.length (intsF l)]) := (opens_sl (s := 1) Tryz.underlying29 (by kernel_rfl) (by decide) opens_i).map id fun l => by rw [sq_map]; rfl
theorem opens_sky : Opens Tryz.prog W 79 (fun l : List Int => [.sl l.length (intsF l)]) := (opens_st Tryz.underlying79 (by kernel_rfl) (ofs_cons (s := 1) (by kernel_rfl) rfl opens_ints (ofs_nil))).map (fun p => p.1) fun _ => rfl
end
end Go.Proofs.YtbkdjlahhcofmaaGreatDoor
namespace Go.Ab
open Go Go.RowKit Go.Shelf Go.Proofs
section
variable {P : Program} {w : World}
theorem sl_len {M : Nat → Prop} {a : Option Addr} {m c n : Nat} {cs : List FV} (h : RepF w M (.slice a m c) (.sl n cs)) : n = m := by
  cases h; rfl
theorem opens_slm {T E s : TypeId} {α : Type} {f : α → List FV} (ht : P.underlying T = some (.slice E)) (hc : P.cellsOf E = s) (h0 : 0 < s) (h : Opens P w E f) : Opens P w T (fun l : { l : List α // l.length ≤ 9223372036854775807 } => [.sl l.1.length (l.1.flatMap f)]) := fun H enc base sp hd fuel cs x hx => by
  obtain ⟨l, h1, h2⟩ := opens_sl ht hc h0 h H enc base sp hd fuel cs x hx
  have hb : l.length ≤ 9223372036854775807 := by
    rcases Go.Deep.open_slice ht hx with ⟨rfl, _⟩ | ⟨a, len, cap, m, n, D, Pl, rfl, hb, hl, hm, hmm, _, hel⟩
    · have r := sl_len (h1.2 0 _ _ rfl rfl)
      omega
    · have r := sl_len (h1.2 0 _ _ rfl rfl)
      have hm2 : (maxLen : Nat) = 9223372036854775807 := by decide
      omega
  exact ⟨⟨l, hb⟩, h1, h2⟩
end
end Go.Ab
namespace Go.Proofs.YtbkdjlahhcofmaaGreatDoor
open Go Go.RowKit Go.Proofs Go.Shelf Go.Ab
abbrev ActM : Type := Int × Nm × { l : List Int // l.length ≤ 9223372036854775807 }
def actMk (p : ActM) : Act := ⟨p.1, p.2.1, p.2.2.1⟩
theorem acts_map (l : List ActM) : actsF (l.map actMk) = l.flatMap fun p => [iv p.1, sv p.2.1, .sl p.2.2.1.length (intsF p.2.2.1)] := by
  unfold actsF; rw [List.flatMap_map]; rfl
section
variable {W : World}
theorem opens_intsm : Opens Tryz.prog W 29 (fun l : { l : List Int // l.length ≤ 9223372036854775807 } => [.sl l.1.length (intsF l.1)]) := (opens_slm (s := 1) Tryz.underlying29 (by kernel_rfl) (by decide) opens_i).map id fun l => by rw [sq_map]; rfl
theorem opens_actm : Opens Tryz.prog W 85 (fun p : ActM => [iv p.1, sv p.2.1, .sl p.2.2.1.length (intsF p.2.2.1)]) := (opens_st Tryz.underlying85 (by kernel_rfl) (ofs_cons (s := 1) (by kernel_rfl) rfl opens_i (ofs_cons (s := 1) (by kernel_rfl) rfl opens_nm (ofs_cons (s := 1) (by kernel_rfl) rfl opens_intsm ofs_nil)))).map (fun p => ⟨p.1, p.2.1, p.2.2.1⟩) fun _ => rfl
theorem opens_actsm : Opens Tryz.prog W 80 (fun l : { l : List Act // ∀ i (hi : i < l.length), l[i].cells.length ≤ 9223372036854775807 } => [.sl l.1.length (actsF l.1)]) := (opens_sl (s := 3) Tryz.underlying80 (by kernel_rfl) (by decide) opens_actm).map (fun l => ⟨l.map actMk, fun i hi => by rw [List.getElem_map]; exact (l[i]'(by simpa using hi)).2.2.2⟩) fun l => by
  show [FV.sl l.length _] = [FV.sl (l.map actMk).length (actsF (l.map actMk))]
  rw [acts_map, List.length_map]
end
end Go.Proofs.YtbkdjlahhcofmaaGreatDoor
