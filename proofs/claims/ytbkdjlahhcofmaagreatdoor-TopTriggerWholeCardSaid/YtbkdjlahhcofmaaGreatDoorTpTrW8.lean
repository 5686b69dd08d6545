/- Laws on which the proofs of this seat stand. No condition. -/
import Derived.Test.YtbkdjlahhcofmaaGreatDoorTpTrW7
namespace Go.Proofs.YtbkdjlahhcofmaaGreatDoor
open Go Go.RowKit Go.Proofs Go.Shelf Go.Ab
theorem OrdOk.len {l : List Job} {o : List Int} (q : OrdOk l o) : o.length <= l.length := by
 have h := pig (n := l.length) (o := o.map Int.toNat) (List.pairwise_map.2 (q.nd.imp_of_mem fun {a b} ha hb hne e => hne (by
  have h1 := q.mem a ha; have h2 := q.mem b hb; omega))) (fun z hz => by
   obtain ⟨y, hy, rfl⟩ := List.mem_map.1 hz
   have := q.mem y hy; omega)
 simpa using h
structure Sn where
 pt : Pt
 tick : Int
instance : Inhabited Sn := ⟨⟨default, 0⟩⟩
structure Wt (N c : Nat) (ws : List Int) (k a : Nat) : Prop where
 len : ws.length = N
 each : ∀ i, i < N -> 0 <= ws.getD i default /\ ws.getD i default <= k
 sum : allW ws = k
 low : (a : Int) <= ws.getD c default
theorem getD_setW {ws : List Int} {o i : Nat} {v : Int} (h : o < ws.length) : (ws.set o v).getD i default = if i = o then v else ws.getD i default := by
 rw [List.getD_eq_getElem?_getD, List.getD_eq_getElem?_getD, List.getElem?_set]
 by_cases e : o = i
 · subst e; rw [if_pos rfl, if_pos rfl, if_pos h]; rfl
 · rw [if_neg e, if_neg (fun x => e x.symm)]
theorem allW_set {ws : List Int} {o : Nat} (h : o < ws.length) (v : Int) : allW (ws.set o v) = allW ws - ws.getD o default + v := by
 have hm : (o : Int) ∈ idxL ws.length := idxL_mem.2 (by omega)
 unfold allW
 rw [List.length_set, sumI_erase hm, sumI_erase (f := wI ws) hm]
 have e1 : wI (ws.set o v) (o : Int) = v := by
  unfold wI
  rw [show ((o : Int)).toNat = o by omega, getD_setW h, if_pos rfl]
 have e2 : wI ws (o : Int) = ws.getD o default := rfl
 have e3 : sumI (wI (ws.set o v)) ((idxL ws.length).erase (o : Int)) = sumI (wI ws) ((idxL ws.length).erase (o : Int)) := sumI_congr fun z hz => by
  have hz2 := (idxL_nd ws.length).mem_erase_iff.1 hz
  have hz3 := idxL_mem.1 hz2.2
  unfold wI
  rw [getD_setW h, if_neg (by omega)]
 rw [e1, e2, e3]
 omega
theorem Wt.step {N c k a o : Nat} {ws : List Int} (h : Wt N c ws k a) (ho : o < N) : Wt N c (ws.set o (ws.getD o default + 1)) (k + 1) (if o = c then a + 1 else a) := by
 have hl := h.len
 have e := h.each
 refine ⟨by rw [List.length_set, hl], fun i hi => ?_, ?_, ?_⟩
 · rw [getD_setW (by omega)]
   have h1 := e i hi
   have h2 := e o ho
   split <;> omega
 · rw [allW_set (by omega), h.sum]; omega
 · rw [getD_setW (by omega)]
   have := h.low
   by_cases hc : c = o
   · subst hc; rw [if_pos rfl, if_pos rfl]; omega
   · rw [if_neg hc, if_neg (fun x => hc x.symm)]; exact this
theorem sumI_zero {f : Int -> Int} : ∀ {l : List Int}, (∀ z, z ∈ l -> f z = 0) -> sumI f l = 0
 | [], _ => rfl
 | x :: l, h => by rw [sumI, h x (by simp), sumI_zero fun z hz => h z (by simp [hz])]; rfl
theorem Wt.zero (N c : Nat) : Wt N c (List.replicate N 0) 0 0 := by
 have z : ∀ i, (List.replicate N (0 : Int)).getD i default = 0 := fun i => by
  rw [List.getD_eq_getElem?_getD, List.getElem?_replicate]
  split <;> rfl
 refine ⟨List.length_replicate, fun i _ => by rw [z]; omega, ?_, by rw [z]; omega⟩
 exact sumI_zero fun i _ => z _
theorem Wt.ok {N c k a : Nat} {ws : List Int} (h : Wt N c ws k a) (hc : c < N) (ha : 1 <= a) (hk : k <= 1000000) : MapOk N ws := by
 have hl := h.len
 refine ⟨by rw [hl], fun i hi => ?_, c, by omega, ?_⟩
 · have := h.each i (by omega); omega
 · have := h.low; omega
theorem Wt.i64 {N c k a : Nat} {ws : List Int} (h : Wt N c ws k a) (hk : k <= 1000000) : ∀ z, z ∈ ws -> 0 <= z /\ z <= 1000000 := fun z hz => by
 obtain ⟨i, hi, rfl⟩ := List.getElem_of_mem hz
 have := h.each i (by have := h.len; omega)
 rw [getD_at hi] at this
 omega
section
variable {W : World}
theorem opens_ints : Opens Tryz.prog W 29 (fun l : List Int => [.sl l.length (intsF l)]) := (opens_sl (s := 1) Tryz.underlying29 (by kernel_rfl) (by decide) opens_i).map id fun l => by rw [sq_map]; rfl
end
section
variable {W : World}
theorem opens_site : Opens Tryz.prog W 332 (siteF) := (opens_st Tryz.underlying332 (by kernel_rfl) (ofs_cons (s := 1) (by kernel_rfl) rfl opens_i (ofs_cons (s := 1) (by kernel_rfl) rfl opens_i (ofs_cons (s := 1) (by kernel_rfl) rfl opens_i (ofs_cons (s := 1) (by kernel_rfl) rfl opens_i (ofs_cons (s := 1) (by kernel_rfl) rfl opens_i ofs_nil)))))).map (fun p => ⟨p.1, p.2.1, p.2.2.1, p.2.2.2.1, p.2.2.2.2.1⟩) fun _ => rfl
theorem opens_sites : Opens Tryz.prog W 22 (fun l : List Site => [.sl l.length (sitesF l)]) := opens_sl (s := 5) Tryz.underlying22 (by kernel_rfl) (by decide) opens_site
theorem opens_arr : Opens Tryz.prog W 24 (fun l : List Site => [.sl l.length (sitesF l)]) := (opens_st Tryz.underlying24 (by kernel_rfl) (ofs_cons (s := 1) (by kernel_rfl) rfl opens_sites ofs_nil)).map (fun p => p.1) fun _ => rfl
theorem opens_rule : Opens Tryz.prog W 44 (ruleF) := (opens_st Tryz.underlying44 (by kernel_rfl) (ofs_cons (s := 1) (by kernel_rfl) rfl opens_i (ofs_cons (s := 1) (by kernel_rfl) rfl opens_i (ofs_cons (s := 1) (by kernel_rfl) rfl opens_i (ofs_cons (s := 1) (by kernel_rfl) rfl opens_i (ofs_cons (s := 1) (by kernel_rfl) rfl opens_i ofs_nil)))))).map (fun p => ⟨p.1, p.2.1, p.2.2.1, p.2.2.2.1, p.2.2.2.2.1⟩) fun _ => rfl
theorem opens_rules : Opens Tryz.prog W 25 (fun l : List Rule => [.sl l.length (rulesF l)]) := opens_sl (s := 5) Tryz.underlying25 (by kernel_rfl) (by decide) opens_rule
theorem opens_setup : Opens Tryz.prog W 27 (setL) := (opens_st Tryz.underlying27 (by kernel_rfl) (ofs_cons (s := 1) (by kernel_rfl) rfl opens_rules (ofs_cons (s := 1) (by kernel_rfl) rfl opens_i (ofs_cons (s := 1) (by kernel_rfl) rfl opens_i (ofs_cons (s := 1) (by kernel_rfl) rfl opens_i ofs_nil))))).map (fun p => ⟨p.1, p.2.1, p.2.2.1, p.2.2.2.1⟩) fun _ => rfl
theorem opens_hit : Opens Tryz.prog W 50 (hitF) := (opens_st Tryz.underlying50 (by kernel_rfl) (ofs_cons (s := 1) (by kernel_rfl) rfl opens_i (ofs_cons (s := 1) (by kernel_rfl) rfl opens_i (ofs_cons (s := 1) (by kernel_rfl) rfl opens_i ofs_nil)))).map (fun p => ⟨p.1, p.2.1, p.2.2.1⟩) fun _ => rfl
theorem opens_hits : Opens Tryz.prog W 28 (fun l : List Hit => [.sl l.length (hitsF l)]) := opens_sl (s := 3) Tryz.underlying28 (by kernel_rfl) (by decide) opens_hit
theorem opens_ar3 : Opens Tryz.prog W 30 (fun p : Int × Int × Int => [iv p.1] ++ [iv p.2.1] ++ [iv p.2.2]) := opens_arr3 (s := 1) Tryz.underlying30 (by kernel_rfl) (by kernel_rfl) opens_i
theorem opens_div : Opens Tryz.prog W 32 (fun p : List Hit × List Int × Int × Int × Int => [.sl p.1.length (hitsF p.1), .sl p.2.1.length (intsF p.2.1), iv p.2.2.1, iv p.2.2.2.1, iv p.2.2.2.2]) := (opens_st Tryz.underlying32 (by kernel_rfl) (ofs_cons (s := 1) (by kernel_rfl) rfl opens_hits (ofs_cons (s := 1) (by kernel_rfl) rfl opens_ints (ofs_cons (s := 3) (by kernel_rfl) rfl opens_ar3 ofs_nil)))).map (fun p => (p.1, p.2.1, p.2.2.1)) fun _ => rfl
theorem opens_rng : Opens Tryz.prog W 34 (rngF) := (opens_st Tryz.underlying34 (by kernel_rfl) (ofs_cons (s := 1) (by kernel_rfl) rfl opens_i (ofs_cons (s := 1) (by kernel_rfl) rfl opens_i ofs_nil))).map (fun p => ⟨p.1, p.2.1⟩) fun _ => rfl
theorem opens_run : Opens Tryz.prog W 36 (fun p : (List Hit × List Int × Int × Int × Int) × Rng × Int => [.sl p.1.1.length (hitsF p.1.1), .sl p.1.2.1.length (intsF p.1.2.1), iv p.1.2.2.1, iv p.1.2.2.2.1, iv p.1.2.2.2.2] ++ [iv p.2.1.lo, iv p.2.1.hi, iv p.2.2]) := (opens_st Tryz.underlying36 (by kernel_rfl) (ofs_cons (s := 5) (by kernel_rfl) rfl opens_div (ofs_cons (s := 2) (by kernel_rfl) rfl opens_rng (ofs_cons (s := 1) (by kernel_rfl) rfl opens_i ofs_nil)))).map (fun p => (p.1, p.2.1, p.2.2.1)) fun _ => rfl
end
end Go.Proofs.YtbkdjlahhcofmaaGreatDoor
