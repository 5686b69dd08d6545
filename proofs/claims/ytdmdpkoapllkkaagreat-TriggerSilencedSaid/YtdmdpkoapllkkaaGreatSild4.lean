/- Laws on which the proofs of this seat stand. No condition. -/
import Derived.Test.YtdmdpkoapllkkaaGreatSild3
import Derived.Shelf.SlSortCmp.NoneTotal
import Derived.Shelf.Spec.SlicesGrow
import Derived.Lib.SliceRun
namespace Go.Proofs.YtdmdpkoapllkkaaGreat
open Go Go.RowKit Go.Proofs Go.Shelf Go.Ab Go.Sort
attribute [local go_sem] Oper.semAt_some
def encRng (r : Rng) : Array Value := #[.agg #[.int .i64 r.lo, .int .i64 r.hi]]
structure ValRd (Bx ox : Nat) (la : Option Addr) (lc : Nat) (L : List Rng) (w : World) : Prop where
  c0 : w.cell? ⟨Bx, ox, none⟩ = some (.slice la L.length lc)
  at_ : ∀ (j : Nat) (hj : j < L.length), ∃ b o, la = some ⟨b, o, none⟩ ∧ w.cell? ⟨b, o + j * 2, none⟩ = some (.int .i64 L[j].lo) ∧ w.cell? ⟨b, o + j * 2 + 1, none⟩ = some (.int .i64 L[j].hi)
set_option maxRecDepth 100000 in
set_option maxHeartbeats 2000000 in
theorem values_seqR (Bx ox : Nat) (la : Option Addr) (lc : Nat) (L : List Rng) (h60 : L.length < 1000000) : SeqL Tryz.prog 162 #[.pointer (some ⟨Bx, ox, none⟩)] encRng L (ValRd Bx ox la lc L) := by
  intro l J Jx W hJ hJx hRd hY h0
  have HJ := Lib.hid hJ
  have HY := Lib.hid hY
  have HRD := Lib.hid hRd
  have H0 := Lib.hid h0
  have c0 := (hRd 0 W h0).c0
  clear hJ hJx hY hRd h0
  refine callsIn_of_wp Tryz.func162 rfl trivial ?_ rfl
  simp only [Tryz.ntmps162, List.size_toArray, List.length_cons, List.length_nil, Nat.reduceAdd, Nat.reduceSub, Array.replicate_succ, Array.replicate_zero, List.push_toArray, List.append_toArray, List.nil_append, List.cons_append]
  gi_wp2
  clear c0
  gi_loopw [7] (fun i wr => ∃ k : Nat, k ≤ L.length ∧ i = .int .i64 k ∧ Hid (J k wr)) (fun i _ => L.length - (intOf i).toNat)
  case atStart => exact ⟨0, Nat.zero_le _, rfl, H0⟩
  case round =>
    obtain ⟨k, hk, rfl, Hj⟩ := hrel
    by_cases hlt : k < L.length
    · obtain ⟨b, o, rfl, e0, e1⟩ := (HRD.out _ wr Hj.out).at_ k hlt
      have Hj2 : Hid (J k (wr.alloc (.cells #[.int .i64 L[k].lo, .int .i64 L[k].hi] 65))) := Lib.hid (HJ.out _ _ _ (Ext.alloc _ _) Hj.out)
      have HYk := HY.out _ hlt _ Hj2.out
      rw [encRng] at HYk
      obtain ⟨fn, tmps, assign, body, hy, hR⟩ := HYk
      replace hR := Lib.hid hR
      gi_wp2
      refine hR.out.mono ?_
      rintro e W' (⟨rfl, hJ'⟩ | ⟨rfl, hJx'⟩)
      · have Hj3 := Lib.hid hJ'
        clear hJ' hy
        gi_wp2
        go_roundw
        case rel => exact ⟨k + 1, by omega, by go_num, Hj3⟩
        case measure => simp [intOf]; omega
      · have Hx3 := Lib.hid hJx'
        clear hJx' hy
        gi_wp2
        refine bodyPost_ret (results_none rfl _ _ _) rfl ?_
        exact ⟨⟨_, rfl⟩, .inr ⟨_, hlt, Hx3.out⟩⟩
    · have HE : Hid (J L.length wr) := Lib.hid (by have := Hj.out; rwa [show k = L.length by omega] at this)
      gi_wp2
      refine bodyPost_end (results_none rfl _ _ _) rfl ?_
      exact ⟨⟨_, rfl⟩, .inl HE.out⟩
theorem lies_cell {w : World} {M : Nat → Prop} {b off k : Nat} {us : List Value} {v : Value} (h : Lies w M b off us) (hv : us[k]? = some v) : w.cell? ⟨b, off + k, none⟩ = some v := (h.at_ k (List.getElem?_eq_some_iff.1 hv).1).trans hv
theorem values_SR (L : List Rng) (h60 : L.length < 1000000) : SeqS Tryz.prog GG 162 [.pt [.sl L.length (rngsF L)] 0] encRng L := by
  refine ⟨enters_of Tryz.func162 (by kernel_rfl) rfl, fun w M us hM hG R => ?_⟩
  obtain ⟨u2, us2, rfl, r2, R2⟩ := R.head
  have := R2.end; subst this
  cases r2 with
  | pt Bx ox _ _ gv g1 g2 g3 g4 =>
  obtain ⟨v0, rfl⟩ : ∃ v0, gv = [v0] := by
    match gv, g1 with
    | [a], _ => exact ⟨a, rfl⟩
  have r0 := g4 0 v0 (.sl L.length (rngsF L)) rfl rfl
  cases r0 with
  | sl a n c cs us q1 q2 q3 q4 q5 =>
  have eu : us = L.flatMap fun x => [.int .i64 x.lo, .int .i64 x.hi] := repL_v (w := w) (M := M) (by
    have : rngsF L = (L.flatMap fun x => [Value.int .i64 x.lo, .int .i64 x.hi]).map FV.v := by
      unfold rngsF; rw [List.map_flatMap]; rfl
    rw [← this]; exact ⟨q2, q5⟩)
  intro l J Jx W hJ hJx hRd hY h0
  refine values_seqR Bx ox a c L h60 l J Jx W hJ hJx (fun k A hA => ?_) hY h0
  obtain ⟨hs, hk⟩ := hRd k A hA
  have lg := g3.mono (M' := M) hk hs (fun _ _ h => h)
  refine ⟨lies_cell (k := 0) lg rfl, fun j hj => ?_⟩
  have hl : us.length = L.length * 2 := by rw [q2, rngsF_len]
  obtain ⟨b, o, ea, li⟩ := q4 (by intro e; rw [e] at hl; simp at hl; omega)
  have lb := li.mono (M' := M) hk hs (fun _ _ h => h)
  have hat : ∀ t, t < 2 → us[j * 2 + t]? = [Value.int .i64 L[j].lo, .int .i64 L[j].hi][t]? := fun t ht => by
    rw [eu, Go.Ab.fk_get (k := 2) (fun _ => rfl) (by decide), show (j * 2 + t) / 2 = j by omega, show (j * 2 + t) % 2 = t by omega, List.getElem?_eq_getElem hj]; rfl
  exact ⟨b, o, ea, lies_cell lb (hat 0 (by decide)), by rw [Nat.add_assoc]; exact lies_cell lb (hat 1 (by decide))⟩
def clB (z : Int) : Int := max (-1152921504606846976) (min z 1152921504606846976)
theorem clB_id {z : Int} (h : -1152921504606846976 ≤ z) (h' : z ≤ 1152921504606846976) : clB z = z := by unfold clB; omega
def encLo (r : Rng) : List Value := [.int .i64 (clB r.lo), .int .i64 r.hi]
def cfLo (x y : Rng) : Int := clB x.lo - clB y.lo
theorem ltLo (x y : Rng) : ltOf cfLo x y = decide (clB x.lo < clB y.lo) := by
  unfold ltOf cfLo
  exact decide_eq_decide.2 (by omega)
theorem swoLo : SWO (ltOf cfLo) where
  irrefl x := by rw [ltLo]; simp
  trans x y z h1 h2 := by
    rw [ltLo] at *
    have a := of_decide_eq_true h1
    have b := of_decide_eq_true h2
    exact decide_eq_true (by omega)
  ntrans x y z h1 h2 := by
    rw [ltLo] at *
    have a := of_decide_eq_false h1
    have b := of_decide_eq_false h2
    exact decide_eq_false (by omega)
def sortRng (l : List Rng) : List Rng := sortL cfLo l
theorem sortRng_perm (l : List Rng) : (sortRng l).Perm l := sortL_perm swoLo l
theorem sortRng_len (l : List Rng) : (sortRng l).length = l.length := sortL_len swoLo l
def LoOk (l : List Rng) : Prop := ∀ r, r ∈ l → -1152921504606846976 ≤ r.lo ∧ r.lo ≤ 1152921504606846976
theorem sortRng_pw (l : List Rng) (h : LoOk l) : (sortRng l).Pairwise fun x y => x.lo ≤ y.lo := by
  refine (sortL_pw swoLo l).imp_of_mem fun {x y} hx hy hxy => ?_
  have bx := h x ((sortRng_perm l).mem_iff.1 hx)
  have by' := h y ((sortRng_perm l).mem_iff.1 hy)
  unfold cfLo at hxy
  rw [clB_id bx.1 bx.2, clB_id by'.1 by'.2] at hxy
  omega
theorem encLo_F {l : List Rng} (h : LoOk l) : (l.flatMap encLo).map FV.v = rngsF l := by
  induction l with
  | nil => rfl
  | cons r l ih =>
    have hr := h r (List.mem_cons_self ..)
    rw [List.flatMap_cons, List.map_append, ih fun x hx => h x (List.mem_cons_of_mem _ hx), encLo, clB_id hr.1 hr.2]
    simp [rngsF, rngF, iv]
set_option maxHeartbeats 1000000 in
theorem cmpLo (x y : Rng) (W : World) : Calls Tryz.prog 130 #[.agg (encLo x).toArray, .agg (encLo y).toArray] W fun e w' => e = .returned (.int .i64 (cfLo x y)) ∧ ∃ q os', w' = grow (W.drewN q) os' := by
  unfold encLo cfLo
  have b1 : -1152921504606846976 ≤ clB x.lo ∧ clB x.lo ≤ 1152921504606846976 := by unfold clB; omega
  have b2 : -1152921504606846976 ≤ clB y.lo ∧ clB y.lo ≤ 1152921504606846976 := by unfold clB; omega
  generalize clB x.lo = a at b1 ⊢
  generalize clB y.lo = b at b2 ⊢
  generalize x.hi = c
  generalize y.hi = d
  go_enter Tryz.func130, Tryz.ntmps130
  go_wp2
  go_ret
  exact ⟨rfl, 0, _, by rw [alloc_eq_grow, alloc_eq_grow, grow_grow]; rfl⟩
theorem sortFunc_s (l : List Rng) (hb : LoOk l) (h60 : l.length < 1000000) : SummG Tryz.prog GG 161 [.arr 65 2 l.length ((rngsF l).map .f)] [.ow 0, .f (.fn 130 [])] (.f (.tup [])) [.arr 65 2 l.length ((rngsF (sortRng l)).map .f)] :=
  sortG (ρ := sortR_ren) sortR Tryz.isAgg65 Tryz.sizeOf65 (enc := encLo) (k := 2) (fun _ => rfl) (by decide) (fun x v hv => by simp [encLo] at hv; rcases hv with rfl | rfl <;> rfl) cfLo swoLo 130 (enters_of Tryz.func130 (by kernel_rfl) rfl) cmpLo
    (fun pp cap fv w => AnyF.slices_SortFunc_none (P := Tryz.prog) (ρ := sortR_ren) { sortR with } pp cap fv w) (enters_of Tryz.func161 (by kernel_rfl) rfl) l (by omega) 65 rfl (encLo_F hb) (encLo_F fun r hr => hb r ((sortRng_perm l).mem_iff.1 hr))
end Go.Proofs.YtdmdpkoapllkkaaGreat
namespace Go.Ab
open Go Go.RowKit Go.Shelf Go.Proofs
section
variable {C : Ctx} {N : Nat} {st : St}
theorem gh_one (i r : Nat) {e sz n : Nat} {cs : List FV} (hs : st.s r = .ow i) (hi : st.h i = some (.row e sz n cs)) : Gh C N st ⟨upd (fun _ => .bot) r (.ow 0), blkL [.row e sz n cs], 1⟩ := fun w0 a w ⟨J, S⟩ => ⟨fun _ => J i, by
  have live : ∀ j, (blkL [Blk.row e sz n cs] j).isSome = true → j = 0 := fun j hj => by
    have := blkL_live.1 hj; simp at this; exact this
  have hM : ∀ b, b < w.heap.size → Mb C (blkL [Blk.row e sz n cs]) (fun _ => J i) b → Mb C st.h J b := fun b _ q => q.imp id fun ⟨j, _, hb⟩ => ⟨i, by rw [hi]; rfl, hb⟩
  refine ⟨S.ext, S.size, S.defs, fun t => ?_, fun j D hD => ?_, fun j k b hj hk _ _ => by rw [live j hj, live k hk], S.old, fun g cs hg => RepF.ext (S.glob g cs hg) (Ext.refl _) hM, fun j p B hp hc hst => ?_⟩
  · by_cases e : t = r
    · subst e
      show RepA C w _ _ _ (upd (fun _ => AV.bot) t (.ow 0) t)
      rw [upd_same]
      have := S.slot t
      rw [hs] at this
      exact ⟨rfl, this.2⟩
    · show RepA C w _ _ _ (upd (fun _ => AV.bot) r (.ow 0) t)
      rw [upd_other _ _ e]; trivial
  · have hj := live j (by show (blkL _ j).isSome = true; rw [show blkL [Blk.row e sz n cs] j = some D from hD]; rfl)
    subst hj
    have : D = .row e sz n cs := by have h : blkL [Blk.row e sz n cs] 0 = some D := hD; rw [blkL_eq] at h; simp at h; exact h.symm
    subst this
    obtain ⟨xs, q1, q0, q2, q3⟩ := S.blk i _ hi
    exact ⟨xs, q1, q0, q2, q3.1, fun k u x h1 h2 => RepF.ext (q3.2 k u x h1 h2) (Ext.refl _) hM⟩
  · have hj := live j (by show (blkL _ j).isSome = true; rw [show blkL [Blk.row e sz n cs] j = some B from hc]; rfl)
    subst hj
    have h : blkL [Blk.row e sz n cs] 0 = some B := hc
    rw [blkL_eq] at h; simp at h; subst h; cases hst⟩
end
end Go.Ab
namespace Go.Proofs.YtdmdpkoapllkkaaGreat
open Go Go.RowKit Go.Proofs Go.Shelf Go.Ab
theorem rng_en (p : Rng) (w : World) (M : Nat → Prop) : RepL w M (encRng p).toList [.agg (rngF p)] :=
  RepL.cons (RepF.agg (rngF p) [.int .i64 p.lo, .int .i64 p.hi] rfl (fun u hu => by simp at hu; rcases hu with rfl | rfl <;> rfl) (fun k u x h1 h2 => by
    match k, h1, h2 with
    | 0, h1, h2 => cases h1; cases h2; exact .v _
    | 1, h1, h2 => cases h1; cases h2; exact .v _)) (RepL.nil _ _)
theorem row_tkRng {L : List Rng} {k : Nat} (h : k < L.length) : some (Blk.row 65 2 ((L.take k).length + 1) (rngsF (L.take k) ++ rngF L[k])) = some (Blk.row 65 2 (L.take (k + 1)).length (rngsF (L.take (k + 1)))) := by
  rw [rngsF_tk h, List.take_succ_eq_append_getElem h, List.length_append]; rfl
set_option maxRecDepth 100000 in
set_option maxHeartbeats 1600000 in
theorem appendSeq_g (L : List Rng) (h60 : L.length < 1000000) : SummG Tryz.prog GG 177 [] [.f (.v (.slice none 0 0)), .f (.fn 162 [.pt [.sl L.length (rngsF L)] 0])] (.ow 0) [.row 65 2 L.length (rngsF L)] := by
  refine summG_of Tryz.func177 rfl rfl 13 rfl (by simp) (by simp) (fun i B B' h1 h2 => by simp at h1) (fun M X J => ?_)
  repeat (first
    | (apply s_boxw; exact rfl; exact rfl; exact rfl; exact rfl)
    | (apply s_a TY; exact rfl)
    | apply w_seq
    | apply w_region
    | apply s_nil
    | apply t_norm
    | apply w_block)
  apply w_gh (gh_ownB 0 0 65 2 rfl rfl rfl)
  refine w_range (s := (Ab.upd (Ab.upd (fun _ => .bot) 2 (.bx 0 0)) 6 (.f (.fn 162 [.pt [.sl L.length (rngsF L)] 0])))) ((values_SR L h60)) (fun k => (Ab.upd (Ab.upd (fun _ => none) 0 (some (.box [.ow 1]))) 1 (some (.row 65 2 (L.take k).length (rngsF (L.take k)))))) (fun (k : Nat) (p : Rng) => (Ab.upd (Ab.upd (Ab.upd (fun _ => none) 0 (some (.box [.ow 1]))) 1 (some (.row 65 2 (L.take k).length (rngsF (L.take k))))) 2 (some (.box [.f (iv p.lo), .f (iv p.hi)])))) (fun (k : Nat) (p : Rng) => (Ab.upd (Ab.upd (Ab.upd (fun _ => .bot) 2 (.bx 0 0)) 6 (.f (.fn 162 [.pt [.sl L.length (rngsF L)] 0]))) 5 (.bx 2 0))) 2 3 (fun i => i = 0) (fun p => [.agg (rngF p)]) (fun _ => True) (trivial) rfl (fun _ => rfl) (gh_le ⟨le_upd rfl trivial (le_upd rfl rfl (le_nil _)), le_hupd rfl trivial (le_hupd rfl (fun y hy => by simp at hy; subst hy; first | trivial | rfl) (le_h0 _ _))⟩) rfl (fun _ => rfl) (fun _ => rfl) (fun q hq => by simp at hq; subst hq; rfl) rng_en (kept_f (kept_x rfl (by simp) (kept_nil _ _))) (by rintro k i (rfl) <;> exact ⟨_, rfl, rfl⟩) (fun k p => ⟨le_nil _, le_hupd rfl trivial (le_hupd rfl (fun y hy => by simp at hy; subst hy; first | trivial | rfl) (le_h0 _ _))⟩) (fun k p => ⟨mo_upd rfl (mo_upd rfl (mo_nil)), mo_upd rfl (mo_upd rfl (mo_upd rfl (mo_nil)))⟩) ?_ ?_ ?_
  · intro k hkL X l p
    repeat (first
    | apply w_region
    | apply s_nil
    | apply t_norm
    | (apply s_alloc TY; exact rfl; exact rfl; exact rfl)
    | (apply s_store TY; exact rfl; exact rfl; exact rfl; exact rfl; exact rfl; exact rfl))
    exact gh_le ⟨le_upd rfl rfl (le_upd rfl trivial (le_upd rfl rfl (le_nil _))), le_hupd rfl (fun y hy => by simp at hy; rcases hy with rfl | rfl <;> first | trivial | rfl) (le_hupd rfl trivial (le_hupd rfl (fun y hy => by simp at hy; subst hy; first | trivial | rfl) (le_h0 _ _)))⟩
  · intro k hkL _ X l p
    have hlt : (L.take k).length = k := by rw [List.length_take]; omega
    repeat (first
    | (apply s_a TY; exact rfl)
    | apply w_region
    | apply s_nil
    | apply k_norm
    | apply w_block
    | (apply s_store TY; exact rfl; exact rfl; exact rfl; exact rfl; exact rfl; exact rfl)
    | (apply s_append TY; exact rfl; exact rfl; exact rfl; exact rfl; exact rfl; exact rfl; exact rfl; exact rfl; exact rfl; (unfold maxLen; omega); omega))
    exact ⟨trivial, gh_le ⟨le_nil _, le_hupd (row_tkRng hkL) trivial (le_hupd rfl (fun y hy => by simp at hy; subst hy; first | trivial | rfl) (le_h0 _ _))⟩⟩
  intro _
  rw [List.take_length]
  repeat (first
    | (apply s_a TY; exact rfl)
    | apply w_seq
    | apply w_region
    | apply s_nil
    | apply t_norm
    | apply k_norm
    | apply w_ret)
  exact lvG_ret (gh_one 1 4 rfl rfl) (rg1 rfl (rv_tmp rfl))
set_option maxRecDepth 100000 in
theorem collect_g (L : List Rng) (h60 : L.length < 1000000) : SummG Tryz.prog GG 160 [] [.f (.fn 162 [.pt [.sl L.length (rngsF L)] 0])] (.ow 0) [.row 65 2 L.length (rngsF L)] := by
  refine summG_of Tryz.func160 rfl rfl 5 rfl (by simp) (by simp) (fun i B B' h1 h2 => by simp at h1) (fun M X J => ?_)
  repeat (first
    | (apply s_a TY; exact rfl)
    | apply w_seq
    | apply w_region
    | apply s_nil
    | apply t_norm
    | apply w_ret
    | (apply s_callG [] (appendSeq_g L h60); exact rfl; exact rfl; exact rfl; exact trivial; exact rfl; (first | exact ⟨rfl, rfl⟩ | exact ⟨⟨rfl, rfl⟩, ⟨rfl, rfl⟩⟩ | exact ⟨⟨rfl, rfl⟩, ⟨rfl, rfl⟩, ⟨rfl, rfl⟩⟩)))
  exact lvG_ret (gh_one 0 2 rfl rfl) (rg1 rfl (rv_tmp rfl))
set_option maxRecDepth 100000 in
theorem sortedFunc_s (L : List Rng) (hb : LoOk L) (h60 : L.length < 1000000) : Summ Tryz.prog GG 128 [.fn 162 [.pt [.sl L.length (rngsF L)] 0], .fn 130 []] (.sl L.length (rngsF (sortRng L))) := by
  refine summW Tryz.func128 rfl rfl 12 rfl (by simp) (fun M0 => ?_)
  repeat (first
    | (refine s_ghost rfl (gh_arr 0 (cs := rngsF L) rfl rfl) ?_)
    | (apply s_callG [0] (sortFunc_s L hb h60); exact rfl; exact rfl; exact rfl; exact ⟨congrArg some (arr_ren _ _ _ _ _).symm, trivial⟩; exact rfl; exact ⟨rfl, rfl⟩)
    | (apply s_a TY; exact rfl)
    | apply w_seq
    | apply w_region
    | apply s_nil
    | apply t_norm
    | apply w_ret
    | (apply s_callG [] (collect_g L h60); exact rfl; exact rfl; exact rfl; exact trivial; exact rfl; (first | exact ⟨rfl, rfl⟩ | exact ⟨⟨rfl, rfl⟩, ⟨rfl, rfl⟩⟩ | exact ⟨⟨rfl, rfl⟩, ⟨rfl, rfl⟩, ⟨rfl, rfl⟩⟩)))
  exact lv_ret (ret_gh (gh_trans (gh_trans (b := _) (c := ⟨(Ab.upd (fun _ => .bot) 4 (.ow 0)), (Ab.upd (fun _ => none) 0 (some (.row 65 2 L.length (rngsF (sortRng L))))), 1⟩) (gh_unarr 0 (e := 65) (sz := 2) (n := L.length) (cs := rngsF (sortRng L)) (congrArg some (arr_ren _ _ _ _ _))) (gh_le ⟨le_upd rfl rfl (le_nil _), le_hupd rfl trivial (le_h0 _ _)⟩)) (gh_row 0 rfl)) (ret1 rfl (res_tmp rfl)))
end Go.Proofs.YtdmdpkoapllkkaaGreat
namespace Go.Proofs.YtdmdpkoapllkkaaGreat
open Go Go.RowKit Go.Proofs Go.Shelf Go.Ab
def mrg (o : List Rng) (r : Rng) : List Rng := match o.getLast? with
  | some x => if r.lo ≤ x.hi + 1 then o.dropLast ++ [⟨x.lo, max x.hi r.hi⟩] else o ++ [r]
  | none => [r]
def mergeV (l : List Rng) : List Rng := l.foldl mrg []
def joinedV (l : List Rng) : List Rng := mergeV (sortRng l)
theorem mrg_nil (r : Rng) : mrg [] r = [r] := rfl
theorem mrg_snoc (pre : List Rng) (x r : Rng) : mrg (pre ++ [x]) r = if r.lo ≤ x.hi + 1 then pre ++ [⟨x.lo, max x.hi r.hi⟩] else pre ++ [x] ++ [r] := by
  unfold mrg; simp
theorem mrg_len (o : List Rng) (r : Rng) : (mrg o r).length ≤ o.length + 1 := by
  rcases List.eq_nil_or_concat o with rfl | ⟨pre, x, rfl⟩
  · simp [mrg_nil]
  · rw [List.concat_eq_append, mrg_snoc]; split <;> simp
def mgK (l : List Rng) (k : Nat) : List Rng := (l.take k).foldl mrg []
theorem mgK_succ {l : List Rng} {k : Nat} (h : k < l.length) : mgK l (k + 1) = mrg (mgK l k) l[k] := by
  unfold mgK; rw [List.take_succ_eq_append_getElem h, List.foldl_append]; rfl
theorem mgK_all (l : List Rng) : mgK l l.length = mergeV l := by unfold mgK mergeV; rw [List.take_length]
theorem mgK_len (l : List Rng) : ∀ k, (mgK l k).length ≤ k
  | 0 => by simp [mgK]
  | k + 1 => by
    by_cases h : k < l.length
    · rw [mgK_succ h]
      have := mrg_len (mgK l k) l[k]
      have := mgK_len l k
      omega
    · have : mgK l (k + 1) = mgK l k := by unfold mgK; rw [List.take_of_length_le (by omega), List.take_of_length_le (by omega)]
      rw [this]; have := mgK_len l k; omega
def HiOk (l : List Rng) : Prop := ∀ r, r ∈ l → -1152921504606846976 ≤ r.hi ∧ r.hi ≤ 1152921504606846976
theorem mrg_hi {o : List Rng} {r : Rng} (h : HiOk o) (hr : -1152921504606846976 ≤ r.hi ∧ r.hi ≤ 1152921504606846976) : HiOk (mrg o r) := by
  rcases List.eq_nil_or_concat o with rfl | ⟨pre, x, rfl⟩
  · intro y hy; simp [mrg_nil] at hy; subst hy; exact hr
  · rw [List.concat_eq_append] at *
    have hx := h x (by simp)
    intro y hy
    rw [mrg_snoc] at hy
    split at hy
    · simp at hy
      rcases hy with hy | rfl
      · exact h y (by simp [hy])
      · show _ ≤ max x.hi r.hi ∧ max x.hi r.hi ≤ _
        omega
    · simp at hy
      rcases hy with hy | rfl | rfl
      · exact h y (by simp [hy])
      · exact hx
      · exact hr
theorem mgK_hi {l : List Rng} (h : HiOk l) : ∀ k, HiOk (mgK l k)
  | 0 => fun r hr => by simp [mgK] at hr
  | k + 1 => by
    by_cases hk : k < l.length
    · rw [mgK_succ hk]; exact mrg_hi (mgK_hi h k) (h _ (List.getElem_mem hk))
    · have : mgK l (k + 1) = mgK l k := by unfold mgK; rw [List.take_of_length_le (by omega), List.take_of_length_le (by omega)]
      rw [this]; exact mgK_hi h k
set_option maxRecDepth 100000 in
theorem values_s (L : List Rng) : Summ Tryz.prog GG 129 [.sl L.length (rngsF L)] (.fn 162 [.pt [.sl L.length (rngsF L)] 0]) := by
  refine summW Tryz.func129 rfl rfl 4 rfl (by simp) (fun M0 => ?_)
  repeat (first
    | (apply s_a TY; exact rfl)
    | (apply s_makefn; exact rfl; exact rfl)
    | apply w_seq
    | apply w_region
    | apply s_nil
    | apply t_norm
    | apply w_ret)
  exact lv_ret (ret1 rfl (res_tmp rfl))
theorem rowR (a b : List Rng) (h : a = b) : some (Blk.row 65 2 a.length (rngsF a)) = some (Blk.row 65 2 b.length (rngsF b)) := by rw [h]
theorem rngs_setHi {L : List Rng} (pre : List Rng) (x : Rng) {o : Nat} (ho : o = pre.length) (z : Int) (h : L = pre ++ [⟨x.lo, z⟩]) : some (Blk.row 65 2 (pre.length + 1) (setAt (rngsF (pre ++ [x])) (o * 2 + 1) [iv z])) = some (Blk.row 65 2 L.length (rngsF L)) := by
  subst ho; subst h
  have : setAt (rngsF (pre ++ [x])) (pre.length * 2 + 1) [iv z] = rngsF (pre ++ [⟨x.lo, z⟩]) := by
    rw [rngsF_snoc, rngsF_snoc]
    show ((rngsF pre ++ rngF x).set (pre.length * 2 + 1) (iv z)) = _
    rw [List.set_append_right _ _ (by rw [rngsF_len]; omega), rngsF_len, show pre.length * 2 + 1 - pre.length * 2 = 1 by omega]
    rfl
  rw [this, List.length_append]; rfl
theorem row_app2 {L a : List Rng} {r : Rng} (h : L = a ++ [r]) : some (Blk.row 65 2 (a.length + 1) (rngsF a ++ rngF r)) = some (Blk.row 65 2 L.length (rngsF L)) := by
  rw [h, rngsF_snoc, List.length_append]; rfl
theorem row_app3 {L pre : List Rng} {x r : Rng} (h : L = pre ++ [x] ++ [r]) : some (Blk.row 65 2 (pre.length + 1 + 1) (rngsF (pre ++ [x]) ++ rngF r)) = some (Blk.row 65 2 L.length (rngsF L)) := by
  rw [h, rngsF_snoc (pre ++ [x]) r, List.length_append, List.length_append]; rfl
set_option maxRecDepth 100000 in
set_option maxHeartbeats 1600000 in
theorem joined_s (l : List Rng) (hb : LoOk l) (hh : HiOk l) (h60 : l.length < 1000000) : Summ Tryz.prog GG 82 [.sl l.length (rngsF l)] (.sl (joinedV l).length (rngsF (joinedV l))) := by
  have hsl := sortRng_len l
  have hlo : LoOk (sortRng l) := fun r hr => hb r ((sortRng_perm l).mem_iff.1 hr)
  have hhi : HiOk (sortRng l) := fun r hr => hh r ((sortRng_perm l).mem_iff.1 hr)
  have HS : Summ Tryz.prog GG 128 [.fn 162 [.pt [.sl l.length (rngsF l)] 0], .fn 130 []] (.sl (sortRng l).length (rngsF (sortRng l))) := by
    rw [hsl]; exact sortedFunc_s l hb h60
  refine summW Tryz.func82 rfl rfl 52 rfl (by simp) (fun M0 => ?_)
  repeat (first
    | (apply s_a TY; exact rfl)
    | apply w_seq
    | apply w_region
    | apply s_nil
    | apply t_norm
    | apply w_block
    | (apply s_k (values_s l); exact rfl)
    | (apply s_k (HS); exact rfl))
  apply w_gh (gh_own 3 65 2 rfl rfl)
  apply w_loop (fun k : Nat => ⟨(Ab.upd (Ab.upd (Ab.upd (Ab.upd (fun _ => .bot) 3 (.ow 0)) 10 (.f (.sl (sortRng l).length (rngsF (sortRng l))))) 11 (.f (iv (sortRng l).length))) 12 (.f (iv (k : Nat)))), (Ab.upd (fun _ => none) 0 (some (.row 65 2 (mgK (sortRng l) k).length (rngsF (mgK (sortRng l) k))))), 1⟩) (fun k => k ≤ (sortRng l).length) (fun k => (sortRng l).length - k) 0 (Nat.zero_le _) (gh_le ⟨le_upd rfl trivial (le_upd rfl trivial (le_upd rfl trivial (le_upd rfl rfl (le_nil _)))), le_hupd rfl trivial (le_h0 _ _)⟩)
  intro k hk
  by_cases hc : k < (sortRng l).length
  · have hs := mgK_succ hc
    have hlk := mgK_len (sortRng l) k
    have hhk := mgK_hi hhi k
    have h1 := hlo _ (List.getElem_mem hc)
    have h2 := hhi _ (List.getElem_mem hc)
    rcases List.eq_nil_or_concat (mgK (sortRng l) k) with e | ⟨pre, x, e⟩
    · rw [e, mrg_nil] at hs
      rw [e]
      have hn0 : ([] : List Rng).length = 0 := rfl
      repeat (first
    | (apply s_a TY; exact rfl)
    | (apply s_t; exact rfl; (first | assumption | omega))
    | (apply s_f; exact rfl; (first | assumption | omega))
    | apply w_seq
    | apply w_region
    | (apply w_draw (id := 7) 12 rfl (by kernel_rfl))
    | apply s_nil
    | apply t_norm
    | apply k_norm
    | apply w_block
    | apply w_skip
    | (apply w_condT; exact rfl; exact rfl)
    | (apply w_condF; exact rfl; exact rfl)
    | (apply s_s; exact rfl)
    | (apply s_c TY; exact rfl; (first | omega | exact ⟨by omega, by (first | with_reducible assumption | ((with_reducible apply rngsF_ne); omega) | assumption)⟩))
    | (apply s_m TY; exact rfl; (first | with_reducible assumption | ((with_reducible apply rngsF_sub); omega) | exact rfl); exact rfl)
    | (apply s_alloc TY; exact rfl; exact rfl; exact rfl)
    | (apply s_store TY; exact rfl; exact rfl; exact rfl; exact rfl; exact rfl; exact rfl)
    | (apply s_append TY; exact rfl; exact rfl; exact rfl; exact rfl; exact rfl; exact rfl; exact rfl; exact rfl; exact rfl; (unfold maxLen; omega); omega))
      exact ⟨k + 1, by omega, by omega, gh_le ⟨le_upd rfl trivial (le_upd rfl trivial (le_upd rfl trivial (le_upd rfl rfl (le_nil _)))), le_hupd ((rowR _ _ hs).symm) trivial (le_h0 _ _)⟩⟩
    · rw [List.concat_eq_append] at e
      rw [e, mrg_snoc] at hs
      rw [e] at hlk hhk ⊢
      have h3 := hhk x (by simp)
      have hpl : (pre ++ [x]).length = pre.length + 1 := by simp
      have hat : (rngsF (pre ++ [x]))[(((pre.length + 1 : Nat) : Int) - 1).toNat * 2 + 1]? = some (iv x.hi) := by
        rw [show (((pre.length + 1 : Nat) : Int) - 1).toNat = pre.length by omega, rngsF_f1 (show pre.length < (pre ++ [x]).length by omega)]
        simp
      rw [hpl]
      by_cases hj : (sortRng l)[k].lo ≤ x.hi + 1
      · rw [if_pos hj] at hs
        have hrl : (rngsF (pre ++ [x])).length = (pre.length + 1) * 2 := by rw [rngsF_len, hpl]
        repeat (first
    | (apply s_storeR TY; exact rfl; exact rfl; exact rfl; exact rfl; exact rfl; (show _ + 1 ≤ _; omega))
    | (apply s_a TY; exact rfl)
    | (apply s_t; exact rfl; (first | assumption | omega))
    | apply w_seq
    | apply w_region
    | (apply w_draw (id := 7) 12 rfl (by kernel_rfl))
    | (apply w_draw (id := 8) 12 rfl (by kernel_rfl))
    | apply s_nil
    | apply t_norm
    | apply t_exit
    | apply k_hit
    | apply w_block
    | apply w_exit
    | apply w_skip
    | (apply w_condT; exact rfl; exact rfl)
    | (apply s_c TY; exact rfl; (first | omega | exact ⟨by omega, by (first | with_reducible assumption | ((with_reducible apply rngsF_ne); omega) | assumption)⟩))
    | (apply s_z TY; exact rfl; (first | omega | exact ⟨by omega, by (first | with_reducible assumption | ((with_reducible apply rngsF_ne); omega) | assumption)⟩))
    | (apply s_m TY; exact rfl; (first | with_reducible assumption | ((with_reducible apply rngsF_sub); omega) | exact rfl); exact rfl)
    | (apply s_r TY; exact rfl; (first | exact rfl | with_reducible assumption | ((with_reducible apply rngsF_f0); omega) | ((with_reducible apply rngsF_f1); omega) | assumption))
    | (apply s_alloc TY; exact rfl; exact rfl; exact rfl)
    | (apply s_store TY; exact rfl; exact rfl; exact rfl; exact rfl; exact rfl; exact rfl))
        exact ⟨k + 1, by omega, by omega, gh_le ⟨le_upd rfl trivial (le_upd rfl trivial (le_upd rfl trivial (le_upd rfl rfl (le_nil _)))), le_hupd ((rngs_setHi pre x (show (((pre.length + 1 : Nat) : Int) - 1).toNat = pre.length by omega) _ hs)) trivial (le_h0 _ _)⟩⟩
      · rw [if_neg hj] at hs
        repeat (first
    | (apply s_a TY; exact rfl)
    | (apply s_t; exact rfl; (first | assumption | omega))
    | (apply s_f; exact rfl; (first | assumption | omega))
    | apply w_seq
    | apply w_region
    | (apply w_draw (id := 7) 12 rfl (by kernel_rfl))
    | apply s_nil
    | apply t_norm
    | apply k_norm
    | apply w_block
    | apply w_skip
    | (apply w_condT; exact rfl; exact rfl)
    | (apply w_condF; exact rfl; exact rfl)
    | (apply s_c TY; exact rfl; (first | omega | exact ⟨by omega, by (first | with_reducible assumption | ((with_reducible apply rngsF_ne); omega) | assumption)⟩))
    | (apply s_z TY; exact rfl; (first | omega | exact ⟨by omega, by (first | with_reducible assumption | ((with_reducible apply rngsF_ne); omega) | assumption)⟩))
    | (apply s_m TY; exact rfl; (first | with_reducible assumption | ((with_reducible apply rngsF_sub); omega) | exact rfl); exact rfl)
    | (apply s_r TY; exact rfl; (first | exact rfl | with_reducible assumption | ((with_reducible apply rngsF_f0); omega) | ((with_reducible apply rngsF_f1); omega) | assumption))
    | (apply s_alloc TY; exact rfl; exact rfl; exact rfl)
    | (apply s_store TY; exact rfl; exact rfl; exact rfl; exact rfl; exact rfl; exact rfl)
    | (apply s_append TY; exact rfl; exact rfl; exact rfl; exact rfl; exact rfl; exact rfl; exact rfl; exact rfl; exact rfl; (unfold maxLen; omega); omega))
        exact ⟨k + 1, by omega, by omega, gh_le ⟨le_upd rfl trivial (le_upd rfl trivial (le_upd rfl trivial (le_upd rfl rfl (le_nil _)))), le_hupd (row_app3 hs) trivial (le_h0 _ _)⟩⟩
  · have hke : k = (sortRng l).length := by omega
    subst hke
    rw [mgK_all]
    repeat (first
    | (apply s_a TY; exact rfl)
    | (apply s_f; exact rfl; (first | assumption | omega))
    | apply w_seq
    | apply w_region
    | apply s_nil
    | apply t_norm
    | apply t_exit
    | apply k_hit
    | apply w_exit
    | apply w_ret
    | (apply w_condF; exact rfl; exact rfl))
    exact lv_ret (ret_gh (gh_row 0 rfl) (ret1 rfl (res_tmp rfl)))
end Go.Proofs.YtdmdpkoapllkkaaGreat
namespace Go.Proofs.YtdmdpkoapllkkaaGreat
open Go Go.RowKit Go.Proofs Go.Shelf Go.Ab
structure SetOk (s : Setup) : Prop where
  pos : 1 ≤ s.rules.length
  len : s.rules.length ≤ 4
  rule : ∀ k (hk : k < s.rules.length), ruleErr s.rules[k] = 0
  before : 0 ≤ s.before ∧ s.before ≤ 1000000
  after : 0 ≤ s.after ∧ s.after ≤ 1000000
  dead : 0 ≤ s.dead ∧ s.dead ≤ 1000000
theorem setOk_of {s : Setup} (h : (setupChk s).2 = 0) : SetOk s := by
  have hn : ¬ s.rules.length = 0 := fun hn => by unfold setupChk at h; rw [if_pos hn] at h; cases h
  have h4 : ¬ 4 < s.rules.length := fun h3 => by unfold setupChk at h; rw [if_neg hn, if_pos h3] at h; cases h
  unfold setupChk at h
  rw [if_neg hn, if_neg h4] at h
  rcases eachE_cases s.rules.length (fun i => ruleErr (s.rules.getD i default)) with ⟨he, hz⟩ | ⟨q, _, _, hne, he⟩
  · rw [he] at h
    simp only [ne_eq, not_true_eq_false, if_false] at h
    by_cases hb : ¬ (0 ≤ s.before ∧ s.before ≤ 1000000) ∨ ¬ (0 ≤ s.after ∧ s.after ≤ 1000000) ∨ ¬ (0 ≤ s.dead ∧ s.dead ≤ 1000000)
    · rw [if_pos hb] at h; cases h
    · exact ⟨by omega, by omega, fun k hk => by have := hz k hk; rwa [getD_at hk] at this, by omega, by omega, by omega⟩
  · rw [he, if_pos hne] at h; exact absurd h hne
theorem minA_mem {P : Int → Prop} {acc : Option Int} {z e : Int} (ha : ∀ x, acc = some x → P x) (hz : P z) (h : minA acc z = some e) : P e := by
  unfold minA at h
  split at h
  · cases h; exact hz
  · split at h
    · cases h; exact hz
    · cases h; exact ha _ rfl
theorem endA_mem {P : Int → Prop} {h : List Hit} : ∀ {l : List Nat} {acc : Option Int} {e : Int}, (∀ x, acc = some x → P x) → (∀ k, k ∈ l → P (h.getD k default).tm) → endA h acc l = some e → P e
  | [], _, e, ha, _, he => ha e he
  | k :: l, _, _, ha, hl, he => endA_mem (l := l) (fun _ hx => minA_mem ha (hl k (List.mem_cons_self ..)) hx) (fun q hq => hl q (List.mem_cons_of_mem _ hq)) he
theorem accW_mem {r : Rule} {h : List Hit} {a : Nat} (ha : a < h.length) : ∀ {q : Nat} {e : Int}, accW r h a q = some e → ∃ k, k < h.length ∧ e = (h.getD k default).tm
  | 0, e, he => by cases he
  | q + 1, e, he => endA_mem (P := fun e => ∃ k, k < h.length ∧ e = (h.getD k default).tm) (fun x hx => accW_mem ha hx) (fun k hk => ⟨k, layL_lt ha hk, rfl⟩) he
theorem fireL_mem {nr : Hit → Bool} {t0 w : Int} : ∀ {l : List Hit} {left e : Int}, fireL nr t0 w left l = some e → ∃ x, x ∈ l ∧ e = x.tm
  | [], _, _, h => by cases h
  | x :: l, left, e, h => by
    unfold fireL at h
    by_cases h1 : w < x.tm - t0
    · rw [if_pos h1] at h; cases h
    · rw [if_neg h1] at h
      generalize (if nr x = true then left - 1 else left) = lf at h
      by_cases h2 : lf = 0
      · rw [if_pos h2] at h; cases h; exact ⟨x, List.mem_cons_self .., rfl⟩
      · rw [if_neg h2] at h
        obtain ⟨y, hy, he⟩ := fireL_mem h
        exact ⟨y, List.mem_cons_of_mem _ hy, he⟩
theorem fireV_mem {l : List Site} {r : Rule} {h : List Hit} {a : Nat} {e : Int} (ha : a < h.length) (he : fireV l r h a = some e) : ∃ k, k < h.length ∧ e = (h.getD k default).tm := by
  unfold fireV at he
  split at he
  · exact accW_mem ha he
  · obtain ⟨x, hx, e⟩ := fireL_mem he
    obtain ⟨k, hk, hkx⟩ := List.getElem_of_mem (List.mem_of_mem_drop hx)
    exact ⟨k, hk, by rw [e, getD_at hk, hkx]⟩
theorem firesV_mem {l : List Site} {r : Rule} {h : List Hit} {n : Nat} {f : Fire} (hf : f ∈ firesV l r h n) : ∃ i e, i < n ∧ fireV l r h i = some e ∧ f = ⟨i, (h.getD i default).tm, e⟩ := by
  unfold firesV at hf
  obtain ⟨i, hi, hm⟩ := List.mem_filterMap.1 hf
  cases he : fireV l r h i with
  | none => rw [he] at hm; cases hm
  | some e => rw [he] at hm; simp at hm; exact ⟨i, e, List.mem_range.1 hi, he, hm.symm⟩
theorem firesV_bd {l : List Site} {r : Rule} {h : List Hit} (ho : HitsOk l h) {n : Nat} (hn : n ≤ h.length) {f : Fire} (hf : f ∈ firesV l r h n) : (0 ≤ f.lo ∧ f.lo ≤ 1000000000000) ∧ (0 ≤ f.hi ∧ f.hi ≤ 1000000000000) := by
  obtain ⟨i, e, hi, he, rfl⟩ := firesV_mem hf
  obtain ⟨k, hk, rfl⟩ := fireV_mem (by omega) he
  have a := (ho.hit i (by omega)).tm
  have b := (ho.hit k hk).tm
  rw [getD_at (show i < h.length by omega), getD_at hk]
  exact ⟨a, b⟩
def winF (s : Setup) (f : Fire) : Rng := ⟨f.lo - s.before, f.hi + s.after⟩
def winsR (l : List Site) (s : Setup) (h : List Hit) (r : Rule) : List Rng := (firesV l r h h.length).map (winF s)
def singleV (l : List Site) (s : Setup) (h : List Hit) : List Rng := s.rules.flatMap (winsR l s h)
def singK (l : List Site) (s : Setup) (h : List Hit) (k : Nat) : List Rng := (s.rules.take k).flatMap (winsR l s h)
theorem singK_succ {l : List Site} {s : Setup} {h : List Hit} {k : Nat} (hk : k < s.rules.length) : singK l s h (k + 1) = singK l s h k ++ winsR l s h s.rules[k] := by
  unfold singK; rw [List.take_succ_eq_append_getElem hk, List.flatMap_append]; simp
theorem winsR_len (l : List Site) (s : Setup) (h : List Hit) (r : Rule) : (winsR l s h r).length ≤ h.length := by
  unfold winsR; rw [List.length_map]; exact firesV_len l r h h.length
theorem singK_len (l : List Site) (s : Setup) (h : List Hit) : ∀ k, (singK l s h k).length ≤ k * h.length
  | 0 => by simp [singK]
  | k + 1 => by
    by_cases hk : k < s.rules.length
    · rw [singK_succ hk, List.length_append, Nat.add_mul]
      have := singK_len l s h k
      have := winsR_len l s h s.rules[k]
      omega
    · have : singK l s h (k + 1) = singK l s h k := by unfold singK; rw [List.take_of_length_le (by omega), List.take_of_length_le (by omega)]
      rw [this, Nat.add_mul]; have := singK_len l s h k; omega
theorem singK_all (l : List Site) (s : Setup) (h : List Hit) : singK l s h s.rules.length = singleV l s h := by unfold singK singleV; rw [List.take_length]
theorem singleV_bd {l : List Site} {s : Setup} {h : List Hit} (hs : SetOk s) (ho : HitsOk l h) {w : Rng} (hw : w ∈ singleV l s h) : (-1000000 ≤ w.lo ∧ w.lo ≤ 1000000000000) ∧ (0 ≤ w.hi ∧ w.hi ≤ 1000001000000) := by
  obtain ⟨r, _, hr⟩ := List.mem_flatMap.1 hw
  obtain ⟨f, hf, rfl⟩ := List.mem_map.1 hr
  have := firesV_bd ho (Nat.le_refl _) hf
  have b := hs.before
  have c := hs.after
  unfold winF
  simp only
  omega
def hitsInN (h : List Hit) (w : Rng) (n : Nat) : List Int := natsL ((List.range n).filter fun i => withinB (h.getD i default).tm w.lo w.hi)
def hitsInV (h : List Hit) (w : Rng) : List Int := hitsInN h w h.length
theorem hitsInN_succ (h : List Hit) (w : Rng) (n : Nat) : hitsInN h w (n + 1) = hitsInN h w n ++ (if withinB (h.getD n default).tm w.lo w.hi = true then [(n : Int)] else []) := by
  unfold hitsInN natsL
  rw [List.range_succ, List.filter_append, List.map_append]
  congr 1
  cases e : withinB (h.getD n default).tm w.lo w.hi with
  | true => simp only [List.filter, e, if_true]; rfl
  | false => simp only [List.filter, e]; rfl
theorem hitsInN_len (h : List Hit) (w : Rng) (n : Nat) : (hitsInN h w n).length ≤ n := by
  unfold hitsInN natsL
  rw [List.length_map]
  exact Nat.le_trans (List.length_filter_le _ _) (by simp)
theorem rowI (a b : List Int) (h : a = b) : some (Blk.row 3 1 a.length (intsF a)) = some (Blk.row 3 1 b.length (intsF b)) := by rw [h]
theorem rowI_app {L a : List Int} {z : Int} (h : L = a ++ [z]) : some (Blk.row 3 1 (a.length + 1) (intsF a ++ [iv z])) = some (Blk.row 3 1 L.length (intsF L)) := by
  rw [h, intsF_snoc, List.length_append]; rfl
set_option maxRecDepth 100000 in
set_option maxHeartbeats 1600000 in
theorem hitsIn_s (h : List Hit) (w : Rng) (hh : h.length ≤ 1000000) : Summ Tryz.prog GG 81 [.sl h.length (hitsF h), .agg (rngF w)] (.sl (hitsInV h w).length (intsF (hitsInV h w))) := by
  unfold hitsInV
  refine summW Tryz.func81 rfl rfl 28 rfl (by simp) (fun M0 => ?_)
  repeat (first
    | (apply s_a TY; exact rfl)
    | apply w_seq
    | apply w_region
    | apply s_nil
    | apply t_norm
    | apply w_block)
  apply w_gh (gh_own 5 3 1 rfl rfl)
  apply w_loop (fun k : Nat => ⟨(Ab.upd (Ab.upd (Ab.upd (Ab.upd (Ab.upd (Ab.upd (fun _ => .bot) 0 (.f (.sl h.length (hitsF h)))) 3 (.f (.pt (rngF w) 0))) 5 (.ow 0)) 8 (.f (.sl h.length (hitsF h)))) 9 (.f (iv h.length))) 10 (.f (iv (k : Nat)))), (Ab.upd (fun _ => none) 0 (some (.row 3 1 (hitsInN h w k).length (intsF (hitsInN h w k))))), 1⟩) (fun k => k ≤ h.length) (fun k => h.length - k) 0 (Nat.zero_le _) (gh_le ⟨le_upd rfl trivial (le_upd rfl trivial (le_upd rfl trivial (le_upd rfl rfl (le_upd rfl trivial (le_upd rfl trivial (le_nil _)))))), le_hupd rfl trivial (le_h0 _ _)⟩)
  intro k hk
  have hln := hitsInN_len h w k
  by_cases hc : k < h.length
  · have hs := hitsInN_succ h w k
    have HW := within_s h[k].tm w.lo w.hi
    rw [getD_at hc] at hs
    cases hv : withinB h[k].tm w.lo w.hi with
    | true =>
      rw [hv] at hs HW
      rw [if_pos rfl] at hs
      repeat (first
    | (apply s_a TY; exact rfl)
    | (apply s_t; exact rfl; (first | assumption | omega))
    | apply w_seq
    | apply w_region
    | apply s_nil
    | apply t_norm
    | apply k_norm
    | apply w_block
    | apply w_skip
    | (apply w_condT; exact rfl; exact rfl)
    | (apply s_k (HW); exact rfl)
    | (apply s_c TY; exact rfl; (first | omega | exact ⟨by omega, by (first | with_reducible assumption | ((with_reducible apply hitsF_ne); omega) | assumption)⟩))
    | (apply s_m TY; exact rfl; (first | with_reducible assumption | ((with_reducible apply hitsF_sub); omega) | exact rfl); exact rfl)
    | (apply s_alloc TY; exact rfl; exact rfl; exact rfl)
    | (apply s_store TY; exact rfl; exact rfl; exact rfl; exact rfl; exact rfl; exact rfl)
    | (apply s_append TY; exact rfl; exact rfl; exact rfl; exact rfl; exact rfl; exact rfl; exact rfl; exact rfl; exact rfl; (unfold maxLen; omega); omega))
      exact ⟨k + 1, by omega, by omega, gh_le ⟨le_upd rfl trivial (le_upd rfl trivial (le_upd rfl trivial (le_upd rfl rfl (le_upd rfl trivial (le_upd rfl trivial (le_nil _)))))), le_hupd (rowI_app hs) trivial (le_h0 _ _)⟩⟩
    | false =>
      rw [hv] at hs HW
      rw [if_neg (by decide), List.append_nil] at hs
      repeat (first
    | (apply s_a TY; exact rfl)
    | (apply s_t; exact rfl; (first | assumption | omega))
    | apply w_seq
    | apply w_region
    | apply s_nil
    | apply t_norm
    | apply k_norm
    | apply w_block
    | apply w_skip
    | (apply w_condT; exact rfl; exact rfl)
    | (apply w_condF; exact rfl; exact rfl)
    | (apply s_k (HW); exact rfl)
    | (apply s_c TY; exact rfl; (first | omega | exact ⟨by omega, by (first | with_reducible assumption | ((with_reducible apply hitsF_ne); omega) | assumption)⟩))
    | (apply s_m TY; exact rfl; (first | with_reducible assumption | ((with_reducible apply hitsF_sub); omega) | exact rfl); exact rfl)
    | (apply s_alloc TY; exact rfl; exact rfl; exact rfl)
    | (apply s_store TY; exact rfl; exact rfl; exact rfl; exact rfl; exact rfl; exact rfl))
      exact ⟨k + 1, by omega, by omega, gh_le ⟨le_upd rfl trivial (le_upd rfl trivial (le_upd rfl trivial (le_upd rfl rfl (le_upd rfl trivial (le_upd rfl trivial (le_nil _)))))), le_hupd (rowI _ _ hs.symm) trivial (le_h0 _ _)⟩⟩
  · have hke : k = h.length := by omega
    subst hke
    repeat (first
    | (apply s_a TY; exact rfl)
    | (apply s_f; exact rfl; (first | assumption | omega))
    | apply w_seq
    | apply w_region
    | apply s_nil
    | apply t_norm
    | apply t_exit
    | apply k_hit
    | apply w_exit
    | apply w_ret
    | (apply w_condF; exact rfl; exact rfl))
    exact lv_ret (ret_gh (gh_row 0 rfl) (ret1 rfl (res_tmp rfl)))
set_option maxRecDepth 100000 in
set_option maxHeartbeats 1600000 in
theorem single_s (l : List Site) (s : Setup) (h : List Hit) (hs : SetOk s) (hl0 : ArrOk l) (ho : HitsOk l h) : Summ Tryz.prog GG 77 [readoutV l s, .sl h.length (hitsF h)] (.sl (singleV l s h).length (rngsF (singleV l s h))) := by
  have h40 := ho.len
  have hs4 := hs.len
  have hsb := hs.before
  have hsa := hs.after
  unfold readoutV setL
  refine summW Tryz.func77 rfl rfl 49 rfl (by simp) (fun M0 => ?_)
  repeat (first
    | (apply s_a TY; exact rfl)
    | apply w_seq
    | apply w_region
    | apply s_nil
    | apply t_norm
    | apply w_block)
  apply w_gh (gh_own 5 65 2 rfl rfl)
  apply w_loop (fun k : Nat => ⟨(Ab.upd (Ab.upd (Ab.upd (Ab.upd (Ab.upd (Ab.upd (fun _ => .bot) 1 (.f (.sl h.length (hitsF h)))) 2 (.f (.pt [.sl l.length (sitesF l), .mp (mapS l l.length), .sl s.rules.length (rulesF s.rules), iv s.before, iv s.after, iv s.dead] 0))) 5 (.ow 0)) 12 (.f (.sl s.rules.length (rulesF s.rules)))) 13 (.f (iv s.rules.length))) 14 (.f (iv (k : Nat)))), (Ab.upd (fun _ => none) 0 (some (.row 65 2 (singK l s h k).length (rngsF (singK l s h k))))), 1⟩) (fun k => k ≤ s.rules.length) (fun k => s.rules.length - k) 0 (Nat.zero_le _) (gh_le ⟨le_upd rfl trivial (le_upd rfl trivial (le_upd rfl trivial (le_upd rfl rfl (le_upd rfl trivial (le_upd rfl trivial (le_nil _)))))), le_hupd rfl trivial (le_h0 _ _)⟩)
  intro k hk
  by_cases hc : k < s.rules.length
  · have HF := fires_s l s.rules[k] h (hs.rule k hc) hl0 ho
    have hsk := singK_len l s h k
    have hfl := firesV_len l s.rules[k] h h.length
    have hks : k * h.length ≤ 4 * h.length := Nat.mul_le_mul_right _ (by omega)
    repeat (first
    | (apply s_a TY; exact rfl)
    | (apply s_t; exact rfl; (first | assumption | omega))
    | apply w_seq
    | apply w_region
    | apply s_nil
    | apply t_norm
    | apply w_block
    | apply w_skip
    | (apply w_condT; exact rfl; exact rfl)
    | (apply s_k (HF); exact rfl)
    | (apply s_c TY; exact rfl; (first | omega | exact ⟨by omega, by (first | with_reducible assumption | ((with_reducible apply firesF_ne); omega) | ((with_reducible apply rulesF_ne); omega) | assumption)⟩))
    | (apply s_m TY; exact rfl; (first | with_reducible assumption | ((with_reducible apply firesF_sub); omega) | ((with_reducible apply rulesF_sub); omega) | exact rfl); exact rfl)
    | (apply s_alloc TY; exact rfl; exact rfl; exact rfl)
    | (apply s_store TY; exact rfl; exact rfl; exact rfl; exact rfl; exact rfl; exact rfl))
    apply w_loop (fun j : Nat => ⟨(Ab.upd (Ab.upd (Ab.upd (Ab.upd (Ab.upd (Ab.upd (Ab.upd (Ab.upd (Ab.upd (fun _ => .bot) 1 (.f (.sl h.length (hitsF h)))) 2 (.f (.pt [.sl l.length (sitesF l), .mp (mapS l l.length), .sl s.rules.length (rulesF s.rules), iv s.before, iv s.after, iv s.dead] 0))) 5 (.ow 0)) 12 (.f (.sl s.rules.length (rulesF s.rules)))) 13 (.f (iv s.rules.length))) 14 (.f (iv (k : Nat)))) 22 (.f (.sl (firesV l s.rules[k] h h.length).length (firesF (firesV l s.rules[k] h h.length))))) 23 (.f (iv (firesV l s.rules[k] h h.length).length))) 24 (.f (iv (j : Nat)))), (Ab.upd (fun _ => none) 0 (some (.row 65 2 (singK l s h k ++ ((firesV l s.rules[k] h h.length).take j).map (winF s)).length (rngsF (singK l s h k ++ ((firesV l s.rules[k] h h.length).take j).map (winF s)))))), 1⟩) (fun j => j ≤ (firesV l s.rules[k] h h.length).length) (fun j => (firesV l s.rules[k] h h.length).length - j) 0 (Nat.zero_le _) (gh_le ⟨le_upd rfl trivial (le_upd rfl trivial (le_upd rfl trivial (le_upd rfl trivial (le_upd rfl trivial (le_upd rfl trivial (le_upd rfl rfl (le_upd rfl trivial (le_upd rfl trivial (le_nil _))))))))), le_hupd (rowR _ _ (by simp)) trivial (le_h0 _ _)⟩)
    intro j hj
    by_cases hd : j < (firesV l s.rules[k] h h.length).length
    · have hfb := firesV_bd (r := s.rules[k]) ho (Nat.le_refl _) (List.getElem_mem hd)
      have hol : (singK l s h k ++ ((firesV l s.rules[k] h h.length).take j).map (winF s)).length ≤ 1000 := by rw [List.length_append, List.length_map, List.length_take]; omega
      have htk : (singK l s h k ++ ((firesV l s.rules[k] h h.length).take (j + 1)).map (winF s)) = (singK l s h k ++ ((firesV l s.rules[k] h h.length).take j).map (winF s)) ++ [winF s (firesV l s.rules[k] h h.length)[j]] := by rw [List.take_succ_eq_append_getElem hd, List.map_append, List.append_assoc]; rfl
      repeat (first
    | (apply s_a TY; exact rfl)
    | (apply s_t; exact rfl; (first | assumption | omega))
    | apply w_seq
    | apply w_region
    | apply s_nil
    | apply t_norm
    | apply k_norm
    | apply w_block
    | apply w_skip
    | (apply w_condT; exact rfl; exact rfl)
    | (apply s_c TY; exact rfl; (first | omega | exact ⟨by omega, by (first | with_reducible assumption | ((with_reducible apply firesF_ne); omega) | ((with_reducible apply rulesF_ne); omega) | assumption)⟩))
    | (apply s_m TY; exact rfl; (first | with_reducible assumption | ((with_reducible apply firesF_sub); omega) | ((with_reducible apply rulesF_sub); omega) | exact rfl); exact rfl)
    | (apply s_alloc TY; exact rfl; exact rfl; exact rfl)
    | (apply s_store TY; exact rfl; exact rfl; exact rfl; exact rfl; exact rfl; exact rfl)
    | (apply s_append TY; exact rfl; exact rfl; exact rfl; exact rfl; exact rfl; exact rfl; exact rfl; exact rfl; exact rfl; (unfold maxLen; omega); omega))
      exact ⟨j + 1, by omega, by omega, gh_le ⟨le_upd rfl trivial (le_upd rfl trivial (le_upd rfl trivial (le_upd rfl trivial (le_upd rfl trivial (le_upd rfl trivial (le_upd rfl rfl (le_upd rfl trivial (le_upd rfl trivial (le_nil _))))))))), le_hupd (row_app2 htk) trivial (le_h0 _ _)⟩⟩
    · have hje : j = (firesV l s.rules[k] h h.length).length := by omega
      subst hje
      have hse : singK l s h (k + 1) = (singK l s h k ++ ((firesV l s.rules[k] h h.length).take (firesV l s.rules[k] h h.length).length).map (winF s)) := by rw [singK_succ hc, List.take_length]; rfl
      repeat (first
    | (apply s_a TY; exact rfl)
    | (apply s_f; exact rfl; (first | assumption | omega))
    | apply w_seq
    | apply w_region
    | apply s_nil
    | apply t_norm
    | apply t_exit
    | apply k_hit
    | apply k_norm
    | apply w_exit
    | (apply w_condF; exact rfl; exact rfl)
    | (apply s_c TY; exact rfl; (first | omega | exact ⟨by omega, by (first | with_reducible assumption | ((with_reducible apply firesF_ne); omega) | ((with_reducible apply rulesF_ne); omega) | assumption)⟩)))
      exact ⟨k + 1, by omega, by omega, gh_le ⟨le_upd rfl trivial (le_upd rfl trivial (le_upd rfl trivial (le_upd rfl rfl (le_upd rfl trivial (le_upd rfl trivial (le_nil _)))))), le_hupd (rowR _ _ hse.symm) trivial (le_h0 _ _)⟩⟩
  · have hke : k = s.rules.length := by omega
    subst hke
    rw [singK_all]
    repeat (first
    | (apply s_a TY; exact rfl)
    | (apply s_f; exact rfl; (first | assumption | omega))
    | apply w_seq
    | apply w_region
    | apply s_nil
    | apply t_norm
    | apply t_exit
    | apply k_hit
    | apply w_exit
    | apply w_ret
    | (apply w_condF; exact rfl; exact rfl))
    exact lv_ret (ret_gh (gh_row 0 rfl) (ret1 rfl (res_tmp rfl)))
end Go.Proofs.YtdmdpkoapllkkaaGreat
namespace Go.Proofs.YtdmdpkoapllkkaaGreat
open Go Go.RowKit Go.Proofs Go.Shelf Go.Ab
def windowsV (l : List Site) (s : Setup) (h : List Hit) : List Rng := joinedV (singleV l s h)
theorem single_lo {l : List Site} {s : Setup} {h : List Hit} (hs : SetOk s) (ho : HitsOk l h) : LoOk (singleV l s h) := fun r hr => by have := singleV_bd hs ho hr; omega
theorem single_hi {l : List Site} {s : Setup} {h : List Hit} (hs : SetOk s) (ho : HitsOk l h) : HiOk (singleV l s h) := fun r hr => by have := singleV_bd hs ho hr; omega
theorem single_len {l : List Site} {s : Setup} {h : List Hit} (hs : SetOk s) (ho : HitsOk l h) : (singleV l s h).length ≤ 160 := by
  have a := singK_len l s h s.rules.length
  rw [singK_all] at a
  have b := hs.len
  have c := ho.len
  have : s.rules.length * h.length ≤ 4 * 40 := Nat.mul_le_mul b c
  omega
theorem mergeV_len (l : List Rng) : (mergeV l).length ≤ l.length := by rw [← mgK_all]; exact mgK_len l _
theorem joinedV_len (l : List Rng) : (joinedV l).length ≤ l.length := by
  unfold joinedV
  have := mergeV_len (sortRng l)
  rwa [sortRng_len] at this
def evOf (h : List Hit) (w : Rng) : Ev := ⟨w.lo, w.hi, hitsInV h w⟩
def eventsV (l : List Site) (s : Setup) (h : List Hit) : List Ev := (windowsV l s h).map (evOf h)
def evK (l : List Site) (s : Setup) (h : List Hit) (k : Nat) : List Ev := ((windowsV l s h).take k).map (evOf h)
theorem evK_succ {l : List Site} {s : Setup} {h : List Hit} {k : Nat} (hk : k < (windowsV l s h).length) : evK l s h (k + 1) = evK l s h k ++ [evOf h (windowsV l s h)[k]] := by
  unfold evK; rw [List.take_succ_eq_append_getElem hk, List.map_append]; rfl
theorem evK_len (l : List Site) (s : Setup) (h : List Hit) (k : Nat) : (evK l s h k).length ≤ k := by unfold evK; rw [List.length_map, List.length_take]; omega
theorem evK_all (l : List Site) (s : Setup) (h : List Hit) : evK l s h (windowsV l s h).length = eventsV l s h := by unfold evK eventsV; rw [List.take_length]
set_option maxRecDepth 100000 in
theorem windows_s (l : List Site) (s : Setup) (h : List Hit) (hs : SetOk s) (hl0 : ArrOk l) (ho : HitsOk l h) : Summ Tryz.prog GG 133 [readoutV l s, .sl h.length (hitsF h)] (.sl (windowsV l s h).length (rngsF (windowsV l s h))) := by
  have h1 := single_len hs ho
  have HS := single_s l s h hs hl0 ho
  have HJ := joined_s (singleV l s h) (single_lo hs ho) (single_hi hs ho) (by omega)
  refine summW Tryz.func133 rfl rfl 9 rfl (by simp) (fun M0 => ?_)
  repeat (first
    | (apply s_a TY; exact rfl)
    | apply w_seq
    | apply w_region
    | apply s_nil
    | apply t_norm
    | apply w_ret
    | (apply s_k (HS); exact rfl)
    | (apply s_k (HJ); exact rfl))
  exact lv_ret (ret1 rfl (res_tmp rfl))
theorem rowEv_app {L a : List Ev} {w : Rng} {h : List Hit} (e : L = a ++ [evOf h w]) : some (Blk.row 67 3 (a.length + 1) (evsF a ++ [iv w.lo, iv w.hi, .sl (hitsInV h w).length (intsF (hitsInV h w))])) = some (Blk.row 67 3 L.length (evsF L)) := by
  rw [e, evsF_snoc, List.length_append]; rfl
set_option maxRecDepth 100000 in
set_option maxHeartbeats 1600000 in
theorem events_s (l : List Site) (s : Setup) (h : List Hit) (hs : SetOk s) (hl0 : ArrOk l) (ho : HitsOk l h) : Summ Tryz.prog GG 95 [readoutV l s, .sl h.length (hitsF h)] (.sl (eventsV l s h).length (evsF (eventsV l s h))) := by
  have h40 := ho.len
  have h1 := single_len hs ho
  have h2 : (windowsV l s h).length ≤ 160 := Nat.le_trans (joinedV_len _) h1
  have HW := windows_s l s h hs hl0 ho
  refine summW Tryz.func95 rfl rfl 26 rfl (by simp) (fun M0 => ?_)
  repeat (first
    | (apply s_a TY; exact rfl)
    | apply w_seq
    | apply w_region
    | apply s_nil
    | apply t_norm
    | apply w_block
    | (apply s_k (HW); exact rfl))
  apply w_gh (gh_own 5 67 3 rfl rfl)
  apply w_loop (fun k : Nat => ⟨(Ab.upd (Ab.upd (Ab.upd (Ab.upd (Ab.upd (fun _ => .bot) 1 (.f (.sl h.length (hitsF h)))) 5 (.ow 0)) 10 (.f (.sl (windowsV l s h).length (rngsF (windowsV l s h))))) 11 (.f (iv (windowsV l s h).length))) 12 (.f (iv (k : Nat)))), (Ab.upd (fun _ => none) 0 (some (.row 67 3 (evK l s h k).length (evsF (evK l s h k))))), 1⟩) (fun k => k ≤ (windowsV l s h).length) (fun k => (windowsV l s h).length - k) 0 (Nat.zero_le _) (gh_le ⟨le_upd rfl trivial (le_upd rfl trivial (le_upd rfl trivial (le_upd rfl rfl (le_upd rfl trivial (le_nil _))))), le_hupd rfl trivial (le_h0 _ _)⟩)
  intro k hk
  have hln := evK_len l s h k
  by_cases hc : k < (windowsV l s h).length
  · have hsu := evK_succ hc
    have HI := hitsIn_s h (windowsV l s h)[k] (by omega)
    repeat (first
    | (apply s_a TY; exact rfl)
    | (apply s_t; exact rfl; (first | assumption | omega))
    | apply w_seq
    | apply w_region
    | (apply w_draw (id := 5) 7 rfl (by kernel_rfl))
    | apply s_nil
    | apply t_norm
    | apply k_norm
    | apply w_block
    | apply w_skip
    | (apply w_condT; exact rfl; exact rfl)
    | (apply s_k (HI); exact rfl)
    | (apply s_c TY; exact rfl; (first | omega | exact ⟨by omega, by (first | with_reducible assumption | ((with_reducible apply rngsF_ne); omega) | assumption)⟩))
    | (apply s_m TY; exact rfl; (first | with_reducible assumption | ((with_reducible apply rngsF_sub); omega) | exact rfl); exact rfl)
    | (apply s_alloc TY; exact rfl; exact rfl; exact rfl)
    | (apply s_store TY; exact rfl; exact rfl; exact rfl; exact rfl; exact rfl; exact rfl)
    | (apply s_append TY; exact rfl; exact rfl; exact rfl; exact rfl; exact rfl; exact rfl; exact rfl; exact rfl; exact rfl; (unfold maxLen; omega); omega))
    exact ⟨k + 1, by omega, by omega, gh_le ⟨le_upd rfl trivial (le_upd rfl trivial (le_upd rfl trivial (le_upd rfl rfl (le_upd rfl trivial (le_nil _))))), le_hupd (rowEv_app hsu) trivial (le_h0 _ _)⟩⟩
  · have hke : k = (windowsV l s h).length := by omega
    subst hke
    rw [evK_all]
    repeat (first
    | (apply s_a TY; exact rfl)
    | (apply s_f; exact rfl; (first | assumption | omega))
    | apply w_seq
    | apply w_region
    | apply s_nil
    | apply t_norm
    | apply t_exit
    | apply k_hit
    | apply w_exit
    | apply w_ret
    | (apply w_condF; exact rfl; exact rfl))
    exact lv_ret (ret_gh (gh_row 0 rfl) (ret1 rfl (res_tmp rfl)))
theorem setErr_parts {l : List Site} {s : Setup} {h : List Hit} (e : setErr l s h = 0) : (arrChk l).2 = 0 ∧ (setupChk s).2 = 0 ∧ (hitsChk l h).2 = 0 := by
  unfold setErr at e
  have h1 : (arrChk l).2 = 0 := Classical.byContradiction fun h1 => by rw [if_pos h1] at e; exact h1 e
  rw [if_neg (by simpa using h1)] at e
  have h2 : (setupChk s).2 = 0 := Classical.byContradiction fun h2 => by rw [if_pos h2] at e; exact h2 e
  rw [if_neg (by simpa using h2)] at e
  exact ⟨h1, h2, e⟩
set_option maxRecDepth 100000 in
theorem EventsOf_ok (l : List Site) (s : Setup) (h : List Hit) (hl : l.length ≤ 1000000) (hsl : s.rules.length ≤ 1000000) (hh : h.length ≤ 1000000) (e : setErr l s h = 0) : Summ Tryz.prog GG 32 [arrF l, setF s, .sl h.length (hitsF h)] (.tup [.sl (eventsV l s h).length (evsF (eventsV l s h)), iv 0]) := by
  obtain ⟨e1, e2, e3⟩ := setErr_parts e
  have hl0 := arrOk_of e1
  have hs := setOk_of e2
  have ho := hitsOk_of hl0 e3
  have HO := openSetup_ok l s h hl hsl hh e
  have HE := events_s l s h hs hl0 ho
  refine summW Tryz.func32 rfl rfl 23 rfl (by simp) (fun M0 => ?_)
  repeat (first
    | (apply s_a TY; exact rfl)
    | (apply s_t; exact rfl; (first | assumption | omega))
    | apply w_seq
    | apply w_region
    | apply s_nil
    | apply t_norm
    | apply w_ret
    | apply w_skip
    | (apply w_condF; exact rfl; exact rfl)
    | (apply s_k (HO); exact rfl)
    | (apply s_k (HE); exact rfl)
    | (apply s_alloc TY; exact rfl; exact rfl; exact rfl)
    | (apply s_store TY; exact rfl; exact rfl; exact rfl; exact rfl; exact rfl; exact rfl))
  exact lv_ret (ret2 rfl (res_tmp rfl) (res_tmp rfl))
end Go.Proofs.YtdmdpkoapllkkaaGreat
namespace Go.Proofs.YtdmdpkoapllkkaaGreat
open Go Go.RowKit Go.Proofs Go.Shelf Go.Ab
theorem stood_rng : Tryz.prog.stoodInHeld 65 = false := by kernel_rfl
theorem fields_rng : Tryz.prog.fieldsOf 65 = #[{ name := "Lo", type := 3, offset := 0, embedded := false, tag := "", pkgPath := "", byteOffset := 0 }, { name := "Hi", type := 3, offset := 1, embedded := false, tag := "", pkgPath := "", byteOffset := 8 }] := by kernel_rfl
theorem equalIn_rng (d : Nat) (a b : Rng) (W : World) : (Op.equalIn (d + 2) 65 (.agg #[.int .i64 a.lo, .int .i64 a.hi]) (.agg #[.int .i64 b.lo, .int .i64 b.hi])).run Tryz.prog W = .ok (decide (a = b)) W := by
  rw [run_equalIn_agg W (d + 1) 65 _ _ (by rw [fields_rng]; exact Tryz.underlying65) stood_rng, fields_rng]
  have e : decide (a = b) = (a.lo == b.lo && a.hi == b.hi) := by
    cases a; cases b; simp [Rng.mk.injEq]
    try simp [Bool.and_assoc]
    try rfl
  rw [e]
  cases h0 : a.lo == b.lo <;> cases h1 : a.hi == b.hi <;> simp [Op.eqFields, part, run_equalIn_int W d 3 _ _ _ _ Tryz.underlying3, h0, h1]
theorem guard_rng : Tryz.prog.eqGuardType Tryz.prog.depth 65 = false := by kernel_rfl
theorem ne_rng {x y : Operand} {a b : Rng} {c : Bool} (h : decide (a = b) = !c) : ∀ w, (do eqGuard .neq 65 x y (.agg #[.int .i64 a.lo, .int .i64 a.hi]) (.agg #[.int .i64 b.lo, .int .i64 b.hi]); binOp .neq 65 (.agg #[.int .i64 a.lo, .int .i64 a.hi]) (.agg #[.int .i64 b.lo, .int .i64 b.hi]) : Sem Value).run Tryz.prog w = .ok (.bool c) w := fun w => by
  have h1 := equalIn_rng 9998 a b w
  rw [h] at h1
  first
  | (simp [eqGuard, run_neq_struct, h1]; done)
  | simp [eqGuard, guard_rng, run_neq_struct, h1]
theorem stood_fire : Tryz.prog.stoodInHeld 110 = false := by kernel_rfl
theorem fields_fire : Tryz.prog.fieldsOf 110 = #[{ name := "Hit", type := 3, offset := 0, embedded := false, tag := "", pkgPath := "", byteOffset := 0 }, { name := "Span", type := 65, offset := 1, embedded := false, tag := "", pkgPath := "", byteOffset := 8 }] := by kernel_rfl
set_option maxRecDepth 100000 in
theorem equalIn_fire (d : Nat) (a b : Fire) (W : World) : (Op.equalIn (d + 3) 110 (.agg #[.int .i64 a.hit, .int .i64 a.lo, .int .i64 a.hi]) (.agg #[.int .i64 b.hit, .int .i64 b.lo, .int .i64 b.hi])).run Tryz.prog W = .ok (decide (a = b)) W := by
  rw [run_equalIn_agg W (d + 2) 110 _ _ (by rw [fields_fire]; exact Tryz.underlying110) stood_fire, fields_fire]
  have e : decide (a = b) = (a.hit == b.hit && a.lo == b.lo && a.hi == b.hi) := by
    cases a; cases b; simp [Fire.mk.injEq]
    try simp [Bool.and_assoc]
    try rfl
  rw [e]
  have hr := equalIn_rng d ⟨a.lo, a.hi⟩ ⟨b.lo, b.hi⟩ W
  simp only at hr
  have e2 : decide ((⟨a.lo, a.hi⟩ : Rng) = ⟨b.lo, b.hi⟩) = (a.lo == b.lo && a.hi == b.hi) := by simp [Rng.mk.injEq]; try rfl
  rw [e2] at hr
  cases h0 : a.hit == b.hit <;> cases h1 : a.lo == b.lo <;> cases h2 : a.hi == b.hi <;> (rw [h1, h2] at hr; simp [Op.eqFields, part, run_equalIn_int W (d + 1) 3 _ _ _ _ Tryz.underlying3, Tryz.isAgg65, Tryz.sizeOf65, h0]; try (rw [hr]; rfl))
theorem guard_fire : Tryz.prog.eqGuardType Tryz.prog.depth 110 = false := by kernel_rfl
theorem ne_fire {x y : Operand} {a b : Fire} {c : Bool} (h : decide (a = b) = !c) : ∀ w, (do eqGuard .neq 110 x y (.agg #[.int .i64 a.hit, .int .i64 a.lo, .int .i64 a.hi]) (.agg #[.int .i64 b.hit, .int .i64 b.lo, .int .i64 b.hi]); binOp .neq 110 (.agg #[.int .i64 a.hit, .int .i64 a.lo, .int .i64 a.hi]) (.agg #[.int .i64 b.hit, .int .i64 b.lo, .int .i64 b.hi]) : Sem Value).run Tryz.prog w = .ok (.bool c) w := fun w => by
  have h1 := equalIn_fire 9997 a b w
  rw [h] at h1
  first
  | (simp [eqGuard, run_neq_struct, h1]; done)
  | simp [eqGuard, guard_fire, run_neq_struct, h1]
theorem take_eq_succ {α : Type} {a b : List α} {k : Nat} (ha : k < a.length) (hb : k < b.length) (ht : a.take k = b.take k) (he : a[k] = b[k]) : a.take (k + 1) = b.take (k + 1) := by
  rw [List.take_succ_eq_append_getElem ha, List.take_succ_eq_append_getElem hb, ht, he]
theorem take_all_eq {α : Type} {a b : List α} {k : Nat} (hl : a.length = b.length) (hk : a.length ≤ k) (ht : a.take k = b.take k) : a = b := by
  rwa [List.take_of_length_le hk, List.take_of_length_le (by omega)] at ht
set_option maxRecDepth 100000 in
set_option maxHeartbeats 1600000 in
theorem Ints_s (a b : List Int) (ha : a.length ≤ 1000000) (_hb : b.length ≤ 1000000) : Summ Tryz.prog GG 22 [.sl a.length (intsF a), .sl b.length (intsF b)] (bv (decide (a = b))) := by
  by_cases hl : a.length = b.length
  · refine summW Tryz.func22 rfl rfl 26 rfl (by simp) (fun M0 => ?_)
    repeat (first
    | (apply s_a TY; exact rfl)
    | (apply s_t; exact rfl; (first | assumption | omega))
    | apply w_seq
    | apply w_region
    | apply s_nil
    | apply t_norm
    | apply w_block
    | apply w_skip
    | (apply w_condF; exact rfl; exact rfl))
    apply w_loop (fun k : Nat => ⟨(Ab.upd (Ab.upd (Ab.upd (fun _ => .bot) 0 (.f (.sl a.length (intsF a)))) 1 (.f (.sl b.length (intsF b)))) 5 (.f (iv (k : Nat)))), (fun _ => none), 0⟩) (fun k => k ≤ a.length ∧ a.take k = b.take k) (fun k => a.length - k) 0 (⟨Nat.zero_le _, by simp⟩) (gh_le ⟨le_upd rfl trivial (le_upd rfl trivial (le_upd rfl trivial (le_nil _))), le_h0 _ _⟩)
    intro k ⟨hk, ht⟩
    by_cases hc : k < a.length
    · have hcb : k < b.length := by omega
      by_cases he : a[k] = b[k]
      · have hd : decide (a[k] = b[k]) = !false := by simp [he]
        repeat (first
    | (apply s_a TY; exact rfl)
    | (apply s_t; exact rfl; (first | assumption | omega))
    | apply w_seq
    | apply w_region
    | (apply w_draw (id := 6) 8 rfl (by kernel_rfl))
    | apply s_nil
    | apply t_norm
    | apply k_norm
    | apply w_block
    | apply w_skip
    | (apply w_condT; exact rfl; exact rfl)
    | (apply w_condF; exact rfl; exact rfl)
    | (apply s_c TY; exact rfl; (first | omega | exact ⟨by omega, by (first | with_reducible assumption | ((with_reducible apply intsF_ne); omega) | assumption)⟩))
    | (apply s_l TY; exact rfl; (first | exact rfl | with_reducible assumption | ((with_reducible apply intsF_at); omega) | assumption)))
        exact ⟨k + 1, ⟨by omega, take_eq_succ hc hcb ht he⟩, by omega, gh_le ⟨le_upd rfl trivial (le_upd rfl trivial (le_upd rfl trivial (le_nil _))), le_h0 _ _⟩⟩
      · have hd : decide (a[k] = b[k]) = !true := by simp [he]
        have hne : ¬ a = b := fun e => he (by simp [e])
        rw [decide_eq_false hne]
        repeat (first
    | (apply s_a TY; exact rfl)
    | (apply s_t; exact rfl; (first | assumption | omega))
    | (apply s_f; exact rfl; (first | assumption | omega))
    | apply w_seq
    | apply w_region
    | (apply w_draw (id := 6) 8 rfl (by kernel_rfl))
    | apply s_nil
    | apply t_norm
    | apply t_ret
    | apply k_ret
    | apply w_block
    | apply w_ret
    | apply w_skip
    | (apply w_condT; exact rfl; exact rfl)
    | (apply s_c TY; exact rfl; (first | omega | exact ⟨by omega, by (first | with_reducible assumption | ((with_reducible apply intsF_ne); omega) | assumption)⟩))
    | (apply s_l TY; exact rfl; (first | exact rfl | with_reducible assumption | ((with_reducible apply intsF_at); omega) | assumption)))
        exact lv_ret (ret1 rfl (res_tmp rfl))
    · rw [decide_eq_true (take_all_eq hl (by omega) ht)]
      repeat (first
    | (apply s_a TY; exact rfl)
    | (apply s_f; exact rfl; (first | assumption | omega))
    | apply w_seq
    | apply w_region
    | apply s_nil
    | apply t_norm
    | apply t_exit
    | apply k_hit
    | apply w_exit
    | apply w_ret
    | (apply w_condF; exact rfl; exact rfl))
      exact lv_ret (ret1 rfl (res_tmp rfl))
  · have hne : ¬ a = b := fun e => hl (by rw [e])
    rw [decide_eq_false hne]
    refine summW Tryz.func22 rfl rfl 26 rfl (by simp) (fun M0 => ?_)
    repeat (first
    | (apply s_a TY; exact rfl)
    | (apply s_f; exact rfl; (first | assumption | omega))
    | apply w_seq
    | apply w_region
    | apply s_nil
    | apply t_norm
    | apply t_ret
    | apply w_ret
    | (apply w_condT; exact rfl; exact rfl))
    exact lv_ret (ret1 rfl (res_tmp rfl))
set_option maxRecDepth 100000 in
set_option maxHeartbeats 1600000 in
theorem SameFires_s (a b : List Fire) (ha : a.length ≤ 1000000) (_hb : b.length ≤ 1000000) : Summ Tryz.prog GG 58 [.sl a.length (firesF a), .sl b.length (firesF b)] (bv (decide (a = b))) := by
  by_cases hl : a.length = b.length
  · refine summW Tryz.func58 rfl rfl 26 rfl (by simp) (fun M0 => ?_)
    repeat (first
    | (apply s_a TY; exact rfl)
    | (apply s_t; exact rfl; (first | assumption | omega))
    | apply w_seq
    | apply w_region
    | apply s_nil
    | apply t_norm
    | apply w_block
    | apply w_skip
    | (apply w_condF; exact rfl; exact rfl))
    apply w_loop (fun k : Nat => ⟨(Ab.upd (Ab.upd (Ab.upd (fun _ => .bot) 0 (.f (.sl a.length (firesF a)))) 1 (.f (.sl b.length (firesF b)))) 5 (.f (iv (k : Nat)))), (fun _ => none), 0⟩) (fun k => k ≤ a.length ∧ a.take k = b.take k) (fun k => a.length - k) 0 (⟨Nat.zero_le _, by simp⟩) (gh_le ⟨le_upd rfl trivial (le_upd rfl trivial (le_upd rfl trivial (le_nil _))), le_h0 _ _⟩)
    intro k ⟨hk, ht⟩
    by_cases hc : k < a.length
    · have hcb : k < b.length := by omega
      by_cases he : a[k] = b[k]
      · have hd : decide (a[k] = b[k]) = !false := by simp [he]
        repeat (first
    | (apply s_bind; exact rfl; exact rfl; exact rfl; exact rfl; exact rfl; exact rfl; exact ne_fire (by assumption))
    | (apply s_a TY; exact rfl)
    | (apply s_t; exact rfl; (first | assumption | omega))
    | apply w_seq
    | apply w_region
    | (apply w_draw (id := 6) 8 rfl (by kernel_rfl))
    | apply s_nil
    | apply t_norm
    | apply k_norm
    | apply w_block
    | apply w_skip
    | (apply w_condT; exact rfl; exact rfl)
    | (apply w_condF; exact rfl; exact rfl)
    | (apply s_c TY; exact rfl; (first | omega | exact ⟨by omega, by (first | with_reducible assumption | ((with_reducible apply firesF_ne); omega) | assumption)⟩))
    | (apply s_m TY; exact rfl; (first | with_reducible assumption | ((with_reducible apply firesF_sub); omega) | exact rfl); exact rfl))
        exact ⟨k + 1, ⟨by omega, take_eq_succ hc hcb ht he⟩, by omega, gh_le ⟨le_upd rfl trivial (le_upd rfl trivial (le_upd rfl trivial (le_nil _))), le_h0 _ _⟩⟩
      · have hd : decide (a[k] = b[k]) = !true := by simp [he]
        have hne : ¬ a = b := fun e => he (by simp [e])
        rw [decide_eq_false hne]
        repeat (first
    | (apply s_bind; exact rfl; exact rfl; exact rfl; exact rfl; exact rfl; exact rfl; exact ne_fire (by assumption))
    | (apply s_a TY; exact rfl)
    | (apply s_t; exact rfl; (first | assumption | omega))
    | apply w_seq
    | apply w_region
    | (apply w_draw (id := 6) 8 rfl (by kernel_rfl))
    | apply s_nil
    | apply t_norm
    | apply t_ret
    | apply k_ret
    | apply w_block
    | apply w_ret
    | apply w_skip
    | (apply w_condT; exact rfl; exact rfl)
    | (apply s_c TY; exact rfl; (first | omega | exact ⟨by omega, by (first | with_reducible assumption | ((with_reducible apply firesF_ne); omega) | assumption)⟩))
    | (apply s_m TY; exact rfl; (first | with_reducible assumption | ((with_reducible apply firesF_sub); omega) | exact rfl); exact rfl))
        exact lv_ret (ret1 rfl (res_tmp rfl))
    · rw [decide_eq_true (take_all_eq hl (by omega) ht)]
      repeat (first
    | (apply s_a TY; exact rfl)
    | (apply s_f; exact rfl; (first | assumption | omega))
    | apply w_seq
    | apply w_region
    | apply s_nil
    | apply t_norm
    | apply t_exit
    | apply k_hit
    | apply w_exit
    | apply w_ret
    | (apply w_condF; exact rfl; exact rfl))
      exact lv_ret (ret1 rfl (res_tmp rfl))
  · have hne : ¬ a = b := fun e => hl (by rw [e])
    rw [decide_eq_false hne]
    refine summW Tryz.func58 rfl rfl 26 rfl (by simp) (fun M0 => ?_)
    repeat (first
    | (apply s_a TY; exact rfl)
    | (apply s_f; exact rfl; (first | assumption | omega))
    | apply w_seq
    | apply w_region
    | apply s_nil
    | apply t_norm
    | apply t_ret
    | apply w_ret
    | (apply w_condT; exact rfl; exact rfl))
    exact lv_ret (ret1 rfl (res_tmp rfl))
set_option maxRecDepth 100000 in
set_option maxHeartbeats 1600000 in
theorem SameEvents_s (a b : List Ev) (ha : a.length ≤ 1000000) (_hb : b.length ≤ 1000000) (h1 : ∀ x, x ∈ a → x.hits.length ≤ 1000000) (h2 : ∀ x, x ∈ b → x.hits.length ≤ 1000000) : Summ Tryz.prog GG 34 [.sl a.length (evsF a), .sl b.length (evsF b)] (bv (decide (a = b))) := by
  by_cases hl : a.length = b.length
  · refine summW Tryz.func34 rfl rfl 42 rfl (by simp) (fun M0 => ?_)
    repeat (first
    | (apply s_a TY; exact rfl)
    | (apply s_t; exact rfl; (first | assumption | omega))
    | apply w_seq
    | apply w_region
    | apply s_nil
    | apply t_norm
    | apply w_block
    | apply w_skip
    | (apply w_condF; exact rfl; exact rfl))
    apply w_loop (fun k : Nat => ⟨(Ab.upd (Ab.upd (Ab.upd (fun _ => .bot) 0 (.f (.sl a.length (evsF a)))) 1 (.f (.sl b.length (evsF b)))) 5 (.f (iv (k : Nat)))), (fun _ => none), 0⟩) (fun k => k ≤ a.length ∧ a.take k = b.take k) (fun k => a.length - k) 0 (⟨Nat.zero_le _, by simp⟩) (gh_le ⟨le_upd rfl trivial (le_upd rfl trivial (le_upd rfl trivial (le_nil _))), le_h0 _ _⟩)
    intro k ⟨hk, ht⟩
    by_cases hc : k < a.length
    · have hcb : k < b.length := by omega
      have hwa : ((evsF a).drop (k * 3 + 0)).take 2 = [iv a[k].lo, iv a[k].hi] := by rw [Nat.add_zero, evsF_drop, List.drop_eq_getElem_cons hc]; rfl
      have hwb : ((evsF b).drop (k * 3 + 0)).take 2 = [iv b[k].lo, iv b[k].hi] := by rw [Nat.add_zero, evsF_drop, List.drop_eq_getElem_cons hcb]; rfl
      have h1a := h1 a[k] (List.getElem_mem hc)
      have h1b := h2 b[k] (List.getElem_mem hcb)
      by_cases hr : (⟨a[k].lo, a[k].hi⟩ : Rng) = ⟨b[k].lo, b[k].hi⟩
      · have hd : decide ((⟨a[k].lo, a[k].hi⟩ : Rng) = ⟨b[k].lo, b[k].hi⟩) = !false := by rw [decide_eq_true hr]; rfl
        have HI := Ints_s a[k].hits b[k].hits h1a h1b
        by_cases hh : a[k].hits = b[k].hits
        · have he : a[k] = b[k] := by
            generalize a[k] = x at hr hh ⊢
            generalize b[k] = y at hr hh ⊢
            cases x; cases y
            simp only [Rng.mk.injEq] at hr
            simp only at hh
            rw [hr.1, hr.2, hh]
          rw [decide_eq_true hh] at HI
          repeat (first
    | (apply s_bind; exact rfl; exact rfl; exact rfl; exact rfl; exact rfl; exact rfl; exact ne_rng (by assumption))
    | (apply s_a TY; exact rfl)
    | (apply s_t; exact rfl; (first | assumption | omega))
    | apply w_seq
    | apply w_region
    | (apply w_draw (id := 6) 22 rfl (by kernel_rfl))
    | apply s_nil
    | apply t_norm
    | apply k_norm
    | apply w_block
    | apply w_skip
    | (apply w_condT; exact rfl; exact rfl)
    | (apply w_condF; exact rfl; exact rfl)
    | (apply s_k (HI); exact rfl)
    | (apply s_c TY; exact rfl; (first | omega | exact ⟨by omega, by (first | with_reducible assumption | ((with_reducible apply evsF_ne); omega) | assumption)⟩))
    | (apply s_l TY; exact rfl; (first | exact rfl | with_reducible assumption | ((with_reducible apply evsF_f0); omega) | ((with_reducible apply evsF_f1); omega) | ((with_reducible apply evsF_f2); omega) | assumption))
    | (apply s_m TY; exact rfl; (first | with_reducible assumption | ((with_reducible apply evsF_sub); omega) | exact rfl); exact rfl))
          exact ⟨k + 1, ⟨by omega, take_eq_succ hc hcb ht he⟩, by omega, gh_le ⟨le_upd rfl trivial (le_upd rfl trivial (le_upd rfl trivial (le_nil _))), le_h0 _ _⟩⟩
        · have hne : ¬ a = b := fun e => hh (by simp [e])
          rw [decide_eq_false hh] at HI
          rw [decide_eq_false hne]
          repeat (first
    | (apply s_bind; exact rfl; exact rfl; exact rfl; exact rfl; exact rfl; exact rfl; exact ne_rng (by assumption))
    | (apply s_a TY; exact rfl)
    | (apply s_t; exact rfl; (first | assumption | omega))
    | apply w_seq
    | apply w_region
    | (apply w_draw (id := 6) 22 rfl (by kernel_rfl))
    | apply s_nil
    | apply t_norm
    | apply t_ret
    | apply k_ret
    | apply w_block
    | apply w_ret
    | apply w_skip
    | (apply w_condT; exact rfl; exact rfl)
    | (apply s_k (HI); exact rfl)
    | (apply s_c TY; exact rfl; (first | omega | exact ⟨by omega, by (first | with_reducible assumption | ((with_reducible apply evsF_ne); omega) | assumption)⟩))
    | (apply s_l TY; exact rfl; (first | exact rfl | with_reducible assumption | ((with_reducible apply evsF_f0); omega) | ((with_reducible apply evsF_f1); omega) | ((with_reducible apply evsF_f2); omega) | assumption))
    | (apply s_m TY; exact rfl; (first | with_reducible assumption | ((with_reducible apply evsF_sub); omega) | exact rfl); exact rfl))
          exact lv_ret (ret1 rfl (res_tmp rfl))
      · have hd : decide ((⟨a[k].lo, a[k].hi⟩ : Rng) = ⟨b[k].lo, b[k].hi⟩) = !true := by rw [decide_eq_false hr]; rfl
        have hne : ¬ a = b := fun e => hr (by simp [e])
        rw [decide_eq_false hne]
        repeat (first
    | (apply s_bind; exact rfl; exact rfl; exact rfl; exact rfl; exact rfl; exact rfl; exact ne_rng (by assumption))
    | (apply s_a TY; exact rfl)
    | (apply s_t; exact rfl; (first | assumption | omega))
    | apply w_seq
    | apply w_region
    | (apply w_draw (id := 6) 22 rfl (by kernel_rfl))
    | apply s_nil
    | apply t_norm
    | apply t_ret
    | apply k_ret
    | apply w_block
    | apply w_ret
    | apply w_skip
    | (apply w_condT; exact rfl; exact rfl)
    | (apply s_s; exact rfl)
    | (apply s_c TY; exact rfl; (first | omega | exact ⟨by omega, by (first | with_reducible assumption | ((with_reducible apply evsF_ne); omega) | assumption)⟩))
    | (apply s_m TY; exact rfl; (first | with_reducible assumption | ((with_reducible apply evsF_sub); omega) | exact rfl); exact rfl))
        exact lv_ret (ret1 rfl (res_tmp rfl))
    · rw [decide_eq_true (take_all_eq hl (by omega) ht)]
      repeat (first
    | (apply s_a TY; exact rfl)
    | (apply s_f; exact rfl; (first | assumption | omega))
    | apply w_seq
    | apply w_region
    | apply s_nil
    | apply t_norm
    | apply t_exit
    | apply k_hit
    | apply w_exit
    | apply w_ret
    | (apply w_condF; exact rfl; exact rfl))
      exact lv_ret (ret1 rfl (res_tmp rfl))
  · have hne : ¬ a = b := fun e => hl (by rw [e])
    rw [decide_eq_false hne]
    refine summW Tryz.func34 rfl rfl 42 rfl (by simp) (fun M0 => ?_)
    repeat (first
    | (apply s_a TY; exact rfl)
    | (apply s_f; exact rfl; (first | assumption | omega))
    | apply w_seq
    | apply w_region
    | apply s_nil
    | apply t_norm
    | apply t_ret
    | apply w_ret
    | (apply w_condT; exact rfl; exact rfl))
    exact lv_ret (ret1 rfl (res_tmp rfl))
end Go.Proofs.YtdmdpkoapllkkaaGreat
namespace Go.Proofs.YtdmdpkoapllkkaaGreat
open Go Go.RowKit Go.Proofs Go.Shelf Go.Ab
def wA (ws : List Rng) (i : Nat) : Int := if (-2000000000000 ≤ (ws.getD i default).lo ∧ (ws.getD i default).lo ≤ 2000000000000) ∧ (-2000000000000 ≤ (ws.getD i default).hi ∧ (ws.getD i default).hi ≤ 2000000000000) then 0 else 2
def wB (ws : List Rng) (i : Nat) : Int := if (ws.getD i default).lo ≤ (ws.getD i default).hi ∧ (i = 0 ∨ (ws.getD (i - 1) default).hi < (ws.getD i default).lo) then 0 else 9
def lerrK (ws : List Rng) (e : Int) : Nat → Int
  | 0 => e
  | i + 1 => firstE [lerrK ws e i, wA ws i, wB ws i]
def runA (r : Rng) : Int := if (0 ≤ r.lo ∧ r.lo ≤ 1000000000000) ∧ (0 ≤ r.hi ∧ r.hi ≤ 1000000000000) then 0 else 2
def runB (r : Rng) : Int := if r.lo ≤ r.hi then 0 else 9
def lenE (n : Nat) : Int := if n ≤ 40 then 0 else 8
def liveErrV (s : Setup) (ws : List Rng) (r : Rng) : Int := firstE [lerrK ws (firstE [(setupChk s).2, lenE ws.length]) ws.length, runA r, runB r]
def liveStep (s : Setup) (r : Rng) (p : Int × Int) (w : Rng) : Int × Int :=
  if max p.2 (w.hi + 1) ≤ min r.hi (w.hi + s.dead) then (p.1 - (min r.hi (w.hi + s.dead) - max p.2 (w.hi + 1) + 1), min r.hi (w.hi + s.dead) + 1) else p
def liveK (s : Setup) (ws : List Rng) (r : Rng) : Nat → Int × Int
  | 0 => (r.hi - r.lo + 1, r.lo)
  | k + 1 => liveStep s r (liveK s ws r k) (ws.getD k default)
def liveV (s : Setup) (ws : List Rng) (r : Rng) : Int := (liveK s ws r ws.length).1
theorem firstE3_zero {a b c : Int} (h : firstE [a, b, c] = 0) : a = 0 ∧ b = 0 ∧ c = 0 := by
  simp only [firstE] at h
  split at h
  · split at h
    · split at h
      · exact ⟨by assumption, by assumption, by assumption⟩
      · exact absurd h (by assumption)
    · exact absurd h (by assumption)
  · exact absurd h (by assumption)
theorem firstE2_zero {a b : Int} (h : firstE [a, b] = 0) : a = 0 ∧ b = 0 := by
  simp only [firstE] at h
  split at h
  · split at h
    · exact ⟨by assumption, by assumption⟩
    · exact absurd h (by assumption)
  · exact absurd h (by assumption)
theorem lerrK_zero {ws : List Rng} {e : Int} : ∀ {n : Nat}, lerrK ws e n = 0 → e = 0 ∧ ∀ i, i < n → wA ws i = 0 ∧ wB ws i = 0
  | 0, h => ⟨h, fun i hi => by omega⟩
  | n + 1, h => by
    obtain ⟨h1, h2, h3⟩ := firstE3_zero h
    obtain ⟨h4, h5⟩ := lerrK_zero h1
    refine ⟨h4, fun i hi => ?_⟩
    by_cases e : i = n
    · subst e; exact ⟨h2, h3⟩
    · exact h5 i (by omega)
theorem wA_zero {ws : List Rng} {i : Nat} (hi : i < ws.length) (h : wA ws i = 0) : (-2000000000000 ≤ ws[i].lo ∧ ws[i].lo ≤ 2000000000000) ∧ (-2000000000000 ≤ ws[i].hi ∧ ws[i].hi ≤ 2000000000000) := by
  unfold wA at h
  rw [getD_at hi] at h
  by_cases c : (-2000000000000 ≤ ws[i].lo ∧ ws[i].lo ≤ 2000000000000) ∧ (-2000000000000 ≤ ws[i].hi ∧ ws[i].hi ≤ 2000000000000)
  · exact c
  · rw [if_neg c] at h; cases h
theorem liveErr_parts {s : Setup} {ws : List Rng} {r : Rng} (h : liveErrV s ws r = 0) : (setupChk s).2 = 0 ∧ ws.length ≤ 40 ∧ (∀ i, i < ws.length → wA ws i = 0 ∧ wB ws i = 0) ∧ ((0 ≤ r.lo ∧ r.lo ≤ 1000000000000) ∧ (0 ≤ r.hi ∧ r.hi ≤ 1000000000000)) ∧ r.lo ≤ r.hi := by
  obtain ⟨h1, h2, h3⟩ := firstE3_zero h
  obtain ⟨h4, h5⟩ := lerrK_zero h1
  obtain ⟨h6, h7⟩ := firstE2_zero h4
  refine ⟨h6, ?_, h5, ?_, ?_⟩
  · unfold lenE at h7
    by_cases c : ws.length ≤ 40
    · exact c
    · rw [if_neg c] at h7; cases h7
  · unfold runA at h2
    by_cases c : (0 ≤ r.lo ∧ r.lo ≤ 1000000000000) ∧ (0 ≤ r.hi ∧ r.hi ≤ 1000000000000)
    · exact c
    · rw [if_neg c] at h2; cases h2
  · unfold runB at h3
    by_cases c : r.lo ≤ r.hi
    · exact c
    · rw [if_neg c] at h3; cases h3
theorem liveStep_bd {s : Setup} {r : Rng} {p : Int × Int} {w : Rng} (h : (r.lo ≤ p.2 ∧ p.2 ≤ r.hi + 1) ∧ (r.hi + 1 - p.2 ≤ p.1 ∧ p.1 ≤ r.hi - r.lo + 1)) : (r.lo ≤ (liveStep s r p w).2 ∧ (liveStep s r p w).2 ≤ r.hi + 1) ∧ (r.hi + 1 - (liveStep s r p w).2 ≤ (liveStep s r p w).1 ∧ (liveStep s r p w).1 ≤ r.hi - r.lo + 1) := by
  unfold liveStep
  split
  · simp only; omega
  · exact h
theorem liveK_bd {s : Setup} {ws : List Rng} {r : Rng} (hr : r.lo ≤ r.hi) : ∀ k, (r.lo ≤ (liveK s ws r k).2 ∧ (liveK s ws r k).2 ≤ r.hi + 1) ∧ (r.hi + 1 - (liveK s ws r k).2 ≤ (liveK s ws r k).1 ∧ (liveK s ws r k).1 ≤ r.hi - r.lo + 1)
  | 0 => by simp only [liveK]; omega
  | k + 1 => liveStep_bd (liveK_bd hr k)
set_option maxRecDepth 100000 in
set_option maxHeartbeats 6400000 in
theorem LiveIn_s (s : Setup) (ws : List Rng) (r : Rng) (hsl : s.rules.length ≤ 1000000) (hw : ws.length ≤ 1000000) : Summ Tryz.prog GG 57 [setF s, .sl ws.length (rngsF ws), .agg (rngF r)] (.tup [iv (if liveErrV s ws r = 0 then liveV s ws r else 0), iv (liveErrV s ws r)]) := by
  unfold liveV
  have HU : Summ Tryz.prog GG 68 [.v (.bool (decide (((ws.length : Nat) : Int) ≤ 40))), iv 8] (iv (lenE ws.length)) := by
    unfold lenE
    by_cases hL : ws.length ≤ 40
    · rw [if_pos hL, decide_eq_true (by omega)]; exact unless_T 8
    · rw [if_neg hL, decide_eq_false (by omega)]; exact unless_F 8
  have H1 := first2_s (setupChk s).2 (lenE ws.length)
  refine summW Tryz.func57 rfl rfl 135 rfl (by simp) (fun M0 => ?_)
  repeat (first
    | (apply s_leq; exact rfl; exact rfl; exact rfl)
    | (apply s_a TY; exact rfl)
    | apply w_seq
    | apply w_region
    | apply s_nil
    | apply t_norm
    | apply w_block
    | (apply s_k (HU); exact rfl)
    | (apply s_k (H1); exact rfl)
    | (apply s_k1 (CheckSetup_s _); exact rfl; (first | assumption | omega | decide)))
  apply w_loop (fun k : Nat => ⟨(Ab.upd (Ab.upd (Ab.upd (Ab.upd (Ab.upd (Ab.upd (Ab.upd (fun _ => .bot) 1 (.f (.sl ws.length (rngsF ws)))) 3 (.f (.pt (setL s) 0))) 5 (.f (.pt (rngF r) 0))) 9 (.f (iv (lerrK ws (firstE [(setupChk s).2, lenE ws.length]) k)))) 31 (.f (.sl ws.length (rngsF ws)))) 32 (.f (iv ws.length))) 33 (.f (iv (k : Nat)))), (fun _ => none), 0⟩) (fun k => k ≤ ws.length) (fun k => ws.length - k) 0 (Nat.zero_le _) (gh_le ⟨le_upd rfl trivial (le_upd rfl trivial (le_upd rfl trivial (le_upd rfl trivial (le_upd rfl trivial (le_upd rfl trivial (le_upd rfl trivial (le_nil _))))))), le_h0 _ _⟩)
  intro k hk
  by_cases hc : k < ws.length
  · have hp : k - 1 < ws.length := by omega
    have hat : (rngsF ws)[(max 0 ((k : Int) - 1)).toNat * 2 + 1]? = some (iv ws[k - 1].hi) := by
      rw [show (max 0 ((k : Int) - 1)).toNat = k - 1 by omega]; exact rngsF_f1 hp
    by_cases hA : ws[k].lo ≤ ws[k].hi
    · by_cases hB : k = 0
      · by_cases hD : -2000000000000 ≤ ws[k].lo ∧ ws[k].lo ≤ 2000000000000
        · by_cases hE : -2000000000000 ≤ ws[k].hi ∧ ws[k].hi ≤ 2000000000000
          · have hwA : wA ws k = 0 := by unfold wA; rw [getD_at hc]; exact if_pos (by omega)
            have hwB : wB ws k = 0 := by unfold wB; rw [getD_at hc, getD_at hp]; exact if_pos (by omega)
            have hl : lerrK ws (firstE [(setupChk s).2, lenE ws.length]) (k + 1) = firstE [lerrK ws (firstE [(setupChk s).2, lenE ws.length]) k, 0, 0] := by rw [lerrK, hwA, hwB]
            repeat (first
    | (apply s_a TY; exact rfl)
    | (apply s_t; exact rfl; (first | assumption | omega))
    | apply w_seq
    | apply w_region
    | (apply w_draw (id := 6) 18 rfl (by kernel_rfl))
    | apply s_nil
    | apply t_norm
    | apply k_norm
    | apply w_block
    | apply w_skip
    | (apply w_condT; exact rfl; exact rfl)
    | (apply s_k (first3_s _ _ _); exact rfl)
    | (apply s_k (unless_T _); exact rfl)
    | (apply s_k2 (isSized_T _ _); exact rfl; (first | assumption | omega | decide); (first | assumption | omega | decide))
    | (apply s_s; exact rfl)
    | (apply s_c TY; exact rfl; (first | omega | exact ⟨by omega, by (first | with_reducible assumption | ((with_reducible apply rngsF_ne); omega) | assumption)⟩))
    | (apply s_m TY; exact rfl; (first | with_reducible assumption | ((with_reducible apply rngsF_sub); omega) | exact rfl); exact rfl)
    | (apply s_alloc TY; exact rfl; exact rfl; exact rfl)
    | (apply s_store TY; exact rfl; exact rfl; exact rfl; exact rfl; exact rfl; exact rfl))
            exact ⟨k + 1, by omega, by omega, gh_le ⟨le_upd rfl trivial (le_upd rfl trivial (le_upd rfl trivial (le_upd (congrArg (fun z : Int => AV.f (iv z)) hl) trivial (le_upd rfl trivial (le_upd rfl trivial (le_upd rfl trivial (le_nil _))))))), le_h0 _ _⟩⟩
          · have hwA : wA ws k = 2 := by unfold wA; rw [getD_at hc]; exact if_neg (by omega)
            have hwB : wB ws k = 0 := by unfold wB; rw [getD_at hc, getD_at hp]; exact if_pos (by omega)
            have hl : lerrK ws (firstE [(setupChk s).2, lenE ws.length]) (k + 1) = firstE [lerrK ws (firstE [(setupChk s).2, lenE ws.length]) k, 2, 0] := by rw [lerrK, hwA, hwB]
            repeat (first
    | (apply s_a TY; exact rfl)
    | (apply s_t; exact rfl; (first | assumption | omega))
    | apply w_seq
    | apply w_region
    | (apply w_draw (id := 6) 18 rfl (by kernel_rfl))
    | apply s_nil
    | apply t_norm
    | apply k_norm
    | apply w_block
    | apply w_skip
    | (apply w_condT; exact rfl; exact rfl)
    | (apply s_k (first3_s _ _ _); exact rfl)
    | (apply s_k (unless_T _); exact rfl)
    | (apply s_k (unless_F _); exact rfl)
    | (apply s_k2 (isSized_T _ _); exact rfl; (first | assumption | omega | decide); (first | assumption | omega | decide))
    | (apply s_k2 (isSized_F _ _); exact rfl; (first | assumption | omega | decide); (first | assumption | omega | decide))
    | (apply s_s; exact rfl)
    | (apply s_c TY; exact rfl; (first | omega | exact ⟨by omega, by (first | with_reducible assumption | ((with_reducible apply rngsF_ne); omega) | assumption)⟩))
    | (apply s_m TY; exact rfl; (first | with_reducible assumption | ((with_reducible apply rngsF_sub); omega) | exact rfl); exact rfl)
    | (apply s_alloc TY; exact rfl; exact rfl; exact rfl)
    | (apply s_store TY; exact rfl; exact rfl; exact rfl; exact rfl; exact rfl; exact rfl))
            exact ⟨k + 1, by omega, by omega, gh_le ⟨le_upd rfl trivial (le_upd rfl trivial (le_upd rfl trivial (le_upd (congrArg (fun z : Int => AV.f (iv z)) hl) trivial (le_upd rfl trivial (le_upd rfl trivial (le_upd rfl trivial (le_nil _))))))), le_h0 _ _⟩⟩
        · have hwA : wA ws k = 2 := by unfold wA; rw [getD_at hc]; exact if_neg (by omega)
          have hwB : wB ws k = 0 := by unfold wB; rw [getD_at hc, getD_at hp]; exact if_pos (by omega)
          have hl : lerrK ws (firstE [(setupChk s).2, lenE ws.length]) (k + 1) = firstE [lerrK ws (firstE [(setupChk s).2, lenE ws.length]) k, 2, 0] := by rw [lerrK, hwA, hwB]
          repeat (first
    | (apply s_a TY; exact rfl)
    | (apply s_t; exact rfl; (first | assumption | omega))
    | apply w_seq
    | apply w_region
    | (apply w_draw (id := 6) 18 rfl (by kernel_rfl))
    | apply s_nil
    | apply t_norm
    | apply k_norm
    | apply w_block
    | apply w_skip
    | (apply w_condT; exact rfl; exact rfl)
    | (apply s_k (first3_s _ _ _); exact rfl)
    | (apply s_k (unless_T _); exact rfl)
    | (apply s_k (unless_F _); exact rfl)
    | (apply s_k2 (isSized_F _ _); exact rfl; (first | assumption | omega | decide); (first | assumption | omega | decide))
    | (apply s_s; exact rfl)
    | (apply s_c TY; exact rfl; (first | omega | exact ⟨by omega, by (first | with_reducible assumption | ((with_reducible apply rngsF_ne); omega) | assumption)⟩))
    | (apply s_m TY; exact rfl; (first | with_reducible assumption | ((with_reducible apply rngsF_sub); omega) | exact rfl); exact rfl)
    | (apply s_alloc TY; exact rfl; exact rfl; exact rfl)
    | (apply s_store TY; exact rfl; exact rfl; exact rfl; exact rfl; exact rfl; exact rfl))
          exact ⟨k + 1, by omega, by omega, gh_le ⟨le_upd rfl trivial (le_upd rfl trivial (le_upd rfl trivial (le_upd (congrArg (fun z : Int => AV.f (iv z)) hl) trivial (le_upd rfl trivial (le_upd rfl trivial (le_upd rfl trivial (le_nil _))))))), le_h0 _ _⟩⟩
      · by_cases hC : ws[k - 1].hi < ws[k].lo
        · by_cases hD : -2000000000000 ≤ ws[k].lo ∧ ws[k].lo ≤ 2000000000000
          · by_cases hE : -2000000000000 ≤ ws[k].hi ∧ ws[k].hi ≤ 2000000000000
            · have hwA : wA ws k = 0 := by unfold wA; rw [getD_at hc]; exact if_pos (by omega)
              have hwB : wB ws k = 0 := by unfold wB; rw [getD_at hc, getD_at hp]; exact if_pos (by omega)
              have hl : lerrK ws (firstE [(setupChk s).2, lenE ws.length]) (k + 1) = firstE [lerrK ws (firstE [(setupChk s).2, lenE ws.length]) k, 0, 0] := by rw [lerrK, hwA, hwB]
              repeat (first
    | (apply s_a TY; exact rfl)
    | (apply s_t; exact rfl; (first | assumption | omega))
    | (apply s_f; exact rfl; (first | assumption | omega))
    | apply w_seq
    | apply w_region
    | (apply w_draw (id := 6) 18 rfl (by kernel_rfl))
    | apply s_nil
    | apply t_norm
    | apply k_norm
    | apply w_block
    | apply w_skip
    | (apply w_condT; exact rfl; exact rfl)
    | (apply s_k (first3_s _ _ _); exact rfl)
    | (apply s_k (unless_T _); exact rfl)
    | (apply s_k2 (isSized_T _ _); exact rfl; (first | assumption | omega | decide); (first | assumption | omega | decide))
    | (apply s_c TY; exact rfl; (first | omega | exact ⟨by omega, by (first | with_reducible assumption | ((with_reducible apply rngsF_ne); omega) | assumption)⟩))
    | (apply s_z TY; exact rfl; (first | omega | exact ⟨by omega, by (first | with_reducible assumption | ((with_reducible apply rngsF_ne); omega) | assumption)⟩))
    | (apply s_l TY; exact rfl; (first | exact rfl | with_reducible assumption | ((with_reducible apply rngsF_f0); omega) | ((with_reducible apply rngsF_f1); omega) | assumption))
    | (apply s_m TY; exact rfl; (first | with_reducible assumption | ((with_reducible apply rngsF_sub); omega) | exact rfl); exact rfl)
    | (apply s_alloc TY; exact rfl; exact rfl; exact rfl)
    | (apply s_store TY; exact rfl; exact rfl; exact rfl; exact rfl; exact rfl; exact rfl))
              exact ⟨k + 1, by omega, by omega, gh_le ⟨le_upd rfl trivial (le_upd rfl trivial (le_upd rfl trivial (le_upd (congrArg (fun z : Int => AV.f (iv z)) hl) trivial (le_upd rfl trivial (le_upd rfl trivial (le_upd rfl trivial (le_nil _))))))), le_h0 _ _⟩⟩
            · have hwA : wA ws k = 2 := by unfold wA; rw [getD_at hc]; exact if_neg (by omega)
              have hwB : wB ws k = 0 := by unfold wB; rw [getD_at hc, getD_at hp]; exact if_pos (by omega)
              have hl : lerrK ws (firstE [(setupChk s).2, lenE ws.length]) (k + 1) = firstE [lerrK ws (firstE [(setupChk s).2, lenE ws.length]) k, 2, 0] := by rw [lerrK, hwA, hwB]
              repeat (first
    | (apply s_a TY; exact rfl)
    | (apply s_t; exact rfl; (first | assumption | omega))
    | (apply s_f; exact rfl; (first | assumption | omega))
    | apply w_seq
    | apply w_region
    | (apply w_draw (id := 6) 18 rfl (by kernel_rfl))
    | apply s_nil
    | apply t_norm
    | apply k_norm
    | apply w_block
    | apply w_skip
    | (apply w_condT; exact rfl; exact rfl)
    | (apply s_k (first3_s _ _ _); exact rfl)
    | (apply s_k (unless_T _); exact rfl)
    | (apply s_k (unless_F _); exact rfl)
    | (apply s_k2 (isSized_T _ _); exact rfl; (first | assumption | omega | decide); (first | assumption | omega | decide))
    | (apply s_k2 (isSized_F _ _); exact rfl; (first | assumption | omega | decide); (first | assumption | omega | decide))
    | (apply s_c TY; exact rfl; (first | omega | exact ⟨by omega, by (first | with_reducible assumption | ((with_reducible apply rngsF_ne); omega) | assumption)⟩))
    | (apply s_z TY; exact rfl; (first | omega | exact ⟨by omega, by (first | with_reducible assumption | ((with_reducible apply rngsF_ne); omega) | assumption)⟩))
    | (apply s_l TY; exact rfl; (first | exact rfl | with_reducible assumption | ((with_reducible apply rngsF_f0); omega) | ((with_reducible apply rngsF_f1); omega) | assumption))
    | (apply s_m TY; exact rfl; (first | with_reducible assumption | ((with_reducible apply rngsF_sub); omega) | exact rfl); exact rfl)
    | (apply s_alloc TY; exact rfl; exact rfl; exact rfl)
    | (apply s_store TY; exact rfl; exact rfl; exact rfl; exact rfl; exact rfl; exact rfl))
              exact ⟨k + 1, by omega, by omega, gh_le ⟨le_upd rfl trivial (le_upd rfl trivial (le_upd rfl trivial (le_upd (congrArg (fun z : Int => AV.f (iv z)) hl) trivial (le_upd rfl trivial (le_upd rfl trivial (le_upd rfl trivial (le_nil _))))))), le_h0 _ _⟩⟩
          · have hwA : wA ws k = 2 := by unfold wA; rw [getD_at hc]; exact if_neg (by omega)
            have hwB : wB ws k = 0 := by unfold wB; rw [getD_at hc, getD_at hp]; exact if_pos (by omega)
            have hl : lerrK ws (firstE [(setupChk s).2, lenE ws.length]) (k + 1) = firstE [lerrK ws (firstE [(setupChk s).2, lenE ws.length]) k, 2, 0] := by rw [lerrK, hwA, hwB]
            repeat (first
    | (apply s_a TY; exact rfl)
    | (apply s_t; exact rfl; (first | assumption | omega))
    | (apply s_f; exact rfl; (first | assumption | omega))
    | apply w_seq
    | apply w_region
    | (apply w_draw (id := 6) 18 rfl (by kernel_rfl))
    | apply s_nil
    | apply t_norm
    | apply k_norm
    | apply w_block
    | apply w_skip
    | (apply w_condT; exact rfl; exact rfl)
    | (apply s_k (first3_s _ _ _); exact rfl)
    | (apply s_k (unless_T _); exact rfl)
    | (apply s_k (unless_F _); exact rfl)
    | (apply s_k2 (isSized_F _ _); exact rfl; (first | assumption | omega | decide); (first | assumption | omega | decide))
    | (apply s_s; exact rfl)
    | (apply s_c TY; exact rfl; (first | omega | exact ⟨by omega, by (first | with_reducible assumption | ((with_reducible apply rngsF_ne); omega) | assumption)⟩))
    | (apply s_z TY; exact rfl; (first | omega | exact ⟨by omega, by (first | with_reducible assumption | ((with_reducible apply rngsF_ne); omega) | assumption)⟩))
    | (apply s_l TY; exact rfl; (first | exact rfl | with_reducible assumption | ((with_reducible apply rngsF_f0); omega) | ((with_reducible apply rngsF_f1); omega) | assumption))
    | (apply s_m TY; exact rfl; (first | with_reducible assumption | ((with_reducible apply rngsF_sub); omega) | exact rfl); exact rfl)
    | (apply s_alloc TY; exact rfl; exact rfl; exact rfl)
    | (apply s_store TY; exact rfl; exact rfl; exact rfl; exact rfl; exact rfl; exact rfl))
            exact ⟨k + 1, by omega, by omega, gh_le ⟨le_upd rfl trivial (le_upd rfl trivial (le_upd rfl trivial (le_upd (congrArg (fun z : Int => AV.f (iv z)) hl) trivial (le_upd rfl trivial (le_upd rfl trivial (le_upd rfl trivial (le_nil _))))))), le_h0 _ _⟩⟩
        · by_cases hD : -2000000000000 ≤ ws[k].lo ∧ ws[k].lo ≤ 2000000000000
          · by_cases hE : -2000000000000 ≤ ws[k].hi ∧ ws[k].hi ≤ 2000000000000
            · have hwA : wA ws k = 0 := by unfold wA; rw [getD_at hc]; exact if_pos (by omega)
              have hwB : wB ws k = 9 := by unfold wB; rw [getD_at hc, getD_at hp]; exact if_neg (by omega)
              have hl : lerrK ws (firstE [(setupChk s).2, lenE ws.length]) (k + 1) = firstE [lerrK ws (firstE [(setupChk s).2, lenE ws.length]) k, 0, 9] := by rw [lerrK, hwA, hwB]
              repeat (first
    | (apply s_a TY; exact rfl)
    | (apply s_t; exact rfl; (first | assumption | omega))
    | (apply s_f; exact rfl; (first | assumption | omega))
    | apply w_seq
    | apply w_region
    | (apply w_draw (id := 6) 18 rfl (by kernel_rfl))
    | apply s_nil
    | apply t_norm
    | apply k_norm
    | apply w_block
    | apply w_skip
    | (apply w_condT; exact rfl; exact rfl)
    | (apply s_k (first3_s _ _ _); exact rfl)
    | (apply s_k (unless_T _); exact rfl)
    | (apply s_k (unless_F _); exact rfl)
    | (apply s_k2 (isSized_T _ _); exact rfl; (first | assumption | omega | decide); (first | assumption | omega | decide))
    | (apply s_c TY; exact rfl; (first | omega | exact ⟨by omega, by (first | with_reducible assumption | ((with_reducible apply rngsF_ne); omega) | assumption)⟩))
    | (apply s_z TY; exact rfl; (first | omega | exact ⟨by omega, by (first | with_reducible assumption | ((with_reducible apply rngsF_ne); omega) | assumption)⟩))
    | (apply s_l TY; exact rfl; (first | exact rfl | with_reducible assumption | ((with_reducible apply rngsF_f0); omega) | ((with_reducible apply rngsF_f1); omega) | assumption))
    | (apply s_m TY; exact rfl; (first | with_reducible assumption | ((with_reducible apply rngsF_sub); omega) | exact rfl); exact rfl)
    | (apply s_alloc TY; exact rfl; exact rfl; exact rfl)
    | (apply s_store TY; exact rfl; exact rfl; exact rfl; exact rfl; exact rfl; exact rfl))
              exact ⟨k + 1, by omega, by omega, gh_le ⟨le_upd rfl trivial (le_upd rfl trivial (le_upd rfl trivial (le_upd (congrArg (fun z : Int => AV.f (iv z)) hl) trivial (le_upd rfl trivial (le_upd rfl trivial (le_upd rfl trivial (le_nil _))))))), le_h0 _ _⟩⟩
            · have hwA : wA ws k = 2 := by unfold wA; rw [getD_at hc]; exact if_neg (by omega)
              have hwB : wB ws k = 9 := by unfold wB; rw [getD_at hc, getD_at hp]; exact if_neg (by omega)
              have hl : lerrK ws (firstE [(setupChk s).2, lenE ws.length]) (k + 1) = firstE [lerrK ws (firstE [(setupChk s).2, lenE ws.length]) k, 2, 9] := by rw [lerrK, hwA, hwB]
              repeat (first
    | (apply s_a TY; exact rfl)
    | (apply s_t; exact rfl; (first | assumption | omega))
    | (apply s_f; exact rfl; (first | assumption | omega))
    | apply w_seq
    | apply w_region
    | (apply w_draw (id := 6) 18 rfl (by kernel_rfl))
    | apply s_nil
    | apply t_norm
    | apply k_norm
    | apply w_block
    | apply w_skip
    | (apply w_condT; exact rfl; exact rfl)
    | (apply s_k (first3_s _ _ _); exact rfl)
    | (apply s_k (unless_F _); exact rfl)
    | (apply s_k2 (isSized_T _ _); exact rfl; (first | assumption | omega | decide); (first | assumption | omega | decide))
    | (apply s_k2 (isSized_F _ _); exact rfl; (first | assumption | omega | decide); (first | assumption | omega | decide))
    | (apply s_c TY; exact rfl; (first | omega | exact ⟨by omega, by (first | with_reducible assumption | ((with_reducible apply rngsF_ne); omega) | assumption)⟩))
    | (apply s_z TY; exact rfl; (first | omega | exact ⟨by omega, by (first | with_reducible assumption | ((with_reducible apply rngsF_ne); omega) | assumption)⟩))
    | (apply s_l TY; exact rfl; (first | exact rfl | with_reducible assumption | ((with_reducible apply rngsF_f0); omega) | ((with_reducible apply rngsF_f1); omega) | assumption))
    | (apply s_m TY; exact rfl; (first | with_reducible assumption | ((with_reducible apply rngsF_sub); omega) | exact rfl); exact rfl)
    | (apply s_alloc TY; exact rfl; exact rfl; exact rfl)
    | (apply s_store TY; exact rfl; exact rfl; exact rfl; exact rfl; exact rfl; exact rfl))
              exact ⟨k + 1, by omega, by omega, gh_le ⟨le_upd rfl trivial (le_upd rfl trivial (le_upd rfl trivial (le_upd (congrArg (fun z : Int => AV.f (iv z)) hl) trivial (le_upd rfl trivial (le_upd rfl trivial (le_upd rfl trivial (le_nil _))))))), le_h0 _ _⟩⟩
          · have hwA : wA ws k = 2 := by unfold wA; rw [getD_at hc]; exact if_neg (by omega)
            have hwB : wB ws k = 9 := by unfold wB; rw [getD_at hc, getD_at hp]; exact if_neg (by omega)
            have hl : lerrK ws (firstE [(setupChk s).2, lenE ws.length]) (k + 1) = firstE [lerrK ws (firstE [(setupChk s).2, lenE ws.length]) k, 2, 9] := by rw [lerrK, hwA, hwB]
            repeat (first
    | (apply s_a TY; exact rfl)
    | (apply s_t; exact rfl; (first | assumption | omega))
    | (apply s_f; exact rfl; (first | assumption | omega))
    | apply w_seq
    | apply w_region
    | (apply w_draw (id := 6) 18 rfl (by kernel_rfl))
    | apply s_nil
    | apply t_norm
    | apply k_norm
    | apply w_block
    | apply w_skip
    | (apply w_condT; exact rfl; exact rfl)
    | (apply s_k (first3_s _ _ _); exact rfl)
    | (apply s_k (unless_F _); exact rfl)
    | (apply s_k2 (isSized_F _ _); exact rfl; (first | assumption | omega | decide); (first | assumption | omega | decide))
    | (apply s_s; exact rfl)
    | (apply s_c TY; exact rfl; (first | omega | exact ⟨by omega, by (first | with_reducible assumption | ((with_reducible apply rngsF_ne); omega) | assumption)⟩))
    | (apply s_z TY; exact rfl; (first | omega | exact ⟨by omega, by (first | with_reducible assumption | ((with_reducible apply rngsF_ne); omega) | assumption)⟩))
    | (apply s_l TY; exact rfl; (first | exact rfl | with_reducible assumption | ((with_reducible apply rngsF_f0); omega) | ((with_reducible apply rngsF_f1); omega) | assumption))
    | (apply s_m TY; exact rfl; (first | with_reducible assumption | ((with_reducible apply rngsF_sub); omega) | exact rfl); exact rfl)
    | (apply s_alloc TY; exact rfl; exact rfl; exact rfl)
    | (apply s_store TY; exact rfl; exact rfl; exact rfl; exact rfl; exact rfl; exact rfl))
            exact ⟨k + 1, by omega, by omega, gh_le ⟨le_upd rfl trivial (le_upd rfl trivial (le_upd rfl trivial (le_upd (congrArg (fun z : Int => AV.f (iv z)) hl) trivial (le_upd rfl trivial (le_upd rfl trivial (le_upd rfl trivial (le_nil _))))))), le_h0 _ _⟩⟩
    · by_cases hD : -2000000000000 ≤ ws[k].lo ∧ ws[k].lo ≤ 2000000000000
      · by_cases hE : -2000000000000 ≤ ws[k].hi ∧ ws[k].hi ≤ 2000000000000
        · have hwA : wA ws k = 0 := by unfold wA; rw [getD_at hc]; exact if_pos (by omega)
          have hwB : wB ws k = 9 := by unfold wB; rw [getD_at hc, getD_at hp]; exact if_neg (by omega)
          have hl : lerrK ws (firstE [(setupChk s).2, lenE ws.length]) (k + 1) = firstE [lerrK ws (firstE [(setupChk s).2, lenE ws.length]) k, 0, 9] := by rw [lerrK, hwA, hwB]
          repeat (first
    | (apply s_a TY; exact rfl)
    | (apply s_t; exact rfl; (first | assumption | omega))
    | (apply s_f; exact rfl; (first | assumption | omega))
    | apply w_seq
    | apply w_region
    | (apply w_draw (id := 6) 18 rfl (by kernel_rfl))
    | apply s_nil
    | apply t_norm
    | apply k_norm
    | apply w_block
    | apply w_skip
    | (apply w_condT; exact rfl; exact rfl)
    | (apply s_k (first3_s _ _ _); exact rfl)
    | (apply s_k (unless_T _); exact rfl)
    | (apply s_k (unless_F _); exact rfl)
    | (apply s_k2 (isSized_T _ _); exact rfl; (first | assumption | omega | decide); (first | assumption | omega | decide))
    | (apply s_s; exact rfl)
    | (apply s_c TY; exact rfl; (first | omega | exact ⟨by omega, by (first | with_reducible assumption | ((with_reducible apply rngsF_ne); omega) | assumption)⟩))
    | (apply s_m TY; exact rfl; (first | with_reducible assumption | ((with_reducible apply rngsF_sub); omega) | exact rfl); exact rfl)
    | (apply s_alloc TY; exact rfl; exact rfl; exact rfl)
    | (apply s_store TY; exact rfl; exact rfl; exact rfl; exact rfl; exact rfl; exact rfl))
          exact ⟨k + 1, by omega, by omega, gh_le ⟨le_upd rfl trivial (le_upd rfl trivial (le_upd rfl trivial (le_upd (congrArg (fun z : Int => AV.f (iv z)) hl) trivial (le_upd rfl trivial (le_upd rfl trivial (le_upd rfl trivial (le_nil _))))))), le_h0 _ _⟩⟩
        · have hwA : wA ws k = 2 := by unfold wA; rw [getD_at hc]; exact if_neg (by omega)
          have hwB : wB ws k = 9 := by unfold wB; rw [getD_at hc, getD_at hp]; exact if_neg (by omega)
          have hl : lerrK ws (firstE [(setupChk s).2, lenE ws.length]) (k + 1) = firstE [lerrK ws (firstE [(setupChk s).2, lenE ws.length]) k, 2, 9] := by rw [lerrK, hwA, hwB]
          repeat (first
    | (apply s_a TY; exact rfl)
    | (apply s_t; exact rfl; (first | assumption | omega))
    | (apply s_f; exact rfl; (first | assumption | omega))
    | apply w_seq
    | apply w_region
    | (apply w_draw (id := 6) 18 rfl (by kernel_rfl))
    | apply s_nil
    | apply t_norm
    | apply k_norm
    | apply w_block
    | apply w_skip
    | (apply w_condT; exact rfl; exact rfl)
    | (apply s_k (first3_s _ _ _); exact rfl)
    | (apply s_k (unless_F _); exact rfl)
    | (apply s_k2 (isSized_T _ _); exact rfl; (first | assumption | omega | decide); (first | assumption | omega | decide))
    | (apply s_k2 (isSized_F _ _); exact rfl; (first | assumption | omega | decide); (first | assumption | omega | decide))
    | (apply s_s; exact rfl)
    | (apply s_c TY; exact rfl; (first | omega | exact ⟨by omega, by (first | with_reducible assumption | ((with_reducible apply rngsF_ne); omega) | assumption)⟩))
    | (apply s_m TY; exact rfl; (first | with_reducible assumption | ((with_reducible apply rngsF_sub); omega) | exact rfl); exact rfl)
    | (apply s_alloc TY; exact rfl; exact rfl; exact rfl)
    | (apply s_store TY; exact rfl; exact rfl; exact rfl; exact rfl; exact rfl; exact rfl))
          exact ⟨k + 1, by omega, by omega, gh_le ⟨le_upd rfl trivial (le_upd rfl trivial (le_upd rfl trivial (le_upd (congrArg (fun z : Int => AV.f (iv z)) hl) trivial (le_upd rfl trivial (le_upd rfl trivial (le_upd rfl trivial (le_nil _))))))), le_h0 _ _⟩⟩
      · have hwA : wA ws k = 2 := by unfold wA; rw [getD_at hc]; exact if_neg (by omega)
        have hwB : wB ws k = 9 := by unfold wB; rw [getD_at hc, getD_at hp]; exact if_neg (by omega)
        have hl : lerrK ws (firstE [(setupChk s).2, lenE ws.length]) (k + 1) = firstE [lerrK ws (firstE [(setupChk s).2, lenE ws.length]) k, 2, 9] := by rw [lerrK, hwA, hwB]
        repeat (first
    | (apply s_a TY; exact rfl)
    | (apply s_t; exact rfl; (first | assumption | omega))
    | (apply s_f; exact rfl; (first | assumption | omega))
    | apply w_seq
    | apply w_region
    | (apply w_draw (id := 6) 18 rfl (by kernel_rfl))
    | apply s_nil
    | apply t_norm
    | apply k_norm
    | apply w_block
    | apply w_skip
    | (apply w_condT; exact rfl; exact rfl)
    | (apply s_k (first3_s _ _ _); exact rfl)
    | (apply s_k (unless_F _); exact rfl)
    | (apply s_k2 (isSized_F _ _); exact rfl; (first | assumption | omega | decide); (first | assumption | omega | decide))
    | (apply s_s; exact rfl)
    | (apply s_c TY; exact rfl; (first | omega | exact ⟨by omega, by (first | with_reducible assumption | ((with_reducible apply rngsF_ne); omega) | assumption)⟩))
    | (apply s_m TY; exact rfl; (first | with_reducible assumption | ((with_reducible apply rngsF_sub); omega) | exact rfl); exact rfl)
    | (apply s_alloc TY; exact rfl; exact rfl; exact rfl)
    | (apply s_store TY; exact rfl; exact rfl; exact rfl; exact rfl; exact rfl; exact rfl))
        exact ⟨k + 1, by omega, by omega, gh_le ⟨le_upd rfl trivial (le_upd rfl trivial (le_upd rfl trivial (le_upd (congrArg (fun z : Int => AV.f (iv z)) hl) trivial (le_upd rfl trivial (le_upd rfl trivial (le_upd rfl trivial (le_nil _))))))), le_h0 _ _⟩⟩
  · have hke : k = ws.length := by omega
    subst hke
    by_cases hF : 0 ≤ r.lo ∧ r.lo ≤ 1000000000000
    · by_cases hG : 0 ≤ r.hi ∧ r.hi ≤ 1000000000000
      · by_cases hH : r.lo ≤ r.hi
        · have hrA : runA r = 0 := by unfold runA; exact if_pos (by omega)
          have hrB : runB r = 0 := by unfold runB; exact if_pos (by omega)
          have hv : liveErrV s ws r = firstE [lerrK ws (firstE [(setupChk s).2, lenE ws.length]) ws.length, 0, 0] := by unfold liveErrV; rw [hrA, hrB]
          by_cases h0 : liveErrV s ws r = 0
          · rw [if_pos h0, h0]
            rw [hv] at h0
            have h0' := h0
            rw [← hv] at h0
            obtain ⟨z1, z2, z3, z4, z5⟩ := liveErr_parts h0
            have hs := setOk_of z1
            have hdd := hs.dead
            repeat (first
    | (apply s_a TY; exact rfl)
    | (apply s_t; exact rfl; (first | assumption | omega))
    | (apply s_f; exact rfl; (first | assumption | omega))
    | apply w_seq
    | apply w_region
    | (apply w_draw (id := 9) 16 rfl (by kernel_rfl))
    | apply s_nil
    | apply t_norm
    | apply t_exit
    | apply k_hit
    | apply w_block
    | apply w_exit
    | apply w_skip
    | (apply w_condF; exact rfl; exact rfl)
    | (apply s_k (first3_s _ _ _); exact rfl)
    | (apply s_k (unless_T _); exact rfl)
    | (apply s_k1 (isTick_T _); exact rfl; (first | assumption | omega | decide))
    | (apply s_c TY; exact rfl; (first | omega | exact ⟨by omega, by (first | with_reducible assumption | ((with_reducible apply rngsF_ne); omega) | assumption)⟩)))
            apply w_loop (fun k : Nat => ⟨(Ab.upd (Ab.upd (Ab.upd (Ab.upd (Ab.upd (Ab.upd (Ab.upd (fun _ => .bot) 3 (.f (.pt (setL s) 0))) 5 (.f (.pt (rngF r) 0))) 13 (.f (iv (liveK s ws r k).1))) 14 (.f (iv (liveK s ws r k).2))) 103 (.f (.sl ws.length (rngsF ws)))) 104 (.f (iv ws.length))) 105 (.f (iv (k : Nat)))), (fun _ => none), 0⟩) (fun k => k ≤ ws.length) (fun k => ws.length - k) 0 (Nat.zero_le _) (gh_le ⟨le_upd rfl trivial (le_upd rfl trivial (le_upd rfl trivial (le_upd rfl trivial (le_upd rfl trivial (le_upd rfl trivial (le_upd rfl trivial (le_nil _))))))), le_h0 _ _⟩)
            intro k hk
            have hbd := liveK_bd (s := s) (ws := ws) z5 k
            by_cases hc : k < ws.length
            · have hwz := wA_zero hc (z3 k hc).1
              by_cases hm : max (liveK s ws r k).2 (ws[k].hi + 1) ≤ min r.hi (ws[k].hi + s.dead)
              · have hl : liveK s ws r (k + 1) = ((liveK s ws r k).1 - (min r.hi (ws[k].hi + s.dead) - max (liveK s ws r k).2 (ws[k].hi + 1) + 1), min r.hi (ws[k].hi + s.dead) + 1) := by rw [liveK, getD_at hc, liveStep, if_pos hm]
                repeat (first
    | (apply s_a TY; exact rfl)
    | (apply s_t; exact rfl; (first | assumption | omega))
    | apply w_seq
    | apply w_region
    | (apply w_draw (id := 17) 14 rfl (by kernel_rfl))
    | apply s_nil
    | apply t_norm
    | apply k_norm
    | apply w_block
    | apply w_skip
    | (apply w_condT; exact rfl; exact rfl)
    | (apply s_c TY; exact rfl; (first | omega | exact ⟨by omega, by (first | with_reducible assumption | ((with_reducible apply rngsF_ne); omega) | assumption)⟩))
    | (apply s_m TY; exact rfl; (first | with_reducible assumption | ((with_reducible apply rngsF_sub); omega) | exact rfl); exact rfl)
    | (apply s_alloc TY; exact rfl; exact rfl; exact rfl)
    | (apply s_store TY; exact rfl; exact rfl; exact rfl; exact rfl; exact rfl; exact rfl))
                exact ⟨k + 1, by omega, by omega, gh_le ⟨le_upd rfl trivial (le_upd rfl trivial (le_upd rfl trivial (le_upd (congrArg (fun z : Int × Int => AV.f (iv z.2)) hl) trivial (le_upd (congrArg (fun z : Int × Int => AV.f (iv z.1)) hl) trivial (le_upd rfl trivial (le_upd rfl trivial (le_nil _))))))), le_h0 _ _⟩⟩
              · have hl : liveK s ws r (k + 1) = liveK s ws r k := by rw [liveK, getD_at hc, liveStep, if_neg hm]
                repeat (first
    | (apply s_a TY; exact rfl)
    | (apply s_t; exact rfl; (first | assumption | omega))
    | (apply s_f; exact rfl; (first | assumption | omega))
    | apply w_seq
    | apply w_region
    | (apply w_draw (id := 17) 14 rfl (by kernel_rfl))
    | apply s_nil
    | apply t_norm
    | apply k_norm
    | apply w_block
    | apply w_skip
    | (apply w_condT; exact rfl; exact rfl)
    | (apply w_condF; exact rfl; exact rfl)
    | (apply s_c TY; exact rfl; (first | omega | exact ⟨by omega, by (first | with_reducible assumption | ((with_reducible apply rngsF_ne); omega) | assumption)⟩))
    | (apply s_m TY; exact rfl; (first | with_reducible assumption | ((with_reducible apply rngsF_sub); omega) | exact rfl); exact rfl)
    | (apply s_alloc TY; exact rfl; exact rfl; exact rfl)
    | (apply s_store TY; exact rfl; exact rfl; exact rfl; exact rfl; exact rfl; exact rfl))
                exact ⟨k + 1, by omega, by omega, gh_le ⟨le_upd rfl trivial (le_upd rfl trivial (le_upd rfl trivial (le_upd (congrArg (fun z : Int × Int => AV.f (iv z.2)) hl) trivial (le_upd (congrArg (fun z : Int × Int => AV.f (iv z.1)) hl) trivial (le_upd rfl trivial (le_upd rfl trivial (le_nil _))))))), le_h0 _ _⟩⟩
            · have hke : k = ws.length := by omega
              subst hke
              repeat (first
    | (apply s_a TY; exact rfl)
    | (apply s_f; exact rfl; (first | assumption | omega))
    | apply w_seq
    | apply w_region
    | apply s_nil
    | apply t_norm
    | apply t_exit
    | apply k_hit
    | apply w_exit
    | apply w_ret
    | (apply w_condF; exact rfl; exact rfl))
              exact lv_ret (ret2 rfl (res_tmp rfl) (res_tmp rfl))
          · rw [if_neg h0]
            have h0' := h0
            rw [hv] at h0' ⊢
            repeat (first
    | (apply s_a TY; exact rfl)
    | (apply s_t; exact rfl; (first | assumption | omega))
    | (apply s_f; exact rfl; (first | assumption | omega))
    | apply w_seq
    | apply w_region
    | (apply w_draw (id := 9) 16 rfl (by kernel_rfl))
    | apply s_nil
    | apply t_norm
    | apply t_exit
    | apply t_ret
    | apply k_hit
    | apply w_exit
    | apply w_ret
    | (apply w_condT; exact rfl; exact rfl)
    | (apply w_condF; exact rfl; exact rfl)
    | (apply s_k (first3_s _ _ _); exact rfl)
    | (apply s_k (unless_T _); exact rfl)
    | (apply s_k1 (isTick_T _); exact rfl; (first | assumption | omega | decide)))
            exact lv_ret (ret2 rfl (res_tmp rfl) (res_tmp rfl))
        · have hrA : runA r = 0 := by unfold runA; exact if_pos (by omega)
          have hrB : runB r = 9 := by unfold runB; exact if_neg (by omega)
          have hv : liveErrV s ws r = firstE [lerrK ws (firstE [(setupChk s).2, lenE ws.length]) ws.length, 0, 9] := by unfold liveErrV; rw [hrA, hrB]
          by_cases h0 : liveErrV s ws r = 0
          · rw [if_pos h0, h0]
            rw [hv] at h0
            have h0' := h0
            rw [← hv] at h0
            exact absurd (firstE3_zero h0').2 (by decide)
          · rw [if_neg h0]
            have h0' := h0
            rw [hv] at h0' ⊢
            repeat (first
    | (apply s_a TY; exact rfl)
    | (apply s_f; exact rfl; (first | assumption | omega))
    | apply w_seq
    | apply w_region
    | (apply w_draw (id := 9) 16 rfl (by kernel_rfl))
    | apply s_nil
    | apply t_norm
    | apply t_exit
    | apply t_ret
    | apply k_hit
    | apply w_exit
    | apply w_ret
    | (apply w_condT; exact rfl; exact rfl)
    | (apply w_condF; exact rfl; exact rfl)
    | (apply s_k (first3_s _ _ _); exact rfl)
    | (apply s_k (unless_T _); exact rfl)
    | (apply s_k (unless_F _); exact rfl)
    | (apply s_k1 (isTick_T _); exact rfl; (first | assumption | omega | decide)))
            exact lv_ret (ret2 rfl (res_tmp rfl) (res_tmp rfl))
      · by_cases hH : r.lo ≤ r.hi
        · have hrA : runA r = 2 := by unfold runA; exact if_neg (by omega)
          have hrB : runB r = 0 := by unfold runB; exact if_pos (by omega)
          have hv : liveErrV s ws r = firstE [lerrK ws (firstE [(setupChk s).2, lenE ws.length]) ws.length, 2, 0] := by unfold liveErrV; rw [hrA, hrB]
          by_cases h0 : liveErrV s ws r = 0
          · rw [if_pos h0, h0]
            rw [hv] at h0
            have h0' := h0
            rw [← hv] at h0
            exact absurd (firstE3_zero h0').2 (by decide)
          · rw [if_neg h0]
            have h0' := h0
            rw [hv] at h0' ⊢
            repeat (first
    | (apply s_a TY; exact rfl)
    | (apply s_t; exact rfl; (first | assumption | omega))
    | (apply s_f; exact rfl; (first | assumption | omega))
    | apply w_seq
    | apply w_region
    | (apply w_draw (id := 9) 16 rfl (by kernel_rfl))
    | apply s_nil
    | apply t_norm
    | apply t_exit
    | apply t_ret
    | apply k_hit
    | apply w_exit
    | apply w_ret
    | (apply w_condT; exact rfl; exact rfl)
    | (apply w_condF; exact rfl; exact rfl)
    | (apply s_k (first3_s _ _ _); exact rfl)
    | (apply s_k (unless_T _); exact rfl)
    | (apply s_k (unless_F _); exact rfl)
    | (apply s_k1 (isTick_T _); exact rfl; (first | assumption | omega | decide))
    | (apply s_k1 (isTick_F _); exact rfl; (first | assumption | omega | decide)))
            exact lv_ret (ret2 rfl (res_tmp rfl) (res_tmp rfl))
        · have hrA : runA r = 2 := by unfold runA; exact if_neg (by omega)
          have hrB : runB r = 9 := by unfold runB; exact if_neg (by omega)
          have hv : liveErrV s ws r = firstE [lerrK ws (firstE [(setupChk s).2, lenE ws.length]) ws.length, 2, 9] := by unfold liveErrV; rw [hrA, hrB]
          by_cases h0 : liveErrV s ws r = 0
          · rw [if_pos h0, h0]
            rw [hv] at h0
            have h0' := h0
            rw [← hv] at h0
            exact absurd (firstE3_zero h0').2 (by decide)
          · rw [if_neg h0]
            have h0' := h0
            rw [hv] at h0' ⊢
            repeat (first
    | (apply s_a TY; exact rfl)
    | (apply s_f; exact rfl; (first | assumption | omega))
    | apply w_seq
    | apply w_region
    | (apply w_draw (id := 9) 16 rfl (by kernel_rfl))
    | apply s_nil
    | apply t_norm
    | apply t_exit
    | apply t_ret
    | apply k_hit
    | apply w_exit
    | apply w_ret
    | (apply w_condT; exact rfl; exact rfl)
    | (apply w_condF; exact rfl; exact rfl)
    | (apply s_k (first3_s _ _ _); exact rfl)
    | (apply s_k (unless_F _); exact rfl)
    | (apply s_k1 (isTick_T _); exact rfl; (first | assumption | omega | decide))
    | (apply s_k1 (isTick_F _); exact rfl; (first | assumption | omega | decide)))
            exact lv_ret (ret2 rfl (res_tmp rfl) (res_tmp rfl))
    · by_cases hH : r.lo ≤ r.hi
      · have hrA : runA r = 2 := by unfold runA; exact if_neg (by omega)
        have hrB : runB r = 0 := by unfold runB; exact if_pos (by omega)
        have hv : liveErrV s ws r = firstE [lerrK ws (firstE [(setupChk s).2, lenE ws.length]) ws.length, 2, 0] := by unfold liveErrV; rw [hrA, hrB]
        by_cases h0 : liveErrV s ws r = 0
        · rw [if_pos h0, h0]
          rw [hv] at h0
          have h0' := h0
          rw [← hv] at h0
          exact absurd (firstE3_zero h0').2 (by decide)
        · rw [if_neg h0]
          have h0' := h0
          rw [hv] at h0' ⊢
          repeat (first
    | (apply s_a TY; exact rfl)
    | (apply s_t; exact rfl; (first | assumption | omega))
    | (apply s_f; exact rfl; (first | assumption | omega))
    | apply w_seq
    | apply w_region
    | (apply w_draw (id := 9) 16 rfl (by kernel_rfl))
    | apply s_nil
    | apply t_norm
    | apply t_exit
    | apply t_ret
    | apply k_hit
    | apply w_exit
    | apply w_ret
    | (apply w_condT; exact rfl; exact rfl)
    | (apply w_condF; exact rfl; exact rfl)
    | (apply s_k (first3_s _ _ _); exact rfl)
    | (apply s_k (unless_T _); exact rfl)
    | (apply s_k (unless_F _); exact rfl)
    | (apply s_k1 (isTick_F _); exact rfl; (first | assumption | omega | decide))
    | (apply s_s; exact rfl))
          exact lv_ret (ret2 rfl (res_tmp rfl) (res_tmp rfl))
      · have hrA : runA r = 2 := by unfold runA; exact if_neg (by omega)
        have hrB : runB r = 9 := by unfold runB; exact if_neg (by omega)
        have hv : liveErrV s ws r = firstE [lerrK ws (firstE [(setupChk s).2, lenE ws.length]) ws.length, 2, 9] := by unfold liveErrV; rw [hrA, hrB]
        by_cases h0 : liveErrV s ws r = 0
        · rw [if_pos h0, h0]
          rw [hv] at h0
          have h0' := h0
          rw [← hv] at h0
          exact absurd (firstE3_zero h0').2 (by decide)
        · rw [if_neg h0]
          have h0' := h0
          rw [hv] at h0' ⊢
          repeat (first
    | (apply s_a TY; exact rfl)
    | (apply s_f; exact rfl; (first | assumption | omega))
    | apply w_seq
    | apply w_region
    | (apply w_draw (id := 9) 16 rfl (by kernel_rfl))
    | apply s_nil
    | apply t_norm
    | apply t_exit
    | apply t_ret
    | apply k_hit
    | apply w_exit
    | apply w_ret
    | (apply w_condT; exact rfl; exact rfl)
    | (apply w_condF; exact rfl; exact rfl)
    | (apply s_k (first3_s _ _ _); exact rfl)
    | (apply s_k (unless_F _); exact rfl)
    | (apply s_k1 (isTick_F _); exact rfl; (first | assumption | omega | decide))
    | (apply s_s; exact rfl))
          exact lv_ret (ret2 rfl (res_tmp rfl) (res_tmp rfl))
end Go.Proofs.YtdmdpkoapllkkaaGreat
namespace Go.Ab
open Go Go.RowKit Go.Shelf Go.Proofs Go.Lib
theorem growG {P : Program} {G : Nat → Option (List FV)} {ρ : Ren} (L : Lays8.n4 P ρ) (i0 : TypeInfo) (z : Value) (hi0 : P.info? (ρ.t 25) = some i0) (hz0 : i0.zero = some z) (hs0 : 0 < i0.size) (hzs : z.cells.size = i0.size) (hent : Enters P (ρ.f 4)) (n : Nat) (hbig : n * i0.bytes ≤ 140737488355328) (h63 : n ≤ 4611686018427387904) :
    SummG P G (ρ.f 4) [] [.f (.v (.slice none 0 0)), .f (.v (.int .i64 n))] (.ow 0) [.row (ρ.t 25) i0.size 0 []] := by
  refine ⟨hent, by simp, fun i B B' h1 h2 => by simp at h1, fun w M X us J hX hM hG hA hL => ?_⟩
  obtain ⟨v0, v1, rfl⟩ : ∃ v0 v1, us = [v0, v1] := by
    obtain ⟨e, _⟩ := hA
    match us, e with
    | [a, b], _ => exact ⟨a, b, rfl⟩
  have hv0 : RepF w _ v0 (.v (.slice none 0 0)) := hA.2 0 v0 (.f _) rfl rfl
  have hv1 : RepF w _ v1 (.v (.int .i64 n)) := hA.2 1 v1 (.f _) rfl rfl
  cases hv0
  cases hv1
  by_cases hn : n = 0
  · subst hn
    refine (Any8.slices_Grow_room L none 0 0 0 w (Nat.le_refl _) (by omega) (by omega) (Nat.le_refl _)).mono ?_
    rintro e w' ⟨rfl, rfl⟩
    refine ⟨_, fun _ => .slice none 0 0, rfl, ⟨rfl, rfl⟩, ⟨fun i B hB => ?_, fun i j b hi hj _ _ => by simp at hi hj; omega⟩, Grew.refl _ _, fun i B hB => by simp at hB⟩
    match i, hB with
    | 0, hB => cases hB; exact ⟨[], ⟨by simp, .inl ⟨rfl, rfl⟩⟩, fun b hb => (by cases hb), fun u hu => by simp at hu, RepL.nil _ _⟩
    | _ + 1, hB => simp at hB
  · refine (Any8.slices_Grow_grow L i0 z hi0 hz0 hs0 none 0 0 n [] w (Nat.le_refl _) (by omega) (by simpa using hbig) (by omega) (by simp) (fun _ => rfl) (fun a h => by cases h)).mono ?_
    rintro e w' ⟨rfl, rfl⟩
    have hge : n ≤ grownCap w n 0 (ρ.t 25) := by have := grownCap_ge w (0 + n) 0 (ρ.t 25); simpa using this
    have hmx : grownCap w n 0 (ρ.t 25) ≤ maxLen := grownCap_le_maxLen w n 0 (ρ.t 25) (by unfold maxLen; omega)
    rw [Nat.zero_add]
    generalize grownCap w n 0 (ρ.t 25) = c at hge hmx ⊢
    obtain ⟨cur, hcur⟩ : ∃ cur, cur = (([] : List Value).toArray ++ Builtin.zeroCells z.cells (n - 0) ++ Builtin.zeroCells z.cells (c - n)) := ⟨_, rfl⟩
    rw [← hcur]
    have hsz : cur.size = c * i0.size := by
      rw [hcur]
      have hz : ∀ m, (Builtin.zeroCells z.cells m).size = m * i0.size := fun m => by rw [← hzs]; simp [Builtin.zeroCells]
      simp only [Array.size_append, hz]
      simp only [List.size_toArray, List.length_nil, Nat.zero_add, Nat.sub_zero]
      rw [← Nat.add_mul]; congr 1; omega
    have hheap : (w.drew.alloc (.cells cur (ρ.t 25))).heap[w.heap.size]? = some (.cells cur (ρ.t 25) (0, 0)) := by
      show (w.heap.push (.cells cur (ρ.t 25) (0, 0)))[w.heap.size]? = _
      exact Array.getElem?_push_size
    refine ⟨_, fun _ => .slice (some ⟨w.heap.size, 0, none⟩) 0 c, rfl, ⟨rfl, rfl⟩, ⟨fun i B hB => ?_, fun i j b hi hj _ _ => by simp at hi hj; omega⟩, ?_, fun i B hB => by simp at hB⟩
    · match i, hB with
      | 0, hB =>
        cases hB
        have hr : (w.drew.alloc (.cells cur (ρ.t 25))).ownsRow 0 (ρ.t 25) i0.size (.slice (some ⟨w.heap.size, 0, none⟩) 0 c) 0 [] := ⟨by simp, .inr ⟨w.heap.size, c, cur, rfl, Nat.zero_le _, hheap, Nat.zero_le _, hmx, hsz, by simp⟩⟩
        exact ⟨[], hr, fun b hb => .inl (by simp [bk] at hb; omega), fun u hu => by simp at hu, RepL.nil _ _⟩
      | _ + 1, hB => simp at hB
    · exact Grew.ofExt (Ext.trans (b := w.drew) ⟨rfl, rfl, rfl, Nat.le_refl _, fun _ _ => rfl⟩ (Ext.alloc _ _))
end Go.Ab
namespace Go.Proofs.YtdmdpkoapllkkaaGreat
open Go.Proofs Go.Shelf
def growH_ren : Go.Shelf.Ren := ⟨fun | 4 => 124 | n => n, fun | 22 => 27 | 25 => 29 | 3 => 3 | 4 => 4 | 9 => 9 | 20 => 20 | 0 => 0 | n => n, fun | n => n⟩
theorem growH : Go.Proofs.Lays8.n4 Tryz.prog growH_ren := {
  mixed := by kernel_rfl
  f4 := ⟨Tryz.f124.name, by decide, Tryz.func124.trans (congrArg some (by kernel_rfl))⟩
  t0 := Tryz.underlying0
  a0 := Tryz.isAgg0
  z0 := Tryz.sizeOf0
  v0 := Tryz.zeroValue0
  t3 := Tryz.underlying3
  a3 := Tryz.isAgg3
  z3 := Tryz.sizeOf3
  v3 := Tryz.zeroValue3
  t4 := Tryz.underlying4
  a4 := Tryz.isAgg4
  z4 := Tryz.sizeOf4
  v4 := Tryz.zeroValue4
  t9 := Tryz.underlying9
  a9 := Tryz.isAgg9
  z9 := Tryz.sizeOf9
  v9 := Tryz.zeroValue9
  t20 := Tryz.underlying20
  a20 := Tryz.isAgg20
  z20 := Tryz.sizeOf20
  v20 := Tryz.zeroValue20
  t22 := Tryz.underlying27
  a22 := Tryz.isAgg27
  z22 := Tryz.sizeOf27
  v22 := Tryz.zeroValue27 }
end Go.Proofs.YtdmdpkoapllkkaaGreat
namespace Go.Proofs.YtdmdpkoapllkkaaGreat
open Go Go.RowKit Go.Proofs Go.Shelf Go.Ab
set_option maxRecDepth 100000 in
theorem growH_g (n : Nat) (h : n ≤ 1000000) : SummG Tryz.prog GG 124 [] [.f (.v (.slice none 0 0)), .f (iv (n : Int))] (.ow 0) [.row 29 3 0 []] := by
  obtain ⟨i0, z, hi, hz, hs, hb, hc⟩ : ∃ (i0 : TypeInfo) (z : Value), Tryz.prog.info? 29 = some i0 ∧ i0.zero = some z ∧ i0.size = 3 ∧ i0.bytes ≤ 1000 ∧ z.cells.size = 3 := ⟨_, _, rfl, rfl, rfl, by decide, rfl⟩
  have := growG (G := GG) growH i0 z hi hz (by omega) (by omega) (enters_of Tryz.func124 (by kernel_rfl) rfl) n (by have := Nat.mul_le_mul h hb; omega) (by omega)
  rw [hs] at this
  exact this
def partN (a b : List Hit) : Nat → List Hit
  | 0 => []
  | 1 => a
  | _ + 2 => a ++ b
theorem rowH_part (a b c : List Hit) {k : Nat} (h : partN a b (k + 1) = partN a b k ++ c) : some (Blk.row 29 3 (partN a b (k + 1)).length (hitsF (partN a b (k + 1)))) = some (Blk.row 29 3 ((partN a b k).length + c.length) (hitsF (partN a b k) ++ hitsF c)) := by
  rw [h, hitsF_app, List.length_append]
set_option maxRecDepth 100000 in
set_option maxHeartbeats 1600000 in
theorem concat_s (a b : List Hit) (ha : a.length ≤ 1000) (hb : b.length ≤ 1000) : Summ Tryz.prog GG 64 [.sl 2 [.sl a.length (hitsF a), .sl b.length (hitsF b)]] (.sl (a ++ b).length (hitsF (a ++ b))) := by
  have q0 : ((partN a b (0 + 1)).length : Int) = ((partN a b 0).length : Int) + (a.length : Int) := by simp [partN]
  have q1 : ((partN a b (1 + 1)).length : Int) = ((partN a b 1).length : Int) + (b.length : Int) := by simp [partN]
  have r0 : (partN a b 0).length = 0 := rfl
  have r1 : (partN a b 1).length = a.length := rfl
  have r2 : (partN a b 2).length ≤ 2000 := by have : (partN a b 2).length = a.length + b.length := by simp [partN]
                                              omega
  have hne : ([.sl a.length (hitsF a), .sl b.length (hitsF b)] : List FV) ≠ [] := by simp
  have hx0 : ([.sl a.length (hitsF a), .sl b.length (hitsF b)] : List FV)[0 * 1]? = some (FV.sl a.length (hitsF a)) := rfl
  have hx1 : ([.sl a.length (hitsF a), .sl b.length (hitsF b)] : List FV)[1 * 1]? = some (FV.sl b.length (hitsF b)) := rfl
  refine summW Tryz.func64 rfl rfl 36 rfl (by simp) (fun M0 => ?_)
  repeat (first
    | (apply s_a TY; exact rfl)
    | apply w_seq
    | apply w_region
    | apply s_nil
    | apply t_norm
    | apply w_block)
  apply w_loop (fun k : Nat => ⟨(Ab.upd (Ab.upd (Ab.upd (Ab.upd (Ab.upd (fun _ => .bot) 0 (.f (.sl 2 [.sl a.length (hitsF a), .sl b.length (hitsF b)]))) 3 (.f (iv (((partN a b k).length : Nat) : Int)))) 9 (.f (.sl 2 [.sl a.length (hitsF a), .sl b.length (hitsF b)]))) 10 (.f (iv 2))) 11 (.f (iv (k : Nat)))), (fun _ => none), 0⟩) (fun k => k ≤ 2) (fun k => 2 - k) 0 (Nat.zero_le _) (gh_le ⟨le_upd rfl trivial (le_upd rfl trivial (le_upd rfl trivial (le_upd rfl trivial (le_upd rfl trivial (le_nil _))))), le_h0 _ _⟩)
  intro k hk
  rcases (by omega : k = 0 ∨ k = 1 ∨ k = 2) with rfl | rfl | rfl
  · repeat (first
    | (apply s_a TY; exact rfl)
    | (apply s_t; exact rfl; (first | assumption | omega))
    | (apply s_f; exact rfl; (first | assumption | omega))
    | apply w_seq
    | apply w_region
    | apply s_nil
    | apply t_norm
    | apply k_norm
    | apply w_block
    | apply w_skip
    | (apply w_condT; exact rfl; exact rfl)
    | (apply w_condF; exact rfl; exact rfl)
    | (apply s_c TY; exact rfl; (first | omega | exact ⟨by omega, by (first | with_reducible assumption | assumption)⟩)))
    exact ⟨0 + 1, by omega, by omega, gh_le ⟨le_upd rfl trivial (le_upd rfl trivial (le_upd rfl trivial (le_upd (congrArg (fun z : Int => AV.f (iv z)) q0) trivial (le_upd rfl trivial (le_nil _))))), le_h0 _ _⟩⟩
  · repeat (first
    | (apply s_a TY; exact rfl)
    | (apply s_t; exact rfl; (first | assumption | omega))
    | (apply s_f; exact rfl; (first | assumption | omega))
    | apply w_seq
    | apply w_region
    | apply s_nil
    | apply t_norm
    | apply k_norm
    | apply w_block
    | apply w_skip
    | (apply w_condT; exact rfl; exact rfl)
    | (apply w_condF; exact rfl; exact rfl)
    | (apply s_c TY; exact rfl; (first | omega | exact ⟨by omega, by (first | with_reducible assumption | assumption)⟩)))
    exact ⟨1 + 1, by omega, by omega, gh_le ⟨le_upd rfl trivial (le_upd rfl trivial (le_upd rfl trivial (le_upd (congrArg (fun z : Int => AV.f (iv z)) q1) trivial (le_upd rfl trivial (le_nil _))))), le_h0 _ _⟩⟩
  · repeat (first
    | (apply s_a TY; exact rfl)
    | (apply s_f; exact rfl; (first | assumption | omega))
    | apply w_seq
    | apply w_region
    | apply s_nil
    | apply t_norm
    | apply t_exit
    | apply k_hit
    | apply w_block
    | apply w_exit
    | (apply w_condF; exact rfl; exact rfl)
    | (apply s_callG [] (growH_g (partN a b 2).length (by omega)); exact rfl; exact rfl; exact rfl; exact trivial; exact rfl; (first | exact ⟨rfl, rfl⟩ | exact ⟨⟨rfl, rfl⟩, ⟨rfl, rfl⟩⟩ | exact ⟨⟨rfl, rfl⟩, ⟨rfl, rfl⟩, ⟨rfl, rfl⟩⟩)))
    apply w_loop (fun k : Nat => ⟨(Ab.upd (Ab.upd (Ab.upd (Ab.upd (fun _ => .bot) 6 (.ow 0)) 25 (.f (.sl 2 [.sl a.length (hitsF a), .sl b.length (hitsF b)]))) 26 (.f (iv 2))) 27 (.f (iv (k : Nat)))), (Ab.upd (fun _ => none) 0 (some (.row 29 3 (partN a b k).length (hitsF (partN a b k))))), 1⟩) (fun k => k ≤ 2) (fun k => 2 - k) 0 (Nat.zero_le _) (gh_le ⟨le_upd rfl trivial (le_upd rfl trivial (le_upd rfl trivial (le_upd rfl rfl (le_nil _)))), le_hupd rfl trivial (le_h0 _ _)⟩)
    intro k hk
    rcases (by omega : k = 0 ∨ k = 1 ∨ k = 2) with rfl | rfl | rfl
    · repeat (first
    | (apply s_append TY; exact rfl; exact rfl; exact rfl; exact rfl; exact rfl; exact rfl; exact rfl; exact rfl; (first | exact rfl | exact hitsF_len _); (unfold maxLen; omega); omega)
    | (apply s_a TY; exact rfl)
    | (apply s_t; exact rfl; (first | assumption | omega))
    | apply w_seq
    | apply w_region
    | apply s_nil
    | apply t_norm
    | apply k_norm
    | apply w_block
    | apply w_skip
    | (apply w_condT; exact rfl; exact rfl)
    | (apply s_c TY; exact rfl; (first | omega | exact ⟨by omega, by (first | with_reducible assumption | assumption)⟩)))
      exact ⟨0 + 1, by omega, by omega, gh_le ⟨le_upd rfl trivial (le_upd rfl trivial (le_upd rfl trivial (le_upd rfl rfl (le_nil _)))), le_hupd (rowH_part a b a rfl).symm trivial (le_h0 _ _)⟩⟩
    · repeat (first
    | (apply s_append TY; exact rfl; exact rfl; exact rfl; exact rfl; exact rfl; exact rfl; exact rfl; exact rfl; (first | exact rfl | exact hitsF_len _); (unfold maxLen; omega); omega)
    | (apply s_a TY; exact rfl)
    | (apply s_t; exact rfl; (first | assumption | omega))
    | apply w_seq
    | apply w_region
    | apply s_nil
    | apply t_norm
    | apply k_norm
    | apply w_block
    | apply w_skip
    | (apply w_condT; exact rfl; exact rfl)
    | (apply s_c TY; exact rfl; (first | omega | exact ⟨by omega, by (first | with_reducible assumption | assumption)⟩)))
      exact ⟨1 + 1, by omega, by omega, gh_le ⟨le_upd rfl trivial (le_upd rfl trivial (le_upd rfl trivial (le_upd rfl rfl (le_nil _)))), le_hupd (rowH_part a b b rfl).symm trivial (le_h0 _ _)⟩⟩
    · repeat (first
    | (apply s_a TY; exact rfl)
    | (apply s_f; exact rfl; (first | assumption | omega))
    | apply w_seq
    | apply w_region
    | apply s_nil
    | apply t_norm
    | apply t_exit
    | apply k_hit
    | apply w_exit
    | apply w_ret
    | (apply w_condF; exact rfl; exact rfl))
      exact lv_ret (ret_gh (gh_row 0 rfl) (ret1 rfl (res_tmp rfl)))
end Go.Proofs.YtdmdpkoapllkkaaGreat
namespace Go.Proofs.YtdmdpkoapllkkaaGreat
open Go Go.RowKit Go.Proofs Go.Shelf Go.Ab
def woH (h : List Hit) (i : Nat) : List Hit := h.take i ++ h.drop (i + 1)
theorem woH_sub (h : List Hit) (i : Nat) : (woH h i).Sublist h := by
  have h1 : (h.take i ++ h.drop (i + 1)).Sublist (h.take i ++ h.drop i) := List.Sublist.append_left (by
    rw [show i + 1 = i + 1 from rfl, ← List.drop_drop]
    exact List.drop_sublist 1 _) _
  rw [List.take_append_drop] at h1
  exact h1
theorem hits_pw {l : List Site} {h : List Hit} (ho : HitsOk l h) : h.Pairwise before := by
  rw [List.pairwise_iff_getElem]
  intro i j hi hj hij
  obtain ⟨d, rfl⟩ : ∃ d, j = i + 1 + d := ⟨j - (i + 1), by omega⟩
  induction d with
  | zero => exact ho.next i hj
  | succ d ih => exact before_trans (ih (by omega) (by omega)) (ho.next (i + 1 + d) hj)
theorem hitsOk_sub {l : List Site} {h h' : List Hit} (ho : HitsOk l h) (hs : h'.Sublist h) : HitsOk l h' := by
  have hp := (hits_pw ho).sublist hs
  rw [List.pairwise_iff_getElem] at hp
  refine ⟨Nat.le_trans hs.length_le ho.len, fun i hi => ?_, fun i hi => hp i (i + 1) (by omega) hi (by omega)⟩
  obtain ⟨j, hj, e⟩ := List.getElem_of_mem (hs.subset (List.getElem_mem hi))
  rw [← e]; exact ho.hit j hj
def critN (l : List Site) (r : Rule) (h : List Hit) (n : Nat) : List Int := natsL ((List.range n).filter fun i => (firesV l r (woH h i) (woH h i).length).isEmpty)
def critV (l : List Site) (r : Rule) (h : List Hit) : List Int := if (firesV l r h h.length).isEmpty then [] else critN l r h h.length
theorem critN_succ (l : List Site) (r : Rule) (h : List Hit) (n : Nat) : critN l r h (n + 1) = critN l r h n ++ (if (firesV l r (woH h n) (woH h n).length).isEmpty = true then [(n : Int)] else []) := by
  unfold critN natsL
  rw [List.range_succ, List.filter_append, List.map_append]
  congr 1
  cases e : (firesV l r (woH h n) (woH h n).length).isEmpty with
  | true => simp only [List.filter, e, if_true]; rfl
  | false => simp only [List.filter, e]; rfl
theorem critN_len (l : List Site) (r : Rule) (h : List Hit) (n : Nat) : (critN l r h n).length ≤ n := by
  unfold critN natsL
  rw [List.length_map]
  exact Nat.le_trans (List.length_filter_le _ _) (by simp)
set_option maxRecDepth 100000 in
set_option maxHeartbeats 1600000 in
theorem Critical_ok (l : List Site) (r : Rule) (h : List Hit) (hl : l.length ≤ 1000000) (hh : h.length ≤ 1000000) (e : ruledErr l r h = 0) : Summ Tryz.prog GG 20 [arrF l, .agg (ruleF r), .sl h.length (hitsF h)] (.tup [if (firesV l r h h.length).isEmpty = true then .v (.slice none 0 0) else .sl (critV l r h).length (intsF (critV l r h)), iv 0]) := by
  obtain ⟨e1, e2, e3⟩ := ruledErr_parts e
  have hl0 := arrOk_of e1
  have ho := hitsOk_of hl0 e3
  have h40 := ho.len
  have HF := fires_s l r h e2 hl0 ho
  cases hf : (firesV l r h h.length).isEmpty with
  | true =>
    have h0 : (firesV l r h h.length).length = 0 := by rw [List.isEmpty_iff.1 hf]; rfl
    rw [if_pos rfl]
    refine summW Tryz.func20 rfl rfl 53 rfl (by simp) (fun M0 => ?_)
    repeat (first
    | (apply s_a TY; exact rfl)
    | (apply s_t; exact rfl; (first | assumption | omega))
    | apply w_seq
    | apply w_region
    | apply s_nil
    | apply t_norm
    | apply t_ret
    | apply w_ret
    | apply w_skip
    | (apply w_condT; exact rfl; exact rfl)
    | (apply w_condF; exact rfl; exact rfl)
    | (apply s_k (HF); exact rfl)
    | (apply s_k3 (openRule_ok _ _ _); exact rfl; (first | assumption | omega | decide); (first | assumption | omega | decide); (first | assumption | omega | decide))
    | (apply s_alloc TY; exact rfl; exact rfl; exact rfl)
    | (apply s_store TY; exact rfl; exact rfl; exact rfl; exact rfl; exact rfl; exact rfl))
    exact lv_ret (ret2 rfl (res_tmp rfl) (res_tmp rfl))
  | false =>
    have h0 : 0 < (firesV l r h h.length).length := List.length_pos_iff.2 (fun e => by rw [e] at hf; cases hf)
    rw [if_neg (by decide), show critV l r h = critN l r h h.length by unfold critV; rw [if_neg (by simp [hf])]]
    refine summW Tryz.func20 rfl rfl 53 rfl (by simp) (fun M0 => ?_)
    repeat (first
    | (apply s_a TY; exact rfl)
    | (apply s_t; exact rfl; (first | assumption | omega))
    | (apply s_f; exact rfl; (first | assumption | omega))
    | apply w_seq
    | apply w_region
    | apply s_nil
    | apply t_norm
    | apply w_block
    | apply w_skip
    | (apply w_condF; exact rfl; exact rfl)
    | (apply s_k (HF); exact rfl)
    | (apply s_k3 (openRule_ok _ _ _); exact rfl; (first | assumption | omega | decide); (first | assumption | omega | decide); (first | assumption | omega | decide))
    | (apply s_alloc TY; exact rfl; exact rfl; exact rfl)
    | (apply s_store TY; exact rfl; exact rfl; exact rfl; exact rfl; exact rfl; exact rfl))
    apply w_gh (gh_own 10 3 1 rfl rfl)
    apply w_loop (fun k : Nat => ⟨(Ab.upd (Ab.upd (Ab.upd (Ab.upd (Ab.upd (Ab.upd (Ab.upd (fun _ => .bot) 2 (.f (.sl h.length (hitsF h)))) 4 (.f (.pt (ruleF r) 0))) 8 (.bx 0 0)) 10 (.ow 1)) 28 (.f (.sl h.length (hitsF h)))) 29 (.f (iv h.length))) 30 (.f (iv (k : Nat)))), (Ab.upd (Ab.upd (fun _ => none) 0 (some (.box [.f (.sl l.length (sitesF l)), .f (.mp (mapS l l.length))]))) 1 (some (.row 3 1 (critN l r h k).length (intsF (critN l r h k))))), 2⟩) (fun k => k ≤ h.length) (fun k => h.length - k) 0 (Nat.zero_le _) (gh_le ⟨le_upd rfl trivial (le_upd rfl trivial (le_upd rfl trivial (le_upd rfl rfl (le_upd rfl rfl (le_upd rfl trivial (le_upd rfl trivial (le_nil _))))))), le_hupd rfl trivial (le_hupd rfl (fun y hy => by simp at hy; rcases hy with rfl | rfl <;> first | trivial | rfl) (le_h0 _ _))⟩)
    intro k hk
    have hcl := critN_len l r h k
    by_cases hc : k < h.length
    · have how := hitsOk_sub ho (woH_sub h k)
      have HW := fires_s l r (woH h k) e2 hl0 how
      have hs := critN_succ l r h k
      have e1 : ((((k : Nat) : Int)).toNat - Int.toNat 0) = (h.take k).length := by rw [List.length_take]; omega
      have e2 : (List.take (((((k : Nat) : Int)).toNat - Int.toNat 0) * 3) (List.drop (Int.toNat 0 * 3) (hitsF h))) = hitsF (h.take k) := by rw [Int.toNat_natCast, show Int.toNat 0 = 0 from rfl, Nat.zero_mul, List.drop_zero, Nat.sub_zero, hitsF_take]
      have e3 : ((((h.length : Nat) : Int)).toNat - (((k : Nat) : Int) + 1).toNat) = (h.drop (k + 1)).length := by rw [List.length_drop]; omega
      have e4 : (List.take (((((h.length : Nat) : Int)).toNat - (((k : Nat) : Int) + 1).toNat) * 3) (List.drop ((((k : Nat) : Int) + 1).toNat * 3) (hitsF h))) = hitsF (h.drop (k + 1)) := by rw [e3, show (((k : Nat) : Int) + 1).toNat = k + 1 by omega, hitsF_drop, List.take_of_length_le (by rw [hitsF_len]; exact Nat.le_refl _)]
      have HC : Summ Tryz.prog GG 64 [.sl 2 [.sl ((((k : Nat) : Int)).toNat - Int.toNat 0) (List.take (((((k : Nat) : Int)).toNat - Int.toNat 0) * 3) (List.drop (Int.toNat 0 * 3) (hitsF h))), .sl ((((h.length : Nat) : Int)).toNat - (((k : Nat) : Int) + 1).toNat) (List.take (((((h.length : Nat) : Int)).toNat - (((k : Nat) : Int) + 1).toNat) * 3) (List.drop ((((k : Nat) : Int) + 1).toNat * 3) (hitsF h)))]] (.sl (woH h k).length (hitsF (woH h k))) := by
        rw [e2, e4, e1, e3]
        exact concat_s (h.take k) (h.drop (k + 1)) (by rw [List.length_take]; omega) (by rw [List.length_drop]; omega)
      clear e1 e2 e3 e4
      cases hw : (firesV l r (woH h k) (woH h k).length).isEmpty with
      | true =>
        have h1 : (firesV l r (woH h k) (woH h k).length).length = 0 := by rw [List.isEmpty_iff.1 hw]; rfl
        rw [hw, if_pos rfl] at hs
        repeat (first
    | (apply s_a TY; exact rfl)
    | (apply s_t; exact rfl; (first | assumption | omega))
    | apply w_seq
    | apply w_region
    | (apply w_draw (id := 10) 11 rfl (by kernel_rfl))
    | apply s_nil
    | apply t_norm
    | apply k_norm
    | apply w_block
    | apply w_skip
    | (apply w_condT; exact rfl; exact rfl)
    | (apply s_k (HC); exact rfl)
    | (apply s_k (HW); exact rfl)
    | (apply s_c TY; exact rfl; omega)
    | (apply s_append TY; exact rfl; exact rfl; exact rfl; exact rfl; exact rfl; exact rfl; exact rfl; exact rfl; exact rfl; (unfold maxLen; omega); omega)
    | (apply s_slice TY; exact rfl; exact rfl; exact rfl; (first | exact rfl | exact ⟨_, rfl⟩); (first | exact rfl | exact ⟨_, rfl⟩); omega; omega; omega))
        exact ⟨k + 1, by omega, by omega, gh_le ⟨le_upd rfl trivial (le_upd rfl trivial (le_upd rfl trivial (le_upd rfl rfl (le_upd rfl rfl (le_upd rfl trivial (le_upd rfl trivial (le_nil _))))))), le_hupd (rowI_app hs) trivial (le_hupd rfl (fun y hy => by simp at hy; rcases hy with rfl | rfl <;> first | trivial | rfl) (le_h0 _ _))⟩⟩
      | false =>
        have h1 : 0 < (firesV l r (woH h k) (woH h k).length).length := List.length_pos_iff.2 (fun e => by rw [e] at hw; cases hw)
        rw [hw, if_neg (by decide), List.append_nil] at hs
        repeat (first
    | (apply s_a TY; exact rfl)
    | (apply s_t; exact rfl; (first | assumption | omega))
    | (apply s_f; exact rfl; (first | assumption | omega))
    | apply w_seq
    | apply w_region
    | (apply w_draw (id := 10) 11 rfl (by kernel_rfl))
    | apply s_nil
    | apply t_norm
    | apply k_norm
    | apply w_block
    | apply w_skip
    | (apply w_condT; exact rfl; exact rfl)
    | (apply w_condF; exact rfl; exact rfl)
    | (apply s_k (HC); exact rfl)
    | (apply s_k (HW); exact rfl)
    | (apply s_c TY; exact rfl; omega)
    | (apply s_slice TY; exact rfl; exact rfl; exact rfl; (first | exact rfl | exact ⟨_, rfl⟩); (first | exact rfl | exact ⟨_, rfl⟩); omega; omega; omega))
        exact ⟨k + 1, by omega, by omega, gh_le ⟨le_upd rfl trivial (le_upd rfl trivial (le_upd rfl trivial (le_upd rfl rfl (le_upd rfl rfl (le_upd rfl trivial (le_upd rfl trivial (le_nil _))))))), le_hupd (rowI _ _ hs.symm) trivial (le_hupd rfl (fun y hy => by simp at hy; rcases hy with rfl | rfl <;> first | trivial | rfl) (le_h0 _ _))⟩⟩
    · have hke : k = h.length := by omega
      subst hke
      repeat (first
    | (apply s_a TY; exact rfl)
    | (apply s_f; exact rfl; (first | assumption | omega))
    | apply w_seq
    | apply w_region
    | apply s_nil
    | apply t_norm
    | apply t_exit
    | apply k_hit
    | apply w_exit
    | apply w_ret
    | (apply w_condF; exact rfl; exact rfl))
      exact lv_ret (ret_gh (gh_row 1 rfl) (ret2 rfl (res_tmp rfl) (res_tmp rfl)))
end Go.Proofs.YtdmdpkoapllkkaaGreat
namespace Go.Ab
open Go Go.RowKit Go.Shelf Go.Proofs
section
variable {C : Ctx} {N : Nat} {st : St}
theorem v_field {o : Oper} {T f : Nat} {fs : Array Field} {fd : Field} {x : Operand} {cs : List FV} {c : FV} (ty : Ty C.P) (ho : o.op = .field T x f) (hd : dstB N o.dst = true) (hu : C.P.underlying T = some (.struct fs)) (hf : fs[f]? = some fd) (hE : (ty.ty fd.type).scal = true) (hx : st.ev C x = .f (.agg cs)) (hc : cs[fd.offset]? = some c) : ValOp C N o st (.f c) :=
  valop_run hd fun w0 a w J st' hA S => by
    have e1 := evF S ((hA.ev x (by simp [ho, Op.operands])).trans hx)
    obtain ⟨p1, p2⟩ := scal_parts ((ty.ok fd.type).scal hE)
    generalize hxv : a.eval x = xv at e1
    cases e1 with
    | agg _ us h1 h2 h3 =>
      have hlt : fd.offset < us.length := by rw [h1]; exact (List.getElem?_eq_some_iff.1 hc).1
      refine ⟨us[fd.offset], w, ?_, Ext.refl _, h3 fd.offset _ c (List.getElem?_eq_getElem hlt) hc⟩
      simp [execOp, ho, hxv, Instr.field, run_underlying hu, hf, asAgg, part, p1, List.getElem?_eq_getElem hlt, Sem.run_pure]
variable {ops : Array Oper} {pr : Bool} {K : St → Prop} {rest : List Oper} {d : Option Tmp} {T0 : TypeId} {pos : String} {af : Array Edge} {g : Option (Nat × Bool)}
theorem s_field (ty : Ty C.P) {T f : Nat} {fs : Array Field} {fd : Field} {x : Operand} {cs : List FV} {c : FV} (hu : C.P.underlying T = some (.struct fs)) (hw : wantB st ops ⟨d, .field T x f, T0, pos, af, g⟩ = some true) (hd : dstB N d = true) (hf : fs[f]? = some fd) (hE : (ty.ty fd.type).scal = true) (hx : st.ev C x = .f (.agg cs)) (hc : cs[fd.offset]? = some c)
    (h : R C N ops pr K rest (st.put d (.f c))) : R C N ops pr K (⟨d, .field T x f, T0, pos, af, g⟩ :: rest) st := ⟨r_val hw (v_field ty rfl hd hu hf hE hx hc) h.out⟩
end
end Go.Ab
namespace Go.Proofs.YtdmdpkoapllkkaaGreat
open Go Go.RowKit Go.Proofs Go.Shelf Go.Ab
def exA : List Site := [⟨1, 1, 0, 0, 0⟩, ⟨1, 2, 0, 0, -17⟩, ⟨1, 3, 0, 0, -34⟩, ⟨2, 1, 100, 0, 0⟩]
def exH : List Hit := [⟨100, 1, 1⟩, ⟨110, 1, 2⟩, ⟨130, 1, 3⟩, ⟨135, 2, 1⟩, ⟨500, 2, 1⟩]
def exS : Setup := ⟨[⟨0, 3, 30, 0, 0⟩], 10, 20, 100⟩
def exR : Rule := ⟨2, 2, 40, 50, 20⟩
def exQ : Rule := ⟨3, 3, 25, 5, 0⟩
theorem ex1 : ruledErr exA exR exH = 0 := by decide
theorem ex2 : ruledErr exA exQ exH = 0 := by decide
theorem ex3 : setErr exA exS exH = 0 := by decide
theorem ex4 : firesV exA exR exH exH.length = [⟨0, 100, 110⟩, ⟨1, 110, 130⟩] := by decide
theorem ex5 : firesV exA exQ exH exH.length = [⟨0, 100, 130⟩] := by decide
theorem sortRng_id {l : List Rng} (hb : LoOk l) (h : l.Pairwise fun x y => x.lo ≤ y.lo) (hu : ∀ x, x ∈ l → ∀ y, y ∈ l → x.lo = y.lo → x = y) : sortRng l = l := by
  refine List.Perm.eq_of_pairwise (le := fun x y => x.lo ≤ y.lo) (fun a b ha hb' h1 h2 => ?_) (sortRng_pw l hb) h (sortRng_perm l)
  exact hu a ((sortRng_perm l).mem_iff.1 ha) b hb' (by omega)
theorem ex8 : sortRng [⟨90, 150⟩, ⟨100, 155⟩] = [⟨90, 150⟩, ⟨100, 155⟩] := sortRng_id (by unfold LoOk; decide) (by decide) (by decide)
theorem ex7 : singleV exA exS exH = [⟨90, 150⟩, ⟨100, 155⟩] := by decide
theorem ex9 : eventsV exA exS exH = [⟨90, 155, [0, 1, 2, 3]⟩] := by
  unfold eventsV windowsV joinedV
  rw [ex7, ex8]
  decide
def exT : Rule := ⟨0, 3, 30, 0, 0⟩
theorem ex10 : critV exA exT exH = [1, 2] := by decide
theorem ex11 : ruledErr exA exT exH = 0 := by decide
theorem ex12 : (firesV exA exT exH exH.length).isEmpty = false := by decide
theorem ex13 : liveErrV exS [⟨90, 155⟩] ⟨0, 299⟩ = 0 := by decide
theorem ex14 : liveV exS [⟨90, 155⟩] ⟨0, 299⟩ = 200 := by decide
set_option maxRecDepth 100000 in
theorem exA_s : Summ Tryz.prog GG 54 [] (arrF exA) := by
  refine summW Tryz.func54 rfl rfl 7 rfl (by simp) (fun M0 => ?_)
  repeat (first
    | (apply s_a TY; exact rfl)
    | apply w_seq
    | apply w_region
    | apply s_nil
    | apply t_norm
    | apply w_ret
    | (apply s_alloc TY; exact rfl; exact rfl; exact rfl)
    | (apply s_store TY; exact rfl; exact rfl; exact rfl; exact rfl; exact rfl; exact rfl))
  exact lv_ret (ret1 rfl (res_bxs TY rfl rfl rfl rfl rfl))
set_option maxRecDepth 100000 in
theorem exS_s : Summ Tryz.prog GG 56 [] (setF exS) := by
  refine summW Tryz.func56 rfl rfl 4 rfl (by simp) (fun M0 => ?_)
  repeat (first
    | (apply s_a TY; exact rfl)
    | apply w_seq
    | apply w_region
    | apply s_nil
    | apply t_norm
    | apply w_ret
    | (apply s_alloc TY; exact rfl; exact rfl; exact rfl)
    | (apply s_store TY; exact rfl; exact rfl; exact rfl; exact rfl; exact rfl; exact rfl))
  exact lv_ret (ret1 rfl (res_bxs TY rfl rfl rfl rfl rfl))
set_option maxRecDepth 100000 in
theorem exH_s : Summ Tryz.prog GG 55 [] (.sl exH.length (hitsF exH)) := by
  refine summW Tryz.func55 rfl rfl 7 rfl (by simp) (fun M0 => ?_)
  repeat (first
    | (apply s_a TY; exact rfl)
    | apply w_seq
    | apply w_region
    | apply s_nil
    | apply t_norm
    | apply w_ret)
  exact lv_ret (ret1 rfl (res_tmp rfl))
set_option maxRecDepth 100000 in
set_option maxHeartbeats 3200000 in
theorem awake_s : Summ Tryz.prog GG 10 [] (bv true) := by
  have HF1 : Summ Tryz.prog GG 14 [arrF exA, .agg (ruleF exR), .sl exH.length (hitsF exH)] (.tup [.sl 2 (firesF [⟨0, 100, 110⟩, ⟨1, 110, 130⟩]), iv 0]) := by
    have := FiresOf_ok exA exR exH (by decide) (by decide) ex1
    rw [ex4] at this; exact this
  have HF2 : Summ Tryz.prog GG 14 [arrF exA, .agg (ruleF exQ), .sl exH.length (hitsF exH)] (.tup [.sl 1 (firesF [⟨0, 100, 130⟩]), iv 0]) := by
    have := FiresOf_ok exA exQ exH (by decide) (by decide) ex2
    rw [ex5] at this; exact this
  have HE : Summ Tryz.prog GG 32 [arrF exA, setF exS, .sl exH.length (hitsF exH)] (.tup [.sl 1 (evsF [⟨90, 155, [0, 1, 2, 3]⟩]), iv 0]) := by
    have := EventsOf_ok exA exS exH (by decide) (by decide) (by decide) ex3
    rw [ex9] at this; exact this
  have HC : Summ Tryz.prog GG 20 [arrF exA, .agg (ruleF exT), .sl exH.length (hitsF exH)] (.tup [.sl 2 (intsF [1, 2]), iv 0]) := by
    have := Critical_ok exA exT exH (by decide) (by decide) ex11
    rw [ex12, if_neg (by decide), ex10] at this; exact this
  have HL : Summ Tryz.prog GG 57 [setF exS, .sl 1 (rngsF [⟨90, 155⟩]), .agg (rngF ⟨0, 299⟩)] (.tup [iv 200, iv 0]) := by
    have := LiveIn_s exS [⟨90, 155⟩] ⟨0, 299⟩ (by decide) (by decide)
    rw [ex13, if_pos rfl, ex14] at this; exact this
  have S1 := SameFires_s [⟨0, 100, 110⟩, ⟨1, 110, 130⟩] [⟨0, 100, 110⟩, ⟨1, 110, 130⟩] (by decide) (by decide)
  have S2 := SameFires_s [⟨0, 100, 130⟩] [⟨0, 100, 130⟩] (by decide) (by decide)
  have S3 := SameEvents_s [⟨90, 155, [0, 1, 2, 3]⟩] [⟨90, 155, [0, 1, 2, 3]⟩] (by decide) (by decide) (by decide) (by decide)
  have S4 := Ints_s [1, 2] [1, 2] (by decide) (by decide)
  rw [decide_eq_true rfl] at S1 S2 S3 S4
  have hx1 : exS.rules.length = 1 := rfl
  have hx2 : rulesF exS.rules ≠ [] := rulesF_ne (k := 0) (by decide)
  refine summW Tryz.func10 rfl rfl 101 rfl (by simp) (fun M0 => ?_)
  repeat (first
    | (apply s_field TY Tryz.underlying59; exact rfl; exact rfl; exact rfl; exact rfl; exact rfl; exact rfl)
    | (apply s_a TY; exact rfl)
    | (apply s_t; exact rfl; (first | assumption | omega))
    | apply w_seq
    | apply w_region
    | (apply w_draw (id := 4) 11 rfl (by kernel_rfl))
    | apply s_nil
    | apply t_norm
    | apply w_ret
    | (apply s_k (exA_s); exact rfl)
    | (apply s_k (exS_s); exact rfl)
    | (apply s_k (exH_s); exact rfl)
    | (apply s_k (HF1); exact rfl)
    | (apply s_k (HF2); exact rfl)
    | (apply s_k (HE); exact rfl)
    | (apply s_k (HC); exact rfl)
    | (apply s_k (HL); exact rfl)
    | (apply s_k (S1); exact rfl)
    | (apply s_k (S2); exact rfl)
    | (apply s_k (S3); exact rfl)
    | (apply s_k (S4); exact rfl)
    | (apply s_z TY; exact rfl; (first | omega | exact ⟨by omega, by (first | with_reducible assumption | ((with_reducible apply rulesF_ne); omega) | assumption)⟩)))
  exact lv_ret (ret1 rfl (res_tmp rfl))
end Go.Proofs.YtdmdpkoapllkkaaGreat
namespace Go.Proofs.YtdmdpkoapllkkaaGreat
open Go Go.RowKit Go.Proofs Go.Shelf Go.Ab
def lightB (r : Rule) : Bool := decide (r.kind ≠ 3) || decide (r.count ≤ 6) || decide (40 < r.count)
def fewB (n : Int) : Bool := decide (n ≤ 14) || (decide (40 < n) && decide (n ≤ 42))
theorem light_s (r : Rule) : Summ Tryz.prog GG 12 [.agg (ruleF r)] (bv (lightB r)) := by
  by_cases h1 : r.kind = 3
  · by_cases h2 : r.count ≤ 6
    · rw [show lightB r = true by unfold lightB; rw [decide_eq_false (fun h => h h1), decide_eq_true h2]; rfl]
      refine summW Tryz.func12 rfl rfl 16 rfl (by simp) (fun M0 => ?_)
      repeat (first
    | (apply s_a TY; exact rfl)
    | (apply s_t; exact rfl; (first | assumption | omega))
    | apply w_seq
    | apply w_region
    | apply s_nil
    | apply t_norm
    | apply w_ret
    | (apply s_s; exact rfl))
      exact lv_ret (ret1 rfl (res_tmp rfl))
    · by_cases h3 : 40 < r.count
      · rw [show lightB r = true by unfold lightB; rw [decide_eq_false (fun h => h h1), decide_eq_false h2, decide_eq_true h3]; rfl]
        refine summW Tryz.func12 rfl rfl 16 rfl (by simp) (fun M0 => ?_)
        repeat (first
    | (apply s_a TY; exact rfl)
    | (apply s_t; exact rfl; (first | assumption | omega))
    | (apply s_f; exact rfl; (first | assumption | omega))
    | apply w_seq
    | apply w_region
    | apply s_nil
    | apply t_norm
    | apply w_ret)
        exact lv_ret (ret1 rfl (res_tmp rfl))
      · rw [show lightB r = false by unfold lightB; rw [decide_eq_false (fun h => h h1), decide_eq_false h2, decide_eq_false h3]; rfl]
        refine summW Tryz.func12 rfl rfl 16 rfl (by simp) (fun M0 => ?_)
        repeat (first
    | (apply s_a TY; exact rfl)
    | (apply s_t; exact rfl; (first | assumption | omega))
    | (apply s_f; exact rfl; (first | assumption | omega))
    | apply w_seq
    | apply w_region
    | apply s_nil
    | apply t_norm
    | apply w_ret)
        exact lv_ret (ret1 rfl (res_tmp rfl))
  · rw [show lightB r = true by unfold lightB; rw [decide_eq_true h1]; rfl]
    refine summW Tryz.func12 rfl rfl 16 rfl (by simp) (fun M0 => ?_)
    repeat (first
    | (apply s_a TY; exact rfl)
    | (apply s_f; exact rfl; (first | assumption | omega))
    | apply w_seq
    | apply w_region
    | apply s_nil
    | apply t_norm
    | apply w_ret
    | (apply s_s; exact rfl))
    exact lv_ret (ret1 rfl (res_tmp rfl))
theorem few_s (n : Int) : Summ Tryz.prog GG 38 [iv n] (bv (fewB n)) := by
  by_cases h1 : n ≤ 14
  · rw [show fewB n = true by unfold fewB; rw [decide_eq_true h1]; rfl]
    refine summW Tryz.func38 rfl rfl 13 rfl (by simp) (fun M0 => ?_)
    repeat (first
    | (apply s_a TY; exact rfl)
    | (apply s_t; exact rfl; (first | assumption | omega))
    | apply w_seq
    | apply w_region
    | apply s_nil
    | apply t_norm
    | apply w_ret
    | (apply s_s; exact rfl))
    exact lv_ret (ret1 rfl (res_tmp rfl))
  · by_cases h2 : 40 < n
    · by_cases h3 : n ≤ 42
      · rw [show fewB n = true by unfold fewB; rw [decide_eq_false h1, decide_eq_true h2, decide_eq_true h3]; rfl]
        refine summW Tryz.func38 rfl rfl 13 rfl (by simp) (fun M0 => ?_)
        repeat (first
    | (apply s_a TY; exact rfl)
    | (apply s_t; exact rfl; (first | assumption | omega))
    | (apply s_f; exact rfl; (first | assumption | omega))
    | apply w_seq
    | apply w_region
    | apply s_nil
    | apply t_norm
    | apply w_ret)
        exact lv_ret (ret1 rfl (res_tmp rfl))
      · rw [show fewB n = false by unfold fewB; rw [decide_eq_false h1, decide_eq_true h2, decide_eq_false h3]; rfl]
        refine summW Tryz.func38 rfl rfl 13 rfl (by simp) (fun M0 => ?_)
        repeat (first
    | (apply s_a TY; exact rfl)
    | (apply s_t; exact rfl; (first | assumption | omega))
    | (apply s_f; exact rfl; (first | assumption | omega))
    | apply w_seq
    | apply w_region
    | apply s_nil
    | apply t_norm
    | apply w_ret)
        exact lv_ret (ret1 rfl (res_tmp rfl))
    · rw [show fewB n = false by unfold fewB; rw [decide_eq_false h1, decide_eq_false h2]; rfl]
      refine summW Tryz.func38 rfl rfl 13 rfl (by simp) (fun M0 => ?_)
      repeat (first
    | (apply s_a TY; exact rfl)
    | (apply s_f; exact rfl; (first | assumption | omega))
    | apply w_seq
    | apply w_region
    | apply s_nil
    | apply t_norm
    | apply w_ret
    | (apply s_s; exact rfl))
      exact lv_ret (ret1 rfl (res_tmp rfl))
def FewB (l : List Site) (h : List Hit) : Bool := decide (l.length ≤ 32) && fewB h.length
set_option maxRecDepth 100000 in
theorem Few_s (l : List Site) (h : List Hit) : Summ Tryz.prog GG 11 [arrF l, .sl h.length (hitsF h)] (bv (FewB l h)) := by
  unfold FewB
  by_cases h1 : l.length ≤ 32
  · rw [decide_eq_true h1, Bool.true_and]
    have Hf := few_s (h.length : Nat)
    cases hf : fewB (h.length : Nat) with
    | true =>
      rw [hf] at Hf
      refine summW Tryz.func11 rfl rfl 14 rfl (by simp) (fun M0 => ?_)
      repeat (first
    | (apply s_a TY; exact rfl)
    | (apply s_t; exact rfl; (first | assumption | omega))
    | apply w_seq
    | apply w_region
    | apply s_nil
    | apply t_norm
    | apply w_ret
    | (apply s_k (Hf); exact rfl))
      exact lv_ret (ret1 rfl (res_tmp rfl))
    | false =>
      rw [hf] at Hf
      refine summW Tryz.func11 rfl rfl 14 rfl (by simp) (fun M0 => ?_)
      repeat (first
    | (apply s_a TY; exact rfl)
    | (apply s_t; exact rfl; (first | assumption | omega))
    | apply w_seq
    | apply w_region
    | apply s_nil
    | apply t_norm
    | apply w_ret
    | (apply s_k (Hf); exact rfl))
      exact lv_ret (ret1 rfl (res_tmp rfl))
  · rw [decide_eq_false h1, Bool.false_and]
    refine summW Tryz.func11 rfl rfl 14 rfl (by simp) (fun M0 => ?_)
    repeat (first
    | (apply s_a TY; exact rfl)
    | (apply s_f; exact rfl; (first | assumption | omega))
    | apply w_seq
    | apply w_region
    | apply s_nil
    | apply t_norm
    | apply w_ret
    | (apply s_s; exact rfl))
    exact lv_ret (ret1 rfl (res_tmp rfl))
end Go.Proofs.YtdmdpkoapllkkaaGreat
namespace Go.Proofs.YtdmdpkoapllkkaaGreat
open Go Go.RowKit Go.Proofs Go.Shelf Go.Ab
def Apart (o : List Rng) : Prop := (∀ x, x ∈ o → x.lo ≤ x.hi) ∧ o.Pairwise fun x y => x.hi + 1 < y.lo
structure WinOk (h : List Hit) (W : List Rng) : Prop where
  apart : Apart W
  hit : ∀ i (hi : i < W.length), ∃ k, k < h.length ∧ W[i].lo ≤ (h.getD k default).tm ∧ (h.getD k default).tm ≤ W[i].hi
  asc : ∀ i j, i ≤ j → j < h.length → (h.getD i default).tm ≤ (h.getD j default).tm
  bd : ∀ i (hi : i < W.length), W[i].hi ≤ 1152921504606846976 ∧ -1152921504606846976 ≤ W[i].hi
theorem WinOk.lt {h : List Hit} {W : List Rng} (o : WinOk h W) {i j : Nat} (hij : i < j) (hj : j < W.length) : (W[i]'(by omega)).hi + 1 < W[j].lo := List.pairwise_iff_getElem.1 o.apart.2 i j (by omega) hj hij
theorem WinOk.le {h : List Hit} {W : List Rng} (o : WinOk h W) {i : Nat} (hi : i < W.length) : W[i].lo ≤ W[i].hi := o.apart.1 _ (List.getElem_mem hi)
theorem WinOk.ge {h : List Hit} {W : List Rng} (o : WinOk h W) : ∀ i (hi : i < W.length), ∃ k, i ≤ k ∧ k < h.length ∧ W[i].lo ≤ (h.getD k default).tm ∧ (h.getD k default).tm ≤ W[i].hi
  | 0, hi => by obtain ⟨k, h1, h2⟩ := o.hit 0 hi; exact ⟨k, Nat.zero_le _, h1, h2⟩
  | i + 1, hi => by
    obtain ⟨k, k1, k2, k3, k4⟩ := o.ge i (by omega)
    obtain ⟨q, q1, q2, q3⟩ := o.hit (i + 1) hi
    have hlt := o.lt (show i < i + 1 by omega) hi
    refine ⟨q, ?_, q1, q2, q3⟩
    by_cases hq : q ≤ k
    · have := o.asc q k hq k2; omega
    · omega
theorem WinOk.len {h : List Hit} {W : List Rng} (o : WinOk h W) : W.length ≤ h.length := by
  by_cases e : W.length = 0
  · omega
  · obtain ⟨k, k1, k2, _⟩ := o.ge (W.length - 1) (by omega)
    omega
def inW (h : List Hit) (W : List Rng) (k i : Nat) : Bool := withinB (h.getD k default).tm (W.getD i default).lo (W.getD i default).hi
theorem inW_iff {h : List Hit} {W : List Rng} {k i : Nat} (hi : i < W.length) : inW h W k i = true ↔ W[i].lo ≤ (h.getD k default).tm ∧ (h.getD k default).tm ≤ W[i].hi := by
  unfold inW withinB
  rw [getD_at hi]
  simp
theorem WinOk.one {h : List Hit} {W : List Rng} (o : WinOk h W) {k i j : Nat} (hi : i < W.length) (hj : j < W.length) (h1 : inW h W k i = true) (h2 : inW h W k j = true) : i = j := by
  rw [inW_iff hi] at h1
  rw [inW_iff hj] at h2
  rcases Nat.lt_trichotomy i j with e | e | e
  · have := o.lt e hj; omega
  · exact e
  · have := o.lt e hi; omega
def ownK (h : List Hit) (W : List Rng) (n k : Nat) : Int := idxP n (inW h W k) + 1
def ownM (h : List Hit) (W : List Rng) (n : Nat) (done : List Nat) : List Int := (List.range h.length).map fun k => if k ∈ done then (n : Int) + 1 else ownK h W n k
def hN (h : List Hit) (w : Rng) : List Nat := (List.range h.length).filter fun i => withinB (h.getD i default).tm w.lo w.hi
end Go.Proofs.YtdmdpkoapllkkaaGreat
namespace Go.Proofs.YtdmdpkoapllkkaaGreat
open Go Go.RowKit Go.Proofs Go.Shelf Go.Ab
end Go.Proofs.YtdmdpkoapllkkaaGreat
namespace Go.Proofs.YtdmdpkoapllkkaaGreat
open Go Go.RowKit Go.Proofs Go.Shelf Go.Ab
end Go.Proofs.YtdmdpkoapllkkaaGreat
namespace Go.Proofs.YtdmdpkoapllkkaaGreat
open Go Go.RowKit Go.Proofs Go.Shelf Go.Ab
end Go.Proofs.YtdmdpkoapllkkaaGreat
namespace Go.Proofs.YtdmdpkoapllkkaaGreat
open Go Go.RowKit Go.Proofs Go.Shelf Go.Ab
def lessL : List Int → List Int → Bool
  | x :: a, y :: b => if x = y then lessL a b else decide (x < y)
  | _, _ => false
theorem lessL_irr : ∀ a : List Int, lessL a a = false
  | [] => rfl
  | x :: a => by rw [lessL, if_pos rfl]; exact lessL_irr a
theorem lessL_trans : ∀ {a b c : List Int}, lessL a b = true → lessL b c = true → lessL a c = true
  | [], _, _, h, _ => by simp [lessL] at h
  | _ :: _, [], _, h, _ => by simp [lessL] at h
  | _ :: _, _ :: _, [], _, h => by simp [lessL] at h
  | x :: a, y :: b, z :: c, h1, h2 => by
    rw [lessL] at h1 h2 ⊢
    split at h1
    · rename_i e1; subst e1
      split at h2
      · rename_i e2; subst e2; rw [if_pos rfl]; exact lessL_trans h1 h2
      · rename_i e2; rw [if_neg e2]; exact h2
    · rename_i e1
      split at h2
      · rename_i e2; subst e2; rw [if_neg e1]; exact h1
      · simp only [decide_eq_true_eq] at h1 h2
        rw [if_neg (by omega)]; simp only [decide_eq_true_eq]; omega
def ltK (a b : List Int) : Prop := a.length < b.length ∨ (a.length = b.length ∧ lessL a b = true)
def combs : List Int → Nat → List (List Int)
  | _, 0 => [[]]
  | [], _ + 1 => []
  | x :: l, m + 1 => (combs l m).map (fun s => x :: s) ++ combs l (m + 1)
theorem combs_sub : ∀ {l : List Int} {m : Nat} {s : List Int}, s ∈ combs l m ↔ s.Sublist l ∧ s.length = m
  | l, 0, s => by
    cases l <;> (simp only [combs, List.mem_singleton]; constructor)
    · rintro rfl; exact ⟨List.nil_sublist _, rfl⟩
    · rintro ⟨_, h⟩; exact List.eq_nil_of_length_eq_zero h
    · rintro rfl; exact ⟨List.nil_sublist _, rfl⟩
    · rintro ⟨_, h⟩; exact List.eq_nil_of_length_eq_zero h
  | [], m + 1, s => by
    simp only [combs, List.not_mem_nil, false_iff]
    rintro ⟨h1, h2⟩
    rw [List.sublist_nil.1 h1] at h2; cases h2
  | x :: l, m + 1, s => by
    simp only [combs, List.mem_append, List.mem_map]
    constructor
    · rintro (⟨t, ht, rfl⟩ | hs)
      · obtain ⟨h1, h2⟩ := combs_sub.1 ht
        exact ⟨h1.cons_cons x, by simp [h2]⟩
      · obtain ⟨h1, h2⟩ := combs_sub.1 hs
        exact ⟨h1.cons x, h2⟩
    · rintro ⟨h1, h2⟩
      cases h1 with
      | cons _ h => exact .inr (combs_sub.2 ⟨h, h2⟩)
      | cons_cons _ h => exact .inl ⟨_, combs_sub.2 ⟨h, by simpa using h2⟩, rfl⟩
theorem combs_ord : ∀ {l : List Int} {m : Nat}, l.Pairwise (· < ·) → (combs l m).Pairwise fun a b => lessL a b = true
  | l, 0, _ => by cases l <;> simp [combs]
  | [], m + 1, _ => by simp [combs]
  | x :: l, m + 1, h => by
    obtain ⟨h1, h2⟩ := List.pairwise_cons.1 h
    simp only [combs]
    rw [List.pairwise_append]
    refine ⟨?_, combs_ord h2, fun a ha b hb => ?_⟩
    · rw [List.pairwise_map]
      exact (combs_ord h2).imp fun {a b} hab => by rw [lessL, if_pos rfl]; exact hab
    · obtain ⟨t, ht, rfl⟩ := List.mem_map.1 ha
      obtain ⟨b1, b2⟩ := combs_sub.1 hb
      match b, b1, b2 with
      | y :: b', b1, _ =>
        have hy : y ∈ l := b1.subset (List.mem_cons_self ..)
        have := h1 y hy
        rw [lessL, if_neg (by omega), decide_eq_true this]
def silV (p : List Int → Bool) : List Int → Nat → List Int → Option (List Int)
  | _, 0, set => if p set = true then some set else none
  | [], _ + 1, _ => none
  | n :: l, m + 1, set => match silV p l m (set ++ [n]) with
    | some o => some o
    | none => silV p l (m + 1) set
theorem silV_combs {p : List Int → Bool} : ∀ {l : List Int} {m : Nat} {set : List Int}, silV p l m set = ((combs l m).map (fun s => set ++ s)).find? p
  | l, 0, set => by
    cases l <;> simp only [silV, combs, List.map_cons, List.map_nil, List.append_nil, List.find?_cons, List.find?_nil] <;> split <;> simp_all
  | [], m + 1, set => by simp [silV, combs]
  | n :: l, m + 1, set => by
    simp only [silV, combs, List.map_append, List.map_map, List.find?_append]
    rw [silV_combs (l := l) (m := m), silV_combs (l := l) (m := m + 1)]
    have e : (combs l m).map (fun s => set ++ [n] ++ s) = (combs l m).map ((fun s => set ++ s) ∘ fun s => n :: s) := by
      refine List.map_congr_left fun s _ => by simp
    rw [e]
    cases List.find? p ((combs l m).map ((fun s => set ++ s) ∘ fun s => n :: s)) <;> rfl
def silN (p : List Int → Bool) (l : List Int) (c : Nat) : Option (List Int) := silV p l c []
theorem silN_combs {p : List Int → Bool} {l : List Int} {c : Nat} : silN p l c = (combs l c).find? p := by
  unfold silN
  rw [silV_combs]; simp
def IsLeast (p : List Int → Bool) (l : List Int) (o : List Int) : Prop := o.Sublist l ∧ p o = true ∧ ∀ s : List Int, s.Sublist l → p s = true → ¬ ltK s o
theorem find_first {L : List (List Int)} {p : List Int → Bool} {s t : List Int} (hp : L.Pairwise fun a b => lessL a b = true) (hs : L.find? p = some s) (ht : t ∈ L) (hpt : p t = true) : lessL t s = false := by
  induction L with
  | nil => cases ht
  | cons a L ih =>
    obtain ⟨h1, h2⟩ := List.pairwise_cons.1 hp
    rw [List.find?_cons] at hs
    cases ha : p a with
    | true =>
      rw [ha] at hs; cases hs
      rcases List.mem_cons.1 ht with rfl | ht
      · exact lessL_irr _
      · cases e : lessL t s with
        | false => rfl
        | true => have := lessL_trans (h1 t ht) e; rw [lessL_irr] at this; cases this
    | false =>
      rw [ha] at hs
      rcases List.mem_cons.1 ht with rfl | ht
      · rw [ha] at hpt; cases hpt
      · exact ih h2 hs ht
theorem sil_least {p : List Int → Bool} {l : List Int} (hl : l.Pairwise (· < ·)) {c : Nat} {o : List Int} (ho : silN p l c = some o) (hb : ∀ j, j < c → silN p l j = none) : IsLeast p l o ∧ o.length = c := by
  rw [silN_combs] at ho
  obtain ⟨m1, m2⟩ := combs_sub.1 (List.mem_of_find?_eq_some ho)
  refine ⟨⟨m1, List.find?_some ho, fun s hs hps hlt => ?_⟩, m2⟩
  rcases hlt with hlt | ⟨he, hlt⟩
  · have hn := hb s.length (by omega)
    rw [silN_combs, List.find?_eq_none] at hn
    exact hn s (combs_sub.2 ⟨hs, rfl⟩) hps
  · have := find_first (combs_ord hl) ho (combs_sub.2 ⟨hs, by omega⟩) hps
    rw [this] at hlt; cases hlt
theorem sil_none {p : List Int → Bool} {l : List Int} (hb : ∀ j, j ≤ l.length → silN p l j = none) {s : List Int} (hs : s.Sublist l) : p s = false := by
  have hn := hb s.length hs.length_le
  rw [silN_combs, List.find?_eq_none] at hn
  simpa using hn s (combs_sub.2 ⟨hs, rfl⟩)
end Go.Proofs.YtdmdpkoapllkkaaGreat
namespace Go.Proofs.YtdmdpkoapllkkaaGreat
open Go Go.RowKit Go.Proofs Go.Shelf Go.Ab
theorem ruleErr_parts {l : List Site} {r : Rule} {h : List Hit} (e : ruledErr l r h = 0) : (arrChk l).2 = 0 ∧ ruleErr r = 0 ∧ (hitsChk l h).2 = 0 := by
  unfold ruledErr at e
  by_cases h1 : (arrChk l).2 = 0
  · rw [if_neg (by simpa using h1)] at e
    by_cases h2 : ruleErr r = 0
    · rw [if_neg (by simpa using h2)] at e; exact ⟨h1, h2, e⟩
    · rw [if_pos h2] at e; exact absurd e h2
  · rw [if_pos h1] at e; exact absurd e h1
theorem ruledErr_of {l : List Site} {r : Rule} {h : List Hit} (h1 : (arrChk l).2 = 0) (h2 : ruleErr r = 0) (h3 : (hitsChk l h).2 = 0) : ruledErr l r h = 0 := by
  unfold ruledErr; rw [if_neg (by simpa using h1), if_neg (by simpa using h2)]; exact h3
theorem hitsChk_ok {l : List Site} {h : List Hit} (ho : HitsOk l h) : (hitsChk l h).2 = 0 := by
  have h40 := ho.len
  unfold hitsChk
  rw [if_neg (by omega), eachE_ok fun i hi => ?_]
  obtain ⟨k, _, hk, _⟩ := (ho.hit i hi).site
  unfold hitE
  rw [getD_at hi, show withinB h[i].tm 0 1000000000000 = true by unfold withinB; have := (ho.hit i hi).tm; simp; omega, hk]
  by_cases e : i = 0
  · rw [decide_eq_true e]; rfl
  · have hb := ho.next (i - 1) (by omega)
    simp only [show i - 1 + 1 = i by omega] at hb
    rw [getD_at (show i - 1 < h.length by omega), decide_eq_true hb, Bool.or_true]; rfl
def siteN (l : List Site) (x : Hit) : Int := (siteM l x).getD 0
theorem siteN_iff {l : List Site} (hl : ArrOk l) {x : Hit} (hx : HitOk l x) {i : Nat} (hi : i < l.length) : siteN l x = (i : Int) ↔ addr (l.getD i default) = hitA x := by
  obtain ⟨k, hk, e, ha⟩ := hx.site
  unfold siteN
  rw [e]
  simp only [Option.getD_some]
  constructor
  · intro h; have : k = i := by omega
    subst this; exact ha
  · intro h
    rcases Nat.lt_trichotomy k i with c | c | c
    · exact absurd (ha.trans h.symm) (hl.apart k i c hi)
    · rw [c]
    · exact absurd (h.trans ha.symm) (hl.apart i k c hk)
theorem siteN_lt {l : List Site} {x : Hit} (hx : HitOk l x) : ∃ k : Nat, k < l.length ∧ siteN l x = (k : Int) := by
  obtain ⟨k, hk, e, _⟩ := hx.site
  exact ⟨k, hk, by unfold siteN; rw [e]; rfl⟩
def maskP (l : List Site) (dead : List Int) (x : Hit) : Bool := !dead.contains (siteN l x)
def maskV (l : List Site) (h : List Hit) (dead : List Int) : List Hit := h.filter (maskP l dead)
def maskK (l : List Site) (h : List Hit) (dead : List Int) (n : Nat) : List Hit := (h.take n).filter (maskP l dead)
theorem maskK_succ {l : List Site} {h : List Hit} {dead : List Int} {n : Nat} (hn : n < h.length) : maskK l h dead (n + 1) = maskK l h dead n ++ (if maskP l dead h[n] = true then [h[n]] else []) := by
  unfold maskK
  rw [List.take_succ_eq_append_getElem hn, List.filter_append]
  congr 1
  cases e : maskP l dead h[n] <;> simp [e]
theorem maskK_len (l : List Site) (h : List Hit) (dead : List Int) (n : Nat) : (maskK l h dead n).length ≤ n := Nat.le_trans (List.length_filter_le _ _) (by simp; omega)
theorem maskK_all (l : List Site) (h : List Hit) (dead : List Int) : maskK l h dead h.length = maskV l h dead := by unfold maskK maskV; rw [List.take_length]
theorem maskV_sub (l : List Site) (h : List Hit) (dead : List Int) : (maskV l h dead).Sublist h := List.filter_sublist
theorem maskV_ok {l : List Site} {h : List Hit} (ho : HitsOk l h) (dead : List Int) : HitsOk l (maskV l h dead) := hitsOk_sub ho (maskV_sub l h dead)
theorem maskV_len (l : List Site) (h : List Hit) (dead : List Int) : (maskV l h dead).length ≤ h.length := (maskV_sub l h dead).length_le
def silP (l : List Site) (r : Rule) (h : List Hit) (dead : List Int) : Bool := (firesV l r (maskV l h dead) (maskV l h dead).length).isEmpty
def hasHit (l : List Site) (h : List Hit) (i : Nat) : Bool := anyP h.length fun k => decide ((h.getD k default).line = (l.getD i default).line) && decide ((h.getD k default).sensor = (l.getD i default).sensor)
def sitesK (l : List Site) (h : List Hit) (n : Nat) : List Int := natsL ((List.range n).filter (hasHit l h))
def sitesV (l : List Site) (h : List Hit) : List Int := sitesK l h l.length
theorem sitesK_succ (l : List Site) (h : List Hit) (n : Nat) : sitesK l h (n + 1) = sitesK l h n ++ (if hasHit l h n = true then [(n : Int)] else []) := by
  unfold sitesK natsL
  rw [List.range_succ, List.filter_append, List.map_append]
  congr 1
  cases e : hasHit l h n <;> simp [e]
theorem sitesK_len (l : List Site) (h : List Hit) (n : Nat) : (sitesK l h n).length ≤ n := by
  unfold sitesK; rw [natsL_len]; exact Nat.le_trans (List.length_filter_le _ _) (by simp)
theorem sitesV_pw (l : List Site) (h : List Hit) : (sitesV l h).Pairwise (· < ·) := by
  unfold sitesV sitesK natsL
  rw [List.pairwise_map]
  exact (List.Pairwise.filter _ List.pairwise_lt_range).imp fun h => by omega
theorem hasHit_iff {l : List Site} {h : List Hit} (hl : ArrOk l) (ho : HitsOk l h) {i : Nat} (hi : i < l.length) : hasHit l h i = true ↔ ∃ k, ∃ (hk : k < h.length), siteN l h[k] = (i : Int) := by
  unfold hasHit
  rw [anyP_iff]
  constructor
  · rintro ⟨k, hk, e⟩
    rw [getD_at hk, Bool.and_eq_true, decide_eq_true_eq, decide_eq_true_eq] at e
    exact ⟨k, hk, (siteN_iff hl (ho.hit k hk) hi).2 (by unfold addr hitA; rw [e.1, e.2])⟩
  · rintro ⟨k, hk, e⟩
    have := (siteN_iff hl (ho.hit k hk) hi).1 e
    unfold addr hitA at this
    obtain ⟨e1, e2⟩ := Prod.mk.inj this
    exact ⟨k, hk, by rw [getD_at hk, e1, e2]; simp⟩
theorem sitesV_mem {l : List Site} {h : List Hit} (hl : ArrOk l) (ho : HitsOk l h) {z : Int} : z ∈ sitesV l h ↔ ∃ k, ∃ (hk : k < h.length), siteN l h[k] = z := by
  unfold sitesV sitesK natsL
  rw [List.mem_map]
  constructor
  · rintro ⟨i, hi, rfl⟩
    rw [List.mem_filter, List.mem_range] at hi
    exact (hasHit_iff hl ho hi.1).1 hi.2
  · rintro ⟨k, hk, rfl⟩
    obtain ⟨i, hi, e⟩ := siteN_lt (ho.hit k hk)
    exact ⟨i, by rw [List.mem_filter, List.mem_range]; exact ⟨hi, (hasHit_iff hl ho hi).2 ⟨k, hk, e⟩⟩, e.symm⟩
theorem mask_all {l : List Site} {h : List Hit} (hl : ArrOk l) (ho : HitsOk l h) : maskV l h (sitesV l h) = [] := by
  unfold maskV
  rw [List.filter_eq_nil_iff]
  intro x hx
  obtain ⟨k, hk, rfl⟩ := List.getElem_of_mem hx
  unfold maskP
  simp only [Bool.not_eq_true', Bool.not_eq_false, List.contains_eq_mem, decide_eq_true_eq]
  exact (sitesV_mem hl ho).2 ⟨k, hk, rfl⟩
theorem silP_all {l : List Site} {r : Rule} {h : List Hit} (hl : ArrOk l) (ho : HitsOk l h) : silP l r h (sitesV l h) = true := by
  unfold silP
  rw [mask_all hl ho]; rfl
theorem sitesV_in {l : List Site} {h : List Hit} {z : Int} (hz : z ∈ sitesV l h) : 0 ≤ z ∧ z < l.length := by
  unfold sitesV sitesK natsL at hz
  obtain ⟨i, hi, rfl⟩ := List.mem_map.1 hz
  rw [List.mem_filter, List.mem_range] at hi
  omega
theorem sil_found {l : List Site} {r : Rule} {h : List Hit} (hl : ArrOk l) (ho : HitsOk l h) : ∃ c, c ≤ (sitesV l h).length ∧ ∃ o, silN (silP l r h) (sitesV l h) c = some o ∧ ∀ j, j < c → silN (silP l r h) (sitesV l h) j = none := by
  by_cases hn : ∃ c, c ≤ (sitesV l h).length ∧ silN (silP l r h) (sitesV l h) c ≠ none
  · obtain ⟨c, ⟨hc, hne⟩, hmin⟩ := exists_least hn
    obtain ⟨o, ho'⟩ := Option.ne_none_iff_exists'.1 hne
    refine ⟨c, hc, o, ho', fun j hj => ?_⟩
    cases e : silN (silP l r h) (sitesV l h) j with
    | none => rfl
    | some q => have := hmin j ⟨by omega, by rw [e]; simp⟩; omega
  · have := sil_none (p := silP l r h) (l := sitesV l h) (fun j hj => by
      cases e : silN (silP l r h) (sitesV l h) j with
      | none => rfl
      | some q => exact absurd ⟨j, hj, by rw [e]; simp⟩ hn) (List.Sublist.refl _)
    rw [silP_all hl ho] at this; cases this
end Go.Proofs.YtdmdpkoapllkkaaGreat
namespace Go.Proofs.YtdmdpkoapllkkaaGreat
open Go Go.RowKit Go.Proofs Go.Shelf Go.Ab
end Go.Proofs.YtdmdpkoapllkkaaGreat
namespace Go.Proofs.YtdmdpkoapllkkaaGreat
open Go Go.RowKit Go.Proofs Go.Shelf Go.Ab
set_option maxRecDepth 100000 in
theorem openHits_ok (l : List Site) (h : List Hit) (hl : l.length ≤ 1000000) (hh : h.length ≤ 1000000) (h1 : (arrChk l).2 = 0) (h2 : (hitsChk l h).2 = 0) : Summ Tryz.prog GG 97 [arrF l, .sl h.length (hitsF h)] (.tup [arrayV l, iv 0]) := by
  have HH := hitsErr_s l h hh
  rw [h2] at HH
  refine summW Tryz.func97 rfl rfl 25 rfl (by simp) (fun M0 => ?_)
  repeat (first
    | (apply s_a TY; exact rfl)
    | (apply s_t; exact rfl; (first | assumption | omega))
    | apply w_seq
    | apply w_region
    | apply s_nil
    | apply t_norm
    | apply w_ret
    | (apply w_condT; exact rfl; exact rfl)
    | (apply s_k (HH); exact rfl)
    | (apply s_k2 (openArray_ok _); exact rfl; (first | assumption | omega | decide); (first | assumption | omega | decide))
    | (apply s_alloc TY; exact rfl; exact rfl; exact rfl)
    | (apply s_store TY; exact rfl; exact rfl; exact rfl; exact rfl; exact rfl; exact rfl))
  exact lv_ret (ret2 rfl (res_bxs (sub := [.sl l.length (sitesF l), .mp (mapS l l.length)]) TY rfl rfl rfl rfl rfl) (res_tmp rfl))
theorem fewB_le {n : Nat} (h : fewB (n : Nat) = true) : n ≤ 42 := by
  unfold fewB at h
  simp only [Bool.or_eq_true, Bool.and_eq_true, decide_eq_true_eq] at h
  omega
end Go.Proofs.YtdmdpkoapllkkaaGreat
namespace Go.Proofs.YtdmdpkoapllkkaaGreat
open Go Go.RowKit Go.Proofs Go.Shelf Go.Ab
end Go.Proofs.YtdmdpkoapllkkaaGreat
namespace Go.Proofs.YtdmdpkoapllkkaaGreat
open Go Go.RowKit Go.Proofs Go.Shelf Go.Ab
def hasP (l : List Int) (n : Int) (i : Nat) : Bool := decide (l.getD i default = n)
theorem anyP_has (l : List Int) (n : Int) : anyP l.length (hasP l n) = l.contains n := by
  rw [Bool.eq_iff_iff, anyP_iff]
  unfold hasP
  simp only [decide_eq_true_eq, List.contains_eq_mem]
  constructor
  · rintro ⟨i, hi, rfl⟩; rw [getD_at hi]; exact List.getElem_mem hi
  · intro h
    obtain ⟨i, hi, rfl⟩ := List.getElem_of_mem h
    exact ⟨i, hi, getD_at hi⟩
set_option maxRecDepth 100000 in
theorem Index_s (l : List Int) (n : Int) (hl : l.length ≤ 1000000) : Summ Tryz.prog GG 163 [.sl l.length (intsF l), iv n] (iv (idxP l.length (hasP l n))) := by
  rcases idxP_cases l.length (hasP l n) with ⟨he, hz⟩ | ⟨q, hq, hz, hp, he⟩
  · rw [he]
    refine summW Tryz.func163 rfl rfl 19 rfl (by simp) (fun M0 => ?_)
    repeat (first
    | (apply s_a TY; exact rfl)
    | apply w_seq
    | apply w_region
    | apply s_nil
    | apply t_norm
    | apply w_block)
    apply w_loop (fun k : Nat => ⟨(Ab.upd (Ab.upd (Ab.upd (Ab.upd (fun _ => .bot) 0 (.f (.sl l.length (intsF l)))) 1 (.f (iv n))) 7 (.f (iv l.length))) 8 (.f (iv ((k : Nat) : Int)))), (fun _ => none), 0⟩) (fun k => k ≤ l.length) (fun k => l.length - k) 0 (Nat.zero_le _) (gh_le ⟨le_upd rfl trivial (le_upd rfl trivial (le_upd rfl trivial (le_upd rfl trivial (le_nil _)))), le_h0 _ _⟩)
    intro k hk
    by_cases hc : k < l.length
    · have hne : ¬ l[k] = n := by have := hz k hc; unfold hasP at this; rw [getD_at hc] at this; simpa using this
      repeat (first
    | (apply s_a TY; exact rfl)
    | (apply s_t; exact rfl; (first | assumption | omega))
    | (apply s_f; exact rfl; (first | assumption | omega))
    | apply w_seq
    | apply w_region
    | apply s_nil
    | apply t_norm
    | apply k_norm
    | apply w_block
    | apply w_skip
    | (apply w_condT; exact rfl; exact rfl)
    | (apply w_condF; exact rfl; exact rfl)
    | (apply s_c TY; exact rfl; (first | omega | exact ⟨by omega, by (first | with_reducible assumption | ((with_reducible apply intsF_ne); omega) | assumption)⟩))
    | (apply s_l TY; exact rfl; (first | exact rfl | with_reducible assumption | ((with_reducible apply intsF_at); omega) | assumption)))
      exact ⟨k + 1, by omega, by omega, gh_le ⟨le_upd rfl trivial (le_upd rfl trivial (le_upd rfl trivial (le_upd rfl trivial (le_nil _)))), le_h0 _ _⟩⟩
    · repeat (first
    | (apply s_a TY; exact rfl)
    | (apply s_f; exact rfl; (first | assumption | omega))
    | apply w_seq
    | apply w_region
    | apply s_nil
    | apply t_norm
    | apply t_exit
    | apply k_hit
    | apply w_exit
    | apply w_ret
    | (apply w_condF; exact rfl; exact rfl))
      exact lv_ret (ret1 rfl (res_tmp rfl))
  · rw [he]
    refine summW Tryz.func163 rfl rfl 19 rfl (by simp) (fun M0 => ?_)
    repeat (first
    | (apply s_a TY; exact rfl)
    | apply w_seq
    | apply w_region
    | apply s_nil
    | apply t_norm
    | apply w_block)
    apply w_loop (fun k : Nat => ⟨(Ab.upd (Ab.upd (Ab.upd (Ab.upd (fun _ => .bot) 0 (.f (.sl l.length (intsF l)))) 1 (.f (iv n))) 7 (.f (iv l.length))) 8 (.f (iv ((k : Nat) : Int)))), (fun _ => none), 0⟩) (fun k => k ≤ q) (fun k => q - k) 0 (Nat.zero_le _) (gh_le ⟨le_upd rfl trivial (le_upd rfl trivial (le_upd rfl trivial (le_upd rfl trivial (le_nil _)))), le_h0 _ _⟩)
    intro k hk
    have hc : k < l.length := by omega
    by_cases hkq : k = q
    · have he2 : l[k] = n := by have := hp; unfold hasP at this; rw [← hkq, getD_at hc] at this; simpa using this
      subst hkq
      repeat (first
    | (apply s_a TY; exact rfl)
    | (apply s_t; exact rfl; (first | assumption | omega))
    | apply w_seq
    | apply w_region
    | apply s_nil
    | apply t_norm
    | apply t_ret
    | apply k_ret
    | apply w_block
    | apply w_ret
    | apply w_skip
    | (apply w_condT; exact rfl; exact rfl)
    | (apply s_c TY; exact rfl; (first | omega | exact ⟨by omega, by (first | with_reducible assumption | ((with_reducible apply intsF_ne); omega) | assumption)⟩))
    | (apply s_l TY; exact rfl; (first | exact rfl | with_reducible assumption | ((with_reducible apply intsF_at); omega) | assumption)))
      exact lv_ret (ret1 rfl (res_tmp rfl))
    · have hne : ¬ l[k] = n := by have := hz k (by omega); unfold hasP at this; rw [getD_at hc] at this; simpa using this
      repeat (first
    | (apply s_a TY; exact rfl)
    | (apply s_t; exact rfl; (first | assumption | omega))
    | (apply s_f; exact rfl; (first | assumption | omega))
    | apply w_seq
    | apply w_region
    | apply s_nil
    | apply t_norm
    | apply k_norm
    | apply w_block
    | apply w_skip
    | (apply w_condT; exact rfl; exact rfl)
    | (apply w_condF; exact rfl; exact rfl)
    | (apply s_c TY; exact rfl; (first | omega | exact ⟨by omega, by (first | with_reducible assumption | ((with_reducible apply intsF_ne); omega) | assumption)⟩))
    | (apply s_l TY; exact rfl; (first | exact rfl | with_reducible assumption | ((with_reducible apply intsF_at); omega) | assumption)))
      exact ⟨k + 1, by omega, by omega, gh_le ⟨le_upd rfl trivial (le_upd rfl trivial (le_upd rfl trivial (le_upd rfl trivial (le_nil _)))), le_h0 _ _⟩⟩
set_option maxRecDepth 100000 in
theorem Contains_s (l : List Int) (n : Int) (hl : l.length ≤ 1000000) : Summ Tryz.prog GG 136 [.sl l.length (intsF l), iv n] (bv (l.contains n)) := by
  have HI := Index_s l n hl
  rw [← anyP_has]
  cases ha : anyP l.length (hasP l n) with
  | true =>
    have h0 := (idxP_pos l.length (hasP l n)).2 ha
    refine summW Tryz.func136 rfl rfl 9 rfl (by simp) (fun M0 => ?_)
    repeat (first
    | (apply s_a TY; exact rfl)
    | (apply s_t; exact rfl; (first | assumption | omega))
    | apply w_seq
    | apply w_region
    | apply s_nil
    | apply t_norm
    | apply w_ret
    | (apply s_k (HI); exact rfl))
    exact lv_ret (ret1 rfl (res_tmp rfl))
  | false =>
    have h0 : ¬ 0 ≤ idxP l.length (hasP l n) := fun h => by rw [(idxP_pos l.length (hasP l n)).1 h] at ha; cases ha
    refine summW Tryz.func136 rfl rfl 9 rfl (by simp) (fun M0 => ?_)
    repeat (first
    | (apply s_a TY; exact rfl)
    | (apply s_f; exact rfl; (first | assumption | omega))
    | apply w_seq
    | apply w_region
    | apply s_nil
    | apply t_norm
    | apply w_ret
    | (apply s_k (HI); exact rfl))
    exact lv_ret (ret1 rfl (res_tmp rfl))
set_option maxRecDepth 100000 in
theorem Has_s (l : List Int) (n : Int) (hl : l.length ≤ 1000000) : Summ Tryz.prog GG 37 [.sl l.length (intsF l), iv n] (bv (l.contains n)) := by
  rw [← anyP_has]
  rcases idxP_cases l.length (hasP l n) with ⟨he, hz⟩ | ⟨q, hq, hz, hp, he⟩
  · rw [show anyP l.length (hasP l n) = false from Bool.eq_false_iff.2 fun h => by have := (idxP_pos _ _).2 h; rw [he] at this; omega]
    refine summW Tryz.func37 rfl rfl 18 rfl (by simp) (fun M0 => ?_)
    repeat (first
    | (apply s_a TY; exact rfl)
    | apply w_seq
    | apply w_region
    | apply s_nil
    | apply t_norm
    | apply w_block)
    apply w_loop (fun k : Nat => ⟨(Ab.upd (Ab.upd (Ab.upd (fun _ => .bot) 0 (.f (.sl l.length (intsF l)))) 1 (.f (iv n))) 5 (.f (iv ((k : Nat) : Int)))), (fun _ => none), 0⟩) (fun k => k ≤ l.length) (fun k => l.length - k) 0 (Nat.zero_le _) (gh_le ⟨le_upd rfl trivial (le_upd rfl trivial (le_upd rfl trivial (le_nil _))), le_h0 _ _⟩)
    intro k hk
    by_cases hc : k < l.length
    · have hne : ¬ l[k] = n := by have := hz k hc; unfold hasP at this; rw [getD_at hc] at this; simpa using this
      repeat (first
    | (apply s_a TY; exact rfl)
    | (apply s_t; exact rfl; (first | assumption | omega))
    | (apply s_f; exact rfl; (first | assumption | omega))
    | apply w_seq
    | apply w_region
    | apply s_nil
    | apply t_norm
    | apply k_norm
    | apply w_block
    | apply w_skip
    | (apply w_condT; exact rfl; exact rfl)
    | (apply w_condF; exact rfl; exact rfl)
    | (apply s_c TY; exact rfl; (first | omega | exact ⟨by omega, by (first | with_reducible assumption | ((with_reducible apply intsF_ne); omega) | assumption)⟩))
    | (apply s_l TY; exact rfl; (first | exact rfl | with_reducible assumption | ((with_reducible apply intsF_at); omega) | assumption)))
      exact ⟨k + 1, by omega, by omega, gh_le ⟨le_upd rfl trivial (le_upd rfl trivial (le_upd rfl trivial (le_nil _))), le_h0 _ _⟩⟩
    · repeat (first
    | (apply s_a TY; exact rfl)
    | (apply s_f; exact rfl; (first | assumption | omega))
    | apply w_seq
    | apply w_region
    | apply s_nil
    | apply t_norm
    | apply t_exit
    | apply k_hit
    | apply w_exit
    | apply w_ret
    | (apply w_condF; exact rfl; exact rfl))
      exact lv_ret (ret1 rfl (res_tmp rfl))
  · rw [show anyP l.length (hasP l n) = true from (idxP_pos _ _).1 (by rw [he]; omega)]
    refine summW Tryz.func37 rfl rfl 18 rfl (by simp) (fun M0 => ?_)
    repeat (first
    | (apply s_a TY; exact rfl)
    | apply w_seq
    | apply w_region
    | apply s_nil
    | apply t_norm
    | apply w_block)
    apply w_loop (fun k : Nat => ⟨(Ab.upd (Ab.upd (Ab.upd (fun _ => .bot) 0 (.f (.sl l.length (intsF l)))) 1 (.f (iv n))) 5 (.f (iv ((k : Nat) : Int)))), (fun _ => none), 0⟩) (fun k => k ≤ q) (fun k => q - k) 0 (Nat.zero_le _) (gh_le ⟨le_upd rfl trivial (le_upd rfl trivial (le_upd rfl trivial (le_nil _))), le_h0 _ _⟩)
    intro k hk
    have hc : k < l.length := by omega
    by_cases hkq : k = q
    · have he2 : l[k] = n := by have := hp; unfold hasP at this; rw [← hkq, getD_at hc] at this; simpa using this
      subst hkq
      repeat (first
    | (apply s_a TY; exact rfl)
    | (apply s_t; exact rfl; (first | assumption | omega))
    | apply w_seq
    | apply w_region
    | apply s_nil
    | apply t_norm
    | apply t_ret
    | apply k_ret
    | apply w_block
    | apply w_ret
    | apply w_skip
    | (apply w_condT; exact rfl; exact rfl)
    | (apply s_c TY; exact rfl; (first | omega | exact ⟨by omega, by (first | with_reducible assumption | ((with_reducible apply intsF_ne); omega) | assumption)⟩))
    | (apply s_l TY; exact rfl; (first | exact rfl | with_reducible assumption | ((with_reducible apply intsF_at); omega) | assumption)))
      exact lv_ret (ret1 rfl (res_tmp rfl))
    · have hne : ¬ l[k] = n := by have := hz k (by omega); unfold hasP at this; rw [getD_at hc] at this; simpa using this
      repeat (first
    | (apply s_a TY; exact rfl)
    | (apply s_t; exact rfl; (first | assumption | omega))
    | (apply s_f; exact rfl; (first | assumption | omega))
    | apply w_seq
    | apply w_region
    | apply s_nil
    | apply t_norm
    | apply k_norm
    | apply w_block
    | apply w_skip
    | (apply w_condT; exact rfl; exact rfl)
    | (apply w_condF; exact rfl; exact rfl)
    | (apply s_c TY; exact rfl; (first | omega | exact ⟨by omega, by (first | with_reducible assumption | ((with_reducible apply intsF_ne); omega) | assumption)⟩))
    | (apply s_l TY; exact rfl; (first | exact rfl | with_reducible assumption | ((with_reducible apply intsF_at); omega) | assumption)))
      exact ⟨k + 1, by omega, by omega, gh_le ⟨le_upd rfl trivial (le_upd rfl trivial (le_upd rfl trivial (le_nil _))), le_h0 _ _⟩⟩
theorem rowH_app {L a : List Hit} {x : Hit} (e : L = a ++ [x]) : some (Blk.row 29 3 (a.length + 1) (hitsF a ++ hitF x)) = some (Blk.row 29 3 L.length (hitsF L)) := by
  rw [e, hitsF_snoc, List.length_append]; rfl
theorem rowH (a b : List Hit) (h : a = b) : some (Blk.row 29 3 a.length (hitsF a)) = some (Blk.row 29 3 b.length (hitsF b)) := by rw [h]
set_option maxRecDepth 100000 in
set_option maxHeartbeats 1600000 in
theorem without_s (l : List Site) (h : List Hit) (dead : List Int) (hh : h.length ≤ 1000) (hd : dead.length ≤ 1000000) : Summ Tryz.prog GG 101 [arrayV l, .sl h.length (hitsF h), .sl dead.length (intsF dead)] (.sl (maskV l h dead).length (hitsF (maskV l h dead))) := by
  refine summW Tryz.func101 rfl rfl 34 rfl (by simp) (fun M0 => ?_)
  repeat (first
    | (apply s_a TY; exact rfl)
    | apply w_seq
    | apply w_region
    | apply s_nil
    | apply t_norm
    | apply w_block)
  apply w_gh (gh_own 7 29 3 rfl rfl)
  apply w_loop (fun k : Nat => ⟨(Ab.upd (Ab.upd (Ab.upd (Ab.upd (Ab.upd (Ab.upd (fun _ => .bot) 2 (.f (.sl dead.length (intsF dead)))) 3 (.f (.pt [.sl l.length (sitesF l), .mp (mapS l l.length)] 0))) 7 (.ow 0)) 12 (.f (.sl h.length (hitsF h)))) 13 (.f (iv h.length))) 14 (.f (iv ((k : Nat) : Int)))), (Ab.upd (fun _ => none) 0 (some (.row 29 3 (maskK l h dead k).length (hitsF (maskK l h dead k))))), 1⟩) (fun k => k ≤ h.length) (fun k => h.length - k) 0 (Nat.zero_le _) (gh_le ⟨le_upd rfl trivial (le_upd rfl trivial (le_upd rfl trivial (le_upd rfl rfl (le_upd rfl trivial (le_upd rfl trivial (le_nil _)))))), le_hupd rfl trivial (le_h0 _ _)⟩)
  intro k hk
  have hln := maskK_len l h dead k
  by_cases hc : k < h.length
  · have hs := maskK_succ (l := l) (dead := dead) hc
    have HSi := site_s l h[k]
    have HCo := Contains_s dead (siteN l h[k]) hd
    unfold maskP at hs
    rw [show (siteM l h[k]).getD 0 = siteN l h[k] from rfl] at HSi
    cases hb : dead.contains (siteN l h[k]) with
    | true =>
      rw [hb] at HCo hs
      rw [if_neg (by decide), List.append_nil] at hs
      repeat (first
    | (apply s_a TY; exact rfl)
    | (apply s_t; exact rfl; (first | assumption | omega))
    | apply w_seq
    | apply w_region
    | apply s_nil
    | apply t_norm
    | apply k_norm
    | apply w_block
    | apply w_skip
    | (apply w_condT; exact rfl; exact rfl)
    | (apply w_condF; exact rfl; exact rfl)
    | (apply s_k (HSi); exact rfl)
    | (apply s_k (HCo); exact rfl)
    | (apply s_c TY; exact rfl; (first | omega | exact ⟨by omega, by (first | with_reducible assumption | ((with_reducible apply hitsF_ne); omega) | assumption)⟩))
    | (apply s_m TY; exact rfl; (first | with_reducible assumption | ((with_reducible apply hitsF_sub); omega) | exact rfl); exact rfl)
    | (apply s_alloc TY; exact rfl; exact rfl; exact rfl)
    | (apply s_store TY; exact rfl; exact rfl; exact rfl; exact rfl; exact rfl; exact rfl))
      exact ⟨k + 1, by omega, by omega, gh_le ⟨le_upd rfl trivial (le_upd rfl trivial (le_upd rfl trivial (le_upd rfl rfl (le_upd rfl trivial (le_upd rfl trivial (le_nil _)))))), le_hupd (rowH _ _ hs.symm) trivial (le_h0 _ _)⟩⟩
    | false =>
      rw [hb] at HCo hs
      rw [if_pos (by decide)] at hs
      repeat (first
    | (apply s_append TY; exact rfl; exact rfl; exact rfl; exact rfl; exact rfl; exact rfl; exact rfl; exact rfl; exact rfl; (unfold maxLen; omega); omega)
    | (apply s_a TY; exact rfl)
    | (apply s_t; exact rfl; (first | assumption | omega))
    | apply w_seq
    | apply w_region
    | apply s_nil
    | apply t_norm
    | apply k_norm
    | apply w_block
    | apply w_skip
    | (apply w_condT; exact rfl; exact rfl)
    | (apply s_k (HSi); exact rfl)
    | (apply s_k (HCo); exact rfl)
    | (apply s_c TY; exact rfl; (first | omega | exact ⟨by omega, by (first | with_reducible assumption | ((with_reducible apply hitsF_ne); omega) | assumption)⟩))
    | (apply s_m TY; exact rfl; (first | with_reducible assumption | ((with_reducible apply hitsF_sub); omega) | exact rfl); exact rfl)
    | (apply s_alloc TY; exact rfl; exact rfl; exact rfl)
    | (apply s_store TY; exact rfl; exact rfl; exact rfl; exact rfl; exact rfl; exact rfl))
      exact ⟨k + 1, by omega, by omega, gh_le ⟨le_upd rfl trivial (le_upd rfl trivial (le_upd rfl trivial (le_upd rfl rfl (le_upd rfl trivial (le_upd rfl trivial (le_nil _)))))), le_hupd (rowH_app hs) trivial (le_h0 _ _)⟩⟩
  · have hke : k = h.length := by omega
    subst hke
    rw [maskK_all]
    repeat (first
    | (apply s_a TY; exact rfl)
    | (apply s_f; exact rfl; (first | assumption | omega))
    | apply w_seq
    | apply w_region
    | apply s_nil
    | apply t_norm
    | apply t_exit
    | apply k_hit
    | apply w_exit
    | apply w_ret
    | (apply w_condF; exact rfl; exact rfl))
    exact lv_ret (ret_gh (gh_row 0 rfl) (ret1 rfl (res_tmp rfl)))
def oddP (l : List Site) (dead : List Int) (i : Nat) : Bool := !withinB (dead.getD i default) 0 ((l.length : Int) - 1)
def deadErr (l : List Site) (dead : List Int) : Int := if 30 < dead.length then 8 else if anyP dead.length (oddP l dead) = true then 6 else 0
set_option maxRecDepth 100000 in
set_option maxHeartbeats 1600000 in
theorem DeadErr_s (l : List Site) (dead : List Int) (hl : l.length ≤ 1000000) : Summ Tryz.prog GG 35 [arrF l, .sl dead.length (intsF dead)] (iv (deadErr l dead)) := by
  unfold deadErr
  by_cases h30 : 30 < dead.length
  · rw [if_pos h30]
    refine summW Tryz.func35 rfl rfl 25 rfl (by simp) (fun M0 => ?_)
    repeat (first
    | (apply s_a TY; exact rfl)
    | (apply s_t; exact rfl; (first | assumption | omega))
    | apply w_seq
    | apply w_region
    | apply s_nil
    | apply t_norm
    | apply t_ret
    | apply w_ret
    | (apply w_condT; exact rfl; exact rfl))
    exact lv_ret (ret1 rfl (res_tmp rfl))
  · rw [if_neg h30]
    rcases idxP_cases dead.length (oddP l dead) with ⟨he, hz⟩ | ⟨q, hq, hz, hp, he⟩
    · rw [if_neg (fun h => by have := (idxP_pos _ _).2 h; rw [he] at this; omega)]
      refine summW Tryz.func35 rfl rfl 25 rfl (by simp) (fun M0 => ?_)
      repeat (first
    | (apply s_a TY; exact rfl)
    | (apply s_f; exact rfl; (first | assumption | omega))
    | apply w_seq
    | apply w_region
    | apply s_nil
    | apply t_norm
    | apply w_block
    | apply w_skip
    | (apply w_condF; exact rfl; exact rfl))
      apply w_loop (fun k : Nat => ⟨(Ab.upd (Ab.upd (Ab.upd (fun _ => .bot) 1 (.f (.sl dead.length (intsF dead)))) 2 (.f (.pt [.sl l.length (sitesF l)] 0))) 5 (.f (iv ((k : Nat) : Int)))), (fun _ => none), 0⟩) (fun k => k ≤ dead.length) (fun k => dead.length - k) 0 (Nat.zero_le _) (gh_le ⟨le_upd rfl trivial (le_upd rfl trivial (le_upd rfl trivial (le_nil _))), le_h0 _ _⟩)
      intro k hk
      by_cases hc : k < dead.length
      · have HB := bwithin_s dead[k] 0 ((l.length : Int) - 1)
        have hb := hz k hc
        unfold oddP at hb
        rw [getD_at hc, Bool.not_eq_false'] at hb
        rw [hb] at HB
        repeat (first
    | (apply s_a TY; exact rfl)
    | (apply s_t; exact rfl; (first | assumption | omega))
    | apply w_seq
    | apply w_region
    | (apply w_draw (id := 6) 8 rfl (by kernel_rfl))
    | apply s_nil
    | apply t_norm
    | apply k_norm
    | apply w_block
    | apply w_skip
    | (apply w_condT; exact rfl; exact rfl)
    | (apply w_condF; exact rfl; exact rfl)
    | (apply s_k (HB); exact rfl)
    | (apply s_c TY; exact rfl; (first | omega | exact ⟨by omega, by (first | with_reducible assumption | ((with_reducible apply intsF_ne); omega) | assumption)⟩))
    | (apply s_l TY; exact rfl; (first | exact rfl | with_reducible assumption | ((with_reducible apply intsF_at); omega) | assumption)))
        exact ⟨k + 1, by omega, by omega, gh_le ⟨le_upd rfl trivial (le_upd rfl trivial (le_upd rfl trivial (le_nil _))), le_h0 _ _⟩⟩
      · repeat (first
    | (apply s_a TY; exact rfl)
    | (apply s_f; exact rfl; (first | assumption | omega))
    | apply w_seq
    | apply w_region
    | apply s_nil
    | apply t_norm
    | apply t_exit
    | apply k_hit
    | apply w_exit
    | apply w_ret
    | (apply w_condF; exact rfl; exact rfl))
        exact lv_ret (ret1 rfl (res_tmp rfl))
    · rw [if_pos ((idxP_pos _ _).1 (by rw [he]; omega))]
      refine summW Tryz.func35 rfl rfl 25 rfl (by simp) (fun M0 => ?_)
      repeat (first
    | (apply s_a TY; exact rfl)
    | (apply s_f; exact rfl; (first | assumption | omega))
    | apply w_seq
    | apply w_region
    | apply s_nil
    | apply t_norm
    | apply w_block
    | apply w_skip
    | (apply w_condF; exact rfl; exact rfl))
      apply w_loop (fun k : Nat => ⟨(Ab.upd (Ab.upd (Ab.upd (fun _ => .bot) 1 (.f (.sl dead.length (intsF dead)))) 2 (.f (.pt [.sl l.length (sitesF l)] 0))) 5 (.f (iv ((k : Nat) : Int)))), (fun _ => none), 0⟩) (fun k => k ≤ q) (fun k => q - k) 0 (Nat.zero_le _) (gh_le ⟨le_upd rfl trivial (le_upd rfl trivial (le_upd rfl trivial (le_nil _))), le_h0 _ _⟩)
      intro k hk
      have hc : k < dead.length := by omega
      have HB := bwithin_s dead[k] 0 ((l.length : Int) - 1)
      by_cases hkq : k = q
      · have hb := hp
        rw [← hkq] at hb
        unfold oddP at hb
        rw [getD_at hc, Bool.not_eq_true'] at hb
        rw [hb] at HB
        repeat (first
    | (apply s_a TY; exact rfl)
    | (apply s_t; exact rfl; (first | assumption | omega))
    | apply w_seq
    | apply w_region
    | (apply w_draw (id := 6) 8 rfl (by kernel_rfl))
    | apply s_nil
    | apply t_norm
    | apply t_ret
    | apply k_ret
    | apply w_block
    | apply w_ret
    | apply w_skip
    | (apply w_condT; exact rfl; exact rfl)
    | (apply s_k (HB); exact rfl)
    | (apply s_c TY; exact rfl; (first | omega | exact ⟨by omega, by (first | with_reducible assumption | ((with_reducible apply intsF_ne); omega) | assumption)⟩))
    | (apply s_l TY; exact rfl; (first | exact rfl | with_reducible assumption | ((with_reducible apply intsF_at); omega) | assumption)))
        exact lv_ret (ret1 rfl (res_tmp rfl))
      · have hb := hz k (by omega)
        unfold oddP at hb
        rw [getD_at hc, Bool.not_eq_false'] at hb
        rw [hb] at HB
        repeat (first
    | (apply s_a TY; exact rfl)
    | (apply s_t; exact rfl; (first | assumption | omega))
    | apply w_seq
    | apply w_region
    | (apply w_draw (id := 6) 8 rfl (by kernel_rfl))
    | apply s_nil
    | apply t_norm
    | apply k_norm
    | apply w_block
    | apply w_skip
    | (apply w_condT; exact rfl; exact rfl)
    | (apply w_condF; exact rfl; exact rfl)
    | (apply s_k (HB); exact rfl)
    | (apply s_c TY; exact rfl; (first | omega | exact ⟨by omega, by (first | with_reducible assumption | ((with_reducible apply intsF_ne); omega) | assumption)⟩))
    | (apply s_l TY; exact rfl; (first | exact rfl | with_reducible assumption | ((with_reducible apply intsF_at); omega) | assumption)))
        exact ⟨k + 1, by omega, by omega, gh_le ⟨le_upd rfl trivial (le_upd rfl trivial (le_upd rfl trivial (le_nil _))), le_h0 _ _⟩⟩
set_option maxRecDepth 100000 in
theorem masked1_s (l : List Site) (n : Int) (hl : l.length ≤ 1000000) : Summ Tryz.prog GG 99 [iv n, .pt [.sl l.length (sitesF l)] 0] (bv (!withinB n 0 ((l.length : Int) - 1))) := by
  have HB := within_s n 0 ((l.length : Int) - 1)
  refine summW Tryz.func99 rfl rfl 11 rfl (by simp) (fun M0 => ?_)
  repeat (first
    | (apply s_a TY; exact rfl)
    | apply w_seq
    | apply w_region
    | apply s_nil
    | apply t_norm
    | apply w_ret
    | (apply s_k (HB); exact rfl)
    | (apply s_c TY; exact rfl; omega))
  exact lv_ret (ret1 rfl (res_tmp rfl))
theorem odd_s (l : List Site) (dead : List Int) (hl : l.length ≤ 1000000) (hd : dead.length ≤ 1000000) : Summ Tryz.prog GG 98 [.sl dead.length (intsF dead), .fn 99 [.pt [.sl l.length (sitesF l)] 0]] (bv (anyP dead.length (oddP l dead))) := by
  refine idxIC_s dead 99 [.pt [.sl l.length (sitesF l)] 0] (oddP l dead) hd fun i hi => ?_
  have := masked1_s l dead[i] hl
  rwa [show (!withinB dead[i] 0 ((l.length : Int) - 1)) = oddP l dead i by unfold oddP; rw [getD_at hi]] at this
set_option maxRecDepth 100000 in
set_option maxHeartbeats 1600000 in
theorem Masked_ok (l : List Site) (h : List Hit) (dead : List Int) (hl : l.length ≤ 1000000) (hh : h.length ≤ 1000000) (hd : dead.length ≤ 1000000) (h1 : (arrChk l).2 = 0) (h2 : (hitsChk l h).2 = 0) (h3 : deadErr l dead = 0) : Summ Tryz.prog GG 36 [arrF l, .sl h.length (hitsF h), .sl dead.length (intsF dead)] (.tup [.sl (maskV l h dead).length (hitsF (maskV l h dead)), iv 0]) := by
  have HO := openHits_ok l h hl hh h1 h2
  have h40 := (hitsOk_of (arrOk_of h1) h2).len
  have HX := odd_s l dead hl hd
  have HWo := without_s l h dead (by omega) hd
  unfold deadErr at h3
  by_cases h30 : 30 < dead.length
  · rw [if_pos h30] at h3; cases h3
  · rw [if_neg h30] at h3
    cases ho : anyP dead.length (oddP l dead) with
    | true => rw [ho, if_pos rfl] at h3; cases h3
    | false =>
      rw [ho] at HX
      refine summW Tryz.func36 rfl rfl 37 rfl (by simp) (fun M0 => ?_)
      repeat (first
    | (apply s_a TY; exact rfl)
    | (apply s_makefn; exact rfl; exact rfl)
    | (apply s_t; exact rfl; (first | assumption | omega))
    | apply w_seq
    | apply w_region
    | apply s_nil
    | apply t_norm
    | apply w_ret
    | apply w_skip
    | (apply w_condF; exact rfl; exact rfl)
    | (apply s_k (HO); exact rfl)
    | (apply s_k (HX); exact rfl)
    | (apply s_k (HWo); exact rfl)
    | (apply s_k1 (first3_2 _ _ _); exact rfl; (first | assumption | omega | decide))
    | (apply s_k (unless_T _); exact rfl)
    | (apply s_alloc TY; exact rfl; exact rfl; exact rfl)
    | (apply s_store TY; exact rfl; exact rfl; exact rfl; exact rfl; exact rfl; exact rfl))
      exact lv_ret (ret2 rfl (res_tmp rfl) (res_tmp rfl))
end Go.Proofs.YtdmdpkoapllkkaaGreat
namespace Go.Proofs.YtdmdpkoapllkkaaGreat
open Go Go.RowKit Go.Proofs Go.Shelf Go.Ab
def encJ (z : Int) : List Value := [.int .i64 z]
theorem encJ_len : ∀ x, (encJ x).length = 1 := fun _ => rfl
theorem encJ_one (l : List Int) : ∀ u ∈ l.flatMap encJ, u.oneCell' = true := by
  intro u hu
  obtain ⟨z, _, h⟩ := List.mem_flatMap.1 hu
  simp [encJ] at h
  subst h; rfl
theorem infoI : (Tryz.prog.info? 3).map (fun i => (i.zero, i.size, i.bytes)) = some (some (.int .i64 0), 1, 8) := by kernel_rfl
theorem detC_append : ∀ {a b : List FV} {p q : List Value}, detC a = some p → detC b = some q → detC (a ++ b) = some (p ++ q)
  | [], b, p, q, h, h' => by simp [detC] at h; subst h; simpa using h'
  | .v x :: a, b, p, q, h, h' => by
    cases hr : detC a with
    | none => simp [detC, hr] at h
    | some l => simp [detC, hr] at h; subst h; simp [detC, detC_append hr h']
  | .sl _ _ :: _, _, _, _, h, _ => by simp [detC] at h
  | .agg _ :: _, _, _, _, h, _ => by simp [detC] at h
  | .tup _ :: _, _, _, _, h, _ => by simp [detC] at h
  | .pt _ _ :: _, _, _, _, h, _ => by simp [detC] at h
  | .fn _ _ :: _, _, _, _, h, _ => by simp [detC] at h
  | .slc _ _ :: _, _, _, _, h, _ => by simp [detC] at h
  | .mp _ :: _, _, _, _, h, _ => by simp [detC] at h
theorem detC_flat {α : Type} {f : α → List FV} {e : α → List Value} (h : ∀ x, detC (f x) = some (e x)) : ∀ l : List α, detC (l.flatMap f) = some (l.flatMap e)
  | [] => rfl
  | x :: l => by rw [List.flatMap_cons, List.flatMap_cons]; exact detC_append (h x) (detC_flat h l)
theorem detC_ints (l : List Int) : detC (intsF l) = some (l.flatMap encJ) := by
  have := detC_flat (f := fun z => [iv z]) (e := encJ) (fun _ => rfl) l
  rwa [show l.flatMap (fun z => [iv z]) = intsF l by unfold intsF; induction l with | nil => rfl | cons x l ih => rw [List.flatMap_cons, List.map_cons, ih (detC_flat (f := fun z => [iv z]) (e := encJ) (fun _ => rfl) l)]; rfl] at this
theorem rep_row {w : World} {M : Nat → Prop} {v : Value} {n : Nat} {cs : List FV} {us : List Value} (h : RepF w M v (.sl n cs)) (hd : detC cs = some us) : ∃ a c, v = .slice a n c ∧ n ≤ c ∧ Row w a us := by
  cases h with
  | sl a _ c _ vs h1 h2 h3 h4 h5 =>
    have := detC_spec ⟨h2, h5⟩ hd
    subst this
    refine ⟨a, c, rfl, h1, ⟨fun hn => ?_⟩⟩
    obtain ⟨b, off, e, L⟩ := h4 hn
    exact ⟨b, off, e, L.lt, L.at_⟩
theorem repL_det {w : World} {M : Nat → Prop} {us : List Value} : ∀ {cs : List FV}, detC cs = some us → RepL w M us cs
  | [], h => by simp [detC] at h; subst h; exact RepL.nil _ _
  | .v x :: r, h => by
    cases hr : detC r with
    | none => simp [detC, hr] at h
    | some l => simp [detC, hr] at h; subst h; exact RepL.cons (RepF.v x) (repL_det hr)
  | .sl _ _ :: _, h => by simp [detC] at h
  | .agg _ :: _, h => by simp [detC] at h
  | .tup _ :: _, h => by simp [detC] at h
  | .pt _ _ :: _, h => by simp [detC] at h
  | .fn _ _ :: _, h => by simp [detC] at h
  | .slc _ _ :: _, h => by simp [detC] at h
  | .mp _ :: _, h => by simp [detC] at h
theorem own_sl {w w' : World} {M : Nat → Prop} {e sz n : Nat} {v : Value} {us : List Value} {cs : List FV} (own : w'.ownsRow w.heap.size e sz v n us) (one : ∀ u ∈ us, u.oneCell' = true) (hM : ∀ b, M b → b < w.heap.size) (R : RepL w' M us cs) : RepF w' M v (.sl n cs) := by
  rcases own.2 with ⟨h1, h2⟩ | ⟨g, cap, cur, h1, h2, h3, h4, h5, h6, h7⟩
  · subst h1; subst h2
    have hx : us = [] := List.eq_nil_of_length_eq_zero (by rw [own.1]; simp)
    subst hx
    exact RepF.sl none 0 0 cs [] (Nat.le_refl _) R.1 one (fun h => absurd rfl h) (fun k u x h => by simp at h)
  · subst h1
    refine RepF.sl _ n cap cs us h4 R.1 one (fun _ => ⟨g, 0, rfl, (Array.getElem?_eq_some_iff.1 h3).1, fun hm => by have := hM g hm; omega, fun k hk => ?_⟩) R.2
    have := own.cells (g := g) rfl k _ (List.getElem?_eq_getElem hk)
    rw [addr_add, Nat.zero_add] at this
    rw [Nat.zero_add, this, List.getElem?_eq_getElem hk]
set_option maxRecDepth 100000 in
set_option maxHeartbeats 1000000 in
theorem cloneInt (a : Option Addr) (l : List Int) (c : Nat) (w : World) (hr : RowS encJ w a l) (hl : l.length ≤ 1000000) :
    Calls Tryz.prog 70 #[.slice a l.length c] w fun e w' => ∃ a' c', e = .returned (.slice a' l.length c') ∧ w'.ownsRow w.heap.size 3 1 (.slice a' l.length c') l.length (l.flatMap encJ) ∧ Ext w w' := by
  obtain ⟨i0, hi, hz0, hz1, hz2⟩ := info_parts infoI
  have HI := Lib.hid hi
  have HZ0 := Lib.hid hz0
  have HZ1 := Lib.hid hz1
  have HZ2 := Lib.hid hz2
  clear hi hz0 hz1 hz2
  have HR := Lib.hid hr
  clear hr
  have hnil := fun (w : World) (a : Option Addr) (n c : Nat) => Lib.run_eql_slice_nil (P := Tryz.prog) w 50 3 a n c 0 0 Tryz.underlying50
  cases ha : a with
  | none =>
    subst ha
    have hl : l = [] := Classical.byContradiction fun hne => by
      cases l with
      | nil => exact hne rfl
      | cons x l =>
        obtain ⟨_, _, e, _⟩ := HR.out.at_ (by simp [List.flatMap_cons, encJ])
        cases e
    subst hl
    go_enter Tryz.func70, Tryz.ntmps70
    go_wp2_with fail
    go_ret
    exact ⟨none, 0, rfl, World.ownsRow_nil _ _ _ _, Ext.refl _⟩
  | some ad =>
    subst ha
    go_enter Tryz.func70, Tryz.ntmps70
    have hown0 := Lib.hid (World.ownsRow_lit (base := w.heap.size) (size := 1) (e := 3) w #[] 0 (Nat.le_refl _) (by decide) (by simp))
    go_wp2_with (refine wpList_append_row rfl (.tmp 5) (.tmp 6) 50 rfl w.heap.size 3 i0 (.int .i64 0) 1 8 Tryz.underlying50 HI.out HZ0.out HZ1.out HZ2.out rfl (by decide) _ 0 _ rfl hown0.out (some ad) l.length c (l.flatMap encJ) rfl (flatMap_length encJ_len l) (HR.out.ext (Ext.alloc _ _)) (encJ_one l) ?m1 ?m2 ?m3 ?_)
    case m1 => unfold maxLen; omega
    case m2 => omega
    intro v' w1 hown hgrow
    have hx := Lib.hid ((Ext.alloc w _).grown hgrow (fun k e => by simp [Value.ownBlock] at e; omega))
    obtain ⟨a', c', rfl⟩ := hown.isSlice
    have HO := Lib.hid hown
    clear hown hgrow hown0
    go_wp2_with fail
    go_ret
    exact ⟨a', c', rfl, HO.out, hx.out⟩
theorem clone_s (l : List Int) (hl : l.length ≤ 1000000) : Summ Tryz.prog GG 70 [.sl l.length (intsF l)] (.sl l.length (intsF l)) := by
  refine ⟨enters_of Tryz.func70 (by kernel_rfl) rfl, fun w M us hM hG R => ?_⟩
  obtain ⟨u1, us1, rfl, r1, R1⟩ := R.head
  have := R1.end; subst this
  obtain ⟨a, c, rfl, _, rr⟩ := rep_row r1 (detC_ints l)
  exact (cloneInt a l c w rr hl).mono fun e w' ⟨a', c', h1, h2, h3⟩ => ⟨_, h1, own_sl h2 (encJ_one l) hM (repL_det (detC_ints l)), h3⟩
theorem Summ.nil3 {P : Program} {G : Nat → Option (List FV)} {g : Nat} {a b c d e r : FV} (K : Summ P G g [a, b, c, .sl 0 [], d, e] r) : Summ P G g [a, b, c, .v (.slice none 0 0), d, e] r :=
  ⟨K.enters, fun w M us hM hG R => by
    obtain ⟨u1, us1, rfl, r1, R1⟩ := R.head
    obtain ⟨u2, us2, rfl, r2, R2⟩ := R1.head
    obtain ⟨u3, us3, rfl, r3, R3⟩ := R2.head
    obtain ⟨u4, us4, rfl, r4, R4⟩ := R3.head
    have := repV r4
    subst this
    exact K.call w M _ hM hG (RepL.cons r1 (RepL.cons r2 (RepL.cons r3 (RepL.cons (RepF.sl none 0 0 [] [] (Nat.le_refl _) rfl (fun u hu => by simp at hu) (fun hn => absurd rfl hn) (fun k u x h => by simp at h)) R4))))⟩
set_option maxRecDepth 100000 in
theorem clip_s (l : List Int) : Summ Tryz.prog GG 126 [.sl l.length (intsF l)] (.slc l.length (intsF l)) := by
  have hlen : (intsF l).length = l.length * 1 := intsF_len l
  refine summW Tryz.func126 rfl rfl 9 rfl (by simp) (fun M0 => ?_)
  repeat (first
    | (apply s_clip TY; exact rfl; exact rfl; exact rfl; exact rfl; exact rfl; exact rfl; exact hlen)
    | (apply s_a TY; exact rfl)
    | apply w_seq
    | apply w_region
    | apply s_nil
    | apply t_norm
    | apply w_ret)
  exact lv_ret (ret1 rfl (res_tmp rfl))
def slI (o : List Int) : FV := .sl o.length (intsF o)
def resO : Option (List Int) → FV
  | some o => slI o
  | none => .v (.slice none 0 0)
def resV (p : List Int → Bool) (set ch : List Int) : Nat → FV
  | 0 => slI set
  | m + 1 => resO (silV p ch (m + 1) set)
theorem resV_succ (p : List Int → Bool) (set ch : List Int) (m : Nat) : resV p set ch (m + 1) = resO (silV p ch (m + 1) set) := rfl
theorem resV_some {p : List Int → Bool} {set ch o : List Int} {m : Nat} (h : silV p ch m set = some o) : resV p set ch m = slI o := by
  cases m with
  | zero =>
    have : o = set := by
      cases ch <;> (simp only [silV] at h; split at h <;> first | (cases h; rfl) | cases h)
    rw [this]; rfl
  | succ m => rw [resV_succ, h]; rfl
theorem silV_drop {p : List Int → Bool} {ch set : List Int} {m k : Nat} (hk : k < ch.length) : silV p (ch.drop k) (m + 1) set = match silV p (ch.drop (k + 1)) m (set ++ [ch[k]]) with
    | some o => some o
    | none => silV p (ch.drop (k + 1)) (m + 1) set := by
  rw [List.drop_eq_getElem_cons hk]; rfl
set_option maxRecDepth 100000 in
set_option maxHeartbeats 3200000 in
theorem silenced_s (l : List Site) (r : Rule) (h : List Hit) (hr : ruleErr r = 0) (hl0 : ArrOk l) (ho : HitsOk l h) : ∀ (m : Nat) (z : Int) (set ch : List Int), z = (m : Int) → m ≤ 100 → set.length + m ≤ 100 → ch.length ≤ 100 → Summ Tryz.prog GG 69 [arrayV l, .agg (ruleF r), .sl h.length (hitsF h), .sl set.length (intsF set), .sl ch.length (intsF ch), iv z] (.tup [resV (silP l r h) set ch m, bv (silV (silP l r h) ch m set).isSome])
  | 0, z, set, ch, hz, _, hset, hch => by
    have h40 := ho.len
    have hmo := maskV_ok ho set
    have HW := without_s l h set (by omega) (by omega)
    have HF := fires_s l r (maskV l h set) hr hl0 hmo
    have hs0 : silV (silP l r h) ch 0 set = if silP l r h set = true then some set else none := by cases ch <;> rfl
    rw [hs0]
    cases hp : silP l r h set with
    | true =>
      have h1 : (firesV l r (maskV l h set) (maskV l h set).length).length = 0 := by
        unfold silP at hp
        rw [List.isEmpty_iff.1 hp]; rfl
      refine summW Tryz.func69 rfl rfl 58 rfl (by simp) (fun M0 => ?_)
      repeat (first
    | (apply s_a TY; exact rfl)
    | (apply s_t; exact rfl; (first | assumption | omega))
    | apply w_seq
    | apply w_region
    | (apply w_draw (id := 2) 11 rfl (by kernel_rfl))
    | apply s_nil
    | apply t_norm
    | apply t_ret
    | apply w_ret
    | (apply w_condT; exact rfl; exact rfl)
    | (apply s_k (HW); exact rfl)
    | (apply s_k (HF); exact rfl))
      exact lv_ret (ret2 rfl (res_tmp rfl) (res_tmp rfl))
    | false =>
      have h1 : 0 < (firesV l r (maskV l h set) (maskV l h set).length).length := by
        unfold silP at hp
        exact List.length_pos_iff.2 (fun e => by rw [e] at hp; cases hp)
      refine summW Tryz.func69 rfl rfl 58 rfl (by simp) (fun M0 => ?_)
      repeat (first
    | (apply s_a TY; exact rfl)
    | (apply s_t; exact rfl; (first | assumption | omega))
    | (apply s_f; exact rfl; (first | assumption | omega))
    | apply w_seq
    | apply w_region
    | (apply w_draw (id := 2) 11 rfl (by kernel_rfl))
    | apply s_nil
    | apply t_norm
    | apply t_ret
    | apply w_ret
    | (apply w_condT; exact rfl; exact rfl)
    | (apply s_k (HW); exact rfl)
    | (apply s_k (HF); exact rfl))
      exact lv_ret (ret2 rfl (res_tmp rfl) (res_tmp rfl))
  | m + 1, z, set, ch, hz, hm, hset, hch => by
    have hsl : (intsF set).length = set.length * 1 := intsF_len set
    have HCl := clip_s set
    refine summW Tryz.func69 rfl rfl 58 rfl (by simp) (fun M0 => ?_)
    repeat (first
    | (apply s_a TY; exact rfl)
    | (apply s_f; exact rfl; (first | assumption | omega))
    | apply w_seq
    | apply w_region
    | apply s_nil
    | apply t_norm
    | apply w_block
    | apply w_skip
    | (apply w_condF; exact rfl; exact rfl))
    apply w_loop (fun k : Nat => ⟨(Ab.upd (Ab.upd (Ab.upd (Ab.upd (Ab.upd (Ab.upd (Ab.upd (Ab.upd (Ab.upd (fun _ => .bot) 2 (.f (.sl h.length (hitsF h)))) 3 (.f (.sl set.length (intsF set)))) 4 (.f (.sl ch.length (intsF ch)))) 5 (.f (iv z))) 6 (.f (.pt [.sl l.length (sitesF l), .mp (mapS l l.length)] 0))) 7 (.f (.pt (ruleF r) 0))) 30 (.f (.sl ch.length (intsF ch)))) 31 (.f (iv ch.length))) 32 (.f (iv ((k : Nat) : Int)))), (fun _ => none), 0⟩) (fun k => k ≤ ch.length ∧ silV (silP l r h) ch (m + 1) set = silV (silP l r h) (ch.drop k) (m + 1) set) (fun k => ch.length - k) 0 (⟨Nat.zero_le _, by rw [List.drop_zero]⟩) (gh_le ⟨le_upd rfl trivial (le_upd rfl trivial (le_upd rfl trivial (le_upd rfl trivial (le_upd rfl trivial (le_upd rfl trivial (le_upd rfl trivial (le_upd rfl trivial (le_upd rfl trivial (le_nil _))))))))), le_h0 _ _⟩)
    intro k ⟨hk, hv⟩
    by_cases hc : k < ch.length
    · rw [silV_drop hc] at hv
      have e3 : (((ch.length : Nat) : Int).toNat - (((k : Nat) : Int) + 1).toNat) = (ch.drop (k + 1)).length := by rw [List.length_drop]; omega
      have e4 : (List.take ((((ch.length : Nat) : Int).toNat - (((k : Nat) : Int) + 1).toNat) * 1) (List.drop ((((k : Nat) : Int) + 1).toNat * 1) (intsF ch))) = intsF (ch.drop (k + 1)) := by
        unfold intsF
        rw [e3, show (((k : Nat) : Int) + 1).toNat = k + 1 by omega, Nat.mul_one, Nat.mul_one, ← List.map_drop, List.take_of_length_le (by simp)]
      have IH : ∀ z', z' = (m : Int) → Summ Tryz.prog GG 69 [arrayV l, .agg (ruleF r), .sl h.length (hitsF h), .sl (set.length + 1) (intsF set ++ [iv ch[k]]), .sl (((ch.length : Nat) : Int).toNat - (((k : Nat) : Int) + 1).toNat) (List.take ((((ch.length : Nat) : Int).toNat - (((k : Nat) : Int) + 1).toNat) * 1) (List.drop ((((k : Nat) : Int) + 1).toNat * 1) (intsF ch))), iv z'] (.tup [resV (silP l r h) (set ++ [ch[k]]) (ch.drop (k + 1)) m, bv (silV (silP l r h) (ch.drop (k + 1)) m (set ++ [ch[k]])).isSome]) := fun z' hz' => by
        have := silenced_s l r h hr hl0 ho m z' (set ++ [ch[k]]) (ch.drop (k + 1)) hz' (by omega) (by rw [List.length_append, List.length_singleton]; omega) (by rw [List.length_drop]; omega)
        rw [List.length_append, List.length_singleton, intsF_snoc] at this
        rw [e4, e3]; exact this
      clear e3 e4
      cases hq : silV (silP l r h) (ch.drop (k + 1)) m (set ++ [ch[k]]) with
      | some o =>
        rw [hq] at hv
        simp only at hv
        have IH2 := IH
        simp only [hq, resV_some hq] at IH2
        have e5 : resV (silP l r h) set ch (m + 1) = slI o := resV_some hv
        rw [e5, hv]
        repeat (first
    | (apply s_append_cl TY; exact rfl; exact rfl; exact rfl; exact rfl; exact rfl; exact rfl; exact rfl; exact hsl; exact rfl; (unfold maxLen; omega); omega)
    | (apply s_assign_f; exact rfl; exact rfl)
    | (apply s_a TY; exact rfl)
    | (apply s_t; exact rfl; (first | assumption | omega))
    | apply w_seq
    | apply w_region
    | (apply w_draw (id := 6) 19 rfl (by kernel_rfl))
    | apply s_nil
    | apply t_norm
    | apply t_ret
    | apply k_ret
    | apply w_block
    | apply w_ret
    | apply w_skip
    | (apply w_condT; exact rfl; exact rfl)
    | (apply s_k (HCl); exact rfl)
    | (apply s_k1 (IH2 _); exact rfl; (first | assumption | omega | decide))
    | (apply s_c TY; exact rfl; (first | omega | exact ⟨by omega, by (first | with_reducible assumption | ((with_reducible apply intsF_ne); omega) | assumption)⟩))
    | (apply s_l TY; exact rfl; (first | exact rfl | with_reducible assumption | ((with_reducible apply intsF_at); omega) | assumption))
    | (apply s_slice TY; exact rfl; exact rfl; exact rfl; (first | exact rfl | exact ⟨_, rfl⟩); (first | exact rfl | exact ⟨_, rfl⟩); omega; omega; omega))
        exact lv_ret (ret2 rfl (res_tmp rfl) (res_tmp rfl))
      | none =>
        rw [hq] at hv
        simp only at hv
        have IH2 := IH
        simp only [hq] at IH2
        repeat (first
    | (apply s_append_cl TY; exact rfl; exact rfl; exact rfl; exact rfl; exact rfl; exact rfl; exact rfl; exact hsl; exact rfl; (unfold maxLen; omega); omega)
    | (apply s_assign_f; exact rfl; exact rfl)
    | (apply s_a TY; exact rfl)
    | (apply s_t; exact rfl; (first | assumption | omega))
    | apply w_seq
    | apply w_region
    | (apply w_draw (id := 6) 19 rfl (by kernel_rfl))
    | apply s_nil
    | apply t_norm
    | apply k_norm
    | apply w_block
    | apply w_skip
    | (apply w_condT; exact rfl; exact rfl)
    | (apply w_condF; exact rfl; exact rfl)
    | (apply s_k (HCl); exact rfl)
    | (apply s_k1 (IH2 _); exact rfl; (first | assumption | omega | decide))
    | (apply s_c TY; exact rfl; (first | omega | exact ⟨by omega, by (first | with_reducible assumption | ((with_reducible apply intsF_ne); omega) | assumption)⟩))
    | (apply s_l TY; exact rfl; (first | exact rfl | with_reducible assumption | ((with_reducible apply intsF_at); omega) | assumption))
    | (apply s_slice TY; exact rfl; exact rfl; exact rfl; (first | exact rfl | exact ⟨_, rfl⟩); (first | exact rfl | exact ⟨_, rfl⟩); omega; omega; omega))
        exact ⟨k + 1, ⟨by omega, hv⟩, by omega, gh_le ⟨le_upd rfl trivial (le_upd rfl trivial (le_upd rfl trivial (le_upd rfl trivial (le_upd rfl trivial (le_upd rfl trivial (le_upd rfl trivial (le_upd rfl trivial (le_upd rfl trivial (le_nil _))))))))), le_h0 _ _⟩⟩
    · rw [List.drop_eq_nil_of_le (by omega)] at hv
      have hv2 : silV (silP l r h) ch (m + 1) set = none := hv
      have e5 : resV (silP l r h) set ch (m + 1) = .v (.slice none 0 0) := by rw [resV_succ, hv2]; rfl
      rw [e5, hv2]
      repeat (first
    | (apply s_a TY; exact rfl)
    | (apply s_f; exact rfl; (first | assumption | omega))
    | apply w_seq
    | apply w_region
    | apply s_nil
    | apply t_norm
    | apply t_exit
    | apply k_hit
    | apply w_exit
    | apply w_ret
    | (apply w_condF; exact rfl; exact rfl))
      exact lv_ret (ret2 rfl (res_tmp rfl) (res_tmp rfl))
set_option maxRecDepth 100000 in
theorem idxH_s (l : List Hit) (g : Nat) (caps : List FV) (p : Nat → Bool) (hl : l.length ≤ 1000000) (hg : ∀ i (hi : i < l.length), Summ Tryz.prog GG g ([.agg (hitF l[i])] ++ caps) (bv (p i))) : Summ Tryz.prog GG 125 [.sl l.length (hitsF l), .fn g caps] (iv (idxP l.length p)) := by
  refine summW Tryz.func125 rfl rfl 19 rfl (by simp) (fun M0 => ?_)
  repeat (first
    | (apply s_a TY; exact rfl)
    | apply w_seq
    | apply w_region
    | apply s_nil
    | apply t_norm
    | apply w_block)
  apply w_loop (fun k : Nat => ⟨(Ab.upd (Ab.upd (Ab.upd (Ab.upd (fun _ => .bot) 0 (.f (.sl l.length (hitsF l)))) 1 (.f (.fn g caps))) 7 (.f (iv l.length))) 8 (.f (iv (k : Nat)))), (fun _ => none), 0⟩) (fun k => k ≤ l.length ∧ ∀ i, i < k → p i = false) (fun k => l.length - k) 0 (⟨Nat.zero_le _, fun j h => absurd h (Nat.not_lt_zero j)⟩) (gh_le ⟨le_upd rfl trivial (le_upd rfl trivial (le_upd rfl trivial (le_upd rfl trivial (le_nil _)))), le_h0 _ _⟩)
  intro k ⟨hk, hz⟩
  by_cases hc : k < l.length
  · have Hc := hg k hc
    cases hp : p k with
    | true =>
      rw [hp] at Hc
      rw [idxP_at hc hz hp]
      repeat (first
    | (apply s_a TY; exact rfl)
    | (apply s_t; exact rfl; (first | assumption | omega))
    | apply w_seq
    | apply w_region
    | apply s_nil
    | apply t_norm
    | apply t_ret
    | apply k_ret
    | apply w_block
    | apply w_ret
    | apply w_skip
    | (apply w_condT; exact rfl; exact rfl)
    | (apply s_k (Hc); exact rfl)
    | (apply s_c TY; exact rfl; (first | omega | exact ⟨by omega, by (first | with_reducible assumption | ((with_reducible apply hitsF_ne); omega) | assumption)⟩))
    | (apply s_m TY; exact rfl; (first | with_reducible assumption | ((with_reducible apply hitsF_sub); omega) | exact rfl); exact rfl))
      exact lv_ret (ret1 rfl (res_tmp rfl))
    | false =>
      rw [hp] at Hc
      repeat (first
    | (apply s_a TY; exact rfl)
    | (apply s_t; exact rfl; (first | assumption | omega))
    | apply w_seq
    | apply w_region
    | apply s_nil
    | apply t_norm
    | apply k_norm
    | apply w_block
    | apply w_skip
    | (apply w_condT; exact rfl; exact rfl)
    | (apply w_condF; exact rfl; exact rfl)
    | (apply s_k (Hc); exact rfl)
    | (apply s_c TY; exact rfl; (first | omega | exact ⟨by omega, by (first | with_reducible assumption | ((with_reducible apply hitsF_ne); omega) | assumption)⟩))
    | (apply s_m TY; exact rfl; (first | with_reducible assumption | ((with_reducible apply hitsF_sub); omega) | exact rfl); exact rfl))
      exact ⟨k + 1, ⟨by omega, fun i hi => by
        by_cases e : i = k
        · subst e; exact hp
        · exact hz i (by omega)⟩, by omega, gh_le ⟨le_upd rfl trivial (le_upd rfl trivial (le_upd rfl trivial (le_upd rfl trivial (le_nil _)))), le_h0 _ _⟩⟩
  · rw [idxP_no fun i hi => hz i (by omega)]
    repeat (first
    | (apply s_a TY; exact rfl)
    | (apply s_f; exact rfl; (first | assumption | omega))
    | apply w_seq
    | apply w_region
    | apply s_nil
    | apply t_norm
    | apply t_exit
    | apply k_hit
    | apply w_exit
    | apply w_ret
    | (apply w_condF; exact rfl; exact rfl))
    exact lv_ret (ret1 rfl (res_tmp rfl))
set_option maxRecDepth 100000 in
theorem idxHC_s (l : List Hit) (g : Nat) (caps : List FV) (p : Nat → Bool) (hl : l.length ≤ 1000000) (hg : ∀ i (hi : i < l.length), Summ Tryz.prog GG g ([.agg (hitF l[i])] ++ caps) (bv (p i))) : Summ Tryz.prog GG 65 [.sl l.length (hitsF l), .fn g caps] (bv (anyP l.length p)) := by
  have HI := idxH_s l g caps p hl hg
  cases ha : anyP l.length p with
  | true =>
    have h0 := (idxP_pos l.length p).2 ha
    refine summW Tryz.func65 rfl rfl 9 rfl (by simp) (fun M0 => ?_)
    repeat (first
    | (apply s_a TY; exact rfl)
    | (apply s_t; exact rfl; (first | assumption | omega))
    | apply w_seq
    | apply w_region
    | apply s_nil
    | apply t_norm
    | apply w_ret
    | (apply s_k (HI); exact rfl))
    exact lv_ret (ret1 rfl (res_tmp rfl))
  | false =>
    have h0 : ¬ 0 ≤ idxP l.length p := fun h => by rw [(idxP_pos l.length p).1 h] at ha; cases ha
    refine summW Tryz.func65 rfl rfl 9 rfl (by simp) (fun M0 => ?_)
    repeat (first
    | (apply s_a TY; exact rfl)
    | (apply s_f; exact rfl; (first | assumption | omega))
    | apply w_seq
    | apply w_region
    | apply s_nil
    | apply t_norm
    | apply w_ret
    | (apply s_k (HI); exact rfl))
    exact lv_ret (ret1 rfl (res_tmp rfl))
set_option maxRecDepth 100000 in
theorem silencedBy1_s (x : Hit) (s : Site) : Summ Tryz.prog GG 66 [.agg (hitF x), .pt (siteF s) 0] (bv (decide (x.line = s.line) && decide (x.sensor = s.sensor))) := by
  by_cases h1 : x.line = s.line
  · by_cases h2 : x.sensor = s.sensor
    · rw [decide_eq_true h1, decide_eq_true h2]
      refine summW Tryz.func66 rfl rfl 16 rfl (by simp) (fun M0 => ?_)
      repeat (first
    | (apply s_a TY; exact rfl)
    | (apply s_t; exact rfl; (first | assumption | omega))
    | apply w_seq
    | apply w_region
    | apply s_nil
    | apply t_norm
    | apply w_ret)
      exact lv_ret (ret1 rfl (res_tmp rfl))
    · rw [decide_eq_true h1, decide_eq_false h2]
      refine summW Tryz.func66 rfl rfl 16 rfl (by simp) (fun M0 => ?_)
      repeat (first
    | (apply s_a TY; exact rfl)
    | (apply s_t; exact rfl; (first | assumption | omega))
    | (apply s_f; exact rfl; (first | assumption | omega))
    | apply w_seq
    | apply w_region
    | apply s_nil
    | apply t_norm
    | apply w_ret)
      exact lv_ret (ret1 rfl (res_tmp rfl))
  · rw [decide_eq_false h1]
    refine summW Tryz.func66 rfl rfl 16 rfl (by simp) (fun M0 => ?_)
    repeat (first
    | (apply s_a TY; exact rfl)
    | (apply s_f; exact rfl; (first | assumption | omega))
    | apply w_seq
    | apply w_region
    | apply s_nil
    | apply t_norm
    | apply w_ret
    | (apply s_s; exact rfl))
    exact lv_ret (ret1 rfl (res_tmp rfl))
theorem hasHit_s (l : List Site) (h : List Hit) (i : Nat) (hi : i < l.length) (hh : h.length ≤ 1000000) : Summ Tryz.prog GG 65 [.sl h.length (hitsF h), .fn 66 [.pt (siteF l[i]) 0]] (bv (hasHit l h i)) := by
  unfold hasHit
  refine idxHC_s h 66 [.pt (siteF l[i]) 0] (fun k => decide ((h.getD k default).line = (l.getD i default).line) && decide ((h.getD k default).sensor = (l.getD i default).sensor)) hh fun k hk => ?_
  have := silencedBy1_s h[k] l[i]
  rw [← getD_at hk, ← getD_at hi] at this
  rw [← getD_at hk, ← getD_at hi]
  exact this
set_option maxRecDepth 100000 in
set_option maxHeartbeats 3200000 in
theorem SilencedBy_ok (l : List Site) (r : Rule) (h : List Hit) (hl : l.length ≤ 1000000) (hh : h.length ≤ 1000000) (e : ruledErr l r h = 0) (h10 : (sitesV l h).length ≤ 10) {c : Nat} {o : List Int} (hcl : c ≤ (sitesV l h).length) (hfo : silN (silP l r h) (sitesV l h) c = some o) (hfb : ∀ j, j < c → silN (silP l r h) (sitesV l h) j = none) : Summ Tryz.prog GG 21 [arrF l, .agg (ruleF r), .sl h.length (hitsF h)] (.tup [slI o, iv 0]) := by
  obtain ⟨E, hE⟩ : ∃ E : Int, E = 0 := ⟨_, rfl⟩
  obtain ⟨e1, e2, e3⟩ := ruleErr_parts e
  have hl0 := arrOk_of e1
  have ho := hitsOk_of hl0 e3
  have hol := (sil_least (sitesV_pw l h) hfo hfb).2
  have HCl := clone_s o (by omega)
  have HO := openRule_ok l r h hl hh e
  rw [← hE] at HO
  refine summW Tryz.func21 rfl rfl 68 rfl (by simp) (fun M0 => ?_)
  repeat (first
    | (apply s_a TY; exact rfl)
    | apply w_seq
    | apply w_region
    | apply s_nil
    | apply t_norm
    | apply w_block
    | (apply s_k (HO); exact rfl)
    | (apply s_alloc TY; exact rfl; exact rfl; exact rfl)
    | (apply s_store TY; exact rfl; exact rfl; exact rfl; exact rfl; exact rfl; exact rfl))
  apply w_gh (gh_own 10 3 1 rfl rfl)
  apply w_loop (fun k : Nat => ⟨(Ab.upd (Ab.upd (Ab.upd (Ab.upd (Ab.upd (Ab.upd (Ab.upd (Ab.upd (Ab.upd (fun _ => .bot) 2 (.f (.sl h.length (hitsF h)))) 3 (.f (.pt [.sl l.length (sitesF l)] 0))) 4 (.f (.pt (ruleF r) 0))) 8 (.f (.pt [.sl l.length (sitesF l), .mp (mapS l l.length)] 0))) 9 (.f (iv E))) 10 (.ow 1)) 24 (.f (.sl l.length (sitesF l)))) 25 (.f (iv l.length))) 26 (.f (iv ((k : Nat) : Int)))), (Ab.upd (fun _ => none) 1 (some (.row 3 1 (sitesK l h k).length (intsF (sitesK l h k))))), 2⟩) (fun k => k ≤ l.length) (fun k => l.length - k) 0 (Nat.zero_le _) (gh_trans (gh_box 0 (cs := [.sl l.length (sitesF l), .mp (mapS l l.length)]) rfl rfl) (gh_le ⟨le_upd rfl trivial (le_upd rfl trivial (le_upd rfl trivial (le_upd rfl rfl (le_upd rfl trivial (le_upd rfl trivial (le_upd rfl trivial (le_upd rfl trivial (le_upd rfl trivial (le_nil _))))))))), le_hupd rfl trivial (le_h0 _ _)⟩))
  intro k hk
  have hln := sitesK_len l h k
  by_cases hc : k < l.length
  · have HH := hasHit_s l h k hc hh
    have hsu := sitesK_succ l h k
    cases hb : hasHit l h k with
    | true =>
      rw [hb] at HH hsu
      rw [if_pos rfl] at hsu
      repeat (first
    | (refine s_ghost rfl (gh_box 2 (cs := siteF l[k]) rfl rfl) ?_)
    | (apply s_append TY; exact rfl; exact rfl; exact rfl; exact rfl; exact rfl; exact rfl; exact rfl; exact rfl; exact rfl; (unfold maxLen; omega); omega)
    | (apply s_a TY; exact rfl)
    | (apply s_makefn; exact rfl; exact rfl)
    | (apply s_t; exact rfl; (first | assumption | omega))
    | apply w_seq
    | apply w_region
    | apply s_nil
    | apply t_norm
    | apply k_norm
    | apply w_block
    | apply w_skip
    | (apply w_condT; exact rfl; exact rfl)
    | (apply s_k (HH); exact rfl)
    | (apply s_c TY; exact rfl; (first | omega | exact ⟨by omega, by (first | with_reducible assumption | ((with_reducible apply sitesF_ne); omega) | assumption)⟩))
    | (apply s_m TY; exact rfl; (first | with_reducible assumption | ((with_reducible apply sitesF_sub); omega) | exact rfl); exact rfl)
    | (apply s_alloc TY; exact rfl; exact rfl; exact rfl)
    | (apply s_store TY; exact rfl; exact rfl; exact rfl; exact rfl; exact rfl; exact rfl))
      exact ⟨k + 1, by omega, by omega, gh_le ⟨le_upd rfl trivial (le_upd rfl trivial (le_upd rfl trivial (le_upd rfl rfl (le_upd rfl trivial (le_upd rfl trivial (le_upd rfl trivial (le_upd rfl trivial (le_upd rfl trivial (le_nil _))))))))), le_hupd (rowI_app hsu) trivial (le_h0 _ _)⟩⟩
    | false =>
      rw [hb] at HH hsu
      rw [if_neg (by decide), List.append_nil] at hsu
      repeat (first
    | (refine s_ghost rfl (gh_box 2 (cs := siteF l[k]) rfl rfl) ?_)
    | (apply s_a TY; exact rfl)
    | (apply s_makefn; exact rfl; exact rfl)
    | (apply s_t; exact rfl; (first | assumption | omega))
    | apply w_seq
    | apply w_region
    | apply s_nil
    | apply t_norm
    | apply k_norm
    | apply w_block
    | apply w_skip
    | (apply w_condT; exact rfl; exact rfl)
    | (apply w_condF; exact rfl; exact rfl)
    | (apply s_k (HH); exact rfl)
    | (apply s_c TY; exact rfl; (first | omega | exact ⟨by omega, by (first | with_reducible assumption | ((with_reducible apply sitesF_ne); omega) | assumption)⟩))
    | (apply s_m TY; exact rfl; (first | with_reducible assumption | ((with_reducible apply sitesF_sub); omega) | exact rfl); exact rfl)
    | (apply s_alloc TY; exact rfl; exact rfl; exact rfl)
    | (apply s_store TY; exact rfl; exact rfl; exact rfl; exact rfl; exact rfl; exact rfl))
      exact ⟨k + 1, by omega, by omega, gh_le ⟨le_upd rfl trivial (le_upd rfl trivial (le_upd rfl trivial (le_upd rfl rfl (le_upd rfl trivial (le_upd rfl trivial (le_upd rfl trivial (le_upd rfl trivial (le_upd rfl trivial (le_nil _))))))))), le_hupd (rowI _ _ hsu.symm) trivial (le_h0 _ _)⟩⟩
  · have hke : k = l.length := by omega
    subst hke
    rw [show sitesK l h l.length = sitesV l h from rfl]
    rw [show sitesK l h l.length = sitesV l h from rfl] at hln
    repeat (first
    | (apply s_a TY; exact rfl)
    | (apply s_t; exact rfl; (first | assumption | omega))
    | (apply s_f; exact rfl; (first | assumption | omega))
    | apply w_seq
    | apply w_region
    | apply s_nil
    | apply t_norm
    | apply t_exit
    | apply k_hit
    | apply w_block
    | apply w_exit
    | apply w_skip
    | (apply w_condF; exact rfl; exact rfl)
    | (apply s_k1 (first2_1 _ _); exact rfl; (first | assumption | omega | decide))
    | (apply s_k (unless_T _); exact rfl)
    | (apply s_c TY; exact rfl; (first | omega | exact ⟨by omega, by (first | with_reducible assumption | ((with_reducible apply sitesF_ne); omega) | assumption)⟩)))
    apply w_loop (fun k : Nat => ⟨(Ab.upd (Ab.upd (Ab.upd (Ab.upd (Ab.upd (Ab.upd (fun _ => .bot) 2 (.f (.sl h.length (hitsF h)))) 4 (.f (.pt (ruleF r) 0))) 8 (.f (.pt [.sl l.length (sitesF l), .mp (mapS l l.length)] 0))) 10 (.f (.sl (sitesV l h).length (intsF (sitesV l h))))) 51 (.f (iv (((sitesV l h).length : Nat) + 1)))) 52 (.f (iv ((k : Nat) : Int)))), (fun _ => none), 0⟩) (fun k => k ≤ c) (fun k => c - k) 0 (Nat.zero_le _) (gh_trans (gh_row 1 rfl) (gh_le ⟨le_upd rfl trivial (le_upd rfl trivial (le_upd rfl trivial (le_upd rfl trivial (le_upd rfl trivial (le_upd rfl trivial (le_nil _)))))), le_h0 _ _⟩))
    intro k hk
    have HS := Summ.nil3 (silenced_s l r h e2 hl0 ho k (k : Nat) [] (sitesV l h) rfl (by omega) (by simp; omega) (by omega))
    by_cases hkc : k = c
    · subst hkc
      rw [show silV (silP l r h) (sitesV l h) k [] = some o from hfo, resV_some hfo] at HS
      repeat (first
    | (apply s_a TY; exact rfl)
    | (apply s_t; exact rfl; (first | assumption | omega))
    | apply w_seq
    | apply w_region
    | apply s_nil
    | apply t_norm
    | apply t_ret
    | apply k_ret
    | apply w_block
    | apply w_ret
    | apply w_skip
    | (apply w_condT; exact rfl; exact rfl)
    | (apply s_k (HS); exact rfl)
    | (apply s_k (HCl); exact rfl))
      exact lv_ret (ret2 rfl (res_tmp rfl) (res_tmp rfl))
    · have hno := hfb k (by omega)
      rw [show silV (silP l r h) (sitesV l h) k [] = none from hno] at HS
      repeat (first
    | (apply s_assign_f; exact rfl; exact rfl)
    | (apply s_a TY; exact rfl)
    | (apply s_t; exact rfl; (first | assumption | omega))
    | apply w_seq
    | apply w_region
    | apply s_nil
    | apply t_norm
    | apply k_norm
    | apply w_block
    | apply w_skip
    | (apply w_condT; exact rfl; exact rfl)
    | (apply w_condF; exact rfl; exact rfl)
    | (apply s_k (HS); exact rfl)
    | (apply s_c TY; exact rfl; (first | omega | exact ⟨by omega, by (first | with_reducible assumption | ((with_reducible apply sitesF_ne); omega) | assumption)⟩)))
      exact ⟨k + 1, by omega, by omega, gh_le ⟨le_upd rfl trivial (le_upd rfl trivial (le_upd rfl trivial (le_upd rfl trivial (le_upd rfl trivial (le_upd rfl trivial (le_nil _)))))), le_h0 _ _⟩⟩
end Go.Proofs.YtdmdpkoapllkkaaGreat
namespace Go.Ab
open Go Go.RowKit Go.Shelf Go.Proofs
section
variable {C : Ctx} {N : Nat}
variable {Q : Exit → St → Prop} {st : St} {ops : Array Oper} {pr : Bool} {K : St → Prop} {rest : List Oper}
end
end Go.Ab
namespace Go.Proofs.YtdmdpkoapllkkaaGreat
open Go Go.RowKit Go.Proofs Go.Shelf Go.Ab
theorem wo_parts (h : List Hit) (i : Nat) (hi : i < h.length) : (List.take (((((i : Nat) : Int)).toNat - Int.toNat 0) * 3) (List.drop (Int.toNat 0 * 3) (hitsF h))) = hitsF (h.take i) ∧ ((((i : Nat) : Int)).toNat - Int.toNat 0) = (h.take i).length ∧ (List.take (((((h.length : Nat) : Int)).toNat - (((i : Nat) : Int) + 1).toNat) * 3) (List.drop ((((i : Nat) : Int) + 1).toNat * 3) (hitsF h))) = hitsF (h.drop (i + 1)) ∧ ((((h.length : Nat) : Int)).toNat - (((i : Nat) : Int) + 1).toNat) = (h.drop (i + 1)).length := by
  have e1 : ((((i : Nat) : Int)).toNat - Int.toNat 0) = (h.take i).length := by rw [List.length_take]; omega
  have e3 : ((((h.length : Nat) : Int)).toNat - (((i : Nat) : Int) + 1).toNat) = (h.drop (i + 1)).length := by rw [List.length_drop]; omega
  refine ⟨?_, e1, ?_, e3⟩
  · rw [Int.toNat_natCast, show Int.toNat 0 = 0 from rfl, Nat.zero_mul, List.drop_zero, Nat.sub_zero, hitsF_take]
  · rw [e3, show (((i : Nat) : Int) + 1).toNat = i + 1 by omega, hitsF_drop, List.take_of_length_le (by rw [hitsF_len]; exact Nat.le_refl _)]
theorem silP_len {l : List Site} {r : Rule} {h : List Hit} {d : List Int} : silP l r h d = decide ((firesV l r (maskV l h d) (maskV l h d).length).length = 0) := by
  unfold silP
  cases (firesV l r (maskV l h d) (maskV l h d).length) <;> simp
end Go.Proofs.YtdmdpkoapllkkaaGreat
