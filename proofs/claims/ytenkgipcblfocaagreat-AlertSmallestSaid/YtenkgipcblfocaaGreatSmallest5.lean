/- Laws on which the proofs of this seat stand. No condition. -/
import Derived.Test.YtenkgipcblfocaaGreatSmallest4
import Derived.ChangeKeysEq
import Derived.DataShut
import Derived.Test.YtenkgipcblfocaaGreatRows
import Derived.WalkKit
import Derived.ProofKit
import Derived.OpenShut
import Derived.Stop.Joined
namespace Go.Proofs.YtenkgipcblfocaaGreat
open Go Go.RowKit Go.Proofs Go.Shelf Go.Ab
set_option maxRecDepth 100000 in
theorem valuesN_g (L : List Nm) (n : Nat) : SummG Tryz.prog GG 202 [.arr 9 1 n ((strsF L).map .f)] [.ow 0] (.fb 219 [.bx 1 0]) [.arr 9 1 n ((strsF L).map .f), .box [.ow 0]] := by
  refine summG_of Tryz.func202 rfl rfl 4 rfl (by simp) (by simp) (fun i B B' h1 h2 => by
    match i, h1, h2 with
    | 0, h1, h2 => cases h1; cases h2; rfl
    | _ + 1, h1, _ => simp at h1) (fun M X J => ?_)
  repeat (first
    | (apply s_boxA; exact rfl; exact rfl; exact rfl; exact rfl)
    | (apply s_a TY; exact rfl)
    | (apply s_makefbC; exact rfl; exact rfl; exact rfl)
    | apply w_seq
    | apply w_region
    | apply s_nil
    | apply t_norm
    | apply w_ret)
  refine lvG_ret (s := Ab.upd (fun _ => .bot) 2 (.fb 219 [.bx 1 0])) (nx := 2) (L' := [.arr 9 1 n ((strsF L).map .f), .box [.ow 0]]) ?_ ?_
  · exact gh_le ⟨le_upd rfl rfl (le_nil _), fun i => by
      match i with
      | 0 => exact .inr ⟨_, rfl, rfl, fun x hx => by obtain ⟨y, _, rfl⟩ := List.mem_map.1 hx; trivial⟩
      | 1 => exact .inr ⟨_, rfl, rfl, fun x hx => by simp only [List.mem_singleton] at hx; subst hx; rfl⟩
      | _ + 2 => exact .inl rfl⟩
  · exact rg1 rfl (rv_tmp rfl)
set_option maxRecDepth 100000 in
theorem keysN_g (f : Nm → Option Int) : SummG Tryz.prog GG 106 [.map (mpG f)] [.ow 0] (.fb 158 [.bx 1 0]) [.map (mpG f), .box [.ow 0]] := by
  refine summG_of Tryz.func106 rfl rfl 4 rfl (by simp) (by simp) (fun i B B' h1 h2 => by
    match i, h1, h2 with
    | 0, h1, h2 => cases h1; cases h2; rfl
    | _ + 1, h1, _ => simp at h1) (fun M X J => ?_)
  repeat (first
    | (apply s_boxA; exact rfl; exact rfl; exact rfl; exact rfl)
    | (apply s_a TY; exact rfl)
    | (apply s_makefbC; exact rfl; exact rfl; exact rfl)
    | apply w_seq
    | apply w_region
    | apply s_nil
    | apply t_norm
    | apply w_ret)
  refine lvG_ret (s := Ab.upd (fun _ => .bot) 2 (.fb 158 [.bx 1 0])) (nx := 2) (L' := [.map (mpG f), .box [.ow 0]]) ?_ ?_
  · exact gh_le ⟨le_upd rfl rfl (le_nil _), fun i => by
      match i with
      | 0 => exact .inr ⟨_, rfl, rfl, trivial⟩
      | 1 => exact .inr ⟨_, rfl, rfl, fun x hx => by simp only [List.mem_singleton] at hx; subst hx; rfl⟩
      | _ + 2 => exact .inl rfl⟩
  · exact rg1 rfl (rv_tmp rfl)
theorem sortedK_c {C : Ctx} {N : Nat} {st : St} {f : Nm → Option Int} {ks : List Nm} {i j : Nat} (hP : C.P = Tryz.prog) (hk : KeysAre f ks) (hl : ks.length ≤ 1000) (hb : ∀ c, c ∈ ks → c.length ≤ 1000) (hi : st.h i = some (.map (mpG f))) (hj : st.h j = some (.box [.ow i])) : ∀ st', Hp st st' → ∀ w0 a w J, Sim C w0 N st' a w J → ∀ us, RepAs C w st'.h J us [.fb 158 [.bx j 0]] → Calls C.P 105 us.toArray w fun en w' => ∃ v, en = .returned v ∧ w'.ownsRow w.heap.size 9 1 v ks.length ((ascN ks).map encStr) ∧ Ext w w' := by
  intro st' H w0 a w J S us R
  obtain ⟨u, rfl⟩ : ∃ u, us = [u] := by
    match us, R.1 with
    | [u], _ => exact ⟨u, rfl⟩
  obtain ⟨vs, rfl, h1, h2⟩ := R.2 0 u _ rfl rfl
  obtain ⟨v, rfl⟩ : ∃ v, vs = [v] := by
    match vs, h1 with
    | [v], _ => exact ⟨v, rfl⟩
  obtain ⟨lj, b, hbj, rfl⟩ := h2 0 v _ rfl rfl
  obtain ⟨b', T, us, e1, _, e2, e3, _, e4⟩ := H.blk S hj lj
  have hbb : b' = b := by rw [e1] at hbj; simpa [bk] using hbj
  subst hbb
  obtain ⟨u0, hu⟩ : ∃ u0, us = #[u0] := Array.size_eq_one_iff.1 e3
  subst hu
  obtain ⟨li, rfl⟩ := e4 0 u0 _ rfl rfl
  obtain ⟨r, ob, e5, _, e6, e7, e8⟩ := H.blk S hi li
  rw [hP]
  refine sortedK_w hk hl hb e7 e6 (B := b') ?_
  rw [e5] at e2
  simp [World.cell?, e2]
theorem mp_updN {f : Nm → Option Int} {c : Nm} {z : Int} : ∀ ob r w, mpG f ob → w.heap[r]? = some ob → ∃ ob', (Instr.mapUpdate 168 (.map (some r)) (.string ⟨c.toArray⟩) (.int .i64 z)).run Tryz.prog w = .ok () (w.putObj r ob') ∧ mpG (updM f c z) ob' ∧ ob'.isMap = true := fun ob r w hg hr => mp_upd ob r w hg hr
def updAll (f : Nm → Option Int) (l : List Nm) (z : Int) : Nm → Option Int := fun n => if n ∈ l then some z else f n
theorem updAll_nil (f : Nm → Option Int) (z : Int) : updAll f [] z = f := by funext n; simp [updAll]
theorem updAll_tk (f : Nm → Option Int) {l : List Nm} {k : Nat} (h : k < l.length) (z : Int) : updM (updAll f (l.take k) z) l[k] z = updAll f (l.take (k + 1)) z := by
  funext n
  rw [List.take_succ_eq_append_getElem h]
  show (if n = l[k] then some z else if n ∈ l.take k then some z else f n) = if n ∈ l.take k ++ [l[k]] then some z else f n
  by_cases e : n = l[k]
  · rw [if_pos e, if_pos (List.mem_append.2 (.inr (by rw [e]; exact List.mem_singleton.2 rfl)))]
  · rw [if_neg e]
    by_cases e2 : n ∈ l.take k
    · rw [if_pos e2, if_pos (List.mem_append.2 (.inl e2))]
    · rw [if_neg e2, if_neg (fun h => (List.mem_append.1 h).elim e2 fun h => e (List.mem_singleton.1 h))]
def sent (a : Alt) (cl : List Int) (l : List Nm) : Alt := ⟨a.nm, a.ver + 1, cl, a.gone, updAll a.had l (a.ver + 1), a.kys ++ l.filter fun n => !a.kys.contains n⟩
theorem HO_34 (cs : List Cel) (ppl : List Nm) (al : List Alt) (k : Nat) (a a' : Alt) {i : Nat} (h3 : i ≠ 3) (h4 : i ≠ 4) : HO cs ppl al k a i = HO cs ppl al k a' i := by
  unfold HO
  rw [upd_if, if_neg h4, upd_if, if_neg h3, upd_if, if_neg h4, upd_if, if_neg h3]
theorem le_HO {cs : List Cel} {ppl : List Nm} {al : List Alt} {k : Nat} {a a' : Alt} {h : Nat → Option Blk} (hl : al.length ≤ 400) (h3 : h 3 = some (.map (mpG a'.had))) (h4 : h 4 = some (.box (bxC 3 a'))) (hx : ∀ i, i ≠ 3 → i ≠ 4 → i < 1000 → h i = HO cs ppl al k a i) : ∀ i, HO cs ppl al k a' i = none ∨ ∃ B, HO cs ppl al k a' i = some B ∧ h i = some B ∧ closedB (HO cs ppl al k a') B := le_base (HO_cl cs ppl al k a' hl) fun i B hB => by
  by_cases e3 : i = 3
  · subst e3; rw [h3]; exact hB
  by_cases e4 : i = 4
  · subst e4; rw [h4]; exact hB
  rw [hx i e3 e4 (HO_lt hB), HO_34 cs ppl al k a a' e3 e4]
  exact hB
set_option maxRecDepth 100000 in
set_option maxHeartbeats 3200000 in
theorem send_h (cs : List Cel) (ppl : List Nm) (al : List Alt) (k : Nat) (a : Alt) (cl : List Int) (hcl : cl.length ≤ 1000000) (hl : al.length ≤ 400) (hp : ppl.length ≤ 1000) (hv : 0 ≤ a.ver ∧ a.ver ≤ 1000) : SummH Tryz.prog GG 180 (HO cs ppl al k a) [.bx 0 0, .bx 4 0, .f (.sl cl.length (intsF cl))] (.f (.sl ppl.length (strsF (ascN ppl)))) (HO cs ppl al k (sent a cl ppl)) := by
  refine summH_of 1000 Tryz.func180 rfl rfl 50 rfl (by simp) ⟨_, _, rfl, rfl, rfl, rfl⟩ (HO_cl _ _ _ _ _ (by omega)) (fun M X J => ?_)
  repeat (first
    | (apply s_o TY; exact rfl)
    | (apply s_nilCheck; exact rfl; exact rfl; exact rfl)
    | (apply s_a TY; exact rfl)
    | apply w_seq
    | apply w_region
    | apply s_nil
    | apply t_norm
    | apply w_block
    | (apply s_k (clone_s cl hcl); exact rfl)
    | (apply s_c TY; exact rfl; (first | omega | exact ⟨by omega, by (first | with_reducible assumption | ((with_reducible apply strsF_ne); omega) | assumption)⟩))
    | (apply s_store TY; exact rfl; exact rfl; exact rfl; exact rfl; exact rfl; exact rfl))
  apply w_loop (fun j : Nat => ⟨(Ab.upd (Ab.upd (Ab.upd (Ab.upd (Ab.upd (fun _ => .bot) 0 (.bx 0 0)) 1 (.bx 4 0)) 27 (.ow 1)) 28 (.f (iv ppl.length))) 29 (.f (iv ((j : Nat) : Int)))), HO cs ppl al k (sent a cl (ppl.take j)), 1000⟩) (fun j => j ≤ ppl.length) (fun j => ppl.length - j) 0 (Nat.zero_le _) (gh_le ⟨le_upd rfl trivial (le_upd rfl trivial (le_upd rfl rfl (le_upd rfl rfl (le_upd rfl rfl (le_nil _))))), le_HO (a := a) (by omega) (congrArg (fun g => some (Blk.map (mpG g))) (updAll_nil a.had (a.ver + 1)).symm) (congrArg (fun g => some (Blk.box g)) rfl) (fun i h3 h4 h5 => by
      by_cases e1 : i = 1
      · subst e1; exact rfl
      try simp only [St.put]
      repeat (first | exact rfl | refine (afterG_h (by exact rfl) (by simp only [List.mem_cons, List.not_mem_nil, or_false]; omega) (by show i < 1000; omega)).trans ?_ | refine (Ab.upd_other _ _ (by omega)).trans ?_))⟩)
  intro j hj
  by_cases hc : j < ppl.length
  · repeat (first
    | (apply s_mapUpdate (mp_updN (z := a.ver + 1)); exact rfl; exact rfl; exact rfl; exact rfl; exact rfl; exact rfl)
    | (apply s_o TY; exact rfl)
    | (apply s_nilCheck; exact rfl; exact rfl; exact rfl)
    | (apply s_a TY; exact rfl)
    | (apply s_t; exact rfl; (first | assumption | omega))
    | apply w_seq
    | apply w_region
    | (apply w_draw (id := 6) 10 rfl (by kernel_rfl))
    | apply s_nil
    | apply t_norm
    | apply k_norm
    | apply w_block
    | apply w_skip
    | (apply w_condT; exact rfl; exact rfl)
    | (apply s_c TY; exact rfl; (first | omega | exact ⟨by omega, by (first | with_reducible assumption | ((with_reducible apply strsF_ne); omega) | assumption)⟩))
    | (apply s_r TY; exact rfl; (first | exact rfl | with_reducible assumption | ((with_reducible apply strsF_at); omega) | assumption)))
    exact ⟨j + 1, by omega, by omega, gh_le ⟨le_upd rfl trivial (le_upd rfl trivial (le_upd rfl rfl (le_upd rfl rfl (le_upd rfl rfl (le_nil _))))), le_HO (a := sent a cl (ppl.take j)) (by omega) (congrArg (fun g => some (Blk.map (mpG g))) (updAll_tk a.had hc (a.ver + 1))) rfl (fun i h3 h4 h5 => by
      by_cases e1 : i = 1
      · subst e1; exact rfl
      try simp only [St.put]
      repeat (first | exact rfl | refine (afterG_h (by exact rfl) (by simp only [List.mem_cons, List.not_mem_nil, or_false]; omega) (by show i < 1000; omega)).trans ?_ | refine (Ab.upd_other _ _ (by omega)).trans ?_))⟩⟩
  · have hjl : j = ppl.length := by omega
    subst hjl
    rw [List.take_length]
    repeat (first
    | (apply s_callG [1] (valuesN_g ppl ppl.length); exact rfl; exact rfl; exact rfl; exact ⟨congrArg some (arr_ren0 _ _ _ _ _).symm, trivial⟩; exact rfl; exact ⟨⟨rfl, rfl⟩, ⟨rfl, rfl⟩⟩)
    | (refine s_callNwF (ys := [.fn 219 [.pt [.sl ppl.length (strsF ppl)] 0]]) (sortedV_g ppl (by omega)) (fun _ => rfl) ⟨(ascN ppl).map encStr, (strsF_enc _).symm⟩ rfl rfl rfl ⟨sees_fb ⟨sees_bx rfl ⟨sees_arr (e := 9) (sz := 1) (n := ppl.length) (cells := (strsF ppl).map .f) (congrArg some (arr_ren0 _ _ _ _ _)) (seesL_f _), trivial⟩, trivial⟩, trivial⟩ ?_)
    | (refine s_ghost rfl (gh_arr 1 (cs := strsF ppl) rfl rfl) ?_)
    | (apply s_o TY; exact rfl)
    | (apply s_nilCheck; exact rfl; exact rfl; exact rfl)
    | (apply s_a TY; exact rfl)
    | (apply s_f; exact rfl; (first | assumption | omega))
    | apply w_seq
    | apply w_region
    | apply s_nil
    | apply t_norm
    | apply t_exit
    | apply k_hit
    | apply w_exit
    | apply w_ret
    | (apply w_condF; exact rfl; exact rfl))
    refine lvH_ret (s := Ab.upd (fun _ => .bot) 6 (.f (.sl ppl.length (strsF (ascN ppl))))) (nx := 1001) ?_ ?_
    · exact gh_trans (gh_unarr 1 (e := 9) (sz := 1) (n := ppl.length) (cs := strsF ppl) (congrArg some (arr_ren0 _ _ _ _ _))) (gh_le ⟨le_upd rfl trivial (le_nil _), le_HO (a := sent a cl ppl) (by omega) rfl rfl (fun i h3 h4 h5 => by
      by_cases e1 : i = 1
      · subst e1; exact rfl
      try simp only [St.put]
      repeat (first | exact rfl | refine (afterG_h (by exact rfl) (by simp only [List.mem_cons, List.not_mem_nil, or_false]; omega) (by show i < 1000; omega)).trans ?_ | refine (Ab.upd_other _ _ (by omega)).trans ?_))⟩)
    · exact rg1 rfl (rv_tmp rfl)
end Go.Proofs.YtenkgipcblfocaaGreat
namespace Go.Proofs.YtenkgipcblfocaaGreat
open Go Go.RowKit Go.Proofs Go.Shelf Go.Ab
theorem killA_ow {i k : Nat} (h : k ≠ i) : killA i (.ow k) = .ow k := by
  show AV.ofC (bif Nat.beq k i then none else some (Cap.ow k)) = _
  rw [beqF h]; rfl
theorem killA_bx {i k o : Nat} (h : k ≠ i) : killA i (.bx k o) = .bx k o := by
  show AV.ofC (bif Nat.beq k i then none else some (Cap.bx k o)) = _
  rw [beqF h]; rfl
theorem killA_fv (i : Nat) (x : FV) : killA i (.f x) = .f x := rfl
theorem bxC_kill {i j : Nat} (h : j ≠ i) (a : Alt) : (bxC j a).map (killA i) = bxC j a := by
  simp only [bxC, List.map_cons, List.map_nil, killA_fv, killA_ow h]
theorem HX_kill {al : List Alt} {q i d : Nat} {B : Blk} (hd : d < 5) (h : HX al q i = some B) : killB d B = B := by
  obtain ⟨j, a, _, _, _, ⟨_, rfl⟩ | ⟨_, rfl⟩⟩ := HX_some h
  · rfl
  · show Blk.box ((bxC (2 * j + 5) a).map (killA d)) = _
    rw [bxC_kill (by omega)]
theorem PT_kill (al : List Alt) (q : Nat) {d : Nat} (hd : d < 4) : (PT al q).map (killA d) = PT al q := by
  refine (List.map_congr_left fun x hx => ?_).trans (List.map_id _)
  rcases PT_mem hx with ⟨rfl, _⟩ | ⟨j, _, _, rfl⟩
  · exact killA_bx (by omega)
  · exact killA_bx (by omega)
theorem HX_bd {al : List Alt} {q i : Nat} {B : Blk} (h : HX al q i = some B) : 5 ≤ i ∧ i < 1000 := by
  constructor
  · refine Classical.byContradiction fun hn => ?_
    rw [HX_lo al q (by omega)] at h; cases h
  · refine Classical.byContradiction fun hn => ?_
    rw [HX_hi al q (by omega)] at h; cases h
theorem grow_h {st : St} {i j : Nat} {B B' : Blk} (hij : i ≠ j) (h : st.h i = some B) (hk : killB j B = B) : (st.grow j B').h i = some B := by
  show (bif Nat.beq i j then some B' else (st.h i).map (killB j)) = _
  rw [beqF hij, cond_false, h, Option.map_some, hk]
theorem join_h {h h' h0 : Nat → Option Blk} {i : Nat} {B : Blk} (e : h' i = some B) : joinH h h' h0 i = some B := by unfold joinH; rw [e]
theorem le_HB {cs : List Cel} {ppl : List Nm} {al : List Alt} {h : Nat → Option Blk} (hl : al.length ≤ 400) (h0 : h 0 = some (.box [.f (xF cs), .ow 1, .ow 2])) (h1 : h 1 = some (.row 9 1 ppl.length (strsF ppl))) (h2 : h 2 = some (.rowA 166 1 al.length (PT al 1000))) (hx : ∀ i B, HX al 1000 i = some B → h i = some B) : ∀ i, HB cs ppl al i = none ∨ ∃ B, HB cs ppl al i = some B ∧ h i = some B ∧ closedB (HB cs ppl al) B := le_base (HB_cl cs ppl al hl) fun i B hB => by
  by_cases e0 : i = 0
  · subst e0; rw [h0]; exact hB
  by_cases e1 : i = 1
  · subst e1; rw [h1]; exact hB
  by_cases e2 : i = 2
  · subst e2; rw [h2]; exact hB
  refine hx i B ?_
  unfold HB at hB
  rwa [HP_x _ _ _ _ (by omega)] at hB
theorem row_snocN (ppl : List Nm) (n : Nm) : some (Blk.row 9 1 (ppl.length + 1) (strsF ppl ++ [sv n])) = some (Blk.row 9 1 (ppl ++ [n]).length (strsF (ppl ++ [n]))) := by rw [strsF_snoc, List.length_append]; rfl
theorem eqb_run (x y : Operand) (a b : Bool) (w : World) : (do eqGuard .eql 4 x y (.bool a) (.bool b); binOp .eql 4 (.bool a) (.bool b) : Sem Value).run Tryz.prog w = .ok (.bool (decide (a = b))) w := by
  have h := run_eql_bool w 4 a b Tryz.underlying4
  cases a <;> cases b <;> simpa [eqGuard] using h
theorem eqb_t {x y : Operand} {a b : Bool} (h : a = b) (w : World) : (do eqGuard .eql 4 x y (.bool a) (.bool b); binOp .eql 4 (.bool a) (.bool b) : Sem Value).run Tryz.prog w = .ok (.bool true) w := by
  rw [eqb_run, decide_eq_true h]
theorem celsE_nil (c : Int) : celsE c [] = 0 := rfl
set_option maxRecDepth 100000 in
set_option maxHeartbeats 3200000 in
theorem act0_h (cs : List Cel) (ppl : List Nm) (al : List Alt) (hl : al.length ≤ 400) (hcs : cs.length ≤ 1000) (n : Nm) (hnl : n.length ≤ 1000) (hn : nameB n = true) (hi : idxP ppl.length (hasS ppl n) = -1) (h8 : ppl.length < 8) {r : AV} (HF : SummH Tryz.prog GG 103 (HB cs ppl al) [.bx 0 0, .f (sv n)] r (HB cs ppl al)) : SummH Tryz.prog GG 152 (HB cs ppl al) [.bx 0 0, .f (.agg [iv 0, sv n, .sl 0 []])] (.f (.tup [.v (.slice none 0 0), iv 0])) (HB cs (ppl ++ [n]) al) := by
  have HN := isName_s n (by omega)
  rw [hn] at HN
  have HC := cellsErr_s cs [] (by simp) (by omega)
  rw [celsE_nil] at HC
  have HH := hasCells_s 0
  rw [show hasCB 0 = false from rfl] at HH
  have HI := IndexS_s ppl n (by omega)
  rw [hi] at HI
  refine summH_of 1000 Tryz.func152 rfl rfl 145 rfl (by simp) ⟨_, _, rfl, rfl, rfl, rfl⟩ (HB_cl _ _ _ (by omega)) (fun M X J => ?_)
  repeat (first
    | (refine s_callH HF (fun _ => rfl) (fun i q h => (pin0_some h).1) rfl rfl rfl ⟨rfl, trivial, trivial⟩ (fun i B h => h) (fun i h _ => h) ?_)
    | (refine s_callS HI (fun _ => rfl) rfl rfl rfl ⟨sees_row rfl, sees_f _, trivial⟩ ?_)
    | (apply s_bind; exact rfl; exact rfl; exact rfl; exact rfl; exact rfl; exact rfl; exact eqb_t (by first | rfl | assumption))
    | (apply s_o TY; exact rfl)
    | (apply s_nilCheck; exact rfl; exact rfl; exact rfl)
    | (apply s_a TY; exact rfl)
    | (apply s_t; exact rfl; (first | assumption | omega))
    | (apply s_f; exact rfl; (first | assumption | omega))
    | apply w_seq
    | apply w_region
    | (apply w_draw (id := 1) 22 rfl (by kernel_rfl))
    | (apply w_draw (id := 4) 10 rfl (by kernel_rfl))
    | apply s_nil
    | apply t_norm
    | apply w_skip
    | (apply w_condF; exact rfl; exact rfl)
    | (apply s_k (HN); exact rfl)
    | (apply s_k (HC); exact rfl)
    | (apply s_k (HH); exact rfl)
    | (apply s_k1 (first4_3 _ _ _ _); exact rfl; (first | assumption | omega | decide))
    | (apply s_k (unless_T _); exact rfl)
    | (apply s_k1 (within_T _ _ _); exact rfl; (first | assumption | omega | decide)))
  refine s_ghost rfl (st' := ⟨(Ab.upd (Ab.upd (Ab.upd (fun _ => .bot) 0 (.bx 0 0)) 3 (.f (.pt [iv 0, sv n, .sl 0 []] 0))) 7 (.f (iv (-1)))), HB cs ppl al, 1000⟩) (gh_le ⟨le_upd rfl trivial (le_upd rfl trivial (le_upd rfl rfl (le_nil _))), le_base (HB_cl cs ppl al (by omega)) (fun i B h => join_h h)⟩) ?_
  repeat (first
    | (apply w_draw3 (id := 10) 8 9 254 1 rfl (by kernel_rfl) (by kernel_rfl); exact rfl)
    | (apply s_gro3 TY; exact rfl; exact rfl; exact rfl; exact rfl; exact rfl; exact rfl; exact rfl; exact rfl; exact rfl; (unfold maxLen; omega); omega; exact rfl; exact rfl; exact (fun _ => rfl))
    | (refine KE.mk ⟨rfl, rfl, rfl, rfl, rfl, rfl, rfl, rfl, trivial⟩ ?_)
    | (apply s_o TY; exact rfl)
    | (apply s_nilCheck; exact rfl; exact rfl; exact rfl)
    | (apply s_a TY; exact rfl)
    | (apply s_t; exact rfl; (first | assumption | omega))
    | apply w_seq
    | apply w_region
    | (apply w_draw (id := 7) 9 rfl (by kernel_rfl))
    | apply s_nil
    | apply t_norm
    | apply t_ret
    | apply k_ret
    | apply w_block
    | apply w_ret
    | apply w_skip
    | (apply w_condT; exact rfl; exact rfl)
    | (apply w_condF; exact rfl; exact rfl)
    | (apply s_k1 (first2_1 _ _); exact rfl; (first | assumption | omega | decide))
    | (apply s_k (unless_T _); exact rfl)
    | (apply s_store TY; exact rfl; exact rfl; exact rfl; exact rfl; exact rfl; exact rfl))
  refine lvH_ret (s := Ab.upd (Ab.upd (fun _ => .bot) 4 (.f (.v (.slice none 0 0)))) 5 (.f (iv 0))) (nx := 1000) ?_ ?_
  · exact gh_le ⟨le_upd rfl trivial (le_upd rfl trivial (le_nil _)), le_HB (by omega) rfl (row_snocN ppl n) (congrArg (fun z => some (Blk.rowA 166 1 al.length z)) (PT_kill al 1000 (by omega))) (fun i B h => by
      have hb := HX_bd h
      try simp only [St.put]
      repeat (first | exact HX_HB h | refine grow_h (by omega) ?_ (HX_kill (by omega) h) | refine (Ab.upd_other _ _ (by omega)).trans ?_))⟩
  · exact rg2 (.f (.v (.slice none 0 0))) (.f (iv 0)) rfl (rv_tmp rfl) (rv_tmp rfl) rfl
end Go.Proofs.YtenkgipcblfocaaGreat
namespace Go.Proofs.YtenkgipcblfocaaGreat
open Go.Proofs Go.Shelf
def delS_ren : Go.Shelf.Ren := ⟨fun | 45 => 179 | n => n, fun | 22 => 47 | 23 => 9 | 3 => 3 | 4 => 4 | 0 => 0 | n => n, fun | n => n⟩
theorem delS : Go.Proofs.SlLaysE.n45 Tryz.prog delS_ren := {
  mixed := by kernel_rfl
  f45 := ⟨Tryz.f179.name, by decide, Tryz.func179.trans (congrArg some (by kernel_rfl))⟩
  t0 := Tryz.underlying0
  a0 := Tryz.isAgg0
  z0 := Tryz.sizeOf0
  v0 := Tryz.zeroValue0
  t3 := Tryz.underlying3
  a3 := Tryz.isAgg3
  z3 := Tryz.sizeOf3
  v3 := Tryz.zeroValue3
  t4 := Tryz.underlying4
  a4 := Tryz.isAgg4
  z4 := Tryz.sizeOf4
  v4 := Tryz.zeroValue4
  t22 := Tryz.underlying47
  a22 := Tryz.isAgg47
  z22 := Tryz.sizeOf47
  v22 := Tryz.zeroValue47
  a23 := Tryz.isAgg9
  z23 := Tryz.sizeOf9 }
open Go Go.RowKit Go.Proofs Go.Shelf Go.Ab
theorem zeroS (w : World) : (zeroValue 9).run Tryz.prog w = .ok (encStr []) w := by kernel_rfl
theorem infoS : ∃ i0, (Tryz.prog).info? 9 = some i0 ∧ i0.size = 1 := by
  have h : ((Tryz.prog).info? 9).map (·.size) = some 1 := by kernel_rfl
  obtain ⟨i0, h1, h2⟩ := Option.map_eq_some_iff.1 h
  exact ⟨i0, h1, h2⟩
def pplDel (ppl : List Nm) (i : Nat) : List Nm := ppl.take i ++ ppl.drop (i + 1)
theorem delete_g (ppl : List Nm) (i : Nat) (hi : i < ppl.length) : SummG Tryz.prog GG 179 [.row 9 1 ppl.length (strsF ppl)] [.ow 0, .f (iv ((i : Nat) : Int)), .f (iv (((i : Nat) : Int) + 1))] (.ow 0) [.row 9 1 (pplDel ppl i).length (strsF (pplDel ppl i))] := by
  obtain ⟨i0, h1, h2⟩ := infoS
  exact deleteG (enc := encStr) (fun _ => rfl) [] (enters_of Tryz.func179 (by kernel_rfl) rfl) (fun blk off cap i j d w hH a b c e => AnyE.slices_Delete delS encStr (fun _ => rfl) [] zeroS i0 h1 h2 blk off cap i j d w hH a b c e) ppl (by omega) 9 (i := i) (j := i + 1) rfl (by omega) (by omega) (by unfold pplDel; simp; omega) (strsF_enc _) (strsF_enc _)
theorem killsA_ow {i k : Nat} (h : k ≠ i) : killsA [i] (.ow k) = .ow k := by
  show AV.ofC (bif (bif Nat.beq k i then true else false) then none else some (Cap.ow k)) = _
  rw [beqF h]; rfl
theorem killsA_bx {i k o : Nat} (h : k ≠ i) : killsA [i] (.bx k o) = .bx k o := by
  show AV.ofC (bif (bif Nat.beq k i then true else false) then none else some (Cap.bx k o)) = _
  rw [beqF h]; rfl
theorem killsA_fv (i : Nat) (x : FV) : killsA [i] (.f x) = .f x := rfl
theorem HX_kills {al : List Alt} {q i d : Nat} {B : Blk} (hd : d < 5) (h : HX al q i = some B) : killsB [d] B = B := by
  obtain ⟨j, a, _, _, _, ⟨_, rfl⟩ | ⟨_, rfl⟩⟩ := HX_some h
  · rfl
  · show Blk.box ((bxC (2 * j + 5) a).map (killsA [d])) = _
    simp only [bxC, List.map_cons, List.map_nil, killsA_fv, killsA_ow (show 2 * j + 5 ≠ d by omega)]
theorem PT_kills (al : List Alt) (q : Nat) {d : Nat} (hd : d < 4) : (PT al q).map (killsA [d]) = PT al q := by
  refine (List.map_congr_left fun x hx => ?_).trans (List.map_id _)
  rcases PT_mem hx with ⟨rfl, _⟩ | ⟨j, _, _, rfl⟩
  · exact killsA_bx (by omega)
  · exact killsA_bx (by omega)
theorem mv_o0 (k : Nat) : mvA (2 * k + 6) 4 (mvA (2 * k + 5) 3 (.bx 0 0)) = .bx 0 0 := by rw [mvA_bx, if_neg (by omega), mvA_bx, if_neg (by omega)]
theorem mv_ok (k : Nat) : mvA (2 * k + 6) 4 (mvA (2 * k + 5) 3 (.bx (2 * k + 6) 0)) = .bx 4 0 := by rw [mvA_bx, if_neg (by omega), mvA_bx, if_pos rfl]
set_option maxRecDepth 100000 in
set_option maxHeartbeats 3200000 in
theorem act1_h (cs : List Cel) (ppl : List Nm) (al : List Alt) (hl : al.length ≤ 400) (hcs : cs.length ≤ 1000) (n : Nm) (hnl : n.length ≤ 1000) (hn : nameB n = true) (hp : ppl.length ≤ 1000) (i : Nat) (hi : idxP ppl.length (hasS ppl n) = ((i : Nat) : Int)) (hip : i < ppl.length) {r : AV} (HF : SummH Tryz.prog GG 103 (HB cs ppl al) [.bx 0 0, .f (sv n)] r (HB cs ppl al)) : SummH Tryz.prog GG 152 (HB cs ppl al) [.bx 0 0, .f (.agg [iv 1, sv n, .sl 0 []])] (.f (.tup [.v (.slice none 0 0), iv 0])) (HB cs (pplDel ppl i) al) := by
  have HN := isName_s n (by omega)
  rw [hn] at HN
  have HC := cellsErr_s cs [] (by simp) (by omega)
  rw [celsE_nil] at HC
  have HH := hasCells_s 1
  rw [show hasCB 1 = false from rfl] at HH
  have HI := IndexS_s ppl n (by omega)
  rw [hi] at HI
  refine summH_of 1000 Tryz.func152 rfl rfl 145 rfl (by simp) ⟨_, _, rfl, rfl, rfl, rfl⟩ (HB_cl _ _ _ (by omega)) (fun M X J => ?_)
  repeat (first
    | (refine s_callH HF (fun _ => rfl) (fun i q h => (pin0_some h).1) rfl rfl rfl ⟨rfl, trivial, trivial⟩ (fun i B h => h) (fun i h _ => h) ?_; refine s_ghost rfl (st' := ⟨(Ab.upd (Ab.upd (Ab.upd (fun _ => .bot) 0 (.bx 0 0)) 3 (.f (.pt [iv 1, sv n, .sl 0 []] 0))) 45 (.f (iv ((i : Nat) : Int)))), HB cs ppl al, 1000⟩) (gh_le ⟨le_upd rfl trivial (le_upd rfl trivial (le_upd rfl rfl (le_nil _))), le_base (HB_cl cs ppl al (by omega)) (fun i B h => join_h h)⟩) ?_)
    | (refine s_callS HI (fun _ => rfl) rfl rfl rfl ⟨sees_row rfl, sees_f _, trivial⟩ ?_)
    | (apply s_callG [1] (delete_g ppl i hip); exact rfl; exact rfl; exact rfl; exact ⟨rfl, trivial⟩; exact rfl; exact ⟨rfl, rfl⟩)
    | (apply s_bind; exact rfl; exact rfl; exact rfl; exact rfl; exact rfl; exact rfl; exact eqb_t (by first | rfl | assumption))
    | (apply s_o TY; exact rfl)
    | (apply s_nilCheck; exact rfl; exact rfl; exact rfl)
    | (apply s_a TY; exact rfl)
    | (apply s_t; exact rfl; (first | assumption | omega))
    | (apply s_f; exact rfl; (first | assumption | omega))
    | apply w_seq
    | apply w_region
    | (apply w_draw (id := 1) 22 rfl (by kernel_rfl))
    | (apply w_draw (id := 4) 10 rfl (by kernel_rfl))
    | apply s_nil
    | apply t_norm
    | apply t_ret
    | apply k_ret
    | apply w_block
    | apply w_ret
    | apply w_skip
    | (apply w_condT; exact rfl; exact rfl)
    | (apply w_condF; exact rfl; exact rfl)
    | (apply s_k (HN); exact rfl)
    | (apply s_k (HC); exact rfl)
    | (apply s_k (HH); exact rfl)
    | (apply s_k1 (first4_3 _ _ _ _); exact rfl; (first | assumption | omega | decide))
    | (apply s_k (unless_T _); exact rfl)
    | (apply s_k1 (within_T _ _ _); exact rfl; (first | assumption | omega | decide))
    | (apply s_c TY; exact rfl; omega)
    | (apply s_store TY; exact rfl; exact rfl; exact rfl; exact rfl; exact rfl; exact rfl))
  refine lvH_ret (s := Ab.upd (Ab.upd (fun _ => .bot) 4 (.f (.v (.slice none 0 0)))) 5 (.f (iv 0))) (nx := 1000) ?_ ?_
  · exact gh_le ⟨le_upd rfl trivial (le_upd rfl trivial (le_nil _)), le_HB (by omega) rfl rfl (congrArg (fun z => some (Blk.rowA 166 1 al.length z)) (PT_kills al 1000 (by omega))) (fun i B h => by
      have hb := HX_bd h
      try simp only [St.put]
      repeat (first | exact HX_HB h | refine afterG_h1 (e := 1) (by exact rfl) (by simp only [List.mem_cons, List.not_mem_nil, or_false]; omega) (by show i < 1000; omega) ?_ (HX_kills (by omega) h) | refine (Ab.upd_other _ _ (by omega)).trans ?_))⟩
  · exact rg2 (.f (.v (.slice none 0 0))) (.f (iv 0)) rfl (rv_tmp rfl) (rv_tmp rfl) rfl
end Go.Proofs.YtenkgipcblfocaaGreat
namespace Go.Proofs.YtenkgipcblfocaaGreat
open Go Go.RowKit Go.Proofs Go.Shelf Go.Ab
theorem gh_openA {C : Ctx} {N : Nat} {s : Nat → AV} {cs : List Cel} {ppl : List Nm} {al : List Alt} {k nx : Nat} {a : Alt} (ha : al[k]? = some a) (hl : al.length ≤ 400) (hJ : ∀ i, i ≠ 0 → C.J0 i = none) : Gh C N ⟨s, HB cs ppl al, nx⟩ ⟨fun t => mvA (2 * k + 6) 4 (mvA (2 * k + 5) 3 (s t)), HO cs ppl al k a, nx⟩ := by
  obtain ⟨hk, rfl⟩ := List.getElem?_eq_some_iff.1 ha
  exact gh_open hk hl hJ
theorem pin0_no {J : Nat → Value} : ∀ i, i ≠ 0 → pin0 J i = none := fun i hi => by unfold pin0; rw [beqF hi]; rfl
set_option maxRecDepth 100000 in
set_option maxHeartbeats 3200000 in
theorem act3_h (cs : List Cel) (ppl : List Nm) (al : List Alt) (hl : al.length ≤ 400) (hcs : cs.length ≤ 1000) (n : Nm) (hnl : n.length ≤ 1000) (hn : nameB n = true) (hp : ppl.length ≤ 1000) (cl : List Int) (hc0 : 0 < cl.length) (hcm : cl.length ≤ 1000000) (hcl : celsE cs.length cl = 0) (k : Nat) {n0 : Nm} {ver : Int} {c0 : List Int} {had : Nm → Option Int} {kys : List Nm} (ha : al[k]? = some (⟨n0, ver, c0, false, had, kys⟩ : Alt)) (hz : ∀ i, i < k → nmA al n i = false) (hm : nmA al n k = true) (hver : 0 ≤ ver ∧ ver ≤ 1000) : SummH Tryz.prog GG 152 (HB cs ppl al) [.bx 0 0, .f (.agg [iv 3, sv n, .sl cl.length (intsF cl)])] (.f (.tup [.sl ppl.length (strsF (ascN ppl)), iv 0])) (HB cs ppl (al.set k (sent (⟨n0, ver, c0, false, had, kys⟩ : Alt) cl ppl))) := by
  have HN := isName_s n (by omega)
  rw [hn] at HN
  have HC := cellsErr_s cs cl (by omega) (by omega)
  rw [hcl] at HC
  have HH := hasCells_s 3
  rw [show hasCB 3 = true from rfl] at HH
  have hk : k < al.length := (List.getElem?_eq_some_iff.1 ha).1
  have hall : al.length ≤ 400 := hl
  have HF := find_at cs ppl al n hl k hk hz hm
  have hgk : (HB cs ppl al (2 * k + 6)).isSome = true := by rw [HX_HB (HX_box ha (by omega) (by omega))]; rfl
  have HI := IndexS_s ppl n (by omega)
  refine summH_of 1000 Tryz.func152 rfl rfl 145 rfl (by simp) ⟨_, _, rfl, rfl, rfl, rfl⟩ (HB_cl _ _ _ (by omega)) (fun M X J => ?_)
  repeat (first
    | (refine s_callH HF (fun _ => rfl) (fun i q h => (pin0_some h).1) rfl rfl rfl ⟨rfl, trivial, trivial⟩ (fun i B h => h) (fun i h _ => h) ?_; refine s_ghost rfl (st' := ⟨(Ab.upd (Ab.upd (Ab.upd (Ab.upd (fun _ => .bot) 0 (.bx 0 0)) 3 (.f (.pt [iv 3, sv n, .sl cl.length (intsF cl)] 0))) 45 (.f (iv (idxP ppl.length (hasS ppl n))))) 49 (.bx 4 0)), HO cs ppl al k (⟨n0, ver, c0, false, had, kys⟩ : Alt), 1000⟩) (gh_trans (b := ⟨(Ab.upd (Ab.upd (Ab.upd (Ab.upd (fun _ => .bot) 0 (.bx 0 0)) 3 (.f (.pt [iv 3, sv n, .sl cl.length (intsF cl)] 0))) 45 (.f (iv (idxP ppl.length (hasS ppl n))))) 49 (.bx (2 * k + 6) 0)), HB cs ppl al, 1000⟩) (gh_le ⟨le_upd rfl (show closedA (HB cs ppl al) _ from hgk) (le_upd rfl trivial (le_upd rfl trivial (le_upd rfl rfl (le_nil _)))), le_base (HB_cl cs ppl al (by omega)) (fun i B h => join_h h)⟩) (gh_trans (gh_openA ha (by omega) pin0_no) (gh_le ⟨le_upd (mv_ok k).symm rfl (le_upd rfl trivial (le_upd rfl trivial (le_upd (mv_o0 k).symm rfl (le_nil _)))), le_base (HO_cl cs ppl al k (⟨n0, ver, c0, false, had, kys⟩ : Alt) (by omega)) (fun i B h => h)⟩))) ?_)
    | (refine s_callS HI (fun _ => rfl) rfl rfl rfl ⟨sees_row rfl, sees_f _, trivial⟩ ?_)
    | (apply s_ptrEq (by first | exact rfl | kernel_rfl); exact rfl; exact rfl; exact rfl)
    | (refine s_callH (send_h cs ppl al k (⟨n0, ver, c0, false, had, kys⟩ : Alt) cl (by omega) hall (by omega) hver) (fun _ => rfl) (fun i q h => (pin0_some h).1) rfl rfl rfl ⟨rfl, rfl, trivial, trivial⟩ (fun i B h => h) (fun i h _ => h) ?_)
    | (apply s_bind; exact rfl; exact rfl; exact rfl; exact rfl; exact rfl; exact rfl; exact eqb_t (by first | rfl | assumption))
    | (apply s_o TY; exact rfl)
    | (apply s_nilCheck; exact rfl; exact rfl; exact rfl)
    | (apply s_a TY; exact rfl)
    | (apply s_t; exact rfl; (first | assumption | omega))
    | (apply s_f; exact rfl; (first | assumption | omega))
    | apply w_seq
    | apply w_region
    | (apply w_draw (id := 1) 22 rfl (by kernel_rfl))
    | (apply w_draw (id := 4) 10 rfl (by kernel_rfl))
    | apply s_nil
    | apply t_norm
    | apply t_ret
    | apply k_norm
    | apply w_block
    | apply w_ret
    | apply w_skip
    | (apply w_condT; exact rfl; exact rfl)
    | (apply w_condF; exact rfl; exact rfl)
    | (apply s_k (HN); exact rfl)
    | (apply s_k (HC); exact rfl)
    | (apply s_k (HH); exact rfl)
    | (apply s_k1 (first4_3 _ _ _ _); exact rfl; (first | assumption | omega | decide))
    | (apply s_k (unless_T _); exact rfl)
    | (apply s_k1 (within_T _ _ _); exact rfl; (first | assumption | omega | decide)))
  refine lvH_ret (s := Ab.upd (Ab.upd (fun _ => .bot) 4 (.f (.sl ppl.length (strsF (ascN ppl))))) 5 (.f (iv 0))) (nx := 1000) ?_ ?_
  · exact gh_trans (b := ⟨Ab.upd (Ab.upd (fun _ => .bot) 4 (.f (.sl ppl.length (strsF (ascN ppl))))) 5 (.f (iv 0)), HO cs ppl al k (sent (⟨n0, ver, c0, false, had, kys⟩ : Alt) cl ppl), 1000⟩) (gh_le ⟨le_upd rfl trivial (le_upd rfl trivial (le_nil _)), le_base (HO_cl cs ppl al k (sent (⟨n0, ver, c0, false, had, kys⟩ : Alt) cl ppl) (by omega)) (fun i B h => join_h h)⟩) (gh_trans (gh_close hk hall pin0_no) (gh_le ⟨le_upd rfl trivial (le_upd rfl trivial (le_nil _)), le_base (HB_cl cs ppl _ (by rw [List.length_set]; exact hall)) (fun i B h => h)⟩))
  · exact rg2 (.f (.sl ppl.length (strsF (ascN ppl)))) (.f (iv 0)) rfl (rv_tmp rfl) (rv_tmp rfl) rfl
set_option maxRecDepth 100000 in
set_option maxHeartbeats 3200000 in
theorem act4_h (cs : List Cel) (ppl : List Nm) (al : List Alt) (hl : al.length ≤ 400) (hcs : cs.length ≤ 1000) (n : Nm) (hnl : n.length ≤ 1000) (hn : nameB n = true) (hp : ppl.length ≤ 1000) (k : Nat) {n0 : Nm} {ver : Int} {c0 : List Int} {had : Nm → Option Int} {kys : List Nm} (ha : al[k]? = some (⟨n0, ver, c0, false, had, kys⟩ : Alt)) (hz : ∀ i, i < k → nmA al n i = false) (hm : nmA al n k = true) (hks : KeysAre had kys) (hkl : kys.length ≤ 1000) (hkb : ∀ c, c ∈ kys → c.length ≤ 1000) : SummH Tryz.prog GG 152 (HB cs ppl al) [.bx 0 0, .f (.agg [iv 4, sv n, .sl 0 []])] (.f (.tup [.sl kys.length (strsF (ascN kys)), iv 0])) (HB cs ppl (al.set k (⟨n0, ver, c0, true, had, kys⟩ : Alt))) := by
  rw [← strsF_enc]
  have HN := isName_s n (by omega)
  rw [hn] at HN
  have HC := cellsErr_s cs [] (by simp) (by omega)
  rw [celsE_nil] at HC
  have HH := hasCells_s 4
  rw [show hasCB 4 = false from rfl] at HH
  have hk : k < al.length := (List.getElem?_eq_some_iff.1 ha).1
  have hall : al.length ≤ 400 := hl
  have HF := find_at cs ppl al n hl k hk hz hm
  have hgk : (HB cs ppl al (2 * k + 6)).isSome = true := by rw [HX_HB (HX_box ha (by omega) (by omega))]; rfl
  have HI := IndexS_s ppl n (by omega)
  refine summH_of 1000 Tryz.func152 rfl rfl 145 rfl (by simp) ⟨_, _, rfl, rfl, rfl, rfl⟩ (HB_cl _ _ _ (by omega)) (fun M X J => ?_)
  repeat (first
    | (refine s_callH HF (fun _ => rfl) (fun i q h => (pin0_some h).1) rfl rfl rfl ⟨rfl, trivial, trivial⟩ (fun i B h => h) (fun i h _ => h) ?_; refine s_ghost rfl (st' := ⟨(Ab.upd (Ab.upd (Ab.upd (Ab.upd (fun _ => .bot) 0 (.bx 0 0)) 3 (.f (.pt [iv 4, sv n, .sl 0 []] 0))) 45 (.f (iv (idxP ppl.length (hasS ppl n))))) 49 (.bx 4 0)), HO cs ppl al k (⟨n0, ver, c0, false, had, kys⟩ : Alt), 1000⟩) (gh_trans (b := ⟨(Ab.upd (Ab.upd (Ab.upd (Ab.upd (fun _ => .bot) 0 (.bx 0 0)) 3 (.f (.pt [iv 4, sv n, .sl 0 []] 0))) 45 (.f (iv (idxP ppl.length (hasS ppl n))))) 49 (.bx (2 * k + 6) 0)), HB cs ppl al, 1000⟩) (gh_le ⟨le_upd rfl (show closedA (HB cs ppl al) _ from hgk) (le_upd rfl trivial (le_upd rfl trivial (le_upd rfl rfl (le_nil _)))), le_base (HB_cl cs ppl al (by omega)) (fun i B h => join_h h)⟩) (gh_trans (gh_openA ha (by omega) pin0_no) (gh_le ⟨le_upd (mv_ok k).symm rfl (le_upd rfl trivial (le_upd rfl trivial (le_upd (mv_o0 k).symm rfl (le_nil _)))), le_base (HO_cl cs ppl al k (⟨n0, ver, c0, false, had, kys⟩ : Alt) (by omega)) (fun i B h => h)⟩))) ?_)
    | (refine s_callS HI (fun _ => rfl) rfl rfl rfl ⟨sees_row rfl, sees_f _, trivial⟩ ?_)
    | (apply s_ptrEq (by first | exact rfl | kernel_rfl); exact rfl; exact rfl; exact rfl)
    | (apply s_callG [3] (keysN_g had); exact rfl; exact rfl; exact rfl; exact ⟨rfl, trivial⟩; exact rfl; exact ⟨⟨rfl, rfl⟩, ⟨rfl, rfl⟩⟩)
    | (refine s_callWF (g := 105) (e := 9) (sz := 1) (n := kys.length) (ags := [.fb 158 [.bx 1000 0]]) (vs := (ascN kys).map encStr) (enters_of Tryz.func105 (by kernel_rfl) rfl) (fun v hv => by obtain ⟨y, _, rfl⟩ := List.mem_map.1 hv; rfl) rfl rfl rfl rfl (sortedK_c (f := had) (i := 3) (j := 1000) rfl hks hkl hkb rfl rfl) ?_)
    | (apply s_bind; exact rfl; exact rfl; exact rfl; exact rfl; exact rfl; exact rfl; exact eqb_t (by first | rfl | assumption))
    | (apply s_o TY; exact rfl)
    | (apply s_nilCheck; exact rfl; exact rfl; exact rfl)
    | (apply s_a TY; exact rfl)
    | (apply s_t; exact rfl; (first | assumption | omega))
    | (apply s_f; exact rfl; (first | assumption | omega))
    | apply w_seq
    | apply w_region
    | (apply w_draw (id := 1) 22 rfl (by kernel_rfl))
    | (apply w_draw (id := 4) 10 rfl (by kernel_rfl))
    | apply s_nil
    | apply t_norm
    | apply k_norm
    | apply w_block
    | apply w_ret
    | apply w_skip
    | (apply w_condF; exact rfl; exact rfl)
    | (apply s_k (HN); exact rfl)
    | (apply s_k (HC); exact rfl)
    | (apply s_k (HH); exact rfl)
    | (apply s_k1 (first4_3 _ _ _ _); exact rfl; (first | assumption | omega | decide))
    | (apply s_k (unless_T _); exact rfl)
    | (apply s_k1 (within_T _ _ _); exact rfl; (first | assumption | omega | decide))
    | (apply s_store TY; exact rfl; exact rfl; exact rfl; exact rfl; exact rfl; exact rfl))
  refine lvH_ret (s := Ab.upd (Ab.upd (fun _ => .bot) 4 (.f (.sl kys.length (((ascN kys).map encStr).map FV.v)))) 5 (.f (iv 0))) (nx := 1001) ?_ ?_
  · exact gh_trans (b := ⟨Ab.upd (Ab.upd (fun _ => .bot) 4 (.f (.sl kys.length (((ascN kys).map encStr).map FV.v)))) 5 (.f (iv 0)), HO cs ppl al k (⟨n0, ver, c0, true, had, kys⟩ : Alt), 1001⟩) (gh_le ⟨le_upd rfl trivial (le_upd rfl trivial (le_nil _)), le_HO (a := (⟨n0, ver, c0, false, had, kys⟩ : Alt)) (by omega) rfl rfl (fun i h3 h4 h5 => by
      by_cases e1 : i = 1
      · subst e1; exact rfl
      try simp only [St.put]
      repeat (first | exact rfl | refine (afterG_h (by exact rfl) (by simp only [List.mem_cons, List.not_mem_nil, or_false]; omega) (by show i < 1000; omega)).trans ?_ | refine (Ab.upd_other _ _ (by omega)).trans ?_))⟩) (gh_trans (gh_close hk hall pin0_no) (gh_le ⟨le_upd rfl trivial (le_upd rfl trivial (le_nil _)), le_base (HB_cl cs ppl _ (by rw [List.length_set]; exact hall)) (fun i B h => h)⟩))
  · exact rg2 (.f (.sl kys.length (((ascN kys).map encStr).map FV.v))) (.f (iv 0)) rfl (rv_tmp rfl) (rv_tmp rfl) rfl
end Go.Proofs.YtenkgipcblfocaaGreat
namespace Go.Proofs.YtenkgipcblfocaaGreat
open Go Go.RowKit Go.Proofs Go.Shelf Go.Ab
theorem HX_newB {al : List Alt} {a : Alt} {i : Nat} {B : Blk} (hl : al.length ≤ 399) (h : HX (al ++ [a]) al.length i = some B) : HX al 1000 i = some B := by rwa [HX_new al a (by omega)] at h
theorem le_HOn {cs : List Cel} {ppl : List Nm} {al : List Alt} {a : Alt} {h : Nat → Option Blk} (hl : al.length ≤ 399) (h0 : h 0 = some (.box [.f (xF cs), .ow 1, .ow 2])) (h1 : h 1 = some (.row 9 1 ppl.length (strsF ppl))) (h2 : h 2 = some (.rowA 166 1 (al.length + 1) (PT al 1000 ++ [.bx 4 0]))) (h3 : h 3 = some (.map (mpG a.had))) (h4 : h 4 = some (.box (bxC 3 a))) (hx : ∀ i B, HX al 1000 i = some B → h i = some B) : ∀ i, HO cs ppl (al ++ [a]) al.length a i = none ∨ ∃ B, HO cs ppl (al ++ [a]) al.length a i = some B ∧ h i = some B ∧ closedB (HO cs ppl (al ++ [a]) al.length a) B := le_base (HO_cl cs ppl _ al.length a (by simp; omega)) fun i B hB => by
  by_cases e0 : i = 0
  · subst e0; rw [h0]; exact hB
  by_cases e1 : i = 1
  · subst e1; rw [h1]; exact hB
  by_cases e2 : i = 2
  · subst e2
    rw [h2, PT_new al a (by omega)]
    have : HO cs ppl (al ++ [a]) al.length a 2 = some (.rowA 166 1 (al ++ [a]).length (PT (al ++ [a]) al.length)) := rfl
    rw [this, List.length_append] at hB
    exact hB
  by_cases e3 : i = 3
  · subst e3; rw [h3]; exact hB
  by_cases e4 : i = 4
  · subst e4; rw [h4]; exact hB
  rw [HO_x _ _ _ _ _ (by omega)] at hB
  exact hx i B (HX_newB hl hB)
theorem PT_killN (al : List Alt) : (PT al 1000 ++ [AV.bx 4 0]).map (killA 2) = PT al 1000 ++ [.bx 4 0] := by
  rw [List.map_append, PT_kill al 1000 (by omega)]; rfl
theorem nil_cell {C : Ctx} {w : World} {h : Nat → Option Blk} {J : Nat → Value} {v : Value} (q : RepA C w h J v (.f (.v (.slice none 0 0)))) : RepA C w h J v (.f (.sl 0 [])) := rep_nilsl q
set_option maxRecDepth 100000 in
set_option maxHeartbeats 3200000 in
theorem act2_h (cs : List Cel) (ppl : List Nm) (al : List Alt) (hl : al.length ≤ 399) (hcs : cs.length ≤ 1000) (n : Nm) (hnl : n.length ≤ 1000) (hn : nameB n = true) (hp : ppl.length ≤ 1000) (cl : List Int) (hc0 : 0 < cl.length) (hcm : cl.length ≤ 1000000) (hcl : celsE cs.length cl = 0) (hz : ∀ i, i < al.length → nmA al n i = false) : SummH Tryz.prog GG 152 (HB cs ppl al) [.bx 0 0, .f (.agg [iv 2, sv n, .sl cl.length (intsF cl)])] (.f (.tup [.sl ppl.length (strsF (ascN ppl)), iv 0])) (HB cs ppl (al ++ [sent (⟨n, 0, [], false, fun _ => none, []⟩ : Alt) cl ppl])) := by
  have hset : (al ++ [(⟨n, 0, [], false, fun _ => none, []⟩ : Alt)]).set al.length (sent (⟨n, 0, [], false, fun _ => none, []⟩ : Alt) cl ppl) = al ++ [sent (⟨n, 0, [], false, fun _ => none, []⟩ : Alt) cl ppl] := by simp
  rw [← hset]
  have HN := isName_s n (by omega)
  rw [hn] at HN
  have HC := cellsErr_s cs cl (by omega) (by omega)
  rw [hcl] at HC
  have HH := hasCells_s 2
  rw [show hasCB 2 = true from rfl] at HH
  have HF := find_no cs ppl al n (by omega) hz
  have HI := IndexS_s ppl n (by omega)
  have hall : (al ++ [(⟨n, 0, [], false, fun _ => none, []⟩ : Alt)]).length ≤ 400 := by simp; omega
  have hk : al.length < (al ++ [(⟨n, 0, [], false, fun _ => none, []⟩ : Alt)]).length := by simp
  have hver : 0 ≤ (⟨n, 0, [], false, fun _ => none, []⟩ : Alt).ver ∧ (⟨n, 0, [], false, fun _ => none, []⟩ : Alt).ver ≤ 1000 := ⟨Int.le_refl _, (by decide : (0 : Int) ≤ 1000)⟩
  refine summH_of 1000 Tryz.func152 rfl rfl 145 rfl (by simp) ⟨_, _, rfl, rfl, rfl, rfl⟩ (HB_cl _ _ _ (by omega)) (fun M X J => ?_)
  repeat (first
    | (apply s_a TY; exact rfl)
    | (refine s_callH HF (fun _ => rfl) (fun i q h => (pin0_some h).1) rfl rfl rfl ⟨rfl, trivial, trivial⟩ (fun i B h => h) (fun i h _ => h) ?_; refine s_ghost rfl (st' := ⟨(Ab.upd (Ab.upd (Ab.upd (Ab.upd (fun _ => .bot) 0 (.bx 0 0)) 3 (.f (.pt [iv 2, sv n, .sl cl.length (intsF cl)] 0))) 45 (.f (iv (idxP ppl.length (hasS ppl n))))) 49 (.f (.v (.pointer none)))), HB cs ppl al, 3⟩) (gh_le ⟨le_upd rfl trivial (le_upd rfl trivial (le_upd rfl trivial (le_upd rfl rfl (le_nil _)))), le_base (HB_cl cs ppl al (by omega)) (fun i B h => join_h h)⟩) ?_)
    | (refine s_callS HI (fun _ => rfl) rfl rfl rfl ⟨sees_row rfl, sees_f _, trivial⟩ ?_)
    | (apply s_nilNe (by first | exact rfl | kernel_rfl); exact rfl; exact rfl; exact rfl)
    | (apply s_boxA; exact rfl; exact rfl; exact rfl; exact rfl)
    | (apply s_bind; exact rfl; exact rfl; exact rfl; exact rfl; exact rfl; exact rfl; exact eqb_t (by first | rfl | assumption))
    | (apply s_nilCheck; exact rfl; exact rfl; exact rfl)
    | (apply s_buildO TY; exact rfl; exact rfl; exact rfl; exact rfl; exact rfl; exact rfl)
    | (apply s_makeMap; exact rfl; exact rfl)
    | (apply s_t; exact rfl; (first | assumption | omega))
    | (apply s_f; exact rfl; (first | assumption | omega))
    | apply w_seq
    | apply w_region
    | (apply w_draw (id := 1) 22 rfl (by kernel_rfl))
    | (apply w_draw (id := 4) 10 rfl (by kernel_rfl))
    | apply s_nil
    | apply t_norm
    | apply w_block
    | apply w_skip
    | (apply w_condT; exact rfl; exact rfl)
    | (apply w_condF; exact rfl; exact rfl)
    | (apply s_k (HN); exact rfl)
    | (apply s_k (HC); exact rfl)
    | (apply s_k (HH); exact rfl)
    | (apply s_k1 (first4_3 _ _ _ _); exact rfl; (first | assumption | omega | decide))
    | (apply s_k (unless_T _); exact rfl)
    | (apply s_k1 (within_T _ _ _); exact rfl; (first | assumption | omega | decide)))
  refine s_ghost rfl (gh_trans (gh_mapW 3 (G := fun o => o = .map #[] 0) (mpG fun _ => none) rfl (fun o h => by
    have h : o = .map #[] 0 := h
    subst h; exact mapFn_new)) (gh_trans (gh_boxW 4 (cs := [.f (sv n), .f (iv 0), .f (.v (.slice none 0 0)), .f (bv false), .f (.v (.slice none 0 0)), .ow 3]) (cs' := bxC 3 (⟨n, 0, [], false, fun _ => none, []⟩ : Alt)) rfl rfl (fun k x x' h1 h2 w J v q => by
    match k, h1, h2 with
    | 0, h1, h2 => cases h1; cases h2; exact q
    | 1, h1, h2 => cases h1; cases h2; exact q
    | 2, h1, h2 => cases h1; cases h2; exact nil_cell q
    | 3, h1, h2 => cases h1; cases h2; exact q
    | 4, h1, h2 => cases h1; cases h2; exact q
    | 5, h1, h2 => cases h1; cases h2; exact q
    | _ + 6, h1, h2 => cases h1)) (gh_nx 1000))) ?_
  repeat (first
    | (apply s_bsliceP TY; exact rfl; exact rfl; exact rfl; exact rfl; exact rfl; exact rfl)
    | (apply s_appendA TY; exact rfl; exact rfl; exact rfl; exact rfl; exact rfl; exact rfl; exact rfl; exact rfl; (unfold maxLen; omega); omega)
    | (apply s_nilCheck; exact rfl; exact rfl; exact rfl)
    | (apply s_a TY; exact rfl)
    | apply w_seq
    | apply w_region
    | apply s_nil
    | apply t_norm
    | (apply s_store TY; exact rfl; exact rfl; exact rfl; exact rfl; exact rfl; exact rfl))
  refine s_ghost rfl (st' := ⟨(Ab.upd (Ab.upd (Ab.upd (fun _ => .bot) 115 (.bx 0 0)) 116 (.bx 4 0)) 118 (.f (.sl cl.length (intsF cl)))), HO cs ppl (al ++ [(⟨n, 0, [], false, fun _ => none, []⟩ : Alt)]) al.length (⟨n, 0, [], false, fun _ => none, []⟩ : Alt), 1000⟩) (gh_le ⟨le_upd rfl trivial (le_upd rfl rfl (le_upd rfl rfl (le_nil _))), le_HOn hl rfl rfl (congrArg (fun z => some (Blk.rowA 166 1 (al.length + 1) z)) (PT_killN al)) rfl rfl (fun i B h => by
      have hb := HX_bd h
      try simp only [St.put]
      repeat (first | exact HX_HB h | refine grow_h (by omega) ?_ (HX_kill (by omega) h) | refine (Ab.upd_other _ _ (by omega)).trans ?_))⟩) ?_
  repeat (first
    | (refine s_callH (send_h cs ppl (al ++ [(⟨n, 0, [], false, fun _ => none, []⟩ : Alt)]) al.length (⟨n, 0, [], false, fun _ => none, []⟩ : Alt) cl (by omega) hall (by omega) hver) (fun _ => rfl) (fun i q h => (pin0_some h).1) rfl rfl rfl ⟨rfl, rfl, trivial, trivial⟩ (fun i B h => h) (fun i h _ => h) ?_)
    | (apply s_a TY; exact rfl)
    | apply s_nil
    | apply t_norm
    | apply t_ret
    | apply k_ret
    | apply w_ret)
  refine lvH_ret (s := Ab.upd (Ab.upd (fun _ => .bot) 4 (.f (.sl ppl.length (strsF (ascN ppl))))) 5 (.f (iv 0))) (nx := 1000) ?_ ?_
  · exact gh_trans (b := ⟨Ab.upd (Ab.upd (fun _ => .bot) 4 (.f (.sl ppl.length (strsF (ascN ppl))))) 5 (.f (iv 0)), HO cs ppl (al ++ [(⟨n, 0, [], false, fun _ => none, []⟩ : Alt)]) al.length (sent (⟨n, 0, [], false, fun _ => none, []⟩ : Alt) cl ppl), 1000⟩) (gh_le ⟨le_upd rfl trivial (le_upd rfl trivial (le_nil _)), le_base (HO_cl cs ppl (al ++ [(⟨n, 0, [], false, fun _ => none, []⟩ : Alt)]) al.length (sent (⟨n, 0, [], false, fun _ => none, []⟩ : Alt) cl ppl) hall) (fun i B h => join_h h)⟩) (gh_trans (gh_close hk hall pin0_no) (gh_le ⟨le_upd rfl trivial (le_upd rfl trivial (le_nil _)), le_base (HB_cl cs ppl _ (by rw [List.length_set]; exact hall)) (fun i B h => h)⟩))
  · exact rg2 (.f (.sl ppl.length (strsF (ascN ppl)))) (.f (iv 0)) rfl (rv_tmp rfl) (rv_tmp rfl) rfl
end Go.Proofs.YtenkgipcblfocaaGreat
namespace Go.Proofs.YtenkgipcblfocaaGreat
open Go Go.RowKit Go.Proofs Go.Shelf Go.Ab
def chkE (c : Int) (x : Act) : Int := if ¬ (0 ≤ x.kind ∧ x.kind ≤ 4) then 15 else if ¬ nameB x.name = true then 4 else if celsE c x.cells ≠ 0 then celsE c x.cells else if hasCB x.kind = decide (0 < x.cells.length) then 0 else 3
def idxN (ppl : List Nm) (n : Nm) : Int := idxP ppl.length (hasS ppl n)
def idxA (al : List Alt) (n : Nm) : Int := idxP al.length (nmA al n)
abbrev Lst := List Nm × List Alt
def altA (al : List Alt) (n : Nm) : Alt := al.getD (idxA al n).toNat default
def stpE (c : Int) (s : Lst) (x : Act) : Int := if chkE c x ≠ 0 then chkE c x else
  if x.kind = 0 then (if 0 ≤ idxN s.1 x.name then 5 else if s.1.length < 8 then 0 else 16)
  else if x.kind = 1 then (if idxN s.1 x.name < 0 then 6 else 0)
  else if x.kind = 2 then (if 0 ≤ idxA s.2 x.name then 5 else 0)
  else if idxA s.2 x.name < 0 then 6 else if (altA s.2 x.name).gone = true then 20 else 0
def newA (n : Nm) : Alt := ⟨n, 0, [], false, fun _ => none, []⟩
def goneA (a : Alt) : Alt := ⟨a.nm, a.ver, a.cells, true, a.had, a.kys⟩
def stpS (s : Lst) (x : Act) : Lst :=
  if x.kind = 0 then (s.1 ++ [x.name], s.2)
  else if x.kind = 1 then (pplDel s.1 (idxN s.1 x.name).toNat, s.2)
  else if x.kind = 2 then (s.1, s.2 ++ [sent (newA x.name) x.cells s.1])
  else if x.kind = 3 then (s.1, s.2.set (idxA s.2 x.name).toNat (sent (altA s.2 x.name) x.cells s.1))
  else (s.1, s.2.set (idxA s.2 x.name).toNat (goneA (altA s.2 x.name)))
def stpW (s : Lst) (x : Act) : List Nm := if x.kind = 2 ∨ x.kind = 3 then ascN s.1 else if x.kind = 4 then ascN (altA s.2 x.name).kys else []
structure Inv (m : Nat) (s : Lst) : Prop where
  al : s.2.length ≤ m
  pl : s.1.length ≤ 8
  nd : s.1.Nodup
  nm : ∀ n, n ∈ s.1 → n.length ≤ 12
  ver : ∀ a, a ∈ s.2 → 0 ≤ a.ver ∧ a.ver ≤ m
  kys : ∀ a, a ∈ s.2 → KeysAre a.had a.kys ∧ a.kys.length ≤ 8 * m ∧ ∀ c, c ∈ a.kys → c.length ≤ 12
theorem inv0 : Inv 0 ([], []) := ⟨Nat.le_refl _, by simp, List.nodup_nil, fun n h => by simp at h, fun a h => by simp at h, fun a h => by simp at h⟩
theorem nameB_12 {n : Nm} (h : nameB n = true) : n.length ≤ 12 := by
  refine Classical.byContradiction fun hn => ?_
  rw [nameB_len (by omega)] at h; cases h
theorem chkE_0 {c : Int} {x : Act} (h : chkE c x = 0) : (0 ≤ x.kind ∧ x.kind ≤ 4) ∧ nameB x.name = true ∧ celsE c x.cells = 0 ∧ hasCB x.kind = decide (0 < x.cells.length) := by
  unfold chkE at h
  split at h
  · cases h
  rename_i h1
  split at h
  · cases h
  rename_i h2
  split at h
  · rename_i h3; exact absurd h h3
  rename_i h3
  split at h
  · rename_i h4
    exact ⟨by omega, by simpa using h2, by omega, h4⟩
  · cases h
theorem stpE_0 {c : Int} {s : Lst} {x : Act} (h : stpE c s x = 0) : chkE c x = 0 ∧ ((x.kind = 0 ∧ idxN s.1 x.name < 0 ∧ s.1.length < 8) ∨ (x.kind = 1 ∧ 0 ≤ idxN s.1 x.name) ∨ (x.kind = 2 ∧ idxA s.2 x.name < 0) ∨ ((x.kind = 3 ∨ x.kind = 4) ∧ 0 ≤ idxA s.2 x.name ∧ (altA s.2 x.name).gone = false)) := by
  unfold stpE at h
  split at h
  · rename_i h1; exact absurd h h1
  rename_i h1
  have hc : chkE c x = 0 := by simpa using h1
  refine ⟨hc, ?_⟩
  have hk := (chkE_0 hc).1
  split at h
  · rename_i h2
    split at h
    · cases h
    split at h
    · rename_i h3 h4; exact .inl ⟨h2, by omega, h4⟩
    · cases h
  split at h
  · rename_i h2
    split at h
    · cases h
    · rename_i h3; exact .inr (.inl ⟨h2, by omega⟩)
  split at h
  · rename_i h2
    split at h
    · cases h
    · rename_i h3; exact .inr (.inr (.inl ⟨h2, by omega⟩))
  split at h
  · cases h
  split at h
  · cases h
  · rename_i h2 h3 h4 h5 h6; exact .inr (.inr (.inr ⟨by omega, by omega, by simpa using h6⟩))
theorem summH_retW {P : Program} {G : Nat → Option (List FV)} {g : Nat} {h h' : Nat → Option Blk} {args : List AV} {y y' : FV} (K : SummH P G g h args (.f y) h') (hy : ∀ (w : World) (M : Nat → Prop) (v : Value), RepF w M v y → RepF w M v y') : SummH P G g h args (.f y') h' :=
  ⟨K.enters, K.one, K.cl, fun w M X us J a b c d e f => (K.call w M X us J a b c d e f).mono fun _ _ ⟨v, J', q1, q2, q3⟩ => ⟨v, J', q1, hy _ _ _ q2, q3⟩⟩
theorem tup_nil1 {y : FV} (w : World) (M : Nat → Prop) (v : Value) (q : RepF w M v (.tup [.v (.slice none 0 0), y])) : RepF w M v (.tup [.sl 0 [], y]) := by
  cases q with
  | tup cs us hl hr =>
    refine RepF.tup _ us (by simpa using hl) (fun k u x a b => ?_)
    match k with
    | 0 => simp at b; subst b; exact rep_nilsl (hr 0 u _ a rfl)
    | 1 => simp at b; subst b; exact hr 1 u _ a rfl
    | k + 2 => simp at b
theorem find_any (cs : List Cel) (ppl : List Nm) (al : List Alt) (n : Nm) (hl : al.length ≤ 400) : ∃ r, SummH Tryz.prog GG 103 (HB cs ppl al) [.bx 0 0, .f (sv n)] r (HB cs ppl al) := by
  rcases idxP_cases al.length (nmA al n) with ⟨_, hz⟩ | ⟨k, hk, hz, hp, _⟩
  · exact ⟨_, find_no cs ppl al n hl hz⟩
  · exact ⟨_, find_at cs ppl al n hl k hk hz hp⟩
theorem cells_nil {k : Int} {l : List Int} (h : hasCB k = decide (0 < l.length)) (hk : hasCB k = false) : l = [] := by
  rw [hk] at h
  have := of_decide_eq_false h.symm
  exact List.eq_nil_of_length_eq_zero (by omega)
theorem cells_pos {k : Int} {l : List Int} (h : hasCB k = decide (0 < l.length)) (hk : hasCB k = true) : 0 < l.length := by
  rw [hk] at h
  exact of_decide_eq_true h.symm
theorem act_ok (cs : List Cel) (s : Lst) (m : Nat) (i : Inv m s) (hm : m ≤ 100) (hcs : cs.length ≤ 1000) (x : Act) (hx : x.cells.length ≤ 1000000) (h : stpE cs.length s x = 0) : SummH Tryz.prog GG 152 (HB cs s.1 s.2) [.bx 0 0, .f (.agg (actF x))] (.f (.tup [.sl (stpW s x).length (strsF (stpW s x)), iv 0])) (HB cs (stpS s x).1 (stpS s x).2) := by
  obtain ⟨ppl, al⟩ := s
  obtain ⟨kind, n, cl⟩ := x
  obtain ⟨hc, hr⟩ := stpE_0 h
  obtain ⟨hk, hn, hcl, hh⟩ := chkE_0 hc
  have hnl : n.length ≤ 1000 := by have := nameB_12 hn; simp only at this; omega
  have hal : al.length ≤ 100 := by have := i.al; simp only at this; omega
  have hpl : ppl.length ≤ 8 := i.pl
  simp only at hk hn hcl hh hr hx
  rcases hr with ⟨rfl, hi, h8⟩ | ⟨rfl, hi⟩ | ⟨rfl, hi⟩ | ⟨rfl | rfl, hi, hg⟩
  · have := cells_nil hh rfl
    subst this
    obtain ⟨r, HF⟩ := find_any cs ppl al n (by omega)
    have hi1 : idxP ppl.length (hasS ppl n) = -1 := by
      rcases idxP_cases ppl.length (hasS ppl n) with ⟨e, _⟩ | ⟨k, _, _, _, e⟩
      · exact e
      · unfold idxN at hi; omega
    exact summH_retW (act0_h cs ppl al (by omega) hcs n hnl hn hi1 h8 HF) tup_nil1
  · have := cells_nil hh rfl
    subst this
    obtain ⟨r, HF⟩ := find_any cs ppl al n (by omega)
    rcases idxP_cases ppl.length (hasS ppl n) with ⟨e, _⟩ | ⟨k, hk2, _, _, e⟩
    · unfold idxN at hi; omega
    · have hst : stpS (ppl, al) ⟨1, n, []⟩ = (pplDel ppl k, al) := by
        show (pplDel ppl (idxN ppl n).toNat, al) = _
        unfold idxN; rw [e, Int.toNat_natCast]
      rw [hst]
      exact summH_retW (act1_h cs ppl al (by omega) hcs n hnl hn (by omega) k e hk2 HF) tup_nil1
  · have hc0 := cells_pos hh rfl
    have hz : ∀ j, j < al.length → nmA al n j = false := by
      rcases idxP_cases al.length (nmA al n) with ⟨_, hz⟩ | ⟨k, _, _, _, e⟩
      · exact hz
      · unfold idxA at hi; omega
    rw [show stpW (ppl, al) ⟨2, n, cl⟩ = ascN ppl from rfl, ascN_len]
    exact act2_h cs ppl al (by omega) hcs n hnl hn (by omega) cl hc0 hx hcl hz
  all_goals
    rcases idxP_cases al.length (nmA al n) with ⟨e, _⟩ | ⟨k, hk2, hz, hpn, e⟩
    · unfold idxA at hi; omega
  · have hc0 := cells_pos hh rfl
    have hka : (idxA al n).toNat = k := by unfold idxA; rw [e, Int.toNat_natCast]
    have ha : altA al n = al[k] := by unfold altA; rw [hka, getD_at hk2]
    have hst : stpS (ppl, al) ⟨3, n, cl⟩ = (ppl, al.set k (sent al[k] cl ppl)) := by
      show (ppl, al.set (idxA al n).toNat (sent (altA al n) cl ppl)) = _
      rw [ha, hka]
    rw [hst]
    rw [ha] at hg
    have hv := i.ver al[k] (List.getElem_mem hk2)
    have hge := List.getElem?_eq_getElem hk2
    generalize al[k] = a at hg hv hge
    obtain ⟨n0, ver, c0, gone, had, kys⟩ := a
    simp only at hg hv
    subst hg
    rw [show stpW (ppl, al) ⟨3, n, cl⟩ = ascN ppl from rfl, ascN_len]
    exact act3_h cs ppl al (by omega) hcs n hnl hn (by omega) cl hc0 hx hcl k hge hz hpn (by omega)
  · have := cells_nil hh rfl
    subst this
    have hka : (idxA al n).toNat = k := by unfold idxA; rw [e, Int.toNat_natCast]
    have ha : altA al n = al[k] := by unfold altA; rw [hka, getD_at hk2]
    have hst : stpS (ppl, al) ⟨4, n, []⟩ = (ppl, al.set k (goneA al[k])) := by
      show (ppl, al.set (idxA al n).toNat (goneA (altA al n))) = _
      rw [ha, hka]
    have hw : stpW (ppl, al) ⟨4, n, []⟩ = ascN al[k].kys := by
      show ascN (altA al n).kys = _
      rw [ha]
    rw [hst, hw, ascN_len]
    rw [ha] at hg
    obtain ⟨hks, hkl, hkb⟩ := i.kys al[k] (List.getElem_mem hk2)
    have hge := List.getElem?_eq_getElem hk2
    generalize al[k] = a at hg hge hks hkl hkb
    obtain ⟨n0, ver, c0, gone, had, kys⟩ := a
    simp only at hg hks hkl hkb
    subst hg
    exact act4_h cs ppl al (by omega) hcs n hnl hn (by omega) k hge hz hpn hks (show kys.length ≤ 1000 by omega) (fun c h => by have := hkb c h; omega)
end Go.Proofs.YtenkgipcblfocaaGreat
namespace Go.Proofs.YtenkgipcblfocaaGreat
open Go Go.RowKit Go.Proofs Go.Shelf Go.Ab
theorem hasS_not {l : List Nm} {n : Nm} (h : idxN l n < 0) : n ∉ l := fun hm => by
  have : anyP l.length (hasS l n) = true := by rw [anyS_has]; simpa using hm
  have := (idxP_pos l.length (hasS l n)).2 this
  unfold idxN at h; omega
theorem pplDel_eq (l : List Nm) (i : Nat) : pplDel l i = l.eraseIdx i := (List.eraseIdx_eq_take_drop_succ l i).symm
theorem pplDel_sub (l : List Nm) (i : Nat) : (pplDel l i).Sublist l := by rw [pplDel_eq]; exact List.eraseIdx_sublist l i
theorem keys_sent {a : Alt} {ppl : List Nm} (cl : List Int) (hk : KeysAre a.had a.kys) (hn : ppl.Nodup) : KeysAre (sent a cl ppl).had (sent a cl ppl).kys := by
  have hf : ∀ c, c ∈ (ppl.filter fun n => !a.kys.contains n) ↔ c ∈ ppl ∧ c ∉ a.kys := fun c => by simp [List.mem_filter]
  constructor
  · show (a.kys ++ ppl.filter fun n => !a.kys.contains n).Nodup
    refine List.nodup_append.2 ⟨hk.nd, hn.sublist List.filter_sublist, fun x hx y hy e => ?_⟩
    subst e
    exact ((hf x).1 hy).2 hx
  · intro c
    show c ∈ a.kys ++ (ppl.filter fun n => !a.kys.contains n) ↔ (updAll a.had ppl (a.ver + 1) c).isSome = true
    rw [List.mem_append, hf]
    unfold updAll
    by_cases h : c ∈ ppl
    · rw [if_pos h]
      by_cases h2 : c ∈ a.kys
      · simp [h2]
      · simp [h, h2]
    · rw [if_neg h, ← hk.mem]
      simp [h]
theorem inv_step {m : Nat} {s : Lst} {c : Int} {x : Act} (i : Inv m s) (h : stpE c s x = 0) : Inv (m + 1) (stpS s x) := by
  obtain ⟨ppl, al⟩ := s
  obtain ⟨kind, n, cl⟩ := x
  obtain ⟨hc, hr⟩ := stpE_0 h
  obtain ⟨hk, hn, -, -⟩ := chkE_0 hc
  have i1 := i.al; have i2 := i.pl; have i3 := i.nd; have i4 := i.nm; have i5 := i.ver; have i6 := i.kys
  simp only at hk hn hr i1 i2 i3 i4 i5 i6
  have n12 := nameB_12 hn
  have i5' : ∀ a, a ∈ al → 0 ≤ a.ver ∧ a.ver ≤ ((m + 1 : Nat) : Int) := fun a ha => by have := i5 a ha; omega
  have i6' : ∀ a, a ∈ al → KeysAre a.had a.kys ∧ a.kys.length ≤ 8 * (m + 1) ∧ ∀ c, c ∈ a.kys → c.length ≤ 12 := fun a ha => by
    obtain ⟨h1, h2, h3⟩ := i6 a ha
    exact ⟨h1, by omega, h3⟩
  have hs : ∀ a, (0 ≤ a.ver ∧ a.ver ≤ (m : Int)) → (KeysAre a.had a.kys ∧ a.kys.length ≤ 8 * m ∧ ∀ c, c ∈ a.kys → c.length ≤ 12) → (0 ≤ (sent a cl ppl).ver ∧ (sent a cl ppl).ver ≤ ((m + 1 : Nat) : Int)) ∧ (KeysAre (sent a cl ppl).had (sent a cl ppl).kys ∧ (sent a cl ppl).kys.length ≤ 8 * (m + 1) ∧ ∀ c, c ∈ (sent a cl ppl).kys → c.length ≤ 12) := fun a hv ⟨h1, h2, h3⟩ => by
    refine ⟨⟨by show 0 ≤ a.ver + 1; omega, by show a.ver + 1 ≤ _; omega⟩, keys_sent cl h1 i3, ?_, fun c hc => ?_⟩
    · show (a.kys ++ ppl.filter fun n => !a.kys.contains n).length ≤ _
      have := List.length_filter_le (fun n => !a.kys.contains n) ppl
      rw [List.length_append]; omega
    · rcases List.mem_append.1 hc with h | h
      · exact h3 c h
      · exact i4 c (List.mem_filter.1 h).1
  have hset : ∀ (k : Nat) (b : Alt), ((0 ≤ b.ver ∧ b.ver ≤ ((m + 1 : Nat) : Int)) ∧ (KeysAre b.had b.kys ∧ b.kys.length ≤ 8 * (m + 1) ∧ ∀ c, c ∈ b.kys → c.length ≤ 12)) → Inv (m + 1) (ppl, al.set k b) := fun k b hb => by
    refine ⟨by show (al.set k b).length ≤ _; rw [List.length_set]; omega, i2, i3, i4, fun a ha => ?_, fun a ha => ?_⟩
    · rcases List.mem_or_eq_of_mem_set ha with h | rfl
      · exact i5' a h
      · exact hb.1
    · rcases List.mem_or_eq_of_mem_set ha with h | rfl
      · exact i6' a h
      · exact hb.2
  have hal : ∀ (h : 0 ≤ idxA al n), altA al n ∈ al := fun h => by
    rcases idxP_cases al.length (nmA al n) with ⟨e, _⟩ | ⟨k, hk2, _, _, e⟩
    · unfold idxA at h; omega
    · unfold altA idxA; rw [e, Int.toNat_natCast, getD_at hk2]; exact List.getElem_mem hk2
  rcases hr with ⟨rfl, hi, h8⟩ | ⟨rfl, hi⟩ | ⟨rfl, hi⟩ | ⟨rfl | rfl, hi, hg⟩
  · refine ⟨by show al.length ≤ _; omega, by show (ppl ++ [n]).length ≤ 8; simp; omega, ?_, fun c hc => ?_, i5', i6'⟩
    · show (ppl ++ [n]).Nodup
      refine List.nodup_append.2 ⟨i3, by simp, fun x hx y hy e => ?_⟩
      subst e
      rw [List.mem_singleton] at hy
      subst hy
      exact hasS_not hi hx
    · rcases List.mem_append.1 (show c ∈ ppl ++ [n] from hc) with h | h
      · exact i4 c h
      · rw [List.mem_singleton.1 h]; exact n12
  · have hsub := pplDel_sub ppl (idxN ppl n).toNat
    refine ⟨by show al.length ≤ _; omega, Nat.le_trans hsub.length_le i2, i3.sublist hsub, fun c hc => i4 c (hsub.subset hc), i5', i6'⟩
  · have hb := hs (newA n) ⟨by show (0 : Int) ≤ 0; omega, by show (0 : Int) ≤ m; omega⟩ ⟨⟨List.nodup_nil, fun c => by show c ∈ [] ↔ _; simp [newA]⟩, by show 0 ≤ _; omega, fun c hc => by simp [newA] at hc⟩
    refine ⟨by show (al ++ [_]).length ≤ _; simp; omega, i2, i3, i4, fun a ha => ?_, fun a ha => ?_⟩
    · rcases List.mem_append.1 (show a ∈ al ++ [sent (newA n) cl ppl] from ha) with h | h
      · exact i5' a h
      · rw [List.mem_singleton.1 h]; exact hb.1
    · rcases List.mem_append.1 (show a ∈ al ++ [sent (newA n) cl ppl] from ha) with h | h
      · exact i6' a h
      · rw [List.mem_singleton.1 h]; exact hb.2
  · have ha := hal hi
    exact hset _ _ (hs _ (i5 _ ha) (i6 _ ha))
  · have ha := hal hi
    have h5 := i5' _ ha
    have h6 := i6' _ ha
    exact hset (idxA al n).toNat (goneA (altA al n)) ⟨h5, h6⟩
def runS (l : List Act) : Nat → Lst
  | 0 => ([], [])
  | k + 1 => stpS (runS l k) (l.getD k default)
def runW (l : List Act) : Nat → List (List Nm)
  | 0 => []
  | k + 1 => runW l k ++ [stpW (runS l k) (l.getD k default)]
theorem runW_len (l : List Act) : ∀ k, (runW l k).length = k
  | 0 => rfl
  | k + 1 => by rw [runW, List.length_append, runW_len l k]; rfl
def runE (c : Int) (l : List Act) (i : Nat) : Int := stpE c (runS l i) (l.getD i default)
theorem inv_run {c : Int} {l : List Act} : ∀ {k : Nat}, (∀ i, i < k → runE c l i = 0) → Inv k (runS l k)
  | 0, _ => inv0
  | k + 1, h => inv_step (inv_run fun i hi => h i (by omega)) (h k (by omega))
end Go.Proofs.YtenkgipcblfocaaGreat
namespace Go.Proofs.YtenkgipcblfocaaGreat
open Go Go.RowKit Go.Proofs Go.Shelf Go.Ab
theorem killA_big {d : Nat} (al : List Alt) (hl : al.length ≤ 400) (hd : 1000 ≤ d) : (PT al 1000).map (killA d) = PT al 1000 := by
  refine (List.map_congr_left fun x hx => ?_).trans (List.map_id _)
  rcases PT_mem hx with ⟨_, h⟩ | ⟨j, hj, _, rfl⟩
  · omega
  · exact killA_bx (by omega)
theorem HX_killB {al : List Alt} {q i d : Nat} {B : Blk} (hl : al.length ≤ 400) (hd : 1000 ≤ d) (h : HX al q i = some B) : killB d B = B := by
  obtain ⟨j, a, ha, _, _, ⟨_, rfl⟩ | ⟨_, rfl⟩⟩ := HX_some h
  · rfl
  · have hj := (List.getElem?_eq_some_iff.1 ha).1
    show Blk.box ((bxC (2 * j + 5) a).map (killA d)) = _
    rw [bxC_kill (by omega)]
def lsC (cs : List Cel) (s : Lst) : List FV := [xF cs, .sl s.1.length (strsF s.1), .sl s.2.length (altsF s.2)]
theorem sees_ls {C : Ctx} {N : Nat} {st : St} {cs : List Cel} {s : Lst} (hl : s.2.length ≤ 400) (h0 : st.h 0 = some (.box [.f (xF cs), .ow 1, .ow 2])) (h1 : st.h 1 = some (.row 9 1 s.1.length (strsF s.1))) (h2 : st.h 2 = some (.rowA 166 1 s.2.length (PT s.2 1000))) (hx : ∀ i B, HX s.2 1000 i = some B → st.h i = some B) : Sees C N st (.bx 0 0) (.pt (lsC cs s) 0) :=
  sees_bx h0 ⟨sees_f _, sees_row h1, sees_rowA h2 (sees_alts hl hx), trivial⟩
theorem over_sub {cs : List Cel} {ppl : List Nm} {al : List Alt} (R B1 B2 : Option Blk) : ∀ i B, HB cs ppl al i = some B → Ab.upd (Ab.upd (Ab.upd (HB cs ppl al) 1000 R) 1001 B1) 1001 B2 i = some B := fun i B h => by
  have := HB_lt h
  rw [Ab.upd_other _ _ (by omega), Ab.upd_other _ _ (by omega), Ab.upd_other _ _ (by omega)]
  exact h
theorem over_new {cs : List Cel} {ppl ppl' : List Nm} {al al' : List Alt} (R B1 B2 : Option Blk) : ∀ i, HB cs ppl al i = none → (HB cs ppl' al' i).isSome = true → Ab.upd (Ab.upd (Ab.upd (HB cs ppl al) 1000 R) 1001 B1) 1001 B2 i = none := fun i h h2 => by
  obtain ⟨B, hB⟩ := Option.isSome_iff_exists.1 h2
  have := HB_lt hB
  rw [Ab.upd_other _ _ (by omega), Ab.upd_other _ _ (by omega), Ab.upd_other _ _ (by omega)]
  exact h
set_option maxRecDepth 100000 in
set_option maxHeartbeats 3200000 in
theorem replay_ok (rs : List Int) (o : SkyOk rs) (l : List Act) (hl : l.length ≤ 40) (hcl : ∀ i, i < l.length → (l.getD i default).cells.length ≤ 1000000) (hE : ∀ i, i < l.length → runE (skyC rs).length l i = 0) : Summ Tryz.prog GG 102 [skF rs, .sl l.length (actsF l)] (.tup [.pt (lsC (skyC rs) (runS l l.length)) 0, .sl l.length (listsF (runW l l.length)), iv 0, iv 0]) := by
  have HO := open_ok rs o
  have hbd := skyC_bd o
  have hall : (runS l 0).2.length ≤ 400 := by show 0 ≤ 400; omega
  refine summW Tryz.func102 rfl rfl 58 rfl (by simp) (fun M0 => ?_)
  repeat (first
    | (apply s_boxw (T := 176); exact rfl; exact rfl; exact rfl; exact rfl)
    | (apply s_a TY; exact rfl)
    | (apply s_t; exact rfl; (first | assumption | omega))
    | apply w_seq
    | apply w_region
    | apply s_nil
    | apply t_norm
    | apply w_block
    | apply w_skip
    | (apply w_condF; exact rfl; exact rfl)
    | (apply s_k (HO); exact rfl)
    | (apply s_k1 (first2_1 _ _); exact rfl; (first | assumption | omega | decide))
    | (apply s_k (unless_T _); exact rfl))
  apply w_gh (gh_trans (gh_ownB 0 1 9 1 rfl rfl rfl) (gh_trans (gh_ownB 0 2 166 1 rfl rfl rfl) (gh_trans (gh_rowA 2 (cs := []) rfl) (gh_trans (gh_nx 1000) (gh_own 11 47 1 rfl rfl)))))
  apply w_loop (fun k : Nat => ⟨(Ab.upd (Ab.upd (Ab.upd (Ab.upd (Ab.upd (fun _ => .bot) 10 (.bx 0 0)) 11 (.ow 1000)) 34 (.f (.sl l.length (actsF l)))) 35 (.f (iv l.length))) 36 (.f (iv ((k : Nat) : Int)))), Ab.upd (HB (skyC rs) (runS l k).1 (runS l k).2) 1000 (some (.row 47 1 k (listsF (runW l k)))), 1001⟩) (fun k => k ≤ l.length) (fun k => l.length - k) 0 (Nat.zero_le _) (gh_le ⟨le_upd rfl trivial (le_upd rfl trivial (le_upd rfl trivial (le_upd rfl rfl (le_upd rfl rfl (le_nil _))))), le_baseO rfl rfl trivial (le_HB hall rfl rfl rfl (fun i B h => by obtain ⟨j, a, ha, _⟩ := HX_some h; simp [runS] at ha))⟩)
  intro k hk
  have inv := inv_run (l := l) (k := k) (c := (skyC rs).length) (fun i hi => hE i (by omega))
  have hal := inv.al
  by_cases hc : k < l.length
  · have hx := getD_at hc
    have hcx := hcl k hc
    have hEk : stpE (skyC rs).length (runS l k) (l.getD k default) = 0 := hE k hc
    rw [hx] at hcx hEk
    have HACT := act_ok (skyC rs) (runS l k) k inv (by omega) (by omega) l[k] hcx hEk
    have hall := (inv_step inv hEk).al
    replace hall : (stpS (runS l k) l[k]).2.length ≤ 400 := by omega
    have hS : runS l (k + 1) = stpS (runS l k) l[k] := by rw [runS, hx]
    have hW : runW l (k + 1) = runW l k ++ [stpW (runS l k) l[k]] := by rw [runW, hx]
    repeat (first
    | (refine s_callH HACT (fun _ => rfl) (fun i q h => by cases h) rfl rfl rfl ⟨rfl, trivial, trivial⟩ (over_sub _ _ _) (over_new _ _ _) ?_)
    | (apply s_a TY; exact rfl)
    | (apply s_t; exact rfl; (first | assumption | omega))
    | apply w_seq
    | apply w_region
    | apply s_nil
    | apply t_norm
    | apply k_norm
    | apply w_block
    | apply w_skip
    | (apply w_condT; exact rfl; exact rfl)
    | (apply w_condF; exact rfl; exact rfl)
    | (apply s_c TY; exact rfl; (first | omega | exact ⟨by omega, by (first | with_reducible assumption | ((with_reducible apply actsF_ne); omega) | assumption)⟩))
    | (apply s_m TY; exact rfl; (first | with_reducible assumption | ((with_reducible apply actsF_sub); omega) | exact rfl); exact rfl)
    | (apply s_alloc TY; exact rfl; exact rfl; exact rfl)
    | (apply s_store TY; exact rfl; exact rfl; exact rfl; exact rfl; exact rfl; exact rfl)
    | (apply s_append TY; exact rfl; exact rfl; exact rfl; exact rfl; exact rfl; exact rfl; exact rfl; exact rfl; exact rfl; (unfold maxLen; omega); omega))
    refine ⟨k + 1, by omega, by omega, ?_⟩
    simp only [hS, hW, listsF_snoc]
    exact gh_le ⟨le_upd rfl trivial (le_upd rfl trivial (le_upd rfl trivial (le_upd rfl rfl (le_upd rfl rfl (le_nil _))))), le_baseO rfl rfl trivial (le_HB hall rfl rfl (congrArg (fun z => some (Blk.rowA 166 1 _ z)) (killA_big _ hall (by omega))) (fun i B h => by
      have hb := HX_bd h
      try simp only [St.put]
      repeat (first | exact HX_HB h | exact join_h (HX_HB h) | refine grow_h (by omega) ?_ (HX_killB (by omega) (by omega) h) | refine (Ab.upd_other _ _ (by omega)).trans ?_)))⟩
  · have hkl : k = l.length := by omega
    subst hkl
    repeat (first
    | (apply s_a TY; exact rfl)
    | (apply s_f; exact rfl; (first | assumption | omega))
    | apply w_seq
    | apply w_region
    | apply s_nil
    | apply t_norm
    | apply t_exit
    | apply k_hit
    | apply w_exit
    | apply w_ret
    | (apply w_condF; exact rfl; exact rfl))
    exact lv_ret (ret4 rfl (res_sees rfl (sees_ls (by omega) rfl rfl rfl (fun i B h => by
      have hb := HX_bd h
      try simp only [St.put]
      repeat (first | exact HX_HB h | exact join_h (HX_HB h) | refine grow_h (by omega) ?_ (HX_killB (by omega) (by omega) h) | refine (Ab.upd_other _ _ (by omega)).trans ?_)))) (res_sees rfl (sees_row rfl)) (res_tmp rfl) (res_tmp rfl))
end Go.Proofs.YtenkgipcblfocaaGreat
namespace Go.Proofs.YtenkgipcblfocaaGreat
open Go Go.RowKit Go.Proofs Go.Shelf Go.Ab
set_option maxRecDepth 100000 in
set_option maxHeartbeats 1600000 in
theorem RecipientsOf_ok (rs : List Int) (o : SkyOk rs) (l : List Act) (hl : l.length ≤ 40) (hcl : ∀ i, i < l.length → (l.getD i default).cells.length ≤ 1000000) (hE : ∀ i, i < l.length → runE (skyC rs).length l i = 0) (k : Nat) (hk : k < l.length) (h0 : l[k].kind ≠ 0) (h1 : l[k].kind ≠ 1) : Summ Tryz.prog GG 34 [skF rs, .sl l.length (actsF l), iv ((k : Nat) : Int)] (.tup [listF ((runW l l.length)[k]'(by rw [runW_len]; exact hk)), iv 0]) := by
  have HR := replay_ok rs o l hl hcl hE
  have hw : (listsF (runW l l.length))[((k : Nat) : Int).toNat * 1]? = some (listF ((runW l l.length)[k]'(by rw [runW_len]; exact hk))) := by rw [Int.toNat_natCast]; exact listsF_at (by rw [runW_len]; exact hk)
  have hw2 : (listsF (runW l l.length))[k * 1]? = some (listF ((runW l l.length)[k]'(by rw [runW_len]; exact hk))) := listsF_at (by rw [runW_len]; exact hk)
  have hne : listsF (runW l l.length) ≠ [] := listsF_ne (k := k) (by rw [runW_len]; exact hk)
  generalize (runW l l.length)[k]'(by rw [runW_len]; exact hk) = w at hw hw2 ⊢
  refine summW Tryz.func34 rfl rfl 50 rfl (by simp) (fun M0 => ?_)
  repeat (first
    | (apply s_a TY; exact rfl)
    | (apply s_t; exact rfl; (first | assumption | omega))
    | (apply s_f; exact rfl; (first | assumption | omega))
    | apply w_seq
    | apply w_region
    | apply s_nil
    | apply t_norm
    | apply w_ret
    | apply w_skip
    | (apply w_condF; exact rfl; exact rfl)
    | (apply s_k (HR); exact rfl)
    | (apply s_k1 (first2_1 _ _); exact rfl; (first | assumption | omega | decide))
    | (apply s_k (unless_T _); exact rfl)
    | (apply s_k1 (within_T _ _ _); exact rfl; (first | assumption | omega | decide))
    | (apply s_c TY; exact rfl; (first | omega | exact ⟨by omega, by (first | with_reducible assumption | ((with_reducible apply actsF_ne); omega) | ((with_reducible apply listsF_ne); omega) | assumption)⟩))
    | (apply s_l TY; exact rfl; (first | exact rfl | with_reducible assumption | ((with_reducible apply actsF_f0); omega) | ((with_reducible apply actsF_f1); omega) | ((with_reducible apply actsF_f2); omega) | ((with_reducible apply listsF_at); omega) | assumption)))
  exact lv_ret (ret2 rfl (res_tmp rfl) (res_tmp rfl))
end Go.Proofs.YtenkgipcblfocaaGreat
namespace Go.Proofs.YtenkgipcblfocaaGreat
open Go Go.RowKit Go.Proofs Go.Shelf Go.Ab
structure PtOk (p : Pt) : Prop where
  h : -1000000 ≤ p.height ∧ p.height ≤ 1000000
  t : 0 ≤ p.turn ∧ p.turn ≤ 999999
set_option maxRecDepth 100000 in
set_option maxHeartbeats 1600000 in
theorem turned_fix_ok (pt : Pt) (n : Int) (o : PtOk pt) (h : 0 ≤ n ∧ n ≤ 1000000000000) : Summ Tryz.prog GG 100 [ptF pt, iv n, iv 1] (.tup [ptF ⟨pt.height, turnedZ pt.turn n 1⟩, iv 0]) := by
  have HP := pointErr_s pt
  rw [ptE_0 ⟨o.h, o.t⟩] at HP
  have ho := o.t
  have hz := turnZ_bd n
  have HT := turnAt_s n (by omega)
  refine summW Tryz.func100 rfl rfl 30 rfl (by simp) (fun M0 => ?_)
  repeat (first
    | (apply s_boxw (T := 23); exact rfl; exact rfl; exact rfl; exact rfl)
    | (apply s_a TY; exact rfl)
    | (apply s_t; exact rfl; (first | assumption | omega))
    | apply w_seq
    | apply w_region
    | (apply w_draw (id := 4) 6 rfl (by kernel_rfl))
    | apply s_nil
    | apply t_norm
    | apply w_ret
    | apply w_skip
    | (apply w_condF; exact rfl; exact rfl)
    | (apply s_k (HP); exact rfl)
    | (apply s_k (HT); exact rfl)
    | (apply s_k1 (tickErr_T _); exact rfl; (first | assumption | omega | decide))
    | (apply s_k1 (first2_1 _ _); exact rfl; (first | assumption | omega | decide))
    | (apply s_c TY; exact rfl; omega)
    | (apply s_alloc TY; exact rfl; exact rfl; exact rfl)
    | (apply s_store TY; exact rfl; exact rfl; exact rfl; exact rfl; exact rfl; exact rfl))
  exact lv_ret (ret2 rfl (res_bxs TY rfl rfl rfl rfl rfl) (res_tmp rfl))
set_option maxRecDepth 100000 in
theorem FixedOf_ok (pt : Pt) (n : Int) (o : PtOk pt) (h : 0 ≤ n ∧ n ≤ 1000000000000) : Summ Tryz.prog GG 17 [ptF pt, iv n] (.tup [ptF ⟨pt.height, turnedZ pt.turn n 1⟩, iv 0]) := by
  have HT := turned_fix_ok pt n o h
  refine summW Tryz.func17 rfl rfl 11 rfl (by simp) (fun M0 => ?_)
  repeat (first
    | (apply s_a TY; exact rfl)
    | apply w_seq
    | apply w_region
    | apply s_nil
    | apply t_norm
    | apply w_ret
    | (apply s_k (HT); exact rfl)
    | (apply s_alloc TY; exact rfl; exact rfl; exact rfl)
    | (apply s_store TY; exact rfl; exact rfl; exact rfl; exact rfl; exact rfl; exact rfl))
  exact lv_ret (ret2 rfl (res_bxs TY rfl rfl rfl rfl rfl) (res_tmp rfl))
end Go.Proofs.YtenkgipcblfocaaGreat
namespace Go.Proofs.YtenkgipcblfocaaGreat
open Go Go.RowKit Go.Proofs Go.Shelf Go.Ab
theorem rep_slw {w : World} {M : Nat → Prop} {n : Nat} {v : Value} {cs cs' : List FV} (h : RepF w M v (.sl n cs)) (hl : cs.length = cs'.length) (hc : ∀ (k : Nat) (x x' : FV), cs[k]? = some x → cs'[k]? = some x' → ∀ u, RepF w M u x → RepF w M u x') : RepF w M v (.sl n cs') := by
  cases h with
  | sl a n c cs us h1 h2 h3 h4 h5 =>
    refine RepF.sl a n c cs' us h1 (h2.trans hl) h3 h4 (fun k u x hu hx => ?_)
    have hk : k < cs.length := by rw [hl]; exact (List.getElem?_eq_some_iff.1 hx).1
    exact hc k _ x (List.getElem?_eq_getElem hk) hx u (h5 k u _ hu (List.getElem?_eq_getElem hk))
def nilWL : List FV → List FV → Prop
  | [], [] => True
  | x :: xs, y :: ys => (x = y ∨ (x = .v (.slice none 0 0) ∧ y = .sl 0 [])) ∧ nilWL xs ys
  | _, _ => False
theorem nilWL_len : ∀ {xs ys : List FV}, nilWL xs ys → xs.length = ys.length
  | [], [], _ => rfl
  | _ :: _, _ :: _, h => by simp [nilWL_len h.2]
  | [], _ :: _, h => h.elim
  | _ :: _, [], h => h.elim
theorem nilWL_at {w : World} {M : Nat → Prop} : ∀ {xs ys : List FV}, nilWL xs ys → ∀ (k : Nat) (x x' : FV), xs[k]? = some x → ys[k]? = some x' → ∀ u, RepF w M u x → RepF w M u x'
  | [], [], _, k, x, x', h1, _, _, _ => by simp at h1
  | a :: xs, b :: ys, h, 0, x, x', h1, h2, u, r => by
    simp at h1 h2; subst h1; subst h2
    rcases h.1 with e | ⟨e1, e2⟩
    · rwa [← e]
    · rw [e1] at r; rw [e2]; exact rep_nilsl r
  | a :: xs, b :: ys, h, k + 1, x, x', h1, h2, u, r => nilWL_at h.2 k x x' (by simpa using h1) (by simpa using h2) u r
  | [], _ :: _, h, _, _, _, _, _, _, _ => h.elim
  | _ :: _, [], h, _, _, _, _, _, _, _ => h.elim
theorem summ_slw {g n : Nat} {args cs cs' : List FV} (S : Summ Tryz.prog GG g args (.sl n cs)) (h : nilWL cs cs') : Summ Tryz.prog GG g args (.sl n cs') :=
  ⟨S.enters, fun w M us h1 h2 h3 => (S.call w M us h1 h2 h3).mono fun _ _ ⟨v, q1, q2, q3⟩ => ⟨v, q1, rep_slw q2 (nilWL_len h) (nilWL_at h), q3⟩⟩
def exRs : List Int := [1, 4, 4, 1]
def exM : List Int := [0, 5, 3, 0, 0, 2, 0, 0, 0, 0]
def nAnn : Nm := [97, 110, 110]
def nBob : Nm := [98, 111, 98]
def nX : Nm := [120]
def exActs : List Act := [⟨0, nAnn, []⟩, ⟨2, nX, [1, 2]⟩, ⟨0, nBob, []⟩, ⟨3, nX, [1]⟩, ⟨1, nAnn, []⟩, ⟨4, nX, []⟩]
def exJobs : List Job := [⟨0, 5, 9, 1⟩, ⟨1, 2, 4, 5⟩, ⟨2, 1, 9, 3⟩]
theorem Sky_s : Summ Tryz.prog GG 94 [] (skF exRs) := by
  refine summW Tryz.func94 rfl rfl 3 rfl (by simp) (fun M0 => ?_)
  repeat (first
    | (apply s_a TY; exact rfl)
    | apply w_seq
    | apply w_region
    | apply s_nil
    | apply t_norm
    | apply w_ret
    | (apply s_alloc TY; exact rfl; exact rfl; exact rfl)
    | (apply s_store TY; exact rfl; exact rfl; exact rfl; exact rfl; exact rfl; exact rfl))
  exact lv_ret (ret1 rfl (res_bxs (sub := [.sl exRs.length (intsF exRs)]) TY rfl rfl rfl rfl rfl))
theorem Map_s : Summ Tryz.prog GG 95 [] (skF exM) := by
  refine summW Tryz.func95 rfl rfl 3 rfl (by simp) (fun M0 => ?_)
  repeat (first
    | (apply s_a TY; exact rfl)
    | apply w_seq
    | apply w_region
    | apply s_nil
    | apply t_norm
    | apply w_ret
    | (apply s_alloc TY; exact rfl; exact rfl; exact rfl)
    | (apply s_store TY; exact rfl; exact rfl; exact rfl; exact rfl; exact rfl; exact rfl))
  exact lv_ret (ret1 rfl (res_bxs (sub := [.sl exM.length (intsF exM)]) TY rfl rfl rfl rfl rfl))
theorem Jobs_s : Summ Tryz.prog GG 97 [] (.sl exJobs.length (jobsF exJobs)) := by
  refine summW Tryz.func97 rfl rfl 5 rfl (by simp) (fun M0 => ?_)
  repeat (first
    | (apply s_a TY; exact rfl)
    | apply w_seq
    | apply w_region
    | apply s_nil
    | apply t_norm
    | apply w_ret)
  exact lv_ret (ret1 rfl (res_tmp rfl))
def exActsN : List FV := [iv 0, sv nAnn, .v (.slice none 0 0), iv 2, sv nX, .sl 2 (intsF [1, 2]), iv 0, sv nBob, .v (.slice none 0 0), iv 3, sv nX, .sl 1 (intsF [1]), iv 1, sv nAnn, .v (.slice none 0 0), iv 4, sv nX, .v (.slice none 0 0)]
theorem Acts_n : Summ Tryz.prog GG 96 [] (.sl 6 exActsN) := by
  refine summW Tryz.func96 rfl rfl 10 rfl (by simp) (fun M0 => ?_)
  repeat (first
    | (apply s_a TY; exact rfl)
    | apply w_seq
    | apply w_region
    | apply s_nil
    | apply t_norm
    | apply w_ret)
  exact lv_ret (ret1 rfl (res_tmp rfl))
theorem exActs_w : nilWL exActsN (actsF exActs) := ⟨.inl rfl, .inl rfl, .inr ⟨rfl, rfl⟩, .inl rfl, .inl rfl, .inl rfl, .inl rfl, .inl rfl, .inr ⟨rfl, rfl⟩, .inl rfl, .inl rfl, .inl rfl, .inl rfl, .inl rfl, .inr ⟨rfl, rfl⟩, .inl rfl, .inl rfl, .inr ⟨rfl, rfl⟩, trivial⟩
theorem Acts_s : Summ Tryz.prog GG 96 [] (.sl exActs.length (actsF exActs)) := summ_slw Acts_n exActs_w
theorem exSky : SkyOk exRs := skyOk_of (by decide +kernel)
theorem exMap : MapOk (befK exRs exRs.length) exM := mapOk_of (by decide +kernel)
theorem exReg : regV exM 90 = [1, 2, 5] := by
  have h : (sortedW exM).take (regC (wI exM) (sortedW exM) (wantV exM 90)) = [1, 2, 5] := by decide +kernel
  unfold regV
  rw [h]
  unfold ascL
  refine List.mergeSort_of_pairwise ?_
  decide +kernel
theorem exCell : cellZ exRs 500000 250000 = 2 := by decide +kernel
theorem exTurn : turnedZ 700000 43082 1 = 200000 := by decide +kernel
theorem exJobsOk : JobsOk exJobs := jobsOk_of (by decide +kernel)
theorem exOrder : orderO exJobs = some [1, 0, 2] := by decide +kernel
theorem exRun : ∀ i, i < exActs.length → runE (skyC exRs).length exActs i = 0 := by decide +kernel
theorem runW_at (l : List Act) : ∀ (n i : Nat), i < n → (runW l n)[i]? = some (stpW (runS l i) (l.getD i default))
  | 0, i, h => absurd h (Nat.not_lt_zero i)
  | n + 1, i, h => by
    rw [runW]
    by_cases e : i = n
    · subst e
      rw [List.getElem?_append_right (by rw [runW_len]; exact Nat.le_refl _), runW_len, Nat.sub_self]; rfl
    · rw [List.getElem?_append_left (by rw [runW_len]; omega)]
      exact runW_at l n i (by omega)
theorem exWho : (altA (runS exActs 5).2 nX).kys = [nAnn, nBob] := by decide +kernel
theorem exAsc : ascN [nAnn, nBob] = [nAnn, nBob] := by
  unfold ascN
  refine List.mergeSort_of_pairwise ?_
  decide +kernel
theorem exRec : (runW exActs exActs.length)[5]? = some [nAnn, nBob] := by
  rw [runW_at exActs exActs.length 5 (by decide)]
  show some (ascN (altA (runS exActs 5).2 nX).kys) = _
  rw [exWho, exAsc]
end Go.Proofs.YtenkgipcblfocaaGreat
namespace Go.Proofs.YtenkgipcblfocaaGreat
open Go Go.RowKit Go.Proofs Go.Shelf Go.Ab
theorem stood_pt : Tryz.prog.stoodInHeld 23 = false := by kernel_rfl
theorem fields_pt : Tryz.prog.fieldsOf 23 = #[{ name := "Height", type := 3, offset := 0, embedded := false, tag := "", pkgPath := "", byteOffset := 0 }, { name := "Turn", type := 3, offset := 1, embedded := false, tag := "", pkgPath := "", byteOffset := 8 }] := by kernel_rfl
theorem equalIn_pt (d : Nat) (a b : Pt) (W : World) : (Op.equalIn (d + 2) 23 (.agg #[.int .i64 a.height, .int .i64 a.turn]) (.agg #[.int .i64 b.height, .int .i64 b.turn])).run Tryz.prog W = .ok (decide (a = b)) W := by
  rw [run_equalIn_agg W (d + 1) 23 _ _ (by rw [fields_pt]; exact Tryz.underlying23) stood_pt, fields_pt]
  have e : decide (a = b) = (a.height == b.height && a.turn == b.turn) := by
    cases a; cases b; simp [Pt.mk.injEq]
    try simp [Bool.and_assoc]
    try rfl
  rw [e]
  cases h0 : a.height == b.height <;> cases h1 : a.turn == b.turn <;> simp [Op.eqFields, part, run_equalIn_int W d 3 _ _ _ _ Tryz.underlying3, h0, h1]
theorem guard_pt : Tryz.prog.eqGuardType Tryz.prog.depth 23 = false := by kernel_rfl
theorem eq_pt {x y : Operand} {a b : Pt} {c : Bool} (h : decide (a = b) = c) : ∀ w, (do eqGuard .eql 23 x y (.agg #[.int .i64 a.height, .int .i64 a.turn]) (.agg #[.int .i64 b.height, .int .i64 b.turn]); binOp .eql 23 (.agg #[.int .i64 a.height, .int .i64 a.turn]) (.agg #[.int .i64 b.height, .int .i64 b.turn]) : Sem Value).run Tryz.prog w = .ok (.bool c) w := fun w => by
  have h1 := equalIn_pt 9998 a b w
  rw [h] at h1
  first
  | (simp [eqGuard, run_eql_struct, h1]; done)
  | simp [eqGuard, guard_pt, run_eql_struct, h1]
theorem eqI {x y : Operand} {h1 t1 h2 t2 : Int} {c : Bool} (h : decide ((⟨h1, t1⟩ : Pt) = ⟨h2, t2⟩) = c) : ∀ w, (do eqGuard .eql 23 x y (.agg #[.int .i64 h1, .int .i64 t1]) (.agg #[.int .i64 h2, .int .i64 t2]); binOp .eql 23 (.agg #[.int .i64 h1, .int .i64 t1]) (.agg #[.int .i64 h2, .int .i64 t2]) : Sem Value).run Tryz.prog w = .ok (.bool c) w := eq_pt (a := ⟨h1, t1⟩) (b := ⟨h2, t2⟩) h
set_option maxRecDepth 100000 in
set_option maxHeartbeats 1600000 in
theorem awake_s : Summ Tryz.prog GG 15 [] (.v (.bool true)) := by
  have H1 := Sky_s
  have H2 := CellOf_ok exRs ⟨500000, 250000⟩ exSky (by decide)
  rw [show cellZ exRs (Pt.height ⟨500000, 250000⟩) (Pt.turn ⟨500000, 250000⟩) = 2 from exCell] at H2
  have H3 := Map_s
  have H4 := RegionOf_of exRs exM 90 exSky exMap (by decide) (stab_few (by decide))
  rw [exReg] at H4
  have H5 := FixedOf_ok ⟨7, 700000⟩ 43082 ⟨by decide, by decide⟩ (by decide)
  rw [show turnedZ (Pt.turn ⟨7, 700000⟩) 43082 1 = 200000 from exTurn] at H5
  have H6 := Acts_s
  have H7 := RecipientsOf_ok exRs exSky exActs (by decide) (by decide) exRun 5 (by decide) (by decide) (by decide)
  have hw : (runW exActs exActs.length)[5]'(by rw [runW_len]; decide) = [nAnn, nBob] := by
    have := exRec
    rw [List.getElem?_eq_getElem (by rw [runW_len]; decide)] at this
    exact Option.some.inj this
  rw [hw] at H7
  have H8 := Jobs_s
  have H9 := OrderFor_ok exJobs exJobsOk
  rw [exOrder, show (if (some [(1 : Int), 0, 2]).isSome = true then (0 : Int) else 12) = 0 from rfl] at H9
  have HA := Ints_s [1, 2, 5] [1, 2, 5] (by decide) (by decide)
  rw [decide_eq_true rfl] at HA
  have HB := Ints_s [1, 0, 2] [1, 0, 2] (by decide) (by decide)
  rw [decide_eq_true rfl] at HB
  have HC := Texts_s [nAnn, nBob] [nAnn, nBob] (by decide) (by decide)
  rw [decide_eq_true rfl] at HC
  refine summW Tryz.func15 rfl rfl 81 rfl (by simp) (fun M0 => ?_)
  repeat (first
    | (apply s_bind; exact rfl; exact rfl; exact rfl; exact rfl; exact rfl; exact rfl; exact eqI rfl)
    | (apply s_a TY; exact rfl)
    | (apply s_t; exact rfl; (first | assumption | omega))
    | apply w_seq
    | apply w_region
    | apply s_nil
    | apply t_norm
    | apply w_ret
    | (apply s_k (H1); exact rfl)
    | (apply s_k (H2); exact rfl)
    | (apply s_k (H3); exact rfl)
    | (apply s_k (H4); exact rfl)
    | (apply s_k (H5); exact rfl)
    | (apply s_k (H6); exact rfl)
    | (apply s_k (H7); exact rfl)
    | (apply s_k (H8); exact rfl)
    | (apply s_k (H9); exact rfl)
    | (apply s_k (HA); exact rfl)
    | (apply s_k (HB); exact rfl)
    | (apply s_k (HC); exact rfl)
    | (apply s_alloc TY; exact rfl; exact rfl; exact rfl)
    | (apply s_store TY; exact rfl; exact rfl; exact rfl; exact rfl; exact rfl; exact rfl))
  exact lv_ret (ret1 rfl (res_tmp rfl))
end Go.Proofs.YtenkgipcblfocaaGreat
namespace Go.Proofs.YtenkgipcblfocaaGreat
open Go Go.RowKit Go.Proofs Go.Shelf Go.Ab
end Go.Proofs.YtenkgipcblfocaaGreat
namespace Go.Proofs.YtenkgipcblfocaaGreat
open Go Go.RowKit Go.Proofs Go.Shelf Go.Ab
end Go.Proofs.YtenkgipcblfocaaGreat
namespace Go.Proofs.YtenkgipcblfocaaGreat
open Go Go.RowKit Go.Proofs Go.Shelf Go.Ab
structure CelsOk (cs : List Cel) : Prop where
  len : cs.length ≤ 96
  each : ∀ i (hi : i < cs.length), (1 ≤ cs[i].count ∧ cs[i].count ≤ 12) ∧ (0 ≤ cs[i].index ∧ cs[i].index < cs[i].count) ∧ 0 ≤ cs[i].ring ∧ cs[i].ring ≤ 8
  same : ∀ i j (hi : i < cs.length) (hj : j < cs.length), cs[i].ring = cs[j].ring → cs[i].count = cs[j].count
end Go.Proofs.YtenkgipcblfocaaGreat
namespace Go.Ab
open Go Go.RowKit Go.Shelf Go.Proofs
section
variable {C : Ctx} {N : Nat} {st : St}
variable {ops : Array Oper} {pr : Bool} {K : St → Prop} {rest : List Oper} {d : Option Tmp} {T0 : TypeId} {pos : String} {af : Array Edge} {g : Option (Nat × Bool)}
end
end Go.Ab
namespace Go.Proofs.YtenkgipcblfocaaGreat
open Go Go.RowKit Go.Proofs Go.Shelf Go.Ab
end Go.Proofs.YtenkgipcblfocaaGreat
namespace Go.Proofs.YtenkgipcblfocaaGreat
open Go Go.RowKit Go.Proofs Go.Shelf Go.Ab
end Go.Proofs.YtenkgipcblfocaaGreat
namespace Go.Ab
open Go Go.RowKit Go.Shelf Go.Proofs
section
variable {C : Ctx} {N : Nat}
variable {ops : Array Oper} {pr : Bool} {K : St → Prop} {rest : List Oper} {d : Option Tmp} {T0 : TypeId} {pos : String} {af : Array Edge} {gd : Option (Nat × Bool)} {st : St}
end
theorem opens_arr2 {P : Program} {w : World} {T E : TypeId} {s : Nat} {α : Type} {g : α → List FV} (ht : P.underlying T = some (.array 2 E)) (ct : P.cellsOf T = 2 * s) (cE : P.cellsOf E = s) (h : Opens P w E g) : Opens P w T (fun p : α × α => g p.1 ++ g p.2) := fun H enc base sp hd fuel cs x hx => by
  obtain ⟨xs, n, _, _, hlen, hxl, hf⟩ := DataW.trod_array ht hx
  rw [ct] at hlen
  have go : ∀ i, i < 2 → ∃ a : α, RepL w (fun _ => False) ((cs.drop (i * s)).take s) (g a) ∧ ∀ u ∈ (cs.drop (i * s)).take s, u.oneCell' = true := fun i hi => by
    have e := hf i (by omega)
    have hlt : i < xs.length := by omega
    rw [List.getElem?_eq_getElem hlt, cE] at e
    exact h H enc base sp hd n _ _ e
  obtain ⟨a, r0, q0⟩ := go 0 (by decide)
  obtain ⟨b, r1, q1⟩ := go 1 (by decide)
  rw [Nat.zero_mul, List.drop_zero] at r0 q0
  rw [Nat.one_mul] at r1 q1
  have hs : cs = cs.take s ++ (cs.drop s).take s := by
    have e2 : (cs.drop s).take s = cs.drop s := List.take_of_length_le (by rw [List.length_drop]; omega)
    rw [e2, List.take_append_drop]
  refine ⟨(a, b), ?_, fun u hu => ?_⟩
  · rw [hs]; exact RepL.append r0 r1
  · rw [hs] at hu
    rcases List.mem_append.1 hu with hu | hu
    · exact q0 u hu
    · exact q1 u hu
end Go.Ab
namespace Go.Proofs.YtenkgipcblfocaaGreat
open Go Go.RowKit Go.Proofs Go.Shelf Go.Ab
end Go.Proofs.YtenkgipcblfocaaGreat
namespace Go.Proofs.YtenkgipcblfocaaGreat
open Go Go.RowKit Go.Proofs Go.Shelf Go.Ab
section
variable {C : Ctx} {N : Nat} {st : St}
end
end Go.Proofs.YtenkgipcblfocaaGreat
namespace Go.Proofs.YtenkgipcblfocaaGreat
open Go Go.RowKit Go.Proofs Go.Shelf Go.Ab
end Go.Proofs.YtenkgipcblfocaaGreat
namespace Go.Proofs.YtenkgipcblfocaaGreat
open Go Go.RowKit Go.Proofs Go.Shelf Go.Ab
theorem celsE_of {c : Int} {l : List Int} (h : celsE c l = 0) : (∀ z, z ∈ l → 0 ≤ z ∧ z ≤ c - 1) ∧ l.Pairwise (· < ·) := by
  have hz := celsE_iff.1 h
  have h1 : ∀ i (hi : i < l.length), 0 ≤ l[i] ∧ l[i] ≤ c - 1 := fun i hi => by
    have := hz i hi
    unfold celsX at this
    rw [getD_at hi] at this
    refine Classical.byContradiction fun hn => ?_
    rw [if_pos hn] at this; cases this
  have h2 : ∀ i (hi : i + 1 < l.length), l[i] < l[i + 1] := fun i hi => by
    have := hz (i + 1) hi
    have hi' : i < l.length := by omega
    have hb := h1 (i + 1) hi
    unfold celsX at this
    rw [getD_at hi, if_neg (fun hn => hn hb), Nat.add_sub_cancel, getD_at hi'] at this
    refine Classical.byContradiction fun hn => ?_
    rw [if_pos ⟨by omega, by omega⟩] at this; cases this
  have h3 : ∀ d i (hi : i + d + 1 < l.length), l[i] < l[i + d + 1] := fun d => by
    induction d with
    | zero => exact fun i hi => h2 i hi
    | succ d ih => exact fun i hi => Int.lt_trans (ih i (by omega)) (h2 (i + d + 1) (by omega))
  refine ⟨fun z hz => ?_, List.pairwise_iff_getElem.2 fun i j hi hj hij => ?_⟩
  · obtain ⟨i, hi, rfl⟩ := List.getElem_of_mem hz
    exact h1 i hi
  · obtain ⟨d, rfl⟩ : ∃ d, j = i + d + 1 := ⟨j - i - 1, by omega⟩
    exact h3 d i hj
end Go.Proofs.YtenkgipcblfocaaGreat
namespace Go.Proofs.YtenkgipcblfocaaGreat
open Go Go.RowKit Go.Proofs Go.Shelf Go.Ab
end Go.Proofs.YtenkgipcblfocaaGreat
namespace Go.Proofs.YtenkgipcblfocaaGreat
open Go Go.RowKit Go.Proofs Go.Shelf Go.Ab
end Go.Proofs.YtenkgipcblfocaaGreat
namespace Go.Proofs.YtenkgipcblfocaaGreat
open Go Go.RowKit Go.Proofs Go.Shelf Go.Ab
end Go.Proofs.YtenkgipcblfocaaGreat
namespace Go.Proofs.YtenkgipcblfocaaGreat
open Go Go.RowKit Go.Proofs Go.Shelf Go.Ab
end Go.Proofs.YtenkgipcblfocaaGreat
namespace Go.Proofs.YtenkgipcblfocaaGreat
open Go Go.RowKit Go.Proofs Go.Shelf Go.Ab
end Go.Proofs.YtenkgipcblfocaaGreat
namespace Go.Proofs.YtenkgipcblfocaaGreat
open Go Go.RowKit Go.Proofs Go.Shelf Go.Ab
end Go.Proofs.YtenkgipcblfocaaGreat
namespace Go.Proofs.YtenkgipcblfocaaGreat
open Go Go.RowKit Go.Proofs Go.Shelf Go.Ab
theorem OrdOk.len {l : List Job} {o : List Int} (q : OrdOk l o) : o.length ≤ l.length := by
  have h := pig (n := l.length) (o := o.map Int.toNat) (List.pairwise_map.2 (q.nd.imp_of_mem fun {a b} ha hb hne e => hne (by
    have h1 := q.mem a ha; have h2 := q.mem b hb; omega))) (fun z hz => by
    obtain ⟨y, hy, rfl⟩ := List.mem_map.1 hz
    have := q.mem y hy; omega)
  simpa using h
end Go.Proofs.YtenkgipcblfocaaGreat
namespace Go.Proofs.YtenkgipcblfocaaGreat
open Go Go.RowKit Go.Proofs Go.Shelf Go.Ab
end Go.Proofs.YtenkgipcblfocaaGreat
namespace Go.Proofs.YtenkgipcblfocaaGreat
open Go Go.RowKit Go.Proofs Go.Shelf Go.Ab
set_option maxRecDepth 100000 in
theorem WeightIn_ok (rs m l : List Int) (o : SkyOk rs) (om : MapOk (befK rs rs.length) m) (hl : l.length ≤ 1000) (hc : celsE (befK rs rs.length) l = 0) : Summ Tryz.prog GG 50 [skF rs, skF m, .sl l.length (intsF l)] (.tup [iv (sumI (wI m) l), iv 0]) := by
  have HM := openMap_sky rs m o (by have := om.len; have := skyC_bd o; have := skyC_len o; omega)
  rw [mapChk_ok om] at HM
  have hb := skyC_bd o
  have HC := cellsErr_s (skyC rs) l (by omega) (by omega)
  rw [skyC_len o, hc] at HC
  have HF := first2_s 0 0
  rw [show firstE [0, 0] = 0 by simp [firstE]] at HF
  have hin := (celsE_of hc).1
  have hml := om.len
  have hlc := skyC_len o
  have HW := weight_s m l om hl (fun z hz => by have := hin z hz; omega)
  refine summW Tryz.func50 rfl rfl 28 rfl (by simp) (fun M0 => ?_)
  repeat (first
    | (apply s_a TY; exact rfl)
    | (apply s_t; exact rfl; (first | assumption | omega))
    | apply w_seq
    | apply w_region
    | apply s_nil
    | apply t_norm
    | apply w_ret
    | apply w_skip
    | (apply w_condF; exact rfl; exact rfl)
    | (apply s_k (HM); exact rfl)
    | (apply s_k (HC); exact rfl)
    | (apply s_k (HF); exact rfl)
    | (apply s_k (HW); exact rfl))
  exact lv_ret (ret2 rfl (res_tmp rfl) (res_tmp rfl))
theorem fewC_T (l : List Int) (h : l.length ≤ 120) : Summ Tryz.prog GG 41 [.sl l.length (intsF l)] (.v (.bool true)) := by
  refine summW Tryz.func41 rfl rfl 6 rfl (by simp) (fun M0 => ?_)
  repeat (first
    | (apply s_a TY; exact rfl)
    | (apply s_t; exact rfl; (first | assumption | omega))
    | apply w_seq
    | apply w_region
    | apply s_nil
    | apply t_norm
    | apply w_ret)
  exact lv_ret (ret1 rfl (res_tmp rfl))
theorem fewC_F (l : List Int) (h : 120 < l.length) : Summ Tryz.prog GG 41 [.sl l.length (intsF l)] (.v (.bool false)) := by
  refine summW Tryz.func41 rfl rfl 6 rfl (by simp) (fun M0 => ?_)
  repeat (first
    | (apply s_a TY; exact rfl)
    | (apply s_f; exact rfl; (first | assumption | omega))
    | apply w_seq
    | apply w_region
    | apply s_nil
    | apply t_norm
    | apply w_ret)
  exact lv_ret (ret1 rfl (res_tmp rfl))
end Go.Proofs.YtenkgipcblfocaaGreat
namespace Go.Proofs.YtenkgipcblfocaaGreat
open Go Go.RowKit Go.Proofs Go.Shelf Go.Ab
theorem sumI_idx (w : Int → Int) (k : Nat) : sumI w (idxL (k + 1)) = sumI w (idxL k) + w k := by
  rw [idxL_succ, sumI_app, sumI, sumI]; omega
theorem contains_mem {l : List Int} {z : Int} : l.contains z = decide (z ∈ l) := by simp
theorem ascL_asc {L : List Int} (h : L.Nodup) : (ascL L).Pairwise (· < ·) := by
  have hp : (ascL L).Pairwise fun a b => decide (a ≤ b) = true := List.pairwise_mergeSort (fun a b c h1 h2 => by
    rw [decide_eq_true_eq] at *; omega) (fun a b => by rw [Bool.or_eq_true, decide_eq_true_eq, decide_eq_true_eq]; omega) L
  have hn : (ascL L).Pairwise fun a b => a ≠ b := (List.mergeSort_perm L _).nodup_iff.2 h
  exact (hp.and hn).imp fun h => by
    have := of_decide_eq_true h.1
    have := h.2
    omega
end Go.Proofs.YtenkgipcblfocaaGreat
namespace Go.Proofs.YtenkgipcblfocaaGreat
open Go Go.RowKit Go.Proofs Go.Shelf Go.Ab
def joinK (a b : List Int) : Nat → List Int
  | 0 => []
  | k + 1 => joinK a b k ++ [wI a k * wI b k]
theorem joinK_len (a b : List Int) : ∀ k, (joinK a b k).length = k
  | 0 => rfl
  | k + 1 => by rw [joinK, List.length_append, joinK_len a b k]; rfl
theorem joinK_at (a b : List Int) : ∀ {n i : Nat}, i < n → (joinK a b n).getD i default = wI a i * wI b i
  | 0, i, h => absurd h (Nat.not_lt_zero i)
  | n + 1, i, h => by
    have hl := joinK_len a b n
    rw [joinK]
    by_cases e : i = n
    · subst e
      rw [List.getD_eq_getElem?_getD, List.getElem?_append_right (by omega), hl]; simp
    · rw [List.getD_eq_getElem?_getD, List.getElem?_append_left (by omega), ← List.getD_eq_getElem?_getD, joinK_at a b (show i < n by omega)]
def joinM (a b : List Int) : Int := maxG (joinK a b a.length) (a.length - 1)
def joinE (a b : List Int) : Int := if 1000000 < joinM a b then 8 else if 0 < joinM a b then 0 else 11
def joinR (a b : List Int) : List Int := if joinE a b = 0 then joinK a b a.length else []
theorem wprod_bd {n n' : Int} {a b : List Int} (oa : MapOk n a) (ob : MapOk n' b) (hl : b.length = a.length) {i : Nat} (h : i < a.length) : 0 ≤ wI a i * wI b i ∧ wI a i * wI b i ≤ 1000000 * 1000000 :=
  mul_nn (wI_bd oa (z := (i : Int)) (by omega)) (wI_bd ob (z := (i : Int)) (by omega))
theorem joinM_nn {n n' : Int} {a b : List Int} (oa : MapOk n a) (ob : MapOk n' b) (hl : b.length = a.length) (h1 : 1 ≤ a.length) : 0 ≤ joinM a b := by
  obtain ⟨i, h2, h3⟩ := maxG_in (m := joinK a b a.length) (k := a.length - 1)
  unfold joinM
  rw [← h3, joinK_at a b (by omega)]
  exact (wprod_bd oa ob hl (by omega)).1
theorem joinM_le {a b : List Int} (h1 : 1 ≤ a.length) (hw : ∀ i, i < a.length → ¬ 1000000 < wI a i * wI b i) : ¬ 1000000 < joinM a b := by
  obtain ⟨i, h2, h3⟩ := maxG_in (m := joinK a b a.length) (k := a.length - 1)
  have := hw i (by omega)
  unfold joinM
  rw [← h3, joinK_at a b (by omega)]
  exact this
def joinP (a b : List Int) : Nat → Bool
  | 0 => false
  | k + 1 => joinP a b k || decide (0 < wI a k * wI b k)
theorem joinP_iff {a b : List Int} : ∀ {k : Nat}, joinP a b k = true ↔ ∃ i : Nat, i < k ∧ 0 < wI a i * wI b i
  | 0 => by simp [joinP]
  | k + 1 => by
    rw [joinP, Bool.or_eq_true, joinP_iff, decide_eq_true_eq]
    constructor
    · rintro (⟨i, h1, h2⟩ | h)
      · exact ⟨i, by omega, h2⟩
      · exact ⟨k, by omega, h⟩
    · rintro ⟨i, h1, h2⟩
      by_cases e : i = k
      · subst e; exact .inr h2
      · exact .inl ⟨i, by omega, h2⟩
theorem joinM_pos {a b : List Int} (h1 : 1 ≤ a.length) : 0 < joinM a b ↔ joinP a b a.length = true := by
  unfold joinM
  rw [maxG_pos, joinP_iff]
  constructor
  · rintro ⟨i, h2, h3⟩
    rw [joinK_at a b (by omega)] at h3
    exact ⟨i, by omega, h3⟩
  · rintro ⟨i, h2, h3⟩
    exact ⟨i, by omega, by rw [joinK_at a b h2]; exact h3⟩
theorem joinE_0 {a b : List Int} (h1 : 1 ≤ a.length) (hw : ∀ i, i < a.length → ¬ 1000000 < wI a i * wI b i) (hp : joinP a b a.length = true) : joinE a b = 0 := by
  unfold joinE
  rw [if_neg (joinM_le h1 hw), if_pos ((joinM_pos h1).2 hp)]
theorem joinR_0 {a b : List Int} (h : joinE a b = 0) : joinR a b = joinK a b a.length := if_pos h
theorem joinR_e {a b : List Int} (h : ¬ joinE a b = 0) : joinR a b = [] := if_neg h
theorem rep_nilag {w : World} {M : Nat → Prop} {v : Value} (h : RepF w M v (.agg [.v (.slice none 0 0)])) : RepF w M v (.agg [.sl 0 []]) := by
  cases h with
  | agg cs us hl ho hr =>
    refine RepF.agg _ us (by simpa using hl) ho (fun k u x a b => ?_)
    match k with
    | 0 => simp at b; subst b; exact rep_nilsl (hr 0 u _ a rfl)
    | k + 1 => simp at b
theorem summ_nilag {g : Nat} {args : List FV} {y : FV} (S : Summ Tryz.prog GG g args (.tup [.agg [.v (.slice none 0 0)], y])) : Summ Tryz.prog GG g args (.tup [skF [], y]) :=
  ⟨S.enters, fun w M us h1 h2 h3 => (S.call w M us h1 h2 h3).mono fun _ _ ⟨v, q1, q2, q3⟩ => ⟨v, q1, by
    cases q2 with
    | tup cs us hl hr =>
      refine RepF.tup _ us (by simpa using hl) (fun k u x a b => ?_)
      match k with
      | 0 => simp at b; subst b; exact rep_nilag (hr 0 u _ a rfl)
      | 1 => simp at b; subst b; exact hr 1 u _ a rfl
      | k + 2 => simp at b, q3⟩⟩
set_option maxRecDepth 100000 in
set_option maxHeartbeats 3200000 in
theorem Joined_of (rs a b : List Int) (o : SkyOk rs) (oa : MapOk (befK rs rs.length) a) (ob : MapOk (befK rs rs.length) b) : Summ Tryz.prog GG 44 [skF rs, skF a, skF b] (.tup [skF (joinR a b), iv (joinE a b)]) := by
  have hcl := skyC_len o
  have hcb := skyC_bd o
  have hal : a.length = (skyC rs).length := by have := oa.len; omega
  have hbl : b.length = a.length := by have := oa.len; have := ob.len; omega
  have HO := openMap_sky rs a o (by omega)
  rw [mapChk_ok oa] at HO
  have HM := mapErr_sky rs b o (by omega)
  rw [mapChk_ok ob] at HM
  have hjl := joinK_len a b a.length
  have hnn := joinM_nn oa ob hbl (by omega)
  have HX := Max_s (joinK a b a.length) (by omega) (by omega)
  rw [show maxG (joinK a b a.length) ((joinK a b a.length).length - 1) = joinM a b by rw [hjl]; rfl] at HX
  have HW := isWeight_s (joinM a b)
  have HF := first2_s (unlessE (withinB (joinM a b) 0 1000000) 8) (if 0 < joinM a b then 0 else 11)
  have HU1 := unless_s (withinB (joinM a b) 0 1000000) 8
  have hE : firstE [unlessE (withinB (joinM a b) 0 1000000) 8, if 0 < joinM a b then 0 else 11] = joinE a b := by
    unfold joinE unlessE withinB
    by_cases h1 : 1000000 < joinM a b
    · rw [if_pos h1, decide_eq_true hnn, decide_eq_false (show ¬ joinM a b ≤ 1000000 by omega)]; rfl
    · rw [if_neg h1, decide_eq_true hnn, decide_eq_true (show joinM a b ≤ 1000000 by omega)]
      by_cases h2 : 0 < joinM a b
      · rw [if_pos h2]; rfl
      · rw [if_neg h2]; rfl
  rw [hE] at HF
  by_cases he : joinE a b = 0
  · have hpos : 0 < joinM a b := by
      refine Classical.byContradiction fun h => ?_
      unfold joinE at he
      rw [if_neg h] at he
      split at he <;> cases he
    have HU2 := unless_T 11
    rw [joinR_0 he, he]
    rw [he, if_pos hpos] at HF
    refine summW Tryz.func44 rfl rfl 70 rfl (by simp) (fun M0 => ?_)
    repeat (first
    | (apply s_a TY; exact rfl)
    | (apply s_t; exact rfl; (first | assumption | omega))
    | apply w_seq
    | apply w_region
    | apply s_nil
    | apply t_norm
    | apply w_block
    | apply w_skip
    | (apply w_condT; exact rfl; exact rfl)
    | (apply w_condF; exact rfl; exact rfl)
    | (apply s_k (HO); exact rfl)
    | (apply s_k (HM); exact rfl)
    | (apply s_alloc TY; exact rfl; exact rfl; exact rfl))
    apply w_gh (gh_ownB 1 0 3 1 rfl rfl rfl)
    apply w_loop (fun k : Nat => ⟨(Ab.upd (Ab.upd (Ab.upd (Ab.upd (Ab.upd (Ab.upd (fun _ => .bot) 5 (.f (.pt [.sl b.length (intsF b)] 0))) 6 (.bx 0 0)) 10 (.bx 1 0)) 34 (.f (.sl a.length (intsF a)))) 35 (.f (iv a.length))) 36 (.f (iv ((k : Nat) : Int)))), (Ab.upd (Ab.upd (Ab.upd (fun _ => none) 0 (some (.box [.f (.v (.slice none 0 0))]))) 1 (some (.box [.ow 2]))) 2 (some (.row 3 1 (joinK a b k).length (intsF (joinK a b k))))), 3⟩) (fun k => k ≤ a.length) (fun k => a.length - k) 0 (Nat.zero_le _) (gh_le ⟨le_upd rfl trivial (le_upd rfl trivial (le_upd rfl trivial (le_upd rfl rfl (le_upd rfl rfl (le_upd rfl trivial (le_nil _)))))), le_hupd rfl trivial (le_hupd rfl (fun y hy => by simp at hy; subst hy; first | trivial | rfl) (le_hupd rfl (fun y hy => by simp at hy; subst hy; first | trivial | rfl) (le_h0 _ _)))⟩)
    intro k hk
    have hkl := joinK_len a b k
    by_cases hc : k < a.length
    · have hpb := wprod_bd oa ob hbl hc
      have hat : (intsF a)[k * 1]? = some (iv (wI a (k : Int))) := wI_at (z := (k : Int)) (by omega)
      have hat2 : (intsF b)[k * 1]? = some (iv (wI b (k : Int))) := wI_at (z := (k : Int)) (by omega)
      have hne : intsF a ≠ [] := intsF_ne hc
      have hne2 : intsF b ≠ [] := intsF_ne (k := k) (by omega)
      have hrow : some (Blk.row 3 1 ((joinK a b k).length + 1) (intsF (joinK a b k) ++ [iv (wI a (k : Int) * wI b (k : Int))])) = some (Blk.row 3 1 (joinK a b (k + 1)).length (intsF (joinK a b (k + 1)))) := by rw [joinK, intsF_snoc, List.length_append]; rfl
      repeat (first
    | (apply s_append TY; exact rfl; exact rfl; exact rfl; exact rfl; exact rfl; exact rfl; exact rfl; exact rfl; exact rfl; (unfold maxLen; omega); omega)
    | (apply s_a TY; exact rfl)
    | (apply s_t; exact rfl; (first | assumption | omega))
    | apply w_seq
    | apply w_region
    | (apply w_draw (id := 10) 10 rfl (by kernel_rfl))
    | apply s_nil
    | apply t_norm
    | apply k_norm
    | apply w_block
    | apply w_skip
    | (apply w_condT; exact rfl; exact rfl)
    | (apply s_c TY; exact rfl; (first | omega | exact ⟨by omega, by (first | with_reducible assumption | ((with_reducible apply intsF_ne); omega) | assumption)⟩))
    | (apply s_l TY; exact rfl; (first | exact rfl | with_reducible assumption | ((with_reducible apply intsF_at); omega) | assumption))
    | (apply s_store TY; exact rfl; exact rfl; exact rfl; exact rfl; exact rfl; exact rfl))
      exact ⟨k + 1, by omega, by omega, gh_le ⟨le_upd rfl trivial (le_upd rfl trivial (le_upd rfl trivial (le_upd rfl rfl (le_upd rfl rfl (le_upd rfl trivial (le_nil _)))))), le_hupd hrow trivial (le_hupd rfl (fun y hy => by simp at hy; subst hy; first | trivial | rfl) (le_hupd rfl (fun y hy => by simp at hy; subst hy; first | trivial | rfl) (le_h0 _ _)))⟩⟩
    · have hke : k = a.length := by omega
      subst hke
      apply w_gh (gh_row 2 rfl)
      repeat (first
    | (apply s_a TY; exact rfl)
    | (apply s_t; exact rfl; (first | assumption | omega))
    | (apply s_f; exact rfl; (first | assumption | omega))
    | apply w_seq
    | apply w_region
    | apply s_nil
    | apply t_norm
    | apply t_exit
    | apply k_hit
    | apply w_exit
    | apply w_ret
    | apply w_skip
    | (apply w_condF; exact rfl; exact rfl)
    | (apply s_k (HX); exact rfl)
    | (apply s_k (HW); exact rfl)
    | (apply s_k (HU1); exact rfl)
    | (apply s_k (HU2); exact rfl)
    | (apply s_k (HF); exact rfl)
    | (apply s_store TY; exact rfl; exact rfl; exact rfl; exact rfl; exact rfl; exact rfl))
      exact lv_ret (ret2 rfl (res_bxs (sub := [.sl (joinK a b a.length).length (intsF (joinK a b a.length))]) TY rfl rfl rfl rfl rfl) (res_tmp rfl))
  · rw [joinR_e he]
    apply summ_nilag
    by_cases hpos : 0 < joinM a b
    · rw [if_pos hpos] at HF
      have HU2 := unless_T 11
      refine summW Tryz.func44 rfl rfl 70 rfl (by simp) (fun M0 => ?_)
      repeat (first
    | (apply s_a TY; exact rfl)
    | (apply s_t; exact rfl; (first | assumption | omega))
    | apply w_seq
    | apply w_region
    | apply s_nil
    | apply t_norm
    | apply w_block
    | apply w_skip
    | (apply w_condT; exact rfl; exact rfl)
    | (apply w_condF; exact rfl; exact rfl)
    | (apply s_k (HO); exact rfl)
    | (apply s_k (HM); exact rfl)
    | (apply s_alloc TY; exact rfl; exact rfl; exact rfl))
      apply w_gh (gh_ownB 1 0 3 1 rfl rfl rfl)
      apply w_loop (fun k : Nat => ⟨(Ab.upd (Ab.upd (Ab.upd (Ab.upd (Ab.upd (Ab.upd (fun _ => .bot) 5 (.f (.pt [.sl b.length (intsF b)] 0))) 6 (.bx 0 0)) 10 (.bx 1 0)) 34 (.f (.sl a.length (intsF a)))) 35 (.f (iv a.length))) 36 (.f (iv ((k : Nat) : Int)))), (Ab.upd (Ab.upd (Ab.upd (fun _ => none) 0 (some (.box [.f (.v (.slice none 0 0))]))) 1 (some (.box [.ow 2]))) 2 (some (.row 3 1 (joinK a b k).length (intsF (joinK a b k))))), 3⟩) (fun k => k ≤ a.length) (fun k => a.length - k) 0 (Nat.zero_le _) (gh_le ⟨le_upd rfl trivial (le_upd rfl trivial (le_upd rfl trivial (le_upd rfl rfl (le_upd rfl rfl (le_upd rfl trivial (le_nil _)))))), le_hupd rfl trivial (le_hupd rfl (fun y hy => by simp at hy; subst hy; first | trivial | rfl) (le_hupd rfl (fun y hy => by simp at hy; subst hy; first | trivial | rfl) (le_h0 _ _)))⟩)
      intro k hk
      have hkl := joinK_len a b k
      by_cases hc : k < a.length
      · have hpb := wprod_bd oa ob hbl hc
        have hat : (intsF a)[k * 1]? = some (iv (wI a (k : Int))) := wI_at (z := (k : Int)) (by omega)
        have hat2 : (intsF b)[k * 1]? = some (iv (wI b (k : Int))) := wI_at (z := (k : Int)) (by omega)
        have hne : intsF a ≠ [] := intsF_ne hc
        have hne2 : intsF b ≠ [] := intsF_ne (k := k) (by omega)
        have hrow : some (Blk.row 3 1 ((joinK a b k).length + 1) (intsF (joinK a b k) ++ [iv (wI a (k : Int) * wI b (k : Int))])) = some (Blk.row 3 1 (joinK a b (k + 1)).length (intsF (joinK a b (k + 1)))) := by rw [joinK, intsF_snoc, List.length_append]; rfl
        repeat (first
    | (apply s_append TY; exact rfl; exact rfl; exact rfl; exact rfl; exact rfl; exact rfl; exact rfl; exact rfl; exact rfl; (unfold maxLen; omega); omega)
    | (apply s_a TY; exact rfl)
    | (apply s_t; exact rfl; (first | assumption | omega))
    | apply w_seq
    | apply w_region
    | (apply w_draw (id := 10) 10 rfl (by kernel_rfl))
    | apply s_nil
    | apply t_norm
    | apply k_norm
    | apply w_block
    | apply w_skip
    | (apply w_condT; exact rfl; exact rfl)
    | (apply s_c TY; exact rfl; (first | omega | exact ⟨by omega, by (first | with_reducible assumption | ((with_reducible apply intsF_ne); omega) | assumption)⟩))
    | (apply s_l TY; exact rfl; (first | exact rfl | with_reducible assumption | ((with_reducible apply intsF_at); omega) | assumption))
    | (apply s_store TY; exact rfl; exact rfl; exact rfl; exact rfl; exact rfl; exact rfl))
        exact ⟨k + 1, by omega, by omega, gh_le ⟨le_upd rfl trivial (le_upd rfl trivial (le_upd rfl trivial (le_upd rfl rfl (le_upd rfl rfl (le_upd rfl trivial (le_nil _)))))), le_hupd hrow trivial (le_hupd rfl (fun y hy => by simp at hy; subst hy; first | trivial | rfl) (le_hupd rfl (fun y hy => by simp at hy; subst hy; first | trivial | rfl) (le_h0 _ _)))⟩⟩
      · have hke : k = a.length := by omega
        subst hke
        apply w_gh (gh_row 2 rfl)
        repeat (first
    | (apply s_a TY; exact rfl)
    | (apply s_t; exact rfl; (first | assumption | omega))
    | (apply s_f; exact rfl; (first | assumption | omega))
    | apply w_seq
    | apply w_region
    | apply s_nil
    | apply t_norm
    | apply t_exit
    | apply t_ret
    | apply k_hit
    | apply w_exit
    | apply w_ret
    | (apply w_condT; exact rfl; exact rfl)
    | (apply w_condF; exact rfl; exact rfl)
    | (apply s_k (HX); exact rfl)
    | (apply s_k (HW); exact rfl)
    | (apply s_k (HU1); exact rfl)
    | (apply s_k (HU2); exact rfl)
    | (apply s_k (HF); exact rfl)
    | (apply s_store TY; exact rfl; exact rfl; exact rfl; exact rfl; exact rfl; exact rfl))
        exact lv_ret (ret2 rfl (res_bxs (sub := [.v (.slice none 0 0)]) TY rfl rfl rfl rfl rfl) (res_tmp rfl))
    · rw [if_neg hpos] at HF
      have HU2 := unless_F 11
      refine summW Tryz.func44 rfl rfl 70 rfl (by simp) (fun M0 => ?_)
      repeat (first
    | (apply s_a TY; exact rfl)
    | (apply s_t; exact rfl; (first | assumption | omega))
    | apply w_seq
    | apply w_region
    | apply s_nil
    | apply t_norm
    | apply w_block
    | apply w_skip
    | (apply w_condT; exact rfl; exact rfl)
    | (apply w_condF; exact rfl; exact rfl)
    | (apply s_k (HO); exact rfl)
    | (apply s_k (HM); exact rfl)
    | (apply s_alloc TY; exact rfl; exact rfl; exact rfl))
      apply w_gh (gh_ownB 1 0 3 1 rfl rfl rfl)
      apply w_loop (fun k : Nat => ⟨(Ab.upd (Ab.upd (Ab.upd (Ab.upd (Ab.upd (Ab.upd (fun _ => .bot) 5 (.f (.pt [.sl b.length (intsF b)] 0))) 6 (.bx 0 0)) 10 (.bx 1 0)) 34 (.f (.sl a.length (intsF a)))) 35 (.f (iv a.length))) 36 (.f (iv ((k : Nat) : Int)))), (Ab.upd (Ab.upd (Ab.upd (fun _ => none) 0 (some (.box [.f (.v (.slice none 0 0))]))) 1 (some (.box [.ow 2]))) 2 (some (.row 3 1 (joinK a b k).length (intsF (joinK a b k))))), 3⟩) (fun k => k ≤ a.length) (fun k => a.length - k) 0 (Nat.zero_le _) (gh_le ⟨le_upd rfl trivial (le_upd rfl trivial (le_upd rfl trivial (le_upd rfl rfl (le_upd rfl rfl (le_upd rfl trivial (le_nil _)))))), le_hupd rfl trivial (le_hupd rfl (fun y hy => by simp at hy; subst hy; first | trivial | rfl) (le_hupd rfl (fun y hy => by simp at hy; subst hy; first | trivial | rfl) (le_h0 _ _)))⟩)
      intro k hk
      have hkl := joinK_len a b k
      by_cases hc : k < a.length
      · have hpb := wprod_bd oa ob hbl hc
        have hat : (intsF a)[k * 1]? = some (iv (wI a (k : Int))) := wI_at (z := (k : Int)) (by omega)
        have hat2 : (intsF b)[k * 1]? = some (iv (wI b (k : Int))) := wI_at (z := (k : Int)) (by omega)
        have hne : intsF a ≠ [] := intsF_ne hc
        have hne2 : intsF b ≠ [] := intsF_ne (k := k) (by omega)
        have hrow : some (Blk.row 3 1 ((joinK a b k).length + 1) (intsF (joinK a b k) ++ [iv (wI a (k : Int) * wI b (k : Int))])) = some (Blk.row 3 1 (joinK a b (k + 1)).length (intsF (joinK a b (k + 1)))) := by rw [joinK, intsF_snoc, List.length_append]; rfl
        repeat (first
    | (apply s_append TY; exact rfl; exact rfl; exact rfl; exact rfl; exact rfl; exact rfl; exact rfl; exact rfl; exact rfl; (unfold maxLen; omega); omega)
    | (apply s_a TY; exact rfl)
    | (apply s_t; exact rfl; (first | assumption | omega))
    | apply w_seq
    | apply w_region
    | (apply w_draw (id := 10) 10 rfl (by kernel_rfl))
    | apply s_nil
    | apply t_norm
    | apply k_norm
    | apply w_block
    | apply w_skip
    | (apply w_condT; exact rfl; exact rfl)
    | (apply s_c TY; exact rfl; (first | omega | exact ⟨by omega, by (first | with_reducible assumption | ((with_reducible apply intsF_ne); omega) | assumption)⟩))
    | (apply s_l TY; exact rfl; (first | exact rfl | with_reducible assumption | ((with_reducible apply intsF_at); omega) | assumption))
    | (apply s_store TY; exact rfl; exact rfl; exact rfl; exact rfl; exact rfl; exact rfl))
        exact ⟨k + 1, by omega, by omega, gh_le ⟨le_upd rfl trivial (le_upd rfl trivial (le_upd rfl trivial (le_upd rfl rfl (le_upd rfl rfl (le_upd rfl trivial (le_nil _)))))), le_hupd hrow trivial (le_hupd rfl (fun y hy => by simp at hy; subst hy; first | trivial | rfl) (le_hupd rfl (fun y hy => by simp at hy; subst hy; first | trivial | rfl) (le_h0 _ _)))⟩⟩
      · have hke : k = a.length := by omega
        subst hke
        apply w_gh (gh_row 2 rfl)
        repeat (first
    | (apply s_a TY; exact rfl)
    | (apply s_f; exact rfl; (first | assumption | omega))
    | apply w_seq
    | apply w_region
    | apply s_nil
    | apply t_norm
    | apply t_exit
    | apply t_ret
    | apply k_hit
    | apply w_exit
    | apply w_ret
    | (apply w_condT; exact rfl; exact rfl)
    | (apply w_condF; exact rfl; exact rfl)
    | (apply s_k (HX); exact rfl)
    | (apply s_k (HW); exact rfl)
    | (apply s_k (HU1); exact rfl)
    | (apply s_k (HU2); exact rfl)
    | (apply s_k (HF); exact rfl)
    | (apply s_store TY; exact rfl; exact rfl; exact rfl; exact rfl; exact rfl; exact rfl))
        exact lv_ret (ret2 rfl (res_bxs (sub := [.v (.slice none 0 0)]) TY rfl rfl rfl rfl rfl) (res_tmp rfl))
end Go.Proofs.YtenkgipcblfocaaGreat
namespace Go.Proofs.YtenkgipcblfocaaGreat
open Go Go.RowKit Go.Proofs Go.Shelf Go.Ab
theorem regV_len (m : List Int) (pct : Int) {n : Int} (_o : MapOk n m) : (regV m pct).length ≤ m.length := by
  have h1 : (regV m pct).length = ((sortedW m).take (regC (wI m) (sortedW m) (wantV m pct))).length := (List.mergeSort_perm _ _).length_eq
  have h2 : (sortedW m).length = m.length := by unfold sortedW; rw [sortO_len, idxL_len]
  rw [h1, List.length_take]
  omega
theorem Ints_same (a : List Int) (ha : a.length ≤ 1000000) : Summ Tryz.prog GG 46 [.sl a.length (intsF a), .sl a.length (intsF a)] (.v (.bool true)) := by
  have h := Ints_s a a ha ha
  rwa [decide_eq_true rfl] at h
end Go.Proofs.YtenkgipcblfocaaGreat
namespace Go.Proofs.YtenkgipcblfocaaGreat
open Go Go.RowKit Go.Proofs Go.Shelf Go.Ab
theorem celsE_asc {c : Int} {l : List Int} (h : ∀ z, z ∈ l → 0 ≤ z ∧ z ≤ c - 1) (hp : l.Pairwise (· < ·)) : celsE c l = 0 := celsE_0 fun i hi => by
  have h1 := h _ (List.getElem_mem hi)
  unfold celsX
  rw [getD_at hi, if_neg (fun hn => hn h1), if_neg]
  rintro ⟨h2, h3⟩
  rw [getD_at (show i - 1 < l.length by omega)] at h3
  have := List.pairwise_iff_getElem.1 hp (i - 1) i (by omega) hi (by omega)
  omega
def allW (m : List Int) : Int := sumI (wI m) (idxL m.length)
theorem allW_bd {n : Int} {m : List Int} (o : MapOk n m) : 0 ≤ allW m ∧ allW m ≤ 1000000 * (m.length : Int) := by
  have h := sumW_bd o (l := idxL m.length) (fun z hz => idxL_mem.1 hz) (Nat.le_refl _)
  rw [List.take_length, idxL_len] at h
  exact h
theorem sumI_mem_le {f : Int → Int} {l : List Int} {a : Int} (h : a ∈ l) (hn : ∀ z, z ∈ l → 0 ≤ f z) : f a ≤ sumI f l := by
  rw [sumI_erase h]
  have := sumI_nn (f := f) (X := l.erase a) fun z hz => hn z (List.mem_of_mem_erase hz)
  omega
theorem allW_pos {n : Int} {m : List Int} (o : MapOk n m) : 0 < allW m := by
  obtain ⟨i, hi, hw⟩ := o.some
  have h := sumI_mem_le (f := wI m) (l := idxL m.length) (a := (i : Int)) (idxL_mem.2 (by omega)) fun z hz => (wI_bd o (idxL_mem.1 hz)).1
  have e : wI m (i : Int) = m.getD i default := rfl
  unfold allW
  omega
section
variable {n : Int} {m : List Int}
theorem sw_of (m : List Int) : SortW (wI m) m.length (sortedW m) := SortW.of_sortO m.length
theorem sumS (m : List Int) : sumI (wI m) (sortedW m) = allW m := sumI_perm (sortO_perm _)
def regT (m : List Int) (p : Int) : List Int := (sortedW m).take (regC (wI m) (sortedW m) (wantV m p))
theorem regV_mem {p z : Int} : z ∈ regV m p ↔ z ∈ regT m p := (List.mergeSort_perm _ _).mem_iff
theorem regV_sum {p : Int} : sumI (wI m) (regV m p) = sumI (wI m) (regT m p) := sumI_perm (List.mergeSort_perm _ _)
theorem regV_l {p : Int} : (regV m p).length = (regT m p).length := (List.mergeSort_perm _ _).length_eq
theorem regT_l (o : MapOk n m) {p : Int} (hp : 1 ≤ p ∧ p ≤ 100) : (regT m p).length = regC (wI m) (sortedW m) (wantV m p) := by
  have := (regC_spec (want_ok o hp)).1
  unfold regT
  rw [List.length_take]
  omega
theorem regV_in {p z : Int} (h : z ∈ regV m p) : 0 ≤ z ∧ z < m.length := (sw_of m).mem.1 (List.mem_of_mem_take (regV_mem.1 h))
theorem regV_cels (o : MapOk n m) (p : Int) : celsE n (regV m p) = 0 := celsE_asc (fun z hz => by have := regV_in hz; have := o.len; omega) (ascL_asc ((sw_of m).nd.sublist (List.take_sublist _ _)))
theorem want_pos (o : MapOk n m) {p : Int} (hp : 1 ≤ p) : 0 < wantV m p := Int.mul_pos (by omega) (allW_pos o)
theorem regV_pos (o : MapOk n m) {p : Int} (hp : 1 ≤ p ∧ p ≤ 100) : 1 ≤ (regV m p).length := by
  rw [regV_l, regT_l o hp]
  exact regC_pos (want_pos o hp.1) (want_ok o hp)
theorem regV_w (o : MapOk n m) {p : Int} (hp : 1 ≤ p ∧ p ≤ 100) : (0 ≤ sumI (wI m) (regV m p) ∧ sumI (wI m) (regV m p) ≤ allW m) ∧ p * allW m ≤ 100 * sumI (wI m) (regV m p) := by
  rw [regV_sum, ← sumS m]
  have hw : ∀ z, z ∈ sortedW m → 0 ≤ wI m z := fun z hz => (wI_bd o ((sw_of m).mem.1 hz)).1
  refine ⟨⟨sumI_nn fun z hz => hw z (List.mem_of_mem_take hz), sumI_take_le hw _⟩, ?_⟩
  rw [sumS]
  exact (regC_spec (want_ok o hp)).2.1
theorem regV_without (o : MapOk n m) {p z : Int} (hp : 1 ≤ p ∧ p ≤ 100) (hz : z ∈ regV m p) : 100 * (sumI (wI m) (regV m p) - wI m z) < p * allW m := by
  rw [regV_sum]
  exact reg_without (sw_of m) (want_pos o hp.1) (want_ok o hp) (regV_mem.1 hz)
theorem regV_sub (o : MapOk n m) {p q z : Int} (hp : 1 ≤ p ∧ p ≤ 100) (hq : p ≤ q ∧ q ≤ 100) (hz : z ∈ regV m p) : z ∈ regV m q := by
  have hq2 : 1 ≤ q ∧ q ≤ 100 := by omega
  exact regV_mem.2 (reg_sub (reg_mono (want_ok o hp) (want_ok o hq2) (Int.mul_le_mul_of_nonneg_right hq.1 (allW_bd o).1)) (regV_mem.1 hz))
theorem regV_fewer (o : MapOk n m) {p : Int} (hp : 1 ≤ p ∧ p ≤ 100) {X : List Int} (hX : celsE n X = 0) (hl : X.length < (regV m p).length) : (0 ≤ sumI (wI m) X ∧ sumI (wI m) X ≤ allW m) ∧ 100 * sumI (wI m) X < p * allW m := by
  obtain ⟨h1, h2⟩ := celsE_of hX
  have hml := o.len
  have hin : ∀ z, z ∈ X → 0 ≤ z ∧ z < m.length := fun z hz => by have := h1 z hz; omega
  have hnd : X.Nodup := h2.imp fun h e => by omega
  rw [regV_l, regT_l o hp] at hl
  refine ⟨⟨sumI_nn fun z hz => (wI_bd o (hin z hz)).1, ?_⟩, reg_fewer (sw_of m) (want_ok o hp) hnd hin hl⟩
  have ht := top_most (sw_of m).desc hnd fun z hz => (sw_of m).mem.2 (hin z hz)
  have h3 := sumI_take_le (w := wI m) (L := sortedW m) (fun z hz => (wI_bd o ((sw_of m).mem.1 hz)).1) X.length
  rw [sumS] at h3
  omega
end
def onesL (k : Nat) : List Int := List.replicate k 1
theorem onesL_len (k : Nat) : (onesL k).length = k := List.length_replicate
theorem onesL_succ (k : Nat) : onesL (k + 1) = onesL k ++ [1] := List.replicate_succ'
theorem onesL_at {k i : Nat} (h : i < k) : wI (onesL k) (i : Int) = 1 := by
  have hl := onesL_len k
  unfold wI
  rw [show ((i : Int)).toNat = i by omega, getD_at (show i < (onesL k).length by omega)]
  exact List.getElem_replicate _
theorem ones_ok {n : Int} {m : List Int} (o : MapOk n m) : MapOk n (onesL m.length) := by
  have hl := onesL_len m.length
  obtain ⟨i, hi, _⟩ := o.some
  have at1 : ∀ j, j < m.length → (onesL m.length).getD j default = 1 := fun j hj => onesL_at hj
  refine ⟨by rw [hl]; exact o.len, fun j hj => ?_, i, by omega, ?_⟩
  · rw [at1 j (by omega)]; omega
  · rw [at1 i hi]; omega
theorem wI_take {m : List Int} {k : Nat} (h : k < m.length) : m.take (k + 1) = m.take k ++ [wI m (k : Int)] := by
  rw [List.take_succ_eq_append_getElem h]
  unfold wI
  rw [show ((k : Int)).toNat = k by omega, getD_at h]
theorem join_ones {m : List Int} : ∀ {k : Nat}, k ≤ m.length → joinK m (onesL m.length) k = m.take k
  | 0, _ => by simp [joinK]
  | k + 1, h => by rw [joinK, join_ones (by omega), onesL_at (by omega), Int.mul_one, wI_take (by omega)]
theorem ones_join {m : List Int} : ∀ {k : Nat}, k ≤ m.length → joinK (onesL m.length) m k = m.take k
  | 0, _ => by simp [joinK]
  | k + 1, h => by rw [joinK, ones_join (by omega), onesL_at (by omega), Int.one_mul, wI_take (by omega)]
theorem join1E {n : Int} {m : List Int} (o : MapOk n m) : joinE m (onesL m.length) = 0 := by
  obtain ⟨i, hi, hw⟩ := o.some
  refine joinE_0 (by omega) (fun j hj => ?_) (joinP_iff.2 ⟨i, hi, ?_⟩)
  · rw [onesL_at hj, Int.mul_one]
    have := wI_bd o (z := (j : Int)) (by omega)
    omega
  · rw [onesL_at hi, Int.mul_one]; exact hw
theorem join2E {n : Int} {m : List Int} (o : MapOk n m) : joinE (onesL m.length) m = 0 := by
  obtain ⟨i, hi, hw⟩ := o.some
  have hl := onesL_len m.length
  refine joinE_0 (by omega) (fun j hj => ?_) (joinP_iff.2 ⟨i, by omega, ?_⟩)
  · rw [onesL_at (by omega), Int.one_mul]
    have := wI_bd o (z := (j : Int)) (by omega)
    omega
  · rw [onesL_at hi, Int.one_mul]; exact hw
theorem join1R {n : Int} {m : List Int} (o : MapOk n m) : joinR m (onesL m.length) = m := by
  rw [joinR_0 (join1E o), join_ones (Nat.le_refl _), List.take_length]
theorem join2R {n : Int} {m : List Int} (o : MapOk n m) : joinR (onesL m.length) m = m := by
  rw [joinR_0 (join2E o), onesL_len, ones_join (Nat.le_refl _), List.take_length]
end Go.Proofs.YtenkgipcblfocaaGreat
namespace Go.Proofs.YtenkgipcblfocaaGreat
open Go Go.RowKit Go.Proofs Go.Shelf Go.Ab
set_option maxRecDepth 100000 in
theorem rMapErr_len (rs m : List Int) (o : SkyOk rs) (h1 : ¬ (m.length : Int) = befK rs rs.length) : Summ Tryz.prog GG 91 [skF rs, skF m] (.tup [iv 0, iv 10]) := by
  refine summW Tryz.func91 rfl rfl 40 rfl (by simp) (fun M0 => ?_)
  repeat (first
    | (apply s_a TY; exact rfl)
    | (apply s_f; exact rfl; (first | assumption | omega))
    | apply w_seq
    | apply w_region
    | (apply w_draw (id := 1) 5 rfl (by kernel_rfl))
    | apply s_nil
    | apply t_norm
    | apply t_ret
    | apply w_ret
    | (apply w_condT; exact rfl; exact rfl)
    | (apply s_k1 (Count_s _); exact rfl; (first | assumption | omega | decide)))
  exact lv_ret (ret2 rfl (res_tmp rfl) (res_tmp rfl))
theorem MapOnly_len (rs m : List Int) (o : SkyOk rs) (h1 : ¬ (m.length : Int) = befK rs rs.length) : Summ Tryz.prog GG 45 [skF rs, skF m] (iv 10) := by
  have HE := rMapErr_len rs m o h1
  refine summW Tryz.func45 rfl rfl 14 rfl (by simp) (fun M0 => ?_)
  repeat (first
    | (apply s_a TY; exact rfl)
    | apply w_seq
    | apply w_region
    | apply s_nil
    | apply t_norm
    | apply w_ret
    | (apply s_k (HE); exact rfl))
  exact lv_ret (ret1 rfl (res_tmp rfl))
set_option maxRecDepth 100000 in
set_option maxHeartbeats 12800000 in
theorem AlertSmallest_s (rs m : List Int) (p0 p1 : Int) (X : List Int) : Summ Tryz.prog GG 7 [skF rs, skF m, .agg [iv p0, iv p1, .sl X.length (intsF X)]] (.v (.bool true)) := by
  have HA := awake_s
  have hn0 : ([] : List Int).length = 0 := rfl
  obtain ⟨iI, hiI, hzI⟩ := sizeB_spec (n := 1) (TY.ok 3) rfl
  by_cases h10 : rs.length ≤ 10
  case neg =>
    have HW := few_F rs (by omega)
    refine summW Tryz.func7 rfl rfl 276 rfl (by simp) (fun M0 => ?_)
    repeat (first
    | (apply s_a TY; exact rfl)
    | apply w_seq
    | apply w_region
    | apply s_nil
    | apply t_norm
    | apply t_ret
    | apply w_ret
    | apply w_skip
    | (apply w_condT; exact rfl; exact rfl)
    | (apply w_condF; exact rfl; exact rfl)
    | (apply s_k (HA); exact rfl)
    | (apply s_k (HW); exact rfl)
    | (apply s_s; exact rfl))
    exact lv_ret (ret1 rfl (res_tmp rfl))
  have HW := few_T rs h10
  have HS := SkyErr_s rs (by omega)
  by_cases he : (skyChk rs).2 = 0
  case neg =>
    refine summW Tryz.func7 rfl rfl 276 rfl (by simp) (fun M0 => ?_)
    repeat (first
    | (apply s_a TY; exact rfl)
    | (apply s_f; exact rfl; (first | assumption | omega))
    | apply w_seq
    | apply w_region
    | apply s_nil
    | apply t_norm
    | apply t_ret
    | apply w_ret
    | apply w_skip
    | (apply w_condT; exact rfl; exact rfl)
    | (apply w_condF; exact rfl; exact rfl)
    | (apply s_k (HA); exact rfl)
    | (apply s_k (HW); exact rfl)
    | (apply s_k (HS); exact rfl)
    | (apply s_s; exact rfl))
    exact lv_ret (ret1 rfl (res_tmp rfl))
  have o := skyOk_of he
  rw [he] at HS
  have hcb := skyC_bd o
  have hcl := skyC_len o
  by_cases hml : m.length ≤ 1000000
  case neg =>
    have hne := hml
    have HM := MapOnly_len rs m o (by omega)
    refine summW Tryz.func7 rfl rfl 276 rfl (by simp) (fun M0 => ?_)
    repeat (first
    | (apply s_a TY; exact rfl)
    | (apply s_t; exact rfl; (first | assumption | omega))
    | (apply s_f; exact rfl; (first | assumption | omega))
    | apply w_seq
    | apply w_region
    | apply s_nil
    | apply t_norm
    | apply t_ret
    | apply w_ret
    | apply w_skip
    | (apply w_condT; exact rfl; exact rfl)
    | (apply w_condF; exact rfl; exact rfl)
    | (apply s_k (HA); exact rfl)
    | (apply s_k (HW); exact rfl)
    | (apply s_k (HS); exact rfl)
    | (apply s_k (HM); exact rfl)
    | (apply s_s; exact rfl))
    exact lv_ret (ret1 rfl (res_tmp rfl))
  have HM := MapOnly_s rs m o hml
  by_cases hm : (mapChk (befK rs rs.length) m).2 = 0
  case neg =>
    refine summW Tryz.func7 rfl rfl 276 rfl (by simp) (fun M0 => ?_)
    repeat (first
    | (apply s_a TY; exact rfl)
    | (apply s_t; exact rfl; (first | assumption | omega))
    | (apply s_f; exact rfl; (first | assumption | omega))
    | apply w_seq
    | apply w_region
    | apply s_nil
    | apply t_norm
    | apply t_ret
    | apply w_ret
    | apply w_skip
    | (apply w_condT; exact rfl; exact rfl)
    | (apply w_condF; exact rfl; exact rfl)
    | (apply s_k (HA); exact rfl)
    | (apply s_k (HW); exact rfl)
    | (apply s_k (HS); exact rfl)
    | (apply s_k (HM); exact rfl)
    | (apply s_s; exact rfl))
    exact lv_ret (ret1 rfl (res_tmp rfl))
  rw [hm] at HM
  have om := mapOk_of hm
  have hmlen := om.len
  by_cases hp0 : 1 ≤ p0 ∧ p0 ≤ 100
  case neg =>
    have HP0 := bwithin_F p0 1 100 hp0
    refine summW Tryz.func7 rfl rfl 276 rfl (by simp) (fun M0 => ?_)
    repeat (first
    | (apply s_idxAw Tryz.underlying86 hiI hzI; exact rfl; exact rfl; exact rfl; exact rfl; decide; decide)
    | (apply s_a TY; exact rfl)
    | (apply s_t; exact rfl; (first | assumption | omega))
    | apply w_seq
    | apply w_region
    | apply s_nil
    | apply t_norm
    | apply t_ret
    | apply w_ret
    | apply w_skip
    | (apply w_condT; exact rfl; exact rfl)
    | (apply w_condF; exact rfl; exact rfl)
    | (apply s_k (HA); exact rfl)
    | (apply s_k (HW); exact rfl)
    | (apply s_k (HS); exact rfl)
    | (apply s_k (HM); exact rfl)
    | (apply s_k (HP0); exact rfl)
    | (apply s_s; exact rfl))
    exact lv_ret (ret1 rfl (res_tmp rfl))
  have HP0 := bwithin_T p0 1 100 hp0
  by_cases hp1 : p0 ≤ p1 ∧ p1 ≤ 100
  case neg =>
    have HP1 := bwithin_F p1 p0 100 hp1
    refine summW Tryz.func7 rfl rfl 276 rfl (by simp) (fun M0 => ?_)
    repeat (first
    | (apply s_idxAw Tryz.underlying86 hiI hzI; exact rfl; exact rfl; exact rfl; exact rfl; decide; decide)
    | (apply s_a TY; exact rfl)
    | (apply s_t; exact rfl; (first | assumption | omega))
    | apply w_seq
    | apply w_region
    | apply s_nil
    | apply t_norm
    | apply t_ret
    | apply w_ret
    | apply w_skip
    | (apply w_condT; exact rfl; exact rfl)
    | (apply w_condF; exact rfl; exact rfl)
    | (apply s_k (HA); exact rfl)
    | (apply s_k (HW); exact rfl)
    | (apply s_k (HS); exact rfl)
    | (apply s_k (HM); exact rfl)
    | (apply s_k (HP0); exact rfl)
    | (apply s_k (HP1); exact rfl)
    | (apply s_s; exact rfl))
    exact lv_ret (ret1 rfl (res_tmp rfl))
  have HP1 := bwithin_T p1 p0 100 hp1
  by_cases hX : X.length ≤ 120
  case neg =>
    have HX := fewC_F X (by omega)
    refine summW Tryz.func7 rfl rfl 276 rfl (by simp) (fun M0 => ?_)
    repeat (first
    | (apply s_idxAw Tryz.underlying86 hiI hzI; exact rfl; exact rfl; exact rfl; exact rfl; decide; decide)
    | (apply s_a TY; exact rfl)
    | (apply s_t; exact rfl; (first | assumption | omega))
    | apply w_seq
    | apply w_region
    | apply s_nil
    | apply t_norm
    | apply t_ret
    | apply w_ret
    | apply w_skip
    | (apply w_condT; exact rfl; exact rfl)
    | (apply w_condF; exact rfl; exact rfl)
    | (apply s_k (HA); exact rfl)
    | (apply s_k (HW); exact rfl)
    | (apply s_k (HS); exact rfl)
    | (apply s_k (HM); exact rfl)
    | (apply s_k (HP0); exact rfl)
    | (apply s_k (HP1); exact rfl)
    | (apply s_k (HX); exact rfl))
    exact lv_ret (ret1 rfl (res_tmp rfl))
  have HX := fewC_T X hX
  have HCp := CopySky_s rs (by omega)
  have HCm := CopyMap_s m (by omega)
  have hst := stab_all (m := m) (by omega)
  have HR0 := RegionOf_of rs m p0 o om hp0 hst
  have HR1 := RegionOf_of rs m p1 o om (by omega) hst
  have hl0 := regV_len m p0 om
  have hl1 := regV_len m p1 om
  have hpos := regV_pos om hp0
  have HE0 := rCellsErr_s rs (regV m p0) o (by omega)
  rw [regV_cels om] at HE0
  have HE1 := rCellsErr_s rs (regV m p1) o (by omega)
  rw [regV_cels om] at HE1
  have HCr := CopyInts_s (regV m p0) (by omega)
  have HWr := WeightIn_ok rs m (regV m p0) o om (by omega) (regV_cels om p0)
  obtain ⟨hwb, hwp⟩ := regV_w om hp0
  have HB := bwithin_T (sumI (wI m) (regV m p0)) 0 (allW m) hwb
  have hall := allW_bd om
  have hpm := mul_nn (a := p0) (A := 100) (b := (allW m)) (B := 96000000) (by omega) (by omega)
  have HEX := rCellsErr_s rs X o (by omega)
  have hol0 := onesL_len m.length
  have HCo := CopyMap_s (onesL m.length) (by omega)
  have HJ1 := Joined_of rs m (onesL m.length) o om (ones_ok om)
  rw [join1R om, join1E om] at HJ1
  have HJ2 := Joined_of rs (onesL m.length) m o (ones_ok om) om
  rw [join2R om, join2E om] at HJ2
  have HIm := Ints_same m (by omega)
  refine summW Tryz.func7 rfl rfl 276 rfl (by simp) (fun M0 => ?_)
  repeat (first
    | (apply s_idxAw Tryz.underlying86 hiI hzI; exact rfl; exact rfl; exact rfl; exact rfl; decide; decide)
    | (apply s_a TY; exact rfl)
    | (apply s_t; exact rfl; (first | assumption | omega))
    | apply w_seq
    | apply w_region
    | apply s_nil
    | apply t_norm
    | apply w_block
    | apply w_skip
    | (apply w_condF; exact rfl; exact rfl)
    | (apply s_k (HA); exact rfl)
    | (apply s_k (HW); exact rfl)
    | (apply s_k (HS); exact rfl)
    | (apply s_k (HM); exact rfl)
    | (apply s_k (HP0); exact rfl)
    | (apply s_k (HP1); exact rfl)
    | (apply s_k (HX); exact rfl))
  apply w_loop (fun k : Nat => ⟨(Ab.upd (Ab.upd (Ab.upd (Ab.upd (Ab.upd (Ab.upd (fun _ => .bot) 3 (.f (.pt [.sl rs.length (intsF rs)] 0))) 4 (.f (.pt [.sl m.length (intsF m)] 0))) 5 (.f (.pt [iv p0, iv p1, .sl X.length (intsF X)] 0))) 7 (.f (iv m.length))) 8 (.f (iv (sumI (wI m) (idxL k))))) 9 (.f (iv ((k : Nat) : Int)))), (fun _ => none), 0⟩) (fun k => k ≤ m.length) (fun k => m.length - k) 0 (Nat.zero_le _) (gh_le ⟨le_upd rfl trivial (le_upd rfl trivial (le_upd rfl trivial (le_upd rfl trivial (le_upd rfl trivial (le_upd rfl trivial (le_nil _)))))), le_h0 _ _⟩)
  intro k hk
  have hbd := sumW_bd om (l := idxL k) (fun z hz => by have := idxL_mem.1 hz; omega) (Nat.le_refl _)
  rw [List.take_length, idxL_len] at hbd
  by_cases hc : k < m.length
  · have hw := wI_bd om (z := (k : Int)) (by omega)
    have hat : (intsF m)[k * 1]? = some (iv (wI m (k : Int))) := wI_at (z := (k : Int)) (by omega)
    have hne : intsF m ≠ [] := intsF_ne hc
    have hs := sumI_idx (wI m) k
    repeat (first
    | (apply s_a TY; exact rfl)
    | (apply s_t; exact rfl; (first | assumption | omega))
    | apply w_seq
    | apply w_region
    | apply s_nil
    | apply t_norm
    | apply k_norm
    | apply w_block
    | apply w_skip
    | (apply w_condT; exact rfl; exact rfl)
    | (apply s_c TY; exact rfl; (first | omega | exact ⟨by omega, by (first | with_reducible assumption | ((with_reducible apply intsF_ne); omega) | assumption)⟩))
    | (apply s_l TY; exact rfl; (first | exact rfl | with_reducible assumption | ((with_reducible apply intsF_at); omega) | assumption)))
    exact ⟨k + 1, by omega, by omega, gh_le ⟨le_upd rfl trivial (le_upd (congrArg (fun z => AV.f (iv z)) hs) trivial (le_upd rfl trivial (le_upd rfl trivial (le_upd rfl trivial (le_upd rfl trivial (le_nil _)))))), le_h0 _ _⟩⟩
  have hke : k = m.length := by omega
  subst hke
  rw [show sumI (wI m) (idxL m.length) = (allW m) from rfl]
  repeat (first
    | (apply s_idxAw Tryz.underlying86 hiI hzI; exact rfl; exact rfl; exact rfl; exact rfl; decide; decide)
    | (apply s_a TY; exact rfl)
    | (apply s_t; exact rfl; (first | assumption | omega))
    | (apply s_f; exact rfl; (first | assumption | omega))
    | apply w_seq
    | apply w_region
    | (apply w_draw (id := 10) 12 rfl (by kernel_rfl))
    | (apply w_draw (id := 11) 12 rfl (by kernel_rfl))
    | (apply w_draw (id := 14) 11 rfl (by kernel_rfl))
    | apply s_nil
    | apply t_norm
    | apply t_exit
    | apply k_hit
    | apply w_block
    | apply w_exit
    | apply w_skip
    | (apply w_condF; exact rfl; exact rfl)
    | (apply s_k (HCp); exact rfl)
    | (apply s_k (HCm); exact rfl)
    | (apply s_k (HR0); exact rfl)
    | (apply s_k (HR1); exact rfl)
    | (apply s_k (HE0); exact rfl)
    | (apply s_k (HE1); exact rfl)
    | (apply s_k (HCr); exact rfl)
    | (apply s_k (HWr); exact rfl)
    | (apply s_k (HB); exact rfl)
    | (apply s_c TY; exact rfl; (first | omega | exact ⟨by omega, by (first | with_reducible assumption | ((with_reducible apply intsF_ne); omega) | assumption)⟩)))
  apply w_loop (fun k : Nat => ⟨(Ab.upd (Ab.upd (Ab.upd (Ab.upd (Ab.upd (Ab.upd (Ab.upd (Ab.upd (Ab.upd (fun _ => .bot) 3 (.f (.pt [.sl rs.length (intsF rs)] 0))) 4 (.f (.pt [.sl m.length (intsF m)] 0))) 5 (.f (.pt [iv p0, iv p1, .sl X.length (intsF X)] 0))) 7 (.f (iv m.length))) 8 (.f (iv (allW m)))) 10 (.f (.sl (regV m p0).length (intsF (regV m p0))))) 12 (.f (.sl (regV m p1).length (intsF (regV m p1))))) 14 (.f (iv (sumI (wI m) (regV m p0))))) 16 (.f (iv ((k : Nat) : Int)))), (fun _ => none), 0⟩) (fun k => k ≤ (regV m p0).length) (fun k => (regV m p0).length - k) 0 (Nat.zero_le _) (gh_le ⟨le_upd rfl trivial (le_upd rfl trivial (le_upd rfl trivial (le_upd rfl trivial (le_upd rfl trivial (le_upd rfl trivial (le_upd rfl trivial (le_upd rfl trivial (le_upd rfl trivial (le_nil _))))))))), le_h0 _ _⟩)
  intro k hk
  by_cases hc : k < (regV m p0).length
  · have hz := List.getElem_mem hc
    have hzi := regV_in hz
    have hwz := wI_bd om hzi
    have hat := wI_at hzi
    have hne : intsF m ≠ [] := intsF_ne (k := (regV m p0)[k].toNat) (by omega)
    have hner : intsF (regV m p0) ≠ [] := intsF_ne hc
    have hlt := regV_without om hp0 hz
    have HH := Has_s (regV m p1) (regV m p0)[k] (by omega)
    rw [contains_mem, decide_eq_true (regV_sub om hp0 hp1 hz)] at HH
    repeat (first
    | (apply s_idxAw Tryz.underlying86 hiI hzI; exact rfl; exact rfl; exact rfl; exact rfl; decide; decide)
    | (apply s_a TY; exact rfl)
    | (apply s_t; exact rfl; (first | assumption | omega))
    | (apply s_f; exact rfl; (first | assumption | omega))
    | apply w_seq
    | apply w_region
    | (apply w_draw (id := 20) 24 rfl (by kernel_rfl))
    | apply s_nil
    | apply t_norm
    | apply k_norm
    | apply w_block
    | apply w_skip
    | (apply w_condT; exact rfl; exact rfl)
    | (apply w_condF; exact rfl; exact rfl)
    | (apply s_k (HH); exact rfl)
    | (apply s_c TY; exact rfl; (first | omega | exact ⟨by omega, by (first | with_reducible assumption | ((with_reducible apply intsF_ne); omega) | assumption)⟩))
    | (apply s_z TY; exact rfl; (first | omega | exact ⟨by omega, by (first | with_reducible assumption | ((with_reducible apply intsF_ne); omega) | assumption)⟩))
    | (apply s_l TY; exact rfl; (first | exact rfl | with_reducible assumption | ((with_reducible apply intsF_at); omega) | assumption)))
    exact ⟨k + 1, by omega, by omega, gh_le ⟨le_upd rfl trivial (le_upd rfl trivial (le_upd rfl trivial (le_upd rfl trivial (le_upd rfl trivial (le_upd rfl trivial (le_upd rfl trivial (le_upd rfl trivial (le_upd rfl trivial (le_nil _))))))))), le_h0 _ _⟩⟩
  have hke : k = (regV m p0).length := by omega
  subst hke
  by_cases hcx : celsE (befK rs rs.length) X = 0
  · rw [hcx] at HEX
    by_cases hxl : X.length < (regV m p0).length
    · have HCx := CopyInts_s X (by omega)
      have HWx := WeightIn_ok rs m X o om (by omega) hcx
      obtain ⟨hxb, hxw⟩ := regV_fewer om hp0 hcx hxl
      have HBx := bwithin_T (sumI (wI m) X) 0 (allW m) hxb
      repeat (first
    | (apply s_idxAw Tryz.underlying86 hiI hzI; exact rfl; exact rfl; exact rfl; exact rfl; decide; decide)
    | (apply s_a TY; exact rfl)
    | (apply s_t; exact rfl; (first | assumption | omega))
    | (apply s_f; exact rfl; (first | assumption | omega))
    | apply w_seq
    | apply w_region
    | (apply w_draw (id := 23) 12 rfl (by kernel_rfl))
    | apply s_nil
    | apply t_norm
    | apply t_exit
    | apply k_hit
    | apply w_block
    | apply w_exit
    | apply w_skip
    | (apply w_condT; exact rfl; exact rfl)
    | (apply w_condF; exact rfl; exact rfl)
    | (apply s_k (HEX); exact rfl)
    | (apply s_k (HCp); exact rfl)
    | (apply s_k (HCm); exact rfl)
    | (apply s_k (HCx); exact rfl)
    | (apply s_k (HWx); exact rfl)
    | (apply s_k (HBx); exact rfl)
    | (apply s_c TY; exact rfl; (first | omega | exact ⟨by omega, by (first | with_reducible assumption | ((with_reducible apply intsF_ne); omega) | assumption)⟩))
    | (apply s_alloc TY; exact rfl; exact rfl; exact rfl)
    | (apply s_store TY; exact rfl; exact rfl; exact rfl; exact rfl; exact rfl; exact rfl))
      apply w_gh (gh_ownB 0 0 3 1 rfl rfl rfl)
      apply w_loop (fun j : Nat => ⟨(Ab.upd (Ab.upd (Ab.upd (Ab.upd (Ab.upd (fun _ => .bot) 3 (.f (.pt [.sl rs.length (intsF rs)] 0))) 4 (.f (.pt [.sl m.length (intsF m)] 0))) 7 (.f (iv m.length))) 19 (.bx 0 0)) 20 (.f (iv ((j : Nat) : Int)))), (Ab.upd (Ab.upd (fun _ => none) 0 (some (.box [.ow 1]))) 1 (some (.row 3 1 (onesL j).length (intsF (onesL j))))), 2⟩) (fun j => j ≤ m.length) (fun j => m.length - j) 0 (Nat.zero_le _) (gh_le ⟨le_upd rfl trivial (le_upd rfl rfl (le_upd rfl trivial (le_upd rfl trivial (le_upd rfl trivial (le_nil _))))), le_hupd rfl trivial (le_hupd rfl (fun y hy => by simp at hy; subst hy; first | trivial | rfl) (le_h0 _ _))⟩)
      intro j hj
      have hol := onesL_len j
      by_cases hjc : j < m.length
      · have hrow : some (Blk.row 3 1 ((onesL j).length + 1) (intsF (onesL j) ++ [iv 1])) = some (Blk.row 3 1 (onesL (j + 1)).length (intsF (onesL (j + 1)))) := by rw [onesL_succ, intsF_snoc, List.length_append]; rfl
        repeat (first
    | (apply s_append TY; exact rfl; exact rfl; exact rfl; exact rfl; exact rfl; exact rfl; exact rfl; exact rfl; exact rfl; (unfold maxLen; omega); omega)
    | (apply s_a TY; exact rfl)
    | (apply s_t; exact rfl; (first | assumption | omega))
    | apply w_seq
    | apply w_region
    | apply s_nil
    | apply t_norm
    | apply k_norm
    | apply w_block
    | apply w_skip
    | (apply w_condT; exact rfl; exact rfl)
    | (apply s_c TY; exact rfl; (first | omega | exact ⟨by omega, by (first | with_reducible assumption | ((with_reducible apply intsF_ne); omega) | assumption)⟩))
    | (apply s_store TY; exact rfl; exact rfl; exact rfl; exact rfl; exact rfl; exact rfl))
        exact ⟨j + 1, by omega, by omega, gh_le ⟨le_upd rfl trivial (le_upd rfl rfl (le_upd rfl trivial (le_upd rfl trivial (le_upd rfl trivial (le_nil _))))), le_hupd hrow trivial (le_hupd rfl (fun y hy => by simp at hy; subst hy; first | trivial | rfl) (le_h0 _ _))⟩⟩
      · have hje : j = m.length := by omega
        subst hje
        apply w_gh (gh_row 1 rfl)
        apply w_gh (gh_box 0 (cs := [.sl (onesL m.length).length (intsF (onesL m.length))]) rfl rfl)
        repeat (first
    | (apply s_a TY; exact rfl)
    | (apply s_t; exact rfl; (first | assumption | omega))
    | (apply s_f; exact rfl; (first | assumption | omega))
    | apply w_seq
    | apply w_region
    | (apply w_draw1 (id := 31) 11 rfl (by kernel_rfl); exact rfl; kernel_rfl)
    | (apply s_allocB TY (d := some 21); exact rfl; exact rfl; exact rfl)
    | (apply s_sto TY; exact rfl; exact rfl; exact rfl; exact rfl; exact rfl; exact rfl; exact rfl)
    | (apply w_draw1 (id := 32) 10 rfl (by kernel_rfl); exact rfl; kernel_rfl)
    | (apply s_allocB TY (d := some 23); exact rfl; exact rfl; exact rfl)
    | apply s_nil
    | apply t_norm
    | apply t_exit
    | apply k_hit
    | apply w_exit
    | apply w_ret
    | (apply w_condF; exact rfl; exact rfl)
    | (apply s_k (HCp); exact rfl)
    | (apply s_k (HCm); exact rfl)
    | (apply s_k (HCo); exact rfl)
    | (apply s_k (HJ1); exact rfl)
    | (apply s_k (HJ2); exact rfl)
    | (apply s_k (HIm); exact rfl))
        exact lv_ret (ret1 rfl (res_tmp rfl))
    · repeat (first
    | (apply s_a TY; exact rfl)
    | (apply s_t; exact rfl; (first | assumption | omega))
    | (apply s_f; exact rfl; (first | assumption | omega))
    | apply w_seq
    | apply w_region
    | apply s_nil
    | apply t_norm
    | apply t_exit
    | apply k_hit
    | apply w_block
    | apply w_exit
    | apply w_skip
    | (apply w_condF; exact rfl; exact rfl)
    | (apply s_k (HEX); exact rfl)
    | (apply s_alloc TY; exact rfl; exact rfl; exact rfl)
    | (apply s_store TY; exact rfl; exact rfl; exact rfl; exact rfl; exact rfl; exact rfl))
      apply w_gh (gh_ownB 0 0 3 1 rfl rfl rfl)
      apply w_loop (fun j : Nat => ⟨(Ab.upd (Ab.upd (Ab.upd (Ab.upd (Ab.upd (fun _ => .bot) 3 (.f (.pt [.sl rs.length (intsF rs)] 0))) 4 (.f (.pt [.sl m.length (intsF m)] 0))) 7 (.f (iv m.length))) 19 (.bx 0 0)) 20 (.f (iv ((j : Nat) : Int)))), (Ab.upd (Ab.upd (fun _ => none) 0 (some (.box [.ow 1]))) 1 (some (.row 3 1 (onesL j).length (intsF (onesL j))))), 2⟩) (fun j => j ≤ m.length) (fun j => m.length - j) 0 (Nat.zero_le _) (gh_le ⟨le_upd rfl trivial (le_upd rfl rfl (le_upd rfl trivial (le_upd rfl trivial (le_upd rfl trivial (le_nil _))))), le_hupd rfl trivial (le_hupd rfl (fun y hy => by simp at hy; subst hy; first | trivial | rfl) (le_h0 _ _))⟩)
      intro j hj
      have hol := onesL_len j
      by_cases hjc : j < m.length
      · have hrow : some (Blk.row 3 1 ((onesL j).length + 1) (intsF (onesL j) ++ [iv 1])) = some (Blk.row 3 1 (onesL (j + 1)).length (intsF (onesL (j + 1)))) := by rw [onesL_succ, intsF_snoc, List.length_append]; rfl
        repeat (first
    | (apply s_append TY; exact rfl; exact rfl; exact rfl; exact rfl; exact rfl; exact rfl; exact rfl; exact rfl; exact rfl; (unfold maxLen; omega); omega)
    | (apply s_a TY; exact rfl)
    | (apply s_t; exact rfl; (first | assumption | omega))
    | apply w_seq
    | apply w_region
    | apply s_nil
    | apply t_norm
    | apply k_norm
    | apply w_block
    | apply w_skip
    | (apply w_condT; exact rfl; exact rfl)
    | (apply s_c TY; exact rfl; (first | omega | exact ⟨by omega, by (first | with_reducible assumption | ((with_reducible apply intsF_ne); omega) | assumption)⟩))
    | (apply s_store TY; exact rfl; exact rfl; exact rfl; exact rfl; exact rfl; exact rfl))
        exact ⟨j + 1, by omega, by omega, gh_le ⟨le_upd rfl trivial (le_upd rfl rfl (le_upd rfl trivial (le_upd rfl trivial (le_upd rfl trivial (le_nil _))))), le_hupd hrow trivial (le_hupd rfl (fun y hy => by simp at hy; subst hy; first | trivial | rfl) (le_h0 _ _))⟩⟩
      · have hje : j = m.length := by omega
        subst hje
        apply w_gh (gh_row 1 rfl)
        apply w_gh (gh_box 0 (cs := [.sl (onesL m.length).length (intsF (onesL m.length))]) rfl rfl)
        repeat (first
    | (apply s_a TY; exact rfl)
    | (apply s_t; exact rfl; (first | assumption | omega))
    | (apply s_f; exact rfl; (first | assumption | omega))
    | apply w_seq
    | apply w_region
    | (apply w_draw1 (id := 31) 11 rfl (by kernel_rfl); exact rfl; kernel_rfl)
    | (apply s_allocB TY (d := some 21); exact rfl; exact rfl; exact rfl)
    | (apply s_sto TY; exact rfl; exact rfl; exact rfl; exact rfl; exact rfl; exact rfl; exact rfl)
    | (apply w_draw1 (id := 32) 10 rfl (by kernel_rfl); exact rfl; kernel_rfl)
    | (apply s_allocB TY (d := some 23); exact rfl; exact rfl; exact rfl)
    | apply s_nil
    | apply t_norm
    | apply t_exit
    | apply k_hit
    | apply w_exit
    | apply w_ret
    | (apply w_condF; exact rfl; exact rfl)
    | (apply s_k (HCp); exact rfl)
    | (apply s_k (HCm); exact rfl)
    | (apply s_k (HCo); exact rfl)
    | (apply s_k (HJ1); exact rfl)
    | (apply s_k (HJ2); exact rfl)
    | (apply s_k (HIm); exact rfl))
        exact lv_ret (ret1 rfl (res_tmp rfl))
  · repeat (first
    | (apply s_a TY; exact rfl)
    | (apply s_f; exact rfl; (first | assumption | omega))
    | apply w_seq
    | apply w_region
    | apply s_nil
    | apply t_norm
    | apply t_exit
    | apply k_hit
    | apply w_block
    | apply w_exit
    | apply w_skip
    | (apply w_condF; exact rfl; exact rfl)
    | (apply s_k (HEX); exact rfl)
    | (apply s_s; exact rfl)
    | (apply s_alloc TY; exact rfl; exact rfl; exact rfl)
    | (apply s_store TY; exact rfl; exact rfl; exact rfl; exact rfl; exact rfl; exact rfl))
    apply w_gh (gh_ownB 0 0 3 1 rfl rfl rfl)
    apply w_loop (fun j : Nat => ⟨(Ab.upd (Ab.upd (Ab.upd (Ab.upd (Ab.upd (fun _ => .bot) 3 (.f (.pt [.sl rs.length (intsF rs)] 0))) 4 (.f (.pt [.sl m.length (intsF m)] 0))) 7 (.f (iv m.length))) 19 (.bx 0 0)) 20 (.f (iv ((j : Nat) : Int)))), (Ab.upd (Ab.upd (fun _ => none) 0 (some (.box [.ow 1]))) 1 (some (.row 3 1 (onesL j).length (intsF (onesL j))))), 2⟩) (fun j => j ≤ m.length) (fun j => m.length - j) 0 (Nat.zero_le _) (gh_le ⟨le_upd rfl trivial (le_upd rfl rfl (le_upd rfl trivial (le_upd rfl trivial (le_upd rfl trivial (le_nil _))))), le_hupd rfl trivial (le_hupd rfl (fun y hy => by simp at hy; subst hy; first | trivial | rfl) (le_h0 _ _))⟩)
    intro j hj
    have hol := onesL_len j
    by_cases hjc : j < m.length
    · have hrow : some (Blk.row 3 1 ((onesL j).length + 1) (intsF (onesL j) ++ [iv 1])) = some (Blk.row 3 1 (onesL (j + 1)).length (intsF (onesL (j + 1)))) := by rw [onesL_succ, intsF_snoc, List.length_append]; rfl
      repeat (first
    | (apply s_append TY; exact rfl; exact rfl; exact rfl; exact rfl; exact rfl; exact rfl; exact rfl; exact rfl; exact rfl; (unfold maxLen; omega); omega)
    | (apply s_a TY; exact rfl)
    | (apply s_t; exact rfl; (first | assumption | omega))
    | apply w_seq
    | apply w_region
    | apply s_nil
    | apply t_norm
    | apply k_norm
    | apply w_block
    | apply w_skip
    | (apply w_condT; exact rfl; exact rfl)
    | (apply s_c TY; exact rfl; (first | omega | exact ⟨by omega, by (first | with_reducible assumption | ((with_reducible apply intsF_ne); omega) | assumption)⟩))
    | (apply s_store TY; exact rfl; exact rfl; exact rfl; exact rfl; exact rfl; exact rfl))
      exact ⟨j + 1, by omega, by omega, gh_le ⟨le_upd rfl trivial (le_upd rfl rfl (le_upd rfl trivial (le_upd rfl trivial (le_upd rfl trivial (le_nil _))))), le_hupd hrow trivial (le_hupd rfl (fun y hy => by simp at hy; subst hy; first | trivial | rfl) (le_h0 _ _))⟩⟩
    · have hje : j = m.length := by omega
      subst hje
      apply w_gh (gh_row 1 rfl)
      apply w_gh (gh_box 0 (cs := [.sl (onesL m.length).length (intsF (onesL m.length))]) rfl rfl)
      repeat (first
    | (apply s_a TY; exact rfl)
    | (apply s_t; exact rfl; (first | assumption | omega))
    | (apply s_f; exact rfl; (first | assumption | omega))
    | apply w_seq
    | apply w_region
    | (apply w_draw1 (id := 31) 11 rfl (by kernel_rfl); exact rfl; kernel_rfl)
    | (apply s_allocB TY (d := some 21); exact rfl; exact rfl; exact rfl)
    | (apply s_sto TY; exact rfl; exact rfl; exact rfl; exact rfl; exact rfl; exact rfl; exact rfl)
    | (apply w_draw1 (id := 32) 10 rfl (by kernel_rfl); exact rfl; kernel_rfl)
    | (apply s_allocB TY (d := some 23); exact rfl; exact rfl; exact rfl)
    | apply s_nil
    | apply t_norm
    | apply t_exit
    | apply k_hit
    | apply w_exit
    | apply w_ret
    | (apply w_condF; exact rfl; exact rfl)
    | (apply s_k (HCp); exact rfl)
    | (apply s_k (HCm); exact rfl)
    | (apply s_k (HCo); exact rfl)
    | (apply s_k (HJ1); exact rfl)
    | (apply s_k (HJ2); exact rfl)
    | (apply s_k (HIm); exact rfl))
      exact lv_ret (ret1 rfl (res_tmp rfl))
end Go.Proofs.YtenkgipcblfocaaGreat
namespace Go.Ab
open Go Go.RowKit
section
variable {P : Program} {w : World}
end
end Go.Ab
namespace Go.Proofs.YtenkgipcblfocaaGreat
open Go Go.Ab Go.ChangeShapes Go.WideShapes Go.ChangeAt Go.RowKit
theorem ownKnobT : ownKnob Tryz.prog.godebug = none := by kernel_rfl
theorem laidOutT : laidOutB Tryz.prog = true := by kernel_rfl
theorem trodAll_stays {H : Type} {enc : TypeId × Value → H} {W W' : World} {sp : Nat → Bool} (hb : Below W.heap.size W W') : ∀ {ts : List TypeId} {vs : List Value} {ds : List (DataW H)} {ps : List MemPlace}, (∀ t ∈ ts, Tryz.prog.readableRec t = true ∧ t < Tryz.prog.types.size) → DataW.TrodAll enc Tryz.prog W 0 (fun _ => true) true ts vs ds ps → (∀ p ∈ ps, p.block < W.heap.size) → (∀ p ∈ ps, sp p.block = true) → DataW.TrodAll enc Tryz.prog W' 0 sp true ts vs ds ps
  | [], [], [], _, _, h, _, _ => h
  | t :: ts, v :: vs, d :: ds, ps, ht, ⟨p, q, h1, h2, e⟩, hlt, hsp => by
    have hp : ∀ x ∈ p, x ∈ ps := fun x hx => by rw [e]; exact List.mem_append_left _ hx
    have hq : ∀ x ∈ q, x ∈ ps := fun x hx => by rw [e]; exact List.mem_append_right _ hx
    exact ⟨p, q, WideElems.Trod_stays laidOutT (ht t (by simp)).1 (ht t (by simp)).2 h1 (fun x hx => hb.same (hlt x (hp x hx))) (fun x hx => hsp x (hp x hx)),
      trodAll_stays hb (fun u hu => ht u (by simp [hu])) h2 (fun x hx => hlt x (hq x hx)) (fun x hx => hsp x (hq x hx)), e⟩
theorem post_law {H : Type} {enc : TypeId × Value → H} {f : Func} {s : ChangeSpec} {W W' : World} {args : Array Value} {ds gs : List (DataW H)} {before : List MemPlace}
    (hW : DataW.Whole enc Tryz.prog f.params.toList s.vars false W args.toList ds gs before) (hv : s.vars = []) (hr : f.resultTypes = #[4])
    (ht : ∀ t ∈ f.params.toList, Tryz.prog.readableRec t = true ∧ t < Tryz.prog.types.size)
    (hres : (s.fn H (ds ++ gs)).results = [.lit (.bool true)]) (hargs : (s.fn H (ds ++ gs)).args = ds) (hvs : (s.fn H (ds ++ gs)).vars = [])
    (hb : Below W.heap.size W W') : s.post enc Tryz.prog f false true false false W args (.bool true) W' := by
  have hlt := hW.lt
  have hW0 := hW
  obtain ⟨p, q, h1, h2, e, hz, hn⟩ := hW
  have h2' := h2
  rw [hv] at h2'
  have hq : gs = [] ∧ q = [] := by
    cases gs with
    | nil => exact ⟨rfl, h2'⟩
    | cons g r => exact absurd h2' (by intro h; cases h)
  obtain ⟨rfl, rfl⟩ := hq
  rw [List.append_nil] at e
  subst e
  refine ⟨ds, [], before, [], before, [], hW0, ?_, ?_, ?_, Below.frame hb _, fun h => by cases h⟩
  · rw [hr, hres]; exact trodAll_mk1 (shut_bool Tryz.underlying4 true)
  · rw [hargs]
    exact trodAll_stays hb ht h1 hlt (fun x hx => by simpa using hlt x hx)
  · rw [hv, hvs]; rfl
theorem sq_map {α : Type} (f : α → FV) : ∀ l : List α, l.flatMap (fun x => [f x]) = l.map f
  | [] => rfl
  | x :: l => by rw [List.flatMap_cons, sq_map f l]; rfl
section
variable {W : World}
theorem opens_i : Opens Tryz.prog W 3 (fun z : Int => [iv z]) := opens_int Tryz.underlying3
theorem opens_ints : Opens Tryz.prog W 34 (fun l : List Int => [.sl l.length (intsF l)]) := (opens_sl (s := 1) Tryz.underlying34 (by kernel_rfl) (by decide) opens_i).map id fun l => by rw [sq_map]; rfl
theorem opens_sky : Opens Tryz.prog W 36 (fun l : List Int => [.sl l.length (intsF l)]) := (opens_st Tryz.underlying36 (by kernel_rfl) (ofs_cons (s := 1) (by kernel_rfl) rfl opens_ints (ofs_nil))).map (fun p => p.1) fun _ => rfl
theorem opens_map : Opens Tryz.prog W 72 (fun l : List Int => [.sl l.length (intsF l)]) := (opens_st Tryz.underlying72 (by kernel_rfl) (ofs_cons (s := 1) (by kernel_rfl) rfl opens_ints (ofs_nil))).map (fun p => p.1) fun _ => rfl
theorem opens_i2 : Opens Tryz.prog W 86 (fun p : Int × Int => [iv p.1] ++ [iv p.2]) := opens_arr2 (s := 1) Tryz.underlying86 (by kernel_rfl) (by kernel_rfl) opens_i
theorem opens_chc : Opens Tryz.prog W 88 (fun c : (Int × Int) × List Int => [iv c.1.1, iv c.1.2, .sl c.2.length (intsF c.2)]) := (opens_st Tryz.underlying88 (by kernel_rfl) (ofs_cons (s := 2) (by kernel_rfl) rfl opens_i2 (ofs_cons (s := 1) (by kernel_rfl) rfl opens_ints (ofs_nil)))).map (fun p => ⟨p.1, p.2.1⟩) fun _ => rfl
end
set_option maxRecDepth 100000 in
theorem arg_st {H : Type} {enc : TypeId × Value → H} {W : World} {base : Nat} {T : TypeId} {fs : Array Field} {α : Type} {f : α → List FV} {v : Value} {d : DataW H} {ps : List MemPlace} (h : Opens Tryz.prog W T f) (ht : Tryz.prog.underlying T = some (.struct fs)) (hv : Value.okWide Tryz.prog W .any base T v) (hd : DataW.Trod enc Tryz.prog W 0 (fun _ => true) true T v d ps) : ∃ a, RepF W (fun _ => False) v (.agg (f a)) := by
  obtain ⟨cs, e, _⟩ := okWide_struct ht hv
  exact arg_agg h e hd
theorem law_calls {f : Nat} {xs : List FV} (S : Summ Tryz.prog GG f xs (.v (.bool true))) {W : World} {args : Array Value} (R : RepL W (fun _ => False) args.toList xs) : Calls Tryz.prog f args W fun e W' => e = .returned (.bool true) ∧ Below W.heap.size W W' := by
  have := S.call W (fun _ => False) args.toList (fun _ h => h.elim) (fun g cs h => by cases h) R
  simp only [Array.toArray_toList] at this
  refine this.mono fun e w' ⟨v, h1, h2, h3⟩ => ⟨?_, h3⟩
  rw [h1, repV h2]
end Go.Proofs.YtenkgipcblfocaaGreat
