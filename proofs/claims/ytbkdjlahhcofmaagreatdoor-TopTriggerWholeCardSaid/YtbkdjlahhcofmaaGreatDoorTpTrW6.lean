/- Laws on which the proofs of this seat stand. No condition. -/
import Derived.Test.YtbkdjlahhcofmaaGreatDoorTpTrW5
import Derived.DataShut
import Derived.Test.YtbkdjlahhcofmaaGreatDoorRows
import Derived.WalkKit
import Derived.ProofKit
import Derived.OpenShut
import Derived.Stop.Joined
namespace Go.Proofs.YtbkdjlahhcofmaaGreatDoor
open Go.Lib (itoa decDigits decFrom digitVal join atoiAll)
open Go Go.RowKit Go.Proofs Go.Shelf Go.Ab
set_option maxRecDepth 100000 in
set_option maxHeartbeats 1600000 in
theorem twords_s (l : List Int) (hl : l.length <= 1000) (hr : I64 l) : Summ Tryz.prog GS 108 [.sl l.length (intsF l)] (sv (wordsS l)) := by
 refine summW Tryz.func108 rfl rfl 20 rfl (by simp) (fun M0 => ?_)
 repeat (first
 | (apply s_a TY; exact rfl)
 | apply w_seq
 | apply w_region
 | apply s_nil
 | apply t_norm
 | apply w_block)
 apply w_gh (gh_own 3 9 1 rfl rfl)
 apply w_loop (fun k : Nat => ⟨(Ab.upd (Ab.upd (Ab.upd (Ab.upd (fun _ => .bot) 3 (.ow 0)) 6 (.f (.sl l.length (intsF l)))) 7 (.f (iv l.length))) 8 (.f (iv ((k : Nat) : Int)))), (Ab.upd (fun _ => none) 0 (some (.row 9 1 ((l.take k).map itoa).length (strsF ((l.take k).map itoa))))), 1⟩) (fun k => k <= l.length) (fun k => l.length - k) 0 (Nat.zero_le _) (gh_le ⟨le_upd rfl trivial (le_upd rfl trivial (le_upd rfl trivial (le_upd rfl rfl (le_nil _)))), le_hupd rfl trivial (le_h0 _ _)⟩)
 intro k hk
 have hrl : ((l.take k).map itoa).length = k := by rw [List.length_map, List.length_take]; omega
 by_cases hc : k < l.length
 · have hat : (intsF l)[k * 1]? = some (iv l[k]) := intsF_at hc
   have hne : intsF l ≠ [] := intsF_ne (k := k) hc
   have HI := Itoa_s l[k] (hr _ (List.getElem_mem hc))
   have hrow : some (Blk.row 9 1 (((l.take k).map itoa).length + 1) (strsF ((l.take k).map itoa) ++ [sv (itoa l[k])])) = some (Blk.row 9 1 ((l.take (k + 1)).map itoa).length (strsF ((l.take (k + 1)).map itoa))) := by
    rw [List.take_succ_eq_append_getElem hc, List.map_append, List.map_cons, List.map_nil, strsF_snoc, List.length_append]; rfl
   repeat (first
 | (apply s_append TY; (iterate 9 exact rfl); (unfold maxLen; omega); omega)
 | (apply s_a TY; exact rfl)
 | (apply s_t; exact rfl; omega)
 | apply w_seq
 | apply w_region
 | apply s_nil
 | apply t_norm
 | apply k_norm
 | apply w_block
 | apply w_skip
 | (apply w_condT; exact rfl; exact rfl)
 | (apply s_k (HI); exact rfl)
 | (apply s_c TY; exact rfl; (first | omega | exact ⟨by omega, by (with_reducible assumption)⟩))
 | (apply s_l TY; exact rfl; with_reducible assumption))
   exact ⟨k + 1, by omega, by omega, gh_le ⟨le_upd rfl trivial (le_upd rfl trivial (le_upd rfl trivial (le_upd rfl rfl (le_nil _)))), le_hupd hrow trivial (le_h0 _ _)⟩⟩
 · have hke : k = l.length := by omega
   subst hke
   have hjl := wordsS_len hr
   have HJ := Join_s (l.map itoa) [32] (by rw [List.length_map]; omega) (by show (wordsS l).length <= _; omega)
   rw [List.take_length] at hrl
   have hrn : some (Blk.row 9 1 ((l.take l.length).map itoa).length (strsF ((l.take l.length).map itoa))) = some (Blk.row 9 1 (l.map itoa).length (strsF (l.map itoa))) := by rw [List.take_length]
   apply w_gh (gh_row 0 hrn)
   repeat (first
 | (apply s_a TY; exact rfl)
 | (apply s_f; exact rfl; omega)
 | apply w_seq
 | apply w_region
 | apply s_nil
 | apply t_norm
 | apply t_exit
 | apply k_hit
 | apply w_exit
 | apply w_ret
 | (apply w_condF; exact rfl; exact rfl)
 | (apply s_k (HJ); exact rfl))
   exact lv_ret (ret1 rfl (res_tmp rfl))
def numsC (n d : Nat) (s : Nm) : Option (List Int) := if (cutS 32 s).length = n then numsO d (cutS 32 s) else none
theorem numsC_len {n d : Nat} {s : Nm} {l : List Int} (h : numsC n d s = some l) : l.length = n := by
 unfold numsC at h
 split at h
 · rename_i e; rw [numsO_len h, e]
 · cases h
theorem numsC_len' {n d : Nat} {s : Nm} (h : ¬ (cutS 32 s).length = n) : numsC n d s = none := if_neg h
theorem numsC_eq {n d : Nat} {s : Nm} (h : (cutS 32 s).length = n) : numsC n d s = numsO d (cutS 32 s) := if_pos h
theorem numsO_none {d : Nat} {ws : List Nm} (h : numsO d ws = none) : ∃ q, ∃ hq : q < ws.length, ∃ l, numsO d (ws.take q) = some l /\ numP d ws[q] = none := by
 have hex : ∃ k, k <= ws.length /\ numsO d (ws.take k) = none := ⟨ws.length, Nat.le_refl _, by rw [List.take_length]; exact h⟩
 obtain ⟨k, ⟨hk, hn⟩, hmin⟩ := exists_least hex
 cases k with
 | zero => cases hn
 | succ q =>
   have hq : q < ws.length := by omega
   cases e : numsO d (ws.take q) with
   | none => have := hmin q ⟨by omega, e⟩; omega
   | some l =>
     refine ⟨q, hq, l, e, ?_⟩
     cases e2 : numP d ws[q] with
     | none => rfl
     | some v => rw [numsO_next hq e e2] at hn; cases hn
def bxI (l : List Int) : List AV := l.map fun z => AV.f (iv z)
def ptI (n : Nat) : List AV := (List.range n).map fun k => AV.bx 0 k
theorem ptI_at {n k : Nat} (h : k < n) : (ptI n)[(((k : Nat) : Int)).toNat * 1]? = some (AV.bx 0 k) := by
 unfold ptI
 rw [show (((k : Nat) : Int)).toNat * 1 = k by omega, List.getElem?_map, List.getElem?_range h]; rfl
theorem ptI_cl (n : Nat) {h : Nat -> Option Blk} (h0 : (h 0).isSome = true) : ∀ y ∈ ptI n, closedA h y := fun y hy => by
 obtain ⟨k, _, rfl⟩ := List.mem_map.1 hy
 exact h0
theorem bxI_cl (l : List Int) {h : Nat -> Option Blk} : ∀ y ∈ bxI l, closedA h y := fun y hy => by
 obtain ⟨z, _, rfl⟩ := List.mem_map.1 hy
 trivial
theorem bxI_set {pre vs : List Int} {k : Nat} (hp : pre.length = k) (hk : k < vs.length) (v : Int) : setAt (bxI (pre ++ vs.drop k)) k [AV.f (iv v)] = bxI ((pre ++ [v]) ++ vs.drop (k + 1)) := by
 show (bxI (pre ++ vs.drop k)).set k (AV.f (iv v)) = _
 unfold bxI
 rw [<- List.map_set (f := fun z => AV.f (iv z)) (a := v)]
 congr 1
 rw [List.set_append_right _ _ (by omega), hp, Nat.sub_self, List.drop_eq_getElem_cons hk, List.set_cons_zero, List.append_assoc]
 rfl
theorem bxI_len {pre vs : List Int} {k : Nat} (hp : pre.length = k) (hk : k < vs.length) : Nat.ble (k + 1) (bxI (pre ++ vs.drop k)).length = true := by
 unfold bxI
 rw [List.length_map, List.length_append, List.length_drop]
 exact Nat.ble_eq_true_of_le (by omega)
theorem boxI_eq {a b : List AV} (h : a = b) : some (Blk.box a) = some (Blk.box b) := by rw [h]
set_option maxRecDepth 100000 in
set_option maxHeartbeats 6400000 in
theorem parse_step (ws : List Nm) (d n k : Nat) (hd : d <= 17) (hn : ws.length = n) (_hl : n <= 1000) (_hw : ∀ w ∈ ws, w.length <= 1000000) (hkn : k < n) : (∃ v, numP d ws[k] = some v /\ atoiAll ws[k] = .ok v /\ 0 <= v /\ itoa v = ws[k] /\ ws[k].length <= d) \/ (numP d ws[k] = none /\ ((∀ v, atoiAll ws[k] ≠ .ok v) \/ ∃ v, atoiAll ws[k] = .ok v /\ (v < 0 \/ (0 <= v /\ ¬ itoa v = ws[k]) \/ (0 <= v /\ itoa v = ws[k] /\ ¬ ws[k].length <= d)))) := by
 have LIB := @num_lib ws[k] d hd
 by_cases hok : ∃ v, atoiAll ws[k] = .ok v
 case neg =>
  refine .inr ⟨?_, .inl fun v e => hok ⟨v, e⟩⟩
  unfold numP
  cases e : numO ws[k] d with
  | none => rfl
  | some v => exact absurd ⟨v, (LIB.1 e).1⟩ hok
 obtain ⟨v, hv⟩ := hok
 by_cases hneg : v < 0
 · refine .inr ⟨?_, .inr ⟨v, hv, .inl hneg⟩⟩
   unfold numP
   cases e : numO ws[k] d with
   | none => rfl
   | some u =>
     have e1 := (LIB.1 e).1
     rw [hv] at e1
     injection e1 with e1
     show (if 0 <= u then some u else none) = none
     rw [if_neg (by omega)]
 by_cases hew : itoa v = ws[k]
 case neg =>
  refine .inr ⟨?_, .inr ⟨v, hv, .inr (.inl ⟨by omega, hew⟩)⟩⟩
  unfold numP
  cases e : numO ws[k] d with
  | none => rfl
  | some u =>
    have e1 := LIB.1 e
    rw [hv] at e1
    injection e1.1 with e2
    rw [<- e2] at e1
    exact absurd e1.2.1 hew
 have hat0 : atS ws[k] = 0 := by rw [<- hew]; exact atS_pos (by omega)
 by_cases hdl : ws[k].length <= d
 · refine .inl ⟨v, ?_, hv, by omega, hew, hdl⟩
   unfold numP
   rw [LIB.2 ⟨hv, hew, by rw [hat0]; exact hdl⟩]
   show (if 0 <= v then some v else none) = some v
   rw [if_pos (by omega)]
 · refine .inr ⟨?_, .inr ⟨v, hv, .inr (.inr ⟨by omega, hew, hdl⟩)⟩⟩
   unfold numP
   cases e : numO ws[k] d with
   | none => rfl
   | some u =>
     have e1 := (LIB.1 e).2.2
     rw [hat0] at e1
     exact absurd e1 hdl
set_option maxRecDepth 100000 in
set_option maxHeartbeats 6400000 in
theorem parse_ok (s : Nm) (hs : s.length <= 100000) (d n : Nat) (hd : d <= 17) (hn : n <= 10) (vs : List Int) (hv : vs.length = n) (l0 : List Int) (h0 : numsC n d s = some l0) : SummG Tryz.prog GS 104 [.box (bxI vs), .rowA 196 1 n (ptI n)] [.f (sv s), .f (iv ((d : Nat) : Int)), .ow 1] (.f (.v (.bool true))) [.box (bxI l0), .rowA 196 1 n (ptI n)] := by
 have HSp := Split_s s 32 (by omega)
 have hcl : (cutS 32 s).length = n := Classical.byContradiction fun h => by rw [numsC_len' h] at h0; cases h0
 rw [numsC_eq hcl] at h0
 have hw : ∀ w ∈ cutS 32 s, w.length <= 1000000 := fun w hw => by have := cutS_mem_len 32 s w hw; omega
 generalize cutS 32 s = ws at *
 refine summG_of Tryz.func104 rfl rfl 62 rfl (by simp) (by simp) (fun i B B' h1 h2 => by
  match i, h1, h2 with
  | 0, h1, h2 => cases h1; cases h2; rfl
  | 1, h1, h2 => cases h1; cases h2; rfl
  | _ + 2, h1, _ => simp at h1) (fun M X J => ?_)
 repeat (first
 | (apply s_lenOA TY; (iterate 5 exact rfl))
 | (apply s_a TY; exact rfl)
 | (apply s_t; exact rfl; omega)
 | apply w_seq
 | apply w_region
 | apply s_nil
 | apply t_norm
 | apply w_block
 | apply w_skip
 | (apply w_condF; exact rfl; exact rfl)
 | (apply s_k (HSp); exact rfl))
 apply w_loop (fun z : Nat × List Int => ⟨(Ab.upd (Ab.upd (Ab.upd (Ab.upd (Ab.upd (Ab.upd (fun _ => .bot) 1 (.f (iv ((d : Nat) : Int)))) 2 (.ow 1)) 7 (.f (.sl ws.length (strsF ws)))) 19 (.ow 1)) 20 (.f (iv ((n : Nat) : Int)))) 21 (.f (iv ((z.1 : Nat) : Int)))), (Ab.upd (Ab.upd (fun _ => none) 0 (some (.box (bxI (z.2 ++ vs.drop z.1))))) 1 (some (.rowA 196 1 n (ptI n)))), 2⟩) (fun z => numsO d (ws.take z.1) = some z.2 /\ z.1 <= n) (fun z => n - z.1) (0, []) (⟨rfl, Nat.zero_le _⟩) (gh_le ⟨le_upd rfl trivial (le_upd rfl trivial (le_upd rfl rfl (le_upd rfl trivial (le_upd rfl rfl (le_upd rfl trivial (le_nil _)))))), le_hupd rfl (ptI_cl n rfl) (le_hupd rfl (bxI_cl _) (le_h0 _ _))⟩)
 rintro ⟨k, l⟩ ⟨hnk, hk⟩
 change numsO d (ws.take k) = some l at hnk
 change k <= n at hk
 change W _ _ _ _ (⟨(Ab.upd (Ab.upd (Ab.upd (Ab.upd (Ab.upd (Ab.upd (fun _ => .bot) 1 (.f (iv ((d : Nat) : Int)))) 2 (.ow 1)) 7 (.f (.sl ws.length (strsF ws)))) 19 (.ow 1)) 20 (.f (iv ((n : Nat) : Int)))) 21 (.f (iv ((k : Nat) : Int)))), (Ab.upd (Ab.upd (fun _ => none) 0 (some (.box (bxI (l ++ vs.drop k))))) 1 (some (.rowA 196 1 n (ptI n)))), 2⟩)
 have hll := numsO_len hnk
 rw [List.length_take] at hll
 have hlk : l.length = k := by omega
 by_cases hkn : k < n
 · have hpt : (ptI n)[(((k : Nat) : Int)).toNat * 1]? = some (AV.bx 0 k) := ptI_at hkn
   have hat : (strsF ws)[k * 1]? = some (sv ws[k]) := strsF_at (by omega)
   have hne : strsF ws ≠ [] := strsF_ne (k := k) (by omega)
   have hwk := hw _ (List.getElem_mem (by omega : k < ws.length))
   have hsz := strSz ws[k]
   have hst := bxI_len (vs := vs) hlk (by omega)
   rcases parse_step ws d n k hd hcl (by omega) hw hkn with ⟨v, hso, hv, h1, hew, h3⟩ | ⟨hno, _⟩
   case inr => exact absurd h0 (by rw [numsO_bad (by omega) hno]; simp)
   have HA := Atoi_ok ws[k] hwk hv
   have HI := Itoa_s v (atoi_rng hv)
   have hbx := boxI_eq (bxI_set (vs := vs) hlk (by omega) v)
   repeat (first
 | (apply s_idxOA TY; (iterate 6 exact rfl); omega; omega)
 | (apply s_ldA TY; (iterate 5 exact rfl); exact hpt)
 | (apply s_nilCheck; exact rfl; exact rfl; exact rfl)
 | (apply s_store TY; (iterate 5 exact rfl); exact hst)
 | (apply s_bind; (iterate 6 exact rfl); exact nes_f hew)
 | (apply s_ifcNil Tryz.underlying338; exact rfl; exact rfl; exact rfl)
 | (apply s_a TY; exact rfl)
 | (apply s_t; exact rfl; omega)
 | (apply s_f; exact rfl; omega)
 | apply w_seq
 | apply w_region
 | (apply w_draw (id := 8) 22 rfl (by kernel_rfl))
 | apply s_nil
 | apply t_norm
 | apply k_norm
 | apply w_block
 | apply w_skip
 | (apply w_condT; exact rfl; exact rfl)
 | (apply w_condF; exact rfl; exact rfl)
 | (apply s_k (HA); exact rfl)
 | (apply s_k (HI); exact rfl)
 | (apply s_c TY; exact rfl; (first | omega | exact ⟨by omega, by (with_reducible assumption)⟩))
 | (apply s_l TY; exact rfl; with_reducible assumption))
   exact ⟨(k + 1, l ++ [v]), ⟨numsO_next (by omega) hnk hso, by show k + 1 <= _; omega⟩, by show _ - (k + 1) < _ - k; omega, gh_le ⟨le_upd rfl trivial (le_upd rfl trivial (le_upd rfl rfl (le_upd rfl trivial (le_upd rfl rfl (le_upd rfl trivial (le_nil _)))))), le_hupd rfl (ptI_cl n rfl) (le_hupd hbx (bxI_cl _) (le_h0 _ _))⟩⟩
 · have hke : k = ws.length := by omega
   subst hke
   rw [List.take_length, h0] at hnk
   obtain rfl := Option.some.inj hnk
   have hbe : some (Blk.box (bxI (l0 ++ vs.drop ws.length))) = some (Blk.box (bxI l0)) := boxI_eq (by rw [List.drop_of_length_le (by omega), List.append_nil])
   repeat (first
 | (apply s_a TY; exact rfl)
 | (apply s_f; exact rfl; omega)
 | apply w_seq
 | apply w_region
 | apply s_nil
 | apply t_norm
 | apply t_exit
 | apply k_hit
 | apply w_exit
 | apply w_ret
 | (apply w_condF; exact rfl; exact rfl))
   exact lvG_ret (L' := [.box (bxI l0), .rowA 196 1 n (ptI n)]) (s := Ab.upd (fun _ => .bot) 6 (.f (.v (.bool true)))) (nx := 2) (gh_le ⟨le_upd rfl trivial (le_nil _), le_hupd hbe (bxI_cl _) (le_hupd rfl (ptI_cl n rfl) (le_h0 _ _))⟩) (rg1 rfl (rv_tmp rfl))
set_option maxRecDepth 100000 in
set_option maxHeartbeats 12800000 in
theorem parse_no (s : Nm) (hs : s.length <= 100000) (d n : Nat) (hd : d <= 17) (hn : n <= 10) (vs : List Int) (hv : vs.length = n) (h0 : numsC n d s = none) : ∃ us : List Int, us.length = n /\ SummG Tryz.prog GS 104 [.box (bxI vs), .rowA 196 1 n (ptI n)] [.f (sv s), .f (iv ((d : Nat) : Int)), .ow 1] (.f (.v (.bool false))) [.box (bxI us), .rowA 196 1 n (ptI n)] := by
 have HSp := Split_s s 32 (by omega)
 have hw : ∀ w ∈ cutS 32 s, w.length <= 1000000 := fun w hw => by have := cutS_mem_len 32 s w hw; omega
 have hcl2 := cutS_len 32 s
 by_cases hcl : (cutS 32 s).length = n
 case neg =>
  refine ⟨vs, hv, ?_⟩
  generalize cutS 32 s = ws at *
  refine summG_of Tryz.func104 rfl rfl 62 rfl (by simp) (by simp) (fun i B B' h1 h2 => by
   match i, h1, h2 with
   | 0, h1, h2 => cases h1; cases h2; rfl
   | 1, h1, h2 => cases h1; cases h2; rfl
   | _ + 2, h1, _ => simp at h1) (fun M X J => ?_)
  repeat (first
 | (apply s_lenOA TY; (iterate 5 exact rfl))
 | (apply s_a TY; exact rfl)
 | (apply s_f; exact rfl; omega)
 | apply w_seq
 | apply w_region
 | apply s_nil
 | apply t_norm
 | apply t_ret
 | apply w_ret
 | (apply w_condT; exact rfl; exact rfl)
 | (apply s_k (HSp); exact rfl))
  exact lvG_ret (L' := [.box (bxI vs), .rowA 196 1 n (ptI n)]) (s := Ab.upd (fun _ => .bot) 6 (.f (.v (.bool false)))) (nx := 2) (gh_le ⟨le_upd rfl trivial (le_nil _), le_hupd rfl (bxI_cl _) (le_hupd rfl (ptI_cl n rfl) (le_h0 _ _))⟩) (rg1 rfl (rv_tmp rfl))
 rw [numsC_eq hcl] at h0
 generalize cutS 32 s = ws at *
 obtain ⟨q, hq, pre, hpre, hbad⟩ := numsO_none h0
 have hpl := numsO_len hpre
 rw [List.length_take] at hpl
 refine ⟨pre ++ vs.drop q, by rw [List.length_append, List.length_drop]; omega, ?_⟩
 refine summG_of Tryz.func104 rfl rfl 62 rfl (by simp) (by simp) (fun i B B' h1 h2 => by
  match i, h1, h2 with
  | 0, h1, h2 => cases h1; cases h2; rfl
  | 1, h1, h2 => cases h1; cases h2; rfl
  | _ + 2, h1, _ => simp at h1) (fun M X J => ?_)
 repeat (first
 | (apply s_lenOA TY; (iterate 5 exact rfl))
 | (apply s_a TY; exact rfl)
 | (apply s_t; exact rfl; omega)
 | apply w_seq
 | apply w_region
 | apply s_nil
 | apply t_norm
 | apply w_block
 | apply w_skip
 | (apply w_condF; exact rfl; exact rfl)
 | (apply s_k (HSp); exact rfl))
 apply w_loop (fun z : Nat × List Int => ⟨(Ab.upd (Ab.upd (Ab.upd (Ab.upd (Ab.upd (Ab.upd (fun _ => .bot) 1 (.f (iv ((d : Nat) : Int)))) 2 (.ow 1)) 7 (.f (.sl ws.length (strsF ws)))) 19 (.ow 1)) 20 (.f (iv ((n : Nat) : Int)))) 21 (.f (iv ((z.1 : Nat) : Int)))), (Ab.upd (Ab.upd (fun _ => none) 0 (some (.box (bxI (z.2 ++ vs.drop z.1))))) 1 (some (.rowA 196 1 n (ptI n)))), 2⟩) (fun z => numsO d (ws.take z.1) = some z.2 /\ z.1 <= q) (fun z => q - z.1) (0, []) (⟨rfl, Nat.zero_le _⟩) (gh_le ⟨le_upd rfl trivial (le_upd rfl trivial (le_upd rfl rfl (le_upd rfl trivial (le_upd rfl rfl (le_upd rfl trivial (le_nil _)))))), le_hupd rfl (ptI_cl n rfl) (le_hupd rfl (bxI_cl _) (le_h0 _ _))⟩)
 rintro ⟨k, l⟩ ⟨hnk, hk⟩
 change numsO d (ws.take k) = some l at hnk
 change k <= q at hk
 change W _ _ _ _ (⟨(Ab.upd (Ab.upd (Ab.upd (Ab.upd (Ab.upd (Ab.upd (fun _ => .bot) 1 (.f (iv ((d : Nat) : Int)))) 2 (.ow 1)) 7 (.f (.sl ws.length (strsF ws)))) 19 (.ow 1)) 20 (.f (iv ((n : Nat) : Int)))) 21 (.f (iv ((k : Nat) : Int)))), (Ab.upd (Ab.upd (fun _ => none) 0 (some (.box (bxI (l ++ vs.drop k))))) 1 (some (.rowA 196 1 n (ptI n)))), 2⟩)
 have hll := numsO_len hnk
 rw [List.length_take] at hll
 have hlk : l.length = k := by omega
 have hkn : k < n := by omega
 have hpt : (ptI n)[(((k : Nat) : Int)).toNat * 1]? = some (AV.bx 0 k) := ptI_at hkn
 have hat : (strsF ws)[k * 1]? = some (sv ws[k]) := strsF_at (by omega)
 have hne : strsF ws ≠ [] := strsF_ne (k := k) (by omega)
 have hwk := hw _ (List.getElem_mem (by omega : k < ws.length))
 have hsz := strSz ws[k]
 have hst := bxI_len (vs := vs) hlk (by omega)
 by_cases hkq : k < q
 · rcases parse_step ws d n k hd hcl (by omega) hw hkn with ⟨v, hso, hv, h1, hew, h3⟩ | ⟨hno, _⟩
   case inr =>
    have e := List.take_succ_eq_append_getElem (show k < ws.length by omega)
    have h5 : numsO d (ws.take q) = none := by
     have h6 : k < (ws.take q).length := by rw [List.length_take]; omega
     exact numsO_bad h6 (by rw [List.getElem_take]; exact hno)
    rw [h5] at hpre; cases hpre
   have HA := Atoi_ok ws[k] hwk hv
   have HI := Itoa_s v (atoi_rng hv)
   have hbx := boxI_eq (bxI_set (vs := vs) hlk (by omega) v)
   repeat (first
 | (apply s_idxOA TY; (iterate 6 exact rfl); omega; omega)
 | (apply s_ldA TY; (iterate 5 exact rfl); exact hpt)
 | (apply s_nilCheck; exact rfl; exact rfl; exact rfl)
 | (apply s_store TY; (iterate 5 exact rfl); exact hst)
 | (apply s_bind; (iterate 6 exact rfl); exact nes_f hew)
 | (apply s_ifcNil Tryz.underlying338; exact rfl; exact rfl; exact rfl)
 | (apply s_a TY; exact rfl)
 | (apply s_t; exact rfl; omega)
 | (apply s_f; exact rfl; omega)
 | apply w_seq
 | apply w_region
 | (apply w_draw (id := 8) 22 rfl (by kernel_rfl))
 | apply s_nil
 | apply t_norm
 | apply k_norm
 | apply w_block
 | apply w_skip
 | (apply w_condT; exact rfl; exact rfl)
 | (apply w_condF; exact rfl; exact rfl)
 | (apply s_k (HA); exact rfl)
 | (apply s_k (HI); exact rfl)
 | (apply s_c TY; exact rfl; (first | omega | exact ⟨by omega, by (with_reducible assumption)⟩))
 | (apply s_l TY; exact rfl; with_reducible assumption))
   exact ⟨(k + 1, l ++ [v]), ⟨numsO_next (by omega) hnk hso, by show k + 1 <= _; omega⟩, by show _ - (k + 1) < _ - k; omega, gh_le ⟨le_upd rfl trivial (le_upd rfl trivial (le_upd rfl rfl (le_upd rfl trivial (le_upd rfl rfl (le_upd rfl trivial (le_nil _)))))), le_hupd rfl (ptI_cl n rfl) (le_hupd hbx (bxI_cl _) (le_h0 _ _))⟩⟩
 · have hke : k = q := by omega
   subst hke
   rw [hpre] at hnk
   obtain rfl := Option.some.inj hnk
   rcases parse_step ws d n k hd hcl (by omega) hw hkn with ⟨v, hso, _⟩ | ⟨_, hno⟩
   case inl => rw [hbad] at hso; cases hso
   rcases hno with hno | ⟨v, hv, hneg | ⟨h1, hew⟩ | ⟨h1, hew, hdl⟩⟩
   · obtain ⟨m, HA⟩ := Atoi_err ws[k] hwk hno
     repeat (first
 | (apply s_idxOA TY; (iterate 6 exact rfl); omega; omega)
 | (apply s_ldA TY; (iterate 5 exact rfl); exact hpt)
 | (apply s_ifcNe Tryz.underlying338; exact rfl; exact rfl; exact rfl)
 | (apply s_a TY; exact rfl)
 | (apply s_t; exact rfl; omega)
 | apply w_seq
 | apply w_region
 | (apply w_draw (id := 8) 22 rfl (by kernel_rfl))
 | apply s_nil
 | apply t_norm
 | apply t_ret
 | apply k_ret
 | apply w_block
 | apply w_ret
 | apply w_skip
 | (apply w_condT; exact rfl; exact rfl)
 | (apply s_k (HA); exact rfl)
 | (apply s_s; exact rfl)
 | (apply s_c TY; exact rfl; (exact ⟨by omega, by (with_reducible assumption)⟩))
 | (apply s_l TY; exact rfl; with_reducible assumption))
     exact lvG_ret (L' := [.box (bxI (pre ++ vs.drop k)), .rowA 196 1 n (ptI n)]) (s := Ab.upd (fun _ => .bot) 6 (.f (.v (.bool false)))) (nx := 2) (gh_le ⟨le_upd rfl trivial (le_nil _), le_hupd rfl (bxI_cl _) (le_hupd rfl (ptI_cl n rfl) (le_h0 _ _))⟩) (rg1 rfl (rv_tmp rfl))
   · have HA := Atoi_ok ws[k] hwk hv
     repeat (first
 | (apply s_idxOA TY; (iterate 6 exact rfl); omega; omega)
 | (apply s_ldA TY; (iterate 5 exact rfl); exact hpt)
 | (apply s_ifcNil Tryz.underlying338; exact rfl; exact rfl; exact rfl)
 | (apply s_a TY; exact rfl)
 | (apply s_t; exact rfl; (first | assumption | omega))
 | apply w_seq
 | apply w_region
 | (apply w_draw (id := 8) 22 rfl (by kernel_rfl))
 | apply s_nil
 | apply t_norm
 | apply t_ret
 | apply k_ret
 | apply w_block
 | apply w_ret
 | apply w_skip
 | (apply w_condT; exact rfl; exact rfl)
 | (apply s_k (HA); exact rfl)
 | (apply s_s; exact rfl)
 | (apply s_c TY; exact rfl; (exact ⟨by omega, by (with_reducible assumption)⟩))
 | (apply s_l TY; exact rfl; with_reducible assumption))
     exact lvG_ret (L' := [.box (bxI (pre ++ vs.drop k)), .rowA 196 1 n (ptI n)]) (s := Ab.upd (fun _ => .bot) 6 (.f (.v (.bool false)))) (nx := 2) (gh_le ⟨le_upd rfl trivial (le_nil _), le_hupd rfl (bxI_cl _) (le_hupd rfl (ptI_cl n rfl) (le_h0 _ _))⟩) (rg1 rfl (rv_tmp rfl))
   · have HA := Atoi_ok ws[k] hwk hv
     have HI := Itoa_s v (atoi_rng hv)
     have hnw : ¬ itoa v = ws[k] := hew
     repeat (first
 | (apply s_idxOA TY; (iterate 6 exact rfl); omega; omega)
 | (apply s_ldA TY; (iterate 5 exact rfl); exact hpt)
 | (apply s_bind; (iterate 6 exact rfl); exact nes_t hnw)
 | (apply s_ifcNil Tryz.underlying338; exact rfl; exact rfl; exact rfl)
 | (apply s_a TY; exact rfl)
 | (apply s_t; exact rfl; omega)
 | (apply s_f; exact rfl; omega)
 | apply w_seq
 | apply w_region
 | (apply w_draw (id := 8) 22 rfl (by kernel_rfl))
 | apply s_nil
 | apply t_norm
 | apply t_ret
 | apply k_ret
 | apply w_block
 | apply w_ret
 | apply w_skip
 | (apply w_condT; exact rfl; exact rfl)
 | (apply s_k (HA); exact rfl)
 | (apply s_k (HI); exact rfl)
 | (apply s_s; exact rfl)
 | (apply s_c TY; exact rfl; (exact ⟨by omega, by (with_reducible assumption)⟩))
 | (apply s_l TY; exact rfl; with_reducible assumption))
     exact lvG_ret (L' := [.box (bxI (pre ++ vs.drop k)), .rowA 196 1 n (ptI n)]) (s := Ab.upd (fun _ => .bot) 6 (.f (.v (.bool false)))) (nx := 2) (gh_le ⟨le_upd rfl trivial (le_nil _), le_hupd rfl (bxI_cl _) (le_hupd rfl (ptI_cl n rfl) (le_h0 _ _))⟩) (rg1 rfl (rv_tmp rfl))
   · have HA := Atoi_ok ws[k] hwk hv
     have HI := Itoa_s v (atoi_rng hv)
     repeat (first
 | (apply s_idxOA TY; (iterate 6 exact rfl); omega; omega)
 | (apply s_ldA TY; (iterate 5 exact rfl); exact hpt)
 | (apply s_bind; (iterate 6 exact rfl); exact nes_f hew)
 | (apply s_ifcNil Tryz.underlying338; exact rfl; exact rfl; exact rfl)
 | (apply s_a TY; exact rfl)
 | (apply s_t; exact rfl; omega)
 | (apply s_f; exact rfl; omega)
 | apply w_seq
 | apply w_region
 | (apply w_draw (id := 8) 22 rfl (by kernel_rfl))
 | apply s_nil
 | apply t_norm
 | apply t_ret
 | apply k_ret
 | apply w_block
 | apply w_ret
 | apply w_skip
 | (apply w_condT; exact rfl; exact rfl)
 | (apply s_k (HA); exact rfl)
 | (apply s_k (HI); exact rfl)
 | (apply s_c TY; exact rfl; (exact ⟨by omega, by (with_reducible assumption)⟩))
 | (apply s_l TY; exact rfl; with_reducible assumption))
     exact lvG_ret (L' := [.box (bxI (pre ++ vs.drop k)), .rowA 196 1 n (ptI n)]) (s := Ab.upd (fun _ => .bot) 6 (.f (.v (.bool false)))) (nx := 2) (gh_le ⟨le_upd rfl trivial (le_nil _), le_hupd rfl (bxI_cl _) (le_hupd rfl (ptI_cl n rfl) (le_h0 _ _))⟩) (rg1 rfl (rv_tmp rfl))
def rulZ : Rule := ⟨0, 0, 0, 0, 0⟩
def hitZ : Hit := ⟨0, 0, 0⟩
def hitB (h : Hit) : Prop := (0 <= h.tm /\ h.tm <= 1000000000000) /\ (1 <= h.line /\ h.line <= 100) /\ (1 <= h.sensor /\ h.sensor <= 100)
instance (h : Hit) : Decidable (hitB h) := by unfold hitB; infer_instance
def rulO (l : List Int) : Rule × Int := match l with
 | [a, b, c, d, e] => if ruleErr ⟨a, b, c, d, e⟩ = 0 then (⟨a, b, c, d, e⟩, 0) else (rulZ, ruleErr ⟨a, b, c, d, e⟩)
 | _ => (rulZ, 7)
def hitO (l : List Int) : Hit × Int := match l with
 | [a, b, c] => if hitB ⟨a, b, c⟩ then (⟨a, b, c⟩, 0) else (hitZ, 2)
 | _ => (hitZ, 7)
def rulP (s : Nm) : Rule × Int := match numsC 5 7 s with
 | some l => rulO l
 | none => (rulZ, 7)
def hitP (s : Nm) : Hit × Int := match numsC 3 13 s with
 | some l => hitO l
 | none => (hitZ, 7)
theorem len5 {l : List Int} (h : l.length = 5) : ∃ a b c d e, l = [a, b, c, d, e] := by
 match l, h with
 | [a, b, c, d, e], _ => exact ⟨a, b, c, d, e, rfl⟩
theorem len3 {l : List Int} (h : l.length = 3) : ∃ a b c, l = [a, b, c] := by
 match l, h with
 | [a, b, c], _ => exact ⟨a, b, c, rfl⟩
set_option maxRecDepth 100000 in
set_option maxHeartbeats 3200000 in
theorem ParseRule_s (s : Nm) (hs : s.length <= 100000) : Summ Tryz.prog GS 16 [sv s] (.tup [.agg (ruleF (rulP s).1), iv (rulP s).2]) := by
 have HF2 := fun a b => up (tfirst2_s a b)
 have HUt := up (tunless_T 7)
 have HUf := up (tunless_F 7)
 cases h : numsC 5 7 s with
 | none =>
   obtain ⟨us, hu, HP⟩ := parse_no s hs 7 5 (by decide) (by decide) [0, 0, 0, 0, 0] rfl h
   obtain ⟨a, b, c, d, e, rfl⟩ := len5 hu
   rw [show rulP s = (rulZ, 7) by unfold rulP; rw [h]]
   have HK := up (CheckRule_s ⟨a, b, c, d, e⟩)
   generalize ruleErr ⟨a, b, c, d, e⟩ = E at *
   have H2 := HF2 7 E
   change Summ _ _ _ _ (iv 7) at H2
   refine summW Tryz.func16 rfl rfl 26 rfl (by simp) (fun M0 => ?_)
   repeat (first
 | (apply s_bsliceP5 TY; (iterate 10 exact rfl))
 | (apply s_callG [1, 2] HP; exact rfl; exact rfl; exact rfl; exact ⟨rfl, rfl, trivial⟩; exact rfl; exact ⟨rfl, rfl⟩)
 | (apply s_a TY; exact rfl)
 | (apply s_f; exact rfl; omega)
 | apply w_seq
 | apply w_region
 | (apply w_draw (id := 3) 3 rfl (by kernel_rfl))
 | apply s_nil
 | apply t_norm
 | apply t_ret
 | apply w_ret
 | (apply w_condT; exact rfl; exact rfl)
 | (apply s_k (HUf); exact rfl)
 | (apply s_k (HK); exact rfl)
 | (apply s_k (H2); exact rfl)
 | (apply s_alloc TY; exact rfl; exact rfl; exact rfl)
 | (apply s_store TY; (iterate 6 exact rfl)))
   exact lv_ret (ret2 rfl (res_bxs (sub := ruleF rulZ) TY rfl rfl rfl rfl rfl) (res_tmp rfl))
 | some l =>
   have HP := parse_ok s hs 7 5 (by decide) (by decide) [0, 0, 0, 0, 0] rfl l h
   obtain ⟨a, b, c, d, e, rfl⟩ := len5 (numsC_len h)
   have HK := up (CheckRule_s ⟨a, b, c, d, e⟩)
   by_cases hE : ruleErr ⟨a, b, c, d, e⟩ = 0
   · rw [show rulP s = (⟨a, b, c, d, e⟩, 0) by unfold rulP; rw [h]; exact if_pos hE]
     rw [hE] at HK
     have H2 := HF2 0 0
     change Summ _ _ _ _ (iv 0) at H2
     refine summW Tryz.func16 rfl rfl 26 rfl (by simp) (fun M0 => ?_)
     repeat (first
 | (apply s_bsliceP5 TY; (iterate 10 exact rfl))
 | (apply s_callG [1, 2] HP; exact rfl; exact rfl; exact rfl; exact ⟨rfl, rfl, trivial⟩; exact rfl; exact ⟨rfl, rfl⟩)
 | (apply s_a TY; exact rfl)
 | (apply s_t; exact rfl; omega)
 | apply w_seq
 | apply w_region
 | (apply w_draw (id := 3) 3 rfl (by kernel_rfl))
 | apply s_nil
 | apply t_norm
 | apply w_ret
 | apply w_skip
 | (apply w_condF; exact rfl; exact rfl)
 | (apply s_k (HUt); exact rfl)
 | (apply s_k (HK); exact rfl)
 | (apply s_k (H2); exact rfl)
 | (apply s_alloc TY; exact rfl; exact rfl; exact rfl)
 | (apply s_store TY; (iterate 6 exact rfl)))
     exact lv_ret (ret2 rfl (res_bxs (sub := ruleF ⟨a, b, c, d, e⟩) TY rfl rfl rfl rfl rfl) (res_tmp rfl))
   · rw [show rulP s = (rulZ, ruleErr ⟨a, b, c, d, e⟩) by unfold rulP; rw [h]; exact if_neg hE]
     generalize ruleErr ⟨a, b, c, d, e⟩ = E at *
     have H2 := HF2 0 E
     rw [show firstE [0, E] = E by rw [firstE_tl, firstE_hd hE]] at H2
     refine summW Tryz.func16 rfl rfl 26 rfl (by simp) (fun M0 => ?_)
     repeat (first
 | (apply s_bsliceP5 TY; (iterate 10 exact rfl))
 | (apply s_callG [1, 2] HP; exact rfl; exact rfl; exact rfl; exact ⟨rfl, rfl, trivial⟩; exact rfl; exact ⟨rfl, rfl⟩)
 | (apply s_a TY; exact rfl)
 | (apply s_f; exact rfl; assumption)
 | apply w_seq
 | apply w_region
 | (apply w_draw (id := 3) 3 rfl (by kernel_rfl))
 | apply s_nil
 | apply t_norm
 | apply t_ret
 | apply w_ret
 | (apply w_condT; exact rfl; exact rfl)
 | (apply s_k (HUt); exact rfl)
 | (apply s_k (HK); exact rfl)
 | (apply s_k (H2); exact rfl)
 | (apply s_alloc TY; exact rfl; exact rfl; exact rfl)
 | (apply s_store TY; (iterate 6 exact rfl)))
     exact lv_ret (ret2 rfl (res_bxs (sub := ruleF rulZ) TY rfl rfl rfl rfl rfl) (res_tmp rfl))
set_option maxRecDepth 100000 in
set_option maxHeartbeats 6400000 in
theorem ParseHit_s (s : Nm) (hs : s.length <= 100000) : Summ Tryz.prog GS 18 [sv s] (.tup [.agg (hitF (hitP s).1), iv (hitP s).2]) := by
 have HUt := up (tunless_T 7)
 have HUf := up (tunless_F 7)
 cases h : numsC 3 13 s with
 | none =>
   obtain ⟨us, hu, HP⟩ := parse_no s hs 13 3 (by decide) (by decide) [0, 0, 0] rfl h
   obtain ⟨a, b, c, rfl⟩ := len3 hu
   rw [show hitP s = (hitZ, 7) by unfold hitP; rw [h]]
   by_cases h1 : 0 <= a /\ a <= 1000000000000
   · by_cases h2 : 1 <= b /\ b <= 100
     · by_cases h3 : 1 <= c /\ c <= 100
       · have HB1 := up (isTick_T a h1)
         have HB2 := up (isNumber_T b h2)
         have HB3 := up (isNumber_T c h3)
         have HU2 := up (tunless_T 2)
         have H2 := up (tfirst2_s 7 0)
         change Summ _ _ _ _ (iv 7) at H2
         refine summW Tryz.func18 rfl rfl 36 rfl (by simp) (fun M0 => ?_)
         repeat (first
 | (apply s_bsliceP3 TY; (iterate 8 exact rfl))
 | (apply s_callG [1, 2] HP; exact rfl; exact rfl; exact rfl; exact ⟨rfl, rfl, trivial⟩; exact rfl; exact ⟨rfl, rfl⟩)
 | (apply s_a TY; exact rfl)
 | (apply s_f; exact rfl; omega)
 | apply w_seq
 | apply w_region
 | (apply w_draw (id := 3) 4 rfl (by kernel_rfl))
 | apply s_nil
 | apply t_norm
 | apply t_ret
 | apply w_ret
 | (apply w_condT; exact rfl; exact rfl)
 | (apply s_k (HUf); exact rfl)
 | (apply s_k (HU2); exact rfl)
 | (apply s_k (H2); exact rfl)
 | (apply s_k (HB1); exact rfl)
 | (apply s_k (HB2); exact rfl)
 | (apply s_k (HB3); exact rfl)
 | (apply s_alloc TY; exact rfl; exact rfl; exact rfl)
 | (apply s_store TY; (iterate 6 exact rfl)))
         exact lv_ret (ret2 rfl (res_bxs (sub := hitF hitZ) TY rfl rfl rfl rfl rfl) (res_tmp rfl))
       · have HB1 := up (isTick_T a h1)
         have HB2 := up (isNumber_T b h2)
         have HB3 := up (isNumber_F c h3)
         have HU2 := up (tunless_F 2)
         have H2 := up (tfirst2_s 7 2)
         change Summ _ _ _ _ (iv 7) at H2
         refine summW Tryz.func18 rfl rfl 36 rfl (by simp) (fun M0 => ?_)
         repeat (first
 | (apply s_bsliceP3 TY; (iterate 8 exact rfl))
 | (apply s_callG [1, 2] HP; exact rfl; exact rfl; exact rfl; exact ⟨rfl, rfl, trivial⟩; exact rfl; exact ⟨rfl, rfl⟩)
 | (apply s_a TY; exact rfl)
 | (apply s_f; exact rfl; omega)
 | apply w_seq
 | apply w_region
 | (apply w_draw (id := 3) 4 rfl (by kernel_rfl))
 | apply s_nil
 | apply t_norm
 | apply t_ret
 | apply w_ret
 | (apply w_condT; exact rfl; exact rfl)
 | (apply s_k (HUf); exact rfl)
 | (apply s_k (HU2); exact rfl)
 | (apply s_k (H2); exact rfl)
 | (apply s_k (HB1); exact rfl)
 | (apply s_k (HB2); exact rfl)
 | (apply s_k (HB3); exact rfl)
 | (apply s_alloc TY; exact rfl; exact rfl; exact rfl)
 | (apply s_store TY; (iterate 6 exact rfl)))
         exact lv_ret (ret2 rfl (res_bxs (sub := hitF hitZ) TY rfl rfl rfl rfl rfl) (res_tmp rfl))
     · have HB1 := up (isTick_T a h1)
       have HB2 := up (isNumber_F b h2)
       have HU2 := up (tunless_F 2)
       have H2 := up (tfirst2_s 7 2)
       change Summ _ _ _ _ (iv 7) at H2
       refine summW Tryz.func18 rfl rfl 36 rfl (by simp) (fun M0 => ?_)
       repeat (first
 | (apply s_bsliceP3 TY; (iterate 8 exact rfl))
 | (apply s_callG [1, 2] HP; exact rfl; exact rfl; exact rfl; exact ⟨rfl, rfl, trivial⟩; exact rfl; exact ⟨rfl, rfl⟩)
 | (apply s_a TY; exact rfl)
 | (apply s_f; exact rfl; omega)
 | apply w_seq
 | apply w_region
 | (apply w_draw (id := 3) 4 rfl (by kernel_rfl))
 | apply s_nil
 | apply t_norm
 | apply t_ret
 | apply w_ret
 | (apply w_condT; exact rfl; exact rfl)
 | (apply s_k (HUf); exact rfl)
 | (apply s_k (HU2); exact rfl)
 | (apply s_k (H2); exact rfl)
 | (apply s_k (HB1); exact rfl)
 | (apply s_k (HB2); exact rfl)
 | (apply s_s; exact rfl)
 | (apply s_alloc TY; exact rfl; exact rfl; exact rfl)
 | (apply s_store TY; (iterate 6 exact rfl)))
       exact lv_ret (ret2 rfl (res_bxs (sub := hitF hitZ) TY rfl rfl rfl rfl rfl) (res_tmp rfl))
   · have HB1 := up (isTick_F a h1)
     have HU2 := up (tunless_F 2)
     have H2 := up (tfirst2_s 7 2)
     change Summ _ _ _ _ (iv 7) at H2
     refine summW Tryz.func18 rfl rfl 36 rfl (by simp) (fun M0 => ?_)
     repeat (first
 | (apply s_bsliceP3 TY; (iterate 8 exact rfl))
 | (apply s_callG [1, 2] HP; exact rfl; exact rfl; exact rfl; exact ⟨rfl, rfl, trivial⟩; exact rfl; exact ⟨rfl, rfl⟩)
 | (apply s_a TY; exact rfl)
 | (apply s_f; exact rfl; omega)
 | apply w_seq
 | apply w_region
 | (apply w_draw (id := 3) 4 rfl (by kernel_rfl))
 | apply s_nil
 | apply t_norm
 | apply t_ret
 | apply w_ret
 | (apply w_condT; exact rfl; exact rfl)
 | (apply s_k (HUf); exact rfl)
 | (apply s_k (HU2); exact rfl)
 | (apply s_k (H2); exact rfl)
 | (apply s_k (HB1); exact rfl)
 | (apply s_s; exact rfl)
 | (apply s_alloc TY; exact rfl; exact rfl; exact rfl)
 | (apply s_store TY; (iterate 6 exact rfl)))
     exact lv_ret (ret2 rfl (res_bxs (sub := hitF hitZ) TY rfl rfl rfl rfl rfl) (res_tmp rfl))
 | some l =>
   have HP := parse_ok s hs 13 3 (by decide) (by decide) [0, 0, 0] rfl l h
   obtain ⟨a, b, c, rfl⟩ := len3 (numsC_len h)
   by_cases h1 : 0 <= a /\ a <= 1000000000000
   · by_cases h2 : 1 <= b /\ b <= 100
     · by_cases h3 : 1 <= c /\ c <= 100
       · rw [show hitP s = (⟨a, b, c⟩, 0) by unfold hitP; rw [h]; exact if_pos ⟨h1, h2, h3⟩]
         have HB1 := up (isTick_T a h1)
         have HB2 := up (isNumber_T b h2)
         have HB3 := up (isNumber_T c h3)
         have HU2 := up (tunless_T 2)
         have H2 := up (tfirst2_s 0 0)
         change Summ _ _ _ _ (iv 0) at H2
         refine summW Tryz.func18 rfl rfl 36 rfl (by simp) (fun M0 => ?_)
         repeat (first
 | (apply s_bsliceP3 TY; (iterate 8 exact rfl))
 | (apply s_callG [1, 2] HP; exact rfl; exact rfl; exact rfl; exact ⟨rfl, rfl, trivial⟩; exact rfl; exact ⟨rfl, rfl⟩)
 | (apply s_a TY; exact rfl)
 | (apply s_t; exact rfl; omega)
 | apply w_seq
 | apply w_region
 | (apply w_draw (id := 3) 4 rfl (by kernel_rfl))
 | apply s_nil
 | apply t_norm
 | apply w_ret
 | apply w_skip
 | (apply w_condF; exact rfl; exact rfl)
 | (apply s_k (HUt); exact rfl)
 | (apply s_k (HU2); exact rfl)
 | (apply s_k (H2); exact rfl)
 | (apply s_k (HB1); exact rfl)
 | (apply s_k (HB2); exact rfl)
 | (apply s_k (HB3); exact rfl)
 | (apply s_alloc TY; exact rfl; exact rfl; exact rfl)
 | (apply s_store TY; (iterate 6 exact rfl)))
         exact lv_ret (ret2 rfl (res_bxs (sub := hitF ⟨a, b, c⟩) TY rfl rfl rfl rfl rfl) (res_tmp rfl))
       · rw [show hitP s = (hitZ, 2) by unfold hitP; rw [h]; exact if_neg fun q => h3 q.2.2]
         have HB1 := up (isTick_T a h1)
         have HB2 := up (isNumber_T b h2)
         have HB3 := up (isNumber_F c h3)
         have HU2 := up (tunless_F 2)
         have H2 := up (tfirst2_s 0 2)
         change Summ _ _ _ _ (iv 2) at H2
         refine summW Tryz.func18 rfl rfl 36 rfl (by simp) (fun M0 => ?_)
         repeat (first
 | (apply s_bsliceP3 TY; (iterate 8 exact rfl))
 | (apply s_callG [1, 2] HP; exact rfl; exact rfl; exact rfl; exact ⟨rfl, rfl, trivial⟩; exact rfl; exact ⟨rfl, rfl⟩)
 | (apply s_a TY; exact rfl)
 | (apply s_f; exact rfl; omega)
 | apply w_seq
 | apply w_region
 | (apply w_draw (id := 3) 4 rfl (by kernel_rfl))
 | apply s_nil
 | apply t_norm
 | apply t_ret
 | apply w_ret
 | (apply w_condT; exact rfl; exact rfl)
 | (apply s_k (HUt); exact rfl)
 | (apply s_k (HU2); exact rfl)
 | (apply s_k (H2); exact rfl)
 | (apply s_k (HB1); exact rfl)
 | (apply s_k (HB2); exact rfl)
 | (apply s_k (HB3); exact rfl)
 | (apply s_alloc TY; exact rfl; exact rfl; exact rfl)
 | (apply s_store TY; (iterate 6 exact rfl)))
         exact lv_ret (ret2 rfl (res_bxs (sub := hitF hitZ) TY rfl rfl rfl rfl rfl) (res_tmp rfl))
     · rw [show hitP s = (hitZ, 2) by unfold hitP; rw [h]; exact if_neg fun q => h2 q.2.1]
       have HB1 := up (isTick_T a h1)
       have HB2 := up (isNumber_F b h2)
       have HU2 := up (tunless_F 2)
       have H2 := up (tfirst2_s 0 2)
       change Summ _ _ _ _ (iv 2) at H2
       refine summW Tryz.func18 rfl rfl 36 rfl (by simp) (fun M0 => ?_)
       repeat (first
 | (apply s_bsliceP3 TY; (iterate 8 exact rfl))
 | (apply s_callG [1, 2] HP; exact rfl; exact rfl; exact rfl; exact ⟨rfl, rfl, trivial⟩; exact rfl; exact ⟨rfl, rfl⟩)
 | (apply s_a TY; exact rfl)
 | (apply s_f; exact rfl; omega)
 | apply w_seq
 | apply w_region
 | (apply w_draw (id := 3) 4 rfl (by kernel_rfl))
 | apply s_nil
 | apply t_norm
 | apply t_ret
 | apply w_ret
 | (apply w_condT; exact rfl; exact rfl)
 | (apply s_k (HUt); exact rfl)
 | (apply s_k (HU2); exact rfl)
 | (apply s_k (H2); exact rfl)
 | (apply s_k (HB1); exact rfl)
 | (apply s_k (HB2); exact rfl)
 | (apply s_s; exact rfl)
 | (apply s_alloc TY; exact rfl; exact rfl; exact rfl)
 | (apply s_store TY; (iterate 6 exact rfl)))
       exact lv_ret (ret2 rfl (res_bxs (sub := hitF hitZ) TY rfl rfl rfl rfl rfl) (res_tmp rfl))
   · rw [show hitP s = (hitZ, 2) by unfold hitP; rw [h]; exact if_neg fun q => h1 q.1]
     have HB1 := up (isTick_F a h1)
     have HU2 := up (tunless_F 2)
     have H2 := up (tfirst2_s 0 2)
     change Summ _ _ _ _ (iv 2) at H2
     refine summW Tryz.func18 rfl rfl 36 rfl (by simp) (fun M0 => ?_)
     repeat (first
 | (apply s_bsliceP3 TY; (iterate 8 exact rfl))
 | (apply s_callG [1, 2] HP; exact rfl; exact rfl; exact rfl; exact ⟨rfl, rfl, trivial⟩; exact rfl; exact ⟨rfl, rfl⟩)
 | (apply s_a TY; exact rfl)
 | (apply s_f; exact rfl; omega)
 | apply w_seq
 | apply w_region
 | (apply w_draw (id := 3) 4 rfl (by kernel_rfl))
 | apply s_nil
 | apply t_norm
 | apply t_ret
 | apply w_ret
 | (apply w_condT; exact rfl; exact rfl)
 | (apply s_k (HUt); exact rfl)
 | (apply s_k (HU2); exact rfl)
 | (apply s_k (H2); exact rfl)
 | (apply s_k (HB1); exact rfl)
 | (apply s_s; exact rfl)
 | (apply s_alloc TY; exact rfl; exact rfl; exact rfl)
 | (apply s_store TY; (iterate 6 exact rfl)))
     exact lv_ret (ret2 rfl (res_bxs (sub := hitF hitZ) TY rfl rfl rfl rfl rfl) (res_tmp rfl))
theorem FormatRule_s (x : Rule) (hr : I64 [x.kind, x.count, x.window, x.reach, x.height]) : Summ Tryz.prog GS 17 [.agg (ruleF x)] (sv (wordsS [x.kind, x.count, x.window, x.reach, x.height])) := by
 have HW := twords_s [x.kind, x.count, x.window, x.reach, x.height] (by simp) hr
 refine summW Tryz.func17 rfl rfl 15 rfl (by simp) (fun M0 => ?_)
 repeat (first
 | (apply s_a TY; exact rfl)
 | apply w_seq
 | apply w_region
 | apply s_nil
 | apply t_norm
 | apply w_ret
 | (apply s_k (HW); exact rfl))
 exact lv_ret (ret1 rfl (res_tmp rfl))
theorem FormatHit_s (x : Hit) (hr : I64 [x.tm, x.line, x.sensor]) : Summ Tryz.prog GS 19 [.agg (hitF x)] (sv (wordsS [x.tm, x.line, x.sensor])) := by
 have HW := twords_s [x.tm, x.line, x.sensor] (by simp) hr
 refine summW Tryz.func19 rfl rfl 11 rfl (by simp) (fun M0 => ?_)
 repeat (first
 | (apply s_a TY; exact rfl)
 | apply w_seq
 | apply w_region
 | apply s_nil
 | apply t_norm
 | apply w_ret
 | (apply s_k (HW); exact rfl))
 exact lv_ret (ret1 rfl (res_tmp rfl))
theorem stood_rule : Tryz.prog.stoodInHeld 44 = false := by kernel_rfl
theorem fields_rule : Tryz.prog.fieldsOf 44 = #[{ name := "Kind", type := 3, offset := 0, embedded := false, tag := "", pkgPath := "", byteOffset := 0 }, { name := "Count", type := 3, offset := 1, embedded := false, tag := "", pkgPath := "", byteOffset := 8 }, { name := "Window", type := 3, offset := 2, embedded := false, tag := "", pkgPath := "", byteOffset := 16 }, { name := "Reach", type := 3, offset := 3, embedded := false, tag := "", pkgPath := "", byteOffset := 24 }, { name := "Height", type := 3, offset := 4, embedded := false, tag := "", pkgPath := "", byteOffset := 32 }] := by kernel_rfl
theorem equalIn_rule (d : Nat) (a b : Rule) (W : World) : (Op.equalIn (d + 2) 44 (.agg #[.int .i64 a.kind, .int .i64 a.count, .int .i64 a.window, .int .i64 a.reach, .int .i64 a.height]) (.agg #[.int .i64 b.kind, .int .i64 b.count, .int .i64 b.window, .int .i64 b.reach, .int .i64 b.height])).run Tryz.prog W = .ok (decide (a = b)) W := by
 rw [run_equalIn_agg W (d + 1) 44 _ _ (by rw [fields_rule]; exact Tryz.underlying44) stood_rule, fields_rule]
 have e : decide (a = b) = (a.kind == b.kind && a.count == b.count && a.window == b.window && a.reach == b.reach && a.height == b.height) := by
  cases a; cases b; simp [Rule.mk.injEq]
  try simp [Bool.and_assoc]
  try rfl
 rw [e]
 cases h0 : a.kind == b.kind <;> cases h1 : a.count == b.count <;> cases h2 : a.window == b.window <;> cases h3 : a.reach == b.reach <;> cases h4 : a.height == b.height <;> simp [Op.eqFields, part, run_equalIn_int W d 3 _ _ _ _ Tryz.underlying3, h0, h1, h2, h3, h4]
theorem guard_rule : Tryz.prog.eqGuardType Tryz.prog.depth 44 = false := by kernel_rfl
theorem ne_rule {x y : Operand} {a b : Rule} {c : Bool} (h : decide (a = b) = !c) : ∀ w, (do eqGuard .neq 44 x y (.agg #[.int .i64 a.kind, .int .i64 a.count, .int .i64 a.window, .int .i64 a.reach, .int .i64 a.height]) (.agg #[.int .i64 b.kind, .int .i64 b.count, .int .i64 b.window, .int .i64 b.reach, .int .i64 b.height]); binOp .neq 44 (.agg #[.int .i64 a.kind, .int .i64 a.count, .int .i64 a.window, .int .i64 a.reach, .int .i64 a.height]) (.agg #[.int .i64 b.kind, .int .i64 b.count, .int .i64 b.window, .int .i64 b.reach, .int .i64 b.height]) : Sem Value).run Tryz.prog w = .ok (.bool c) w := fun w => by
 have h1 := equalIn_rule 9998 a b w
 rw [h] at h1
 first
 | (simp [eqGuard, run_neq_struct, h1]; done)
 | simp [eqGuard, guard_rule, run_neq_struct, h1]
def lR (r : Rule) : List Int := [r.kind, r.count, r.window, r.reach, r.height]
def lH (h : Hit) : List Int := [h.tm, h.line, h.sensor]
theorem rule_bd {r : Rule} (h : ruleErr r = 0) : ∀ z, z ∈ lR r -> 0 <= z /\ z.toNat < 10 ^ (6 + 1) := by
 have hb : (0 <= r.kind /\ r.kind <= 3) /\ (1 <= r.count /\ r.count <= 40) /\ (0 <= r.window /\ r.window <= 1000000) /\ (0 <= r.reach /\ r.reach <= 1000000) /\ (0 <= r.height /\ r.height <= 1000000) := by
  unfold ruleErr at h
  split at h
  · cases h
  · split at h
    · cases h
    · omega
 intro z hz
 show 0 <= z /\ z.toNat < 10000000
 unfold lR at hz
 simp only [List.mem_cons, List.not_mem_nil, or_false] at hz
 rcases hz with rfl | rfl | rfl | rfl | rfl <;> omega
theorem hit_bd {h : Hit} (hb : hitB h) : ∀ z, z ∈ lH h -> 0 <= z /\ z.toNat < 10 ^ (12 + 1) := by
 obtain ⟨h1, h2, h3⟩ := hb
 intro z hz
 show 0 <= z /\ z.toNat < 10000000000000
 unfold lH at hz
 simp only [List.mem_cons, List.not_mem_nil, or_false] at hz
 rcases hz with rfl | rfl | rfl <;> omega
theorem numsC_again {n d : Nat} {l : List Int} (hl : l.length = n) (hne : l ≠ []) (h : ∀ z, z ∈ l -> 0 <= z /\ z.toNat < 10 ^ (d + 1)) : numsC n (d + 1) (wordsS l) = some l := by
 have e := words_again hne h
 have e2 := numsO_len e
 rw [numsC_eq (by omega), e]
theorem rulP_again {r : Rule} (h : ruleErr r = 0) : rulP (wordsS (lR r)) = (r, 0) := by
 unfold rulP
 rw [numsC_again (n := 5) (d := 6) rfl (by unfold lR; simp) (rule_bd h)]
 exact if_pos h
theorem hitP_again {h : Hit} (hb : hitB h) : hitP (wordsS (lH h)) = (h, 0) := by
 unfold hitP
 rw [numsC_again (n := 3) (d := 12) rfl (by unfold lH; simp) (hit_bd hb)]
 exact if_pos hb
end Go.Proofs.YtbkdjlahhcofmaaGreatDoor
namespace Go.Ab
open Go Go.RowKit Go.Shelf Go.Proofs
theorem b_shrZ {P : Program} {T : TypeId} {x y : Operand} {a : Int} {k : Nat} (h : k <= 62) (w : World) : (do eqGuard .shr T x y (.int .i64 a) (.int .i64 (k : Int)); binOp .shr T (.int .i64 a) (.int .i64 (k : Int)) : Sem Value).run P w = .ok (.int .i64 (a / 2 ^ k)) w := by
 have h0 : ¬ ((k : Int) < 0) := by omega
 simp [eqGuard, binOp]
section
variable {C : Ctx} {N : Nat} {ops : Array Oper} {pr : Bool} {K : St -> Prop} {rest : List Oper} {d : Option Tmp} {T0 T T' : TypeId} {pos : String} {af : Array Edge} {g : Option (Nat × Bool)} {x y : Operand} {st : St}
theorem s_shrZ {a : Int} {k : Nat} (hw : wantB st ops ⟨d, .binOp .shr T x y T', T0, pos, af, g⟩ = some true) (hd : dstB N d = true) (hx : st.ev C x = .f (.v (.int .i64 a))) (hy : st.ev C y = .f (.v (.int .i64 (k : Nat)))) (h : k <= 62) (c : R C N ops pr K rest (st.put d (.f (.v (.int .i64 (a / 2 ^ k)))))) : R C N ops pr K (⟨d, .binOp .shr T x y T', T0, pos, af, g⟩ :: rest) st := ⟨r_val hw (v_bin rfl hd hx hy (b_shrZ h)) c.out⟩
end
end Go.Ab
namespace Go.Proofs.YtbkdjlahhcofmaaGreatDoor
open Go Go.RowKit Go.Proofs Go.Shelf Go.Ab
set_option maxRecDepth 100000 in
set_option maxHeartbeats 3200000 in
theorem tshown_s : Summ Tryz.prog GG 10 [] (.v (.bool true)) := by
 have HE : Summ Tryz.prog GG 23 [arrF exA, setF exS, .sl exH.length (hitsF exH)] (.tup [.sl 1 (evsF [⟨90, 155, [0, 1, 2, 3]⟩]), iv 0]) := by
  have := EventsOf_ok exA exS exH (by decide) (by decide) (by decide) ex3
  rw [ex9] at this; exact this
 have HL : Summ Tryz.prog GG 29 [setF exS, .sl 1 (rngsF [⟨90, 155⟩]), .agg (rngF ⟨0, 299⟩)] (.tup [iv 200, iv 0]) := by
  have := LiveIn_s exS [⟨90, 155⟩] ⟨0, 299⟩ (by decide) (by decide)
  rw [ex13, if_pos rfl, ex14] at this; exact this
 have S3 := SameEvents_s [⟨90, 155, [0, 1, 2, 3]⟩] [⟨90, 155, [0, 1, 2, 3]⟩] (by decide) (by decide) (by decide) (by decide)
 rw [decide_eq_true rfl] at S3
 refine summW Tryz.func10 rfl rfl 38 rfl (by simp) (fun M0 => ?_)
 repeat (first
 | (apply s_a TY; exact rfl)
 | (apply s_t; exact rfl; omega)
 | apply w_seq
 | apply w_region
 | apply s_nil
 | apply t_norm
 | apply w_ret
 | (apply s_k (exA_s); exact rfl)
 | (apply s_k (exS_s); exact rfl)
 | (apply s_k (exH_s); exact rfl)
 | (apply s_k (HE); exact rfl)
 | (apply s_k (HL); exact rfl)
 | (apply s_k (S3); exact rfl))
 exact lv_ret (ret1 rfl (res_tmp rfl))
set_option maxRecDepth 100000 in
set_option maxHeartbeats 6400000 in
theorem together_s (l : List Site) (r : Rule) (h : List Hit) (v : List Ev) (ho : HitsOk l h) (hr : ruleErr r = 0) (hvl : v.length <= 1000) (hall : ∀ i c : Nat, r.count = (c : Int) -> i + c <= h.length -> (h.getD (i + c - 1) default).tm - (h.getD i default).tm <= r.window -> ∃ k, k < v.length /\ (v.getD k default).lo <= (h.getD i default).tm /\ (h.getD (i + c - 1) default).tm <= (v.getD k default).hi) : Summ Tryz.prog GG 31 [.agg (ruleF r), .sl h.length (hitsF h), .sl v.length (evsF v)] (.v (.bool true)) := by
 have hb : (1 <= r.count /\ r.count <= 40) /\ (0 <= r.window /\ r.window <= 1000000) := by
  unfold ruleErr at hr
  split at hr
  · cases hr
  · split at hr
    · cases hr
    · omega
 obtain ⟨c, hc⟩ : ∃ c : Nat, r.count = (c : Int) := ⟨r.count.toNat, by omega⟩
 have hlen := ho.len
 refine summW Tryz.func31 rfl rfl 72 rfl (by simp) (fun M0 => ?_)
 repeat (first
 | (apply s_a TY; exact rfl)
 | apply w_seq
 | apply w_region
 | apply s_nil
 | apply t_norm
 | apply w_block)
 apply w_loop (fun i : Nat => ⟨(Ab.upd (Ab.upd (Ab.upd (Ab.upd (fun _ => .bot) 1 (.f (.sl h.length (hitsF h)))) 2 (.f (.sl v.length (evsF v)))) 3 (.f (.pt (ruleF r) 0))) 7 (.f (iv ((i : Nat) : Int)))), (fun _ => none), 0⟩) (fun i => i <= h.length) (fun i => h.length - i) 0 (Nat.zero_le _) (gh_le ⟨le_upd rfl trivial (le_upd rfl trivial (le_upd rfl trivial (le_upd rfl trivial (le_nil _)))), le_h0 _ _⟩)
 intro i hi
 by_cases hic : i + c <= h.length
 · have hlt : i + c - 1 < h.length := by omega
   have hil : i < h.length := by omega
   have htL := (ho.hit (i + c - 1) hlt).tm
   have htI := (ho.hit i hil).tm
   rw [<- getD_e hlt] at htL
   rw [<- getD_e hil] at htI
   have hlast : (hitsF h)[(((i : Nat) : Int) + r.count - 1).toNat * 3 + 0]? = some (iv (h.getD (i + c - 1) default).tm) := by
    rw [show (((i : Nat) : Int) + r.count - 1).toNat = i + c - 1 by omega, getD_e hlt]; exact hitsF_f0 hlt
   have hfst : (hitsF h)[i * 3 + 0]? = some (iv (h.getD i default).tm) := by rw [getD_e hil]; exact hitsF_f0 hil
   have hne : hitsF h ≠ [] := hitsF_ne (k := i) hil
   have hx := hall i c hc hic
   generalize (h.getD (i + c - 1) default).tm = L at *
   by_cases hw : L - (h.getD i default).tm <= r.window
   · obtain ⟨k0, hk0, hc1, hc2⟩ := hx hw
     repeat (first
 | (apply s_a TY; exact rfl)
 | (apply s_t; exact rfl; omega)
 | (apply s_f; exact rfl; omega)
 | apply w_seq
 | apply w_region
 | (apply w_draw (id := 5) 9 rfl (by kernel_rfl))
 | apply s_nil
 | apply t_norm
 | apply w_block
 | apply w_skip
 | (apply w_condT; exact rfl; exact rfl)
 | (apply s_c TY; exact rfl; (first | omega | exact ⟨by omega, by (with_reducible assumption)⟩))
 | (apply s_z TY; exact rfl; (exact ⟨by omega, by (with_reducible assumption)⟩))
 | (apply s_l TY; exact rfl; with_reducible assumption))
     apply w_loop (fun q : Nat × Bool => ⟨(Ab.upd (Ab.upd (Ab.upd (Ab.upd (Ab.upd (Ab.upd (Ab.upd (fun _ => .bot) 1 (.f (.sl h.length (hitsF h)))) 2 (.f (.sl v.length (evsF v)))) 3 (.f (.pt (ruleF r) 0))) 7 (.f (iv ((i : Nat) : Int)))) 8 (.f (iv L))) 9 (.f (.v (.bool q.2)))) 10 (.f (iv ((q.1 : Nat) : Int)))), (fun _ => none), 0⟩) (fun q => q.1 <= v.length /\ (q.2 = true \/ q.1 <= k0)) (fun q => v.length - q.1) (0, false) ⟨Nat.zero_le _, .inr (Nat.zero_le _)⟩ (gh_le ⟨le_upd rfl trivial (le_upd rfl trivial (le_upd rfl trivial (le_upd rfl trivial (le_upd rfl trivial (le_upd rfl trivial (le_upd rfl trivial (le_nil _))))))), le_h0 _ _⟩)
     rintro ⟨k, b⟩ ⟨hk, hb2⟩
     change k <= v.length at hk
     change b = true \/ k <= k0 at hb2
     change W _ _ _ _ (⟨(Ab.upd (Ab.upd (Ab.upd (Ab.upd (Ab.upd (Ab.upd (Ab.upd (fun _ => .bot) 1 (.f (.sl h.length (hitsF h)))) 2 (.f (.sl v.length (evsF v)))) 3 (.f (.pt (ruleF r) 0))) 7 (.f (iv ((i : Nat) : Int)))) 8 (.f (iv L))) 9 (.f (.v (.bool b)))) 10 (.f (iv ((k : Nat) : Int)))), (fun _ => none), 0⟩)
     by_cases hkv : k < v.length
     · have hv0 := evsF_f0 hkv
       have hv1 := evsF_f1 hkv
       have hvn : evsF v ≠ [] := evsF_ne hkv
       cases b with
       | true =>
         repeat (first
 | (apply s_a TY; exact rfl)
 | (apply s_t; exact rfl; omega)
 | apply w_seq
 | apply w_region
 | (apply w_draw (id := 9) 22 rfl (by kernel_rfl))
 | apply s_nil
 | apply t_norm
 | apply k_norm
 | apply w_block
 | apply w_skip
 | (apply w_condT; exact rfl; exact rfl)
 | (apply s_s; exact rfl)
 | (apply s_c TY; exact rfl; omega))
         exact ⟨(k + 1, true), ⟨hkv, .inl rfl⟩, by show v.length - (k + 1) < v.length - k; omega, gh_le ⟨le_upd rfl trivial (le_upd rfl trivial (le_upd rfl trivial (le_upd rfl trivial (le_upd rfl trivial (le_upd rfl trivial (le_upd rfl trivial (le_nil _))))))), le_h0 _ _⟩⟩
       | false =>
         have hkk : k <= k0 := by
          rcases hb2 with e | e
          · cases e
          · exact e
         by_cases g1 : v[k].lo <= (h.getD i default).tm
         · by_cases g2 : L <= v[k].hi
           · repeat (first
 | (apply s_a TY; exact rfl)
 | (apply s_t; exact rfl; (first | assumption | omega))
 | apply w_seq
 | apply w_region
 | (apply w_draw (id := 9) 22 rfl (by kernel_rfl))
 | apply s_nil
 | apply t_norm
 | apply k_norm
 | apply w_block
 | apply w_skip
 | (apply w_condT; exact rfl; exact rfl)
 | (apply s_c TY; exact rfl; (first | omega | exact ⟨by omega, by (with_reducible assumption)⟩))
 | (apply s_l TY; exact rfl; with_reducible assumption))
             exact ⟨(k + 1, true), ⟨hkv, .inl rfl⟩, by show v.length - (k + 1) < v.length - k; omega, gh_le ⟨le_upd rfl trivial (le_upd rfl trivial (le_upd rfl trivial (le_upd rfl trivial (le_upd rfl trivial (le_upd rfl trivial (le_upd rfl trivial (le_nil _))))))), le_h0 _ _⟩⟩
           · repeat (first
 | (apply s_a TY; exact rfl)
 | (apply s_t; exact rfl; (first | assumption | omega))
 | (apply s_f; exact rfl; assumption)
 | apply w_seq
 | apply w_region
 | (apply w_draw (id := 9) 22 rfl (by kernel_rfl))
 | apply s_nil
 | apply t_norm
 | apply k_norm
 | apply w_block
 | apply w_skip
 | (apply w_condT; exact rfl; exact rfl)
 | (apply s_c TY; exact rfl; (first | omega | exact ⟨by omega, by (with_reducible assumption)⟩))
 | (apply s_l TY; exact rfl; with_reducible assumption))
             exact ⟨(k + 1, false), ⟨hkv, .inr (by show k + 1 <= k0; exact Nat.lt_of_le_of_ne hkk fun e => g2 (by subst e; rw [<- getD_at hkv]; exact hc2))⟩, by show v.length - (k + 1) < v.length - k; omega, gh_le ⟨le_upd rfl trivial (le_upd rfl trivial (le_upd rfl trivial (le_upd rfl trivial (le_upd rfl trivial (le_upd rfl trivial (le_upd rfl trivial (le_nil _))))))), le_h0 _ _⟩⟩
         · repeat (first
 | (apply s_a TY; exact rfl)
 | (apply s_t; exact rfl; omega)
 | (apply s_f; exact rfl; assumption)
 | apply w_seq
 | apply w_region
 | (apply w_draw (id := 9) 22 rfl (by kernel_rfl))
 | apply s_nil
 | apply t_norm
 | apply k_norm
 | apply w_block
 | apply w_skip
 | (apply w_condT; exact rfl; exact rfl)
 | (apply s_s; exact rfl)
 | (apply s_c TY; exact rfl; (first | omega | exact ⟨by omega, by (with_reducible assumption)⟩))
 | (apply s_l TY; exact rfl; with_reducible assumption))
           exact ⟨(k + 1, false), ⟨hkv, .inr (by show k + 1 <= k0; exact Nat.lt_of_le_of_ne hkk fun e => g1 (by subst e; rw [<- getD_at hkv]; exact hc1))⟩, by show v.length - (k + 1) < v.length - k; omega, gh_le ⟨le_upd rfl trivial (le_upd rfl trivial (le_upd rfl trivial (le_upd rfl trivial (le_upd rfl trivial (le_upd rfl trivial (le_upd rfl trivial (le_nil _))))))), le_h0 _ _⟩⟩
     · have hbt : b = true := by
        rcases hb2 with e | e
        · exact e
        · omega
       subst hbt
       repeat (first
 | (apply s_a TY; exact rfl)
 | (apply s_f; exact rfl; omega)
 | apply w_seq
 | apply w_region
 | apply s_nil
 | apply t_norm
 | apply t_exit
 | apply k_hit
 | apply k_norm
 | apply w_exit
 | apply w_skip
 | (apply w_condF; exact rfl; exact rfl)
 | (apply s_c TY; exact rfl; omega))
       exact ⟨i + 1, by omega, by omega, gh_le ⟨le_upd rfl trivial (le_upd rfl trivial (le_upd rfl trivial (le_upd rfl trivial (le_nil _)))), le_h0 _ _⟩⟩
   · clear hx
     repeat (first
 | (apply s_a TY; exact rfl)
 | (apply s_t; exact rfl; omega)
 | apply w_seq
 | apply w_region
 | (apply w_draw (id := 5) 9 rfl (by kernel_rfl))
 | apply s_nil
 | apply t_norm
 | apply w_block
 | apply w_skip
 | (apply w_condT; exact rfl; exact rfl)
 | (apply s_c TY; exact rfl; (first | omega | exact ⟨by omega, by (with_reducible assumption)⟩))
 | (apply s_z TY; exact rfl; (exact ⟨by omega, by (with_reducible assumption)⟩))
 | (apply s_l TY; exact rfl; with_reducible assumption))
     apply w_loop (fun k : Nat => ⟨(Ab.upd (Ab.upd (Ab.upd (Ab.upd (Ab.upd (Ab.upd (Ab.upd (fun _ => .bot) 1 (.f (.sl h.length (hitsF h)))) 2 (.f (.sl v.length (evsF v)))) 3 (.f (.pt (ruleF r) 0))) 7 (.f (iv ((i : Nat) : Int)))) 8 (.f (iv L))) 9 (.f (.v (.bool true)))) 10 (.f (iv ((k : Nat) : Int)))), (fun _ => none), 0⟩) (fun k => k <= v.length) (fun k => v.length - k) 0 (Nat.zero_le _) (gh_le ⟨le_upd rfl trivial (le_upd rfl trivial (le_upd rfl trivial (le_upd rfl trivial (le_upd rfl trivial (le_upd rfl trivial (le_upd rfl trivial (le_nil _))))))), le_h0 _ _⟩)
     intro k hk
     by_cases hkv : k < v.length
     · repeat (first
 | (apply s_a TY; exact rfl)
 | (apply s_t; exact rfl; omega)
 | apply w_seq
 | apply w_region
 | (apply w_draw (id := 9) 22 rfl (by kernel_rfl))
 | apply s_nil
 | apply t_norm
 | apply k_norm
 | apply w_block
 | apply w_skip
 | (apply w_condT; exact rfl; exact rfl)
 | (apply s_s; exact rfl)
 | (apply s_c TY; exact rfl; omega))
       exact ⟨k + 1, hkv, by omega, gh_le ⟨le_upd rfl trivial (le_upd rfl trivial (le_upd rfl trivial (le_upd rfl trivial (le_upd rfl trivial (le_upd rfl trivial (le_upd rfl trivial (le_nil _))))))), le_h0 _ _⟩⟩
     · repeat (first
 | (apply s_a TY; exact rfl)
 | (apply s_f; exact rfl; omega)
 | apply w_seq
 | apply w_region
 | apply s_nil
 | apply t_norm
 | apply t_exit
 | apply k_hit
 | apply k_norm
 | apply w_exit
 | apply w_skip
 | (apply w_condF; exact rfl; exact rfl)
 | (apply s_c TY; exact rfl; omega))
       exact ⟨i + 1, by omega, by omega, gh_le ⟨le_upd rfl trivial (le_upd rfl trivial (le_upd rfl trivial (le_upd rfl trivial (le_nil _)))), le_h0 _ _⟩⟩
 · repeat (first
 | (apply s_a TY; exact rfl)
 | (apply s_f; exact rfl; omega)
 | apply w_seq
 | apply w_region
 | apply s_nil
 | apply t_norm
 | apply t_exit
 | apply k_hit
 | apply w_exit
 | apply w_ret
 | (apply w_condF; exact rfl; exact rfl)
 | (apply s_c TY; exact rfl; omega))
   exact lv_ret (ret1 rfl (res_tmp rfl))
def hfB (g : List Hit) (ev : Ev) (x : Hit) (i : Nat) : Bool := decide (g.getD (ev.hits.getD i default).toNat default = x)
theorem anyP_cases (n : Nat) (P : Nat -> Bool) : (anyP n P = false /\ ∀ i, i < n -> P i = false) \/ ∃ k, k < n /\ (∀ i, i < k -> P i = false) /\ P k = true /\ anyP n P = true := by
 rcases idxP_cases n P with ⟨_, h⟩ | ⟨k, hk, hz, hp, _⟩
 · refine .inl ⟨Bool.eq_false_iff.2 fun e => ?_, h⟩
   obtain ⟨i, hi, h2⟩ := anyP_iff.1 e
   rw [h i hi] at h2
   cases h2
 · exact .inr ⟨k, hk, hz, hp, anyP_iff.2 ⟨k, hk, hp⟩⟩
set_option maxRecDepth 100000 in
set_option maxHeartbeats 6400000 in
theorem holdsFirst_s (g h : List Hit) (ev oth : Ev) (hg : g.length <= 1000) (hh : h.length <= 1000) (hel : ev.hits.length <= 1000) (hev : ∀ i (hi : i < ev.hits.length), 0 <= ev.hits[i] /\ ev.hits[i] < (g.length : Int)) (j : Nat) (rest : List Int) (hj : j < h.length) (ho : oth.hits = (j : Int) :: rest) (hol : oth.hits.length <= 1000) : Summ Tryz.prog GG 132 [.sl g.length (hitsF g), .agg (evF ev), .sl h.length (hitsF h), .agg (evF oth)] (bv (anyP ev.hits.length (hfB g ev h[j]))) := by
 have HB := bwithin_T (j : Int) 0 ((h.length : Int) - 1) ⟨by omega, by omega⟩
 have h00 : (intsF oth.hits)[((0 : Int)).toNat * 1]? = some (iv (j : Int)) := by rw [ho]; rfl
 have h0n : intsF oth.hits ≠ [] := by rw [ho]; simp [intsF]
 have hol1 : 1 <= oth.hits.length := by rw [ho, List.length_cons]; omega
 have hjn : hitsF h ≠ [] := hitsF_ne (k := j) hj
 rcases anyP_cases ev.hits.length (hfB g ev h[j]) with ⟨e, hz⟩ | ⟨q, hq, hz, hp, e⟩
 all_goals rw [e]
 · refine summW Tryz.func132 rfl rfl 59 rfl (by simp) (fun M0 => ?_)
   repeat (first
 | (apply s_a TY; exact rfl)
 | (apply s_f; exact rfl; omega)
 | apply w_seq
 | apply w_region
 | apply s_nil
 | apply t_norm
 | apply w_block
 | apply w_skip
 | (apply w_condF; exact rfl; exact rfl)
 | (apply s_k (HB); exact rfl)
 | (apply s_c TY; exact rfl; omega)
 | (apply s_z TY; exact rfl; (exact ⟨by omega, by (with_reducible assumption)⟩))
 | (apply s_l TY; exact rfl; with_reducible assumption))
   apply w_loop (fun i : Nat => ⟨(Ab.upd (Ab.upd (Ab.upd (Ab.upd (Ab.upd (fun _ => .bot) 0 (.f (.sl g.length (hitsF g)))) 2 (.f (.sl h.length (hitsF h)))) 5 (.f (.pt (evF ev) 0))) 7 (.f (.pt (evF oth) 0))) 9 (.f (iv ((i : Nat) : Int)))), (fun _ => none), 0⟩) (fun i => i <= ev.hits.length) (fun i => ev.hits.length - i) 0 (Nat.zero_le _) (gh_le ⟨le_upd rfl trivial (le_upd rfl trivial (le_upd rfl trivial (le_upd rfl trivial (le_upd rfl trivial (le_nil _))))), le_h0 _ _⟩)
   intro i hi
   by_cases hic : i < ev.hits.length
   · have hbd := hev i hic
     have HB2 := bwithin_T ev.hits[i] 0 ((g.length : Int) - 1) ⟨by omega, by omega⟩
     have hzi := hz i hic
     unfold hfB at hzi
     rw [getD_at hic, getD_at (show ev.hits[i].toNat < g.length by omega)] at hzi
     have hdh : decide (g[ev.hits[i].toNat]'(by omega) = h[j]) = false := hzi
     have hgn : hitsF g ≠ [] := hitsF_ne (k := ev.hits[i].toNat) (by omega)
     repeat (first
 | (apply s_bind; (iterate 6 exact rfl); exact eq_hit hdh)
 | (apply s_a TY; exact rfl)
 | (apply s_t; exact rfl; omega)
 | apply w_seq
 | apply w_region
 | (apply w_draw (id := 6) 25 rfl (by kernel_rfl))
 | apply s_nil
 | apply t_norm
 | apply k_norm
 | apply w_block
 | apply w_skip
 | (apply w_condT; exact rfl; exact rfl)
 | (apply w_condF; exact rfl; exact rfl)
 | (apply s_k (HB2); exact rfl)
 | (apply s_c TY; exact rfl; (first | omega | exact ⟨by omega, by (first | with_reducible assumption | ((with_reducible apply intsF_ne); omega))⟩))
 | (apply s_z TY; exact rfl; (exact ⟨by omega, by (with_reducible assumption)⟩))
 | (apply s_l TY; exact rfl; (first | with_reducible assumption | ((with_reducible apply intsF_at); omega)))
 | (apply s_m TY; exact rfl; (((with_reducible apply hitsF_sub); omega)); exact rfl))
     exact ⟨i + 1, by omega, by omega, gh_le ⟨le_upd rfl trivial (le_upd rfl trivial (le_upd rfl trivial (le_upd rfl trivial (le_upd rfl trivial (le_nil _))))), le_h0 _ _⟩⟩
   · repeat (first
 | (apply s_a TY; exact rfl)
 | (apply s_f; exact rfl; omega)
 | apply w_seq
 | apply w_region
 | apply s_nil
 | apply t_norm
 | apply t_exit
 | apply k_hit
 | apply w_exit
 | apply w_ret
 | (apply w_condF; exact rfl; exact rfl))
     exact lv_ret (ret1 rfl (res_tmp rfl))
 · refine summW Tryz.func132 rfl rfl 59 rfl (by simp) (fun M0 => ?_)
   repeat (first
 | (apply s_a TY; exact rfl)
 | (apply s_f; exact rfl; omega)
 | apply w_seq
 | apply w_region
 | apply s_nil
 | apply t_norm
 | apply w_block
 | apply w_skip
 | (apply w_condF; exact rfl; exact rfl)
 | (apply s_k (HB); exact rfl)
 | (apply s_c TY; exact rfl; omega)
 | (apply s_z TY; exact rfl; (exact ⟨by omega, by (with_reducible assumption)⟩))
 | (apply s_l TY; exact rfl; with_reducible assumption))
   apply w_loop (fun i : Nat => ⟨(Ab.upd (Ab.upd (Ab.upd (Ab.upd (Ab.upd (fun _ => .bot) 0 (.f (.sl g.length (hitsF g)))) 2 (.f (.sl h.length (hitsF h)))) 5 (.f (.pt (evF ev) 0))) 7 (.f (.pt (evF oth) 0))) 9 (.f (iv ((i : Nat) : Int)))), (fun _ => none), 0⟩) (fun i => i <= q) (fun i => q - i) 0 (Nat.zero_le _) (gh_le ⟨le_upd rfl trivial (le_upd rfl trivial (le_upd rfl trivial (le_upd rfl trivial (le_upd rfl trivial (le_nil _))))), le_h0 _ _⟩)
   intro i hi
   have hic : i < ev.hits.length := by omega
   have hbd := hev i hic
   have HB2 := bwithin_T ev.hits[i] 0 ((g.length : Int) - 1) ⟨by omega, by omega⟩
   have hgn : hitsF g ≠ [] := hitsF_ne (k := ev.hits[i].toNat) (by omega)
   by_cases hiq : i = q
   · subst hiq
     unfold hfB at hp
     rw [getD_at hic, getD_at (show ev.hits[i].toNat < g.length by omega)] at hp
     have hdh : decide (g[ev.hits[i].toNat]'(by omega) = h[j]) = true := hp
     repeat (first
 | (apply s_bind; (iterate 6 exact rfl); exact eq_hit hdh)
 | (apply s_a TY; exact rfl)
 | (apply s_t; exact rfl; omega)
 | apply w_seq
 | apply w_region
 | (apply w_draw (id := 6) 25 rfl (by kernel_rfl))
 | apply s_nil
 | apply t_norm
 | apply t_ret
 | apply k_ret
 | apply w_block
 | apply w_ret
 | apply w_skip
 | (apply w_condT; exact rfl; exact rfl)
 | (apply s_k (HB2); exact rfl)
 | (apply s_c TY; exact rfl; (first | omega | exact ⟨by omega, by (first | with_reducible assumption | ((with_reducible apply intsF_ne); omega))⟩))
 | (apply s_z TY; exact rfl; (exact ⟨by omega, by (with_reducible assumption)⟩))
 | (apply s_l TY; exact rfl; (first | with_reducible assumption | ((with_reducible apply intsF_at); omega)))
 | (apply s_m TY; exact rfl; (((with_reducible apply hitsF_sub); omega)); exact rfl))
     exact lv_ret (ret1 rfl (res_tmp rfl))
   · have hzi := hz i (by omega)
     unfold hfB at hzi
     rw [getD_at hic, getD_at (show ev.hits[i].toNat < g.length by omega)] at hzi
     have hdh : decide (g[ev.hits[i].toNat]'(by omega) = h[j]) = false := hzi
     repeat (first
 | (apply s_bind; (iterate 6 exact rfl); exact eq_hit hdh)
 | (apply s_a TY; exact rfl)
 | (apply s_t; exact rfl; omega)
 | apply w_seq
 | apply w_region
 | (apply w_draw (id := 6) 25 rfl (by kernel_rfl))
 | apply s_nil
 | apply t_norm
 | apply k_norm
 | apply w_block
 | apply w_skip
 | (apply w_condT; exact rfl; exact rfl)
 | (apply w_condF; exact rfl; exact rfl)
 | (apply s_k (HB2); exact rfl)
 | (apply s_c TY; exact rfl; (first | omega | exact ⟨by omega, by (first | with_reducible assumption | ((with_reducible apply intsF_ne); omega))⟩))
 | (apply s_z TY; exact rfl; (exact ⟨by omega, by (with_reducible assumption)⟩))
 | (apply s_l TY; exact rfl; (first | with_reducible assumption | ((with_reducible apply intsF_at); omega)))
 | (apply s_m TY; exact rfl; (((with_reducible apply hitsF_sub); omega)); exact rfl))
     exact ⟨i + 1, by omega, by omega, gh_le ⟨le_upd rfl trivial (le_upd rfl trivial (le_upd rfl trivial (le_upd rfl trivial (le_upd rfl trivial (le_nil _))))), le_h0 _ _⟩⟩
theorem tmod2 (n : Int) : -2 < n.tmod 2 /\ n.tmod 2 < 2 := by
 have h1 := Int.tmod_lt_of_pos n (by decide : (0 : Int) < 2)
 have h2 := Int.lt_tmod_of_pos n (by decide : (0 : Int) < 2)
 omega
theorem mod2_s (n : Int) : Summ Tryz.prog GG 113 [iv n, iv 2] (iv (mod2 n)) := by
 have hb := tmod2 n
 unfold mod2
 by_cases h : n.tmod 2 < 0
 · rw [if_pos h]
   refine summW Tryz.func113 rfl rfl 14 rfl (by simp) (fun M0 => ?_)
   repeat (first
 | (apply s_remT; exact rfl; exact rfl; exact rfl; exact (by decide))
 | (apply s_a TY; exact rfl)
 | (apply s_t; exact rfl; assumption)
 | apply w_seq
 | apply w_region
 | apply s_nil
 | apply t_norm
 | apply w_ret
 | (apply w_condT; exact rfl; exact rfl)
 | (apply s_c TY; exact rfl; omega))
   exact lv_ret (ret1 rfl (res_tmp rfl))
 · rw [if_neg h]
   refine summW Tryz.func113 rfl rfl 14 rfl (by simp) (fun M0 => ?_)
   repeat (first
 | (apply s_remT; exact rfl; exact rfl; exact rfl; exact (by decide))
 | (apply s_a TY; exact rfl)
 | (apply s_f; exact rfl; assumption)
 | apply w_seq
 | apply w_region
 | apply s_nil
 | apply t_norm
 | apply w_ret
 | apply w_skip
 | (apply w_condF; exact rfl; exact rfl))
   exact lv_ret (ret1 rfl (res_tmp rfl))
theorem ev_at {l : List Site} {s : Setup} {h : List Hit} {k : Nat} (hk : k < (eventsV l s h).length) : ∃ hw : k < (windowsV l s h).length, (eventsV l s h)[k] = evOf h (windowsV l s h)[k] := by
 have e : (eventsV l s h).length = (windowsV l s h).length := by unfold eventsV; rw [List.length_map]
 refine ⟨by omega, ?_⟩
 simp only [eventsV, List.getElem_map]
theorem ev_len (l : List Site) (s : Setup) (h : List Hit) : (eventsV l s h).length = (windowsV l s h).length := by unfold eventsV; rw [List.length_map]
theorem nats_bd {h : List Hit} {w : Rng} {i : Nat} (hi : i < (hitsInV h w).length) : 0 <= (hitsInV h w)[i] /\ (hitsInV h w)[i] < (h.length : Int) := by
 have hm := List.getElem_mem hi
 generalize (hitsInV h w)[i] = z at hm ⊢
 rw [hitsInV_hN] at hm
 obtain ⟨n, hn, rfl⟩ := List.mem_map.1 hm
 have := (hN_iff.1 hn).1
 omega
theorem hitsInV_len (h : List Hit) (w : Rng) : (hitsInV h w).length <= h.length := by
 rw [hitsInV_hN]; unfold natsL; rw [List.length_map]; exact hN_len h w
theorem rowH_eq {a b : List Hit} (h : a = b) : some (Blk.row 50 3 a.length (hitsF a)) = some (Blk.row 50 3 b.length (hitsF b)) := by rw [h]
set_option maxRecDepth 100000 in
set_option maxHeartbeats 6400000 in
theorem particle_s (l : List Site) (s : Setup) (h : List Hit) (z : Int) (hl : l.length <= 1000000) (hsl : s.rules.length <= 1000000) (he : setErr l s h = 0) : Summ Tryz.prog GG 32 [arrF l, setF s, .sl h.length (hitsF h), .sl (eventsV l s h).length (evsF (eventsV l s h)), iv z] (.v (.bool true)) := by
 obtain ⟨e1, e2, e3⟩ := setErr_parts he
 have oa := arrOk_of e1
 have os := setOk_of e2
 have oh := hitsOk_of oa e3
 have hlen := oh.len
 have hss := subK_all h z
 have og := hitsOk_sub oh hss
 have hg := subK_len h z h.length
 have heg : setErr l s (subK h z h.length) = 0 := by unfold setErr; rw [if_neg (by simpa using e1), if_neg (by simpa using e2)]; exact hitsChk_ok og
 have HCA := CopyArray_s l hl
 have HCS := CopySetup_s s hsl
 have HCH := CopyHits_s (subK h z h.length) (by omega)
 have HEv := EventsOf_ok l s (subK h z h.length) hl hsl (by omega) heg
 have hwo := winOk_of os og
 have hwl := hwo.len
 have hevl := ev_len l s (subK h z h.length)
 refine summW Tryz.func32 rfl rfl 80 rfl (by simp) (fun M0 => ?_)
 repeat (first
 | (apply s_a TY; exact rfl)
 | apply w_seq
 | apply w_region
 | apply s_nil
 | apply t_norm
 | apply w_block)
 apply w_gh (gh_own 11 50 3 rfl rfl)
 apply w_loop (fun k : Nat => ⟨(Ab.upd (Ab.upd (Ab.upd (Ab.upd (Ab.upd (Ab.upd (Ab.upd (fun _ => .bot) 2 (.f (.sl h.length (hitsF h)))) 3 (.f (.sl (eventsV l s h).length (evsF (eventsV l s h))))) 4 (.f (iv z))) 5 (.f (.pt [.sl l.length (sitesF l)] 0))) 6 (.f (.pt (setL s) 0))) 11 (.ow 0)) 12 (.f (iv ((k : Nat) : Int)))), (Ab.upd (fun _ => none) 0 (some (.row 50 3 (subK h z k).length (hitsF (subK h z k))))), 1⟩) (fun k => k <= h.length) (fun k => h.length - k) 0 (Nat.zero_le _) (gh_le ⟨le_upd rfl trivial (le_upd rfl rfl (le_upd rfl trivial (le_upd rfl trivial (le_upd rfl trivial (le_upd rfl trivial (le_upd rfl trivial (le_nil _))))))), le_hupd rfl trivial (le_h0 _ _)⟩)
 intro k hk
 by_cases hkh : k < h.length
 · have HM := mod2_s (z / 2 ^ k)
   have hsk := subK_len h z k
   have hhn : hitsF h ≠ [] := hitsF_ne (k := k) hkh
   by_cases hb : mod2 (z / 2 ^ k) = 1
   · have hz : bitZ z k = true := by unfold bitZ; rw [decide_eq_true_eq]; exact hb
     have e : subK h z (k + 1) = subK h z k ++ [h[k]] := by rw [subK, hz, if_pos rfl, getD_e hkh]
     have hrow : some (Blk.row 50 3 ((subK h z k).length + 1) (hitsF (subK h z k) ++ hitF h[k])) = some (Blk.row 50 3 (subK h z (k + 1)).length (hitsF (subK h z (k + 1)))) := by rw [e, hitsF_snoc, List.length_append]; rfl
     repeat (first
 | (apply s_shrZ; (iterate 4 exact rfl); omega)
 | (apply s_append TY; (iterate 9 exact rfl); (unfold maxLen; omega); omega)
 | (apply s_a TY; exact rfl)
 | (apply s_t; exact rfl; (first | assumption | omega))
 | apply w_seq
 | apply w_region
 | apply s_nil
 | apply t_norm
 | apply k_norm
 | apply w_block
 | apply w_skip
 | (apply w_condT; exact rfl; exact rfl)
 | (apply s_k (HM); exact rfl)
 | (apply s_c TY; exact rfl; (first | omega | exact ⟨by omega, by (with_reducible assumption)⟩))
 | (apply s_m TY; exact rfl; (((with_reducible apply hitsF_sub); omega)); exact rfl))
     exact ⟨k + 1, by omega, by omega, gh_le ⟨le_upd rfl trivial (le_upd rfl rfl (le_upd rfl trivial (le_upd rfl trivial (le_upd rfl trivial (le_upd rfl trivial (le_upd rfl trivial (le_nil _))))))), le_hupd hrow trivial (le_h0 _ _)⟩⟩
   · have hz : bitZ z k = false := by unfold bitZ; rw [decide_eq_false_iff_not]; exact hb
     have e : subK h z (k + 1) = subK h z k := by rw [subK, hz]; rfl
     have hrow := rowH_eq e.symm
     repeat (first
 | (apply s_shrZ; (iterate 4 exact rfl); omega)
 | (apply s_a TY; exact rfl)
 | (apply s_t; exact rfl; omega)
 | (apply s_f; exact rfl; assumption)
 | apply w_seq
 | apply w_region
 | apply s_nil
 | apply t_norm
 | apply k_norm
 | apply w_block
 | apply w_skip
 | (apply w_condT; exact rfl; exact rfl)
 | (apply w_condF; exact rfl; exact rfl)
 | (apply s_k (HM); exact rfl)
 | (apply s_c TY; exact rfl; omega))
     exact ⟨k + 1, by omega, by omega, gh_le ⟨le_upd rfl trivial (le_upd rfl rfl (le_upd rfl trivial (le_upd rfl trivial (le_upd rfl trivial (le_upd rfl trivial (le_upd rfl trivial (le_nil _))))))), le_hupd hrow trivial (le_h0 _ _)⟩⟩
 have hke : k = h.length := by omega
 subst hke
 apply w_gh (gh_row 0 rfl)
 have hpe := fun w hw => part_event os og oh (fun x hx => hss.subset hx) (w := w) hw
 have hva := fun k hk => ev_at (l := l) (s := s) (h := h) (k := k) hk
 have hvo := fun k hk => ev_at (l := l) (s := s) (h := subK h z h.length) (k := k) hk
 have hval := ev_len l s h
 generalize subK h z h.length = g at *
 repeat (first
 | (apply s_a TY; exact rfl)
 | (apply s_t; exact rfl; omega)
 | (apply s_f; exact rfl; omega)
 | apply w_seq
 | apply w_region
 | (apply w_draw (id := 7) 11 rfl (by kernel_rfl))
 | apply s_nil
 | apply t_norm
 | apply t_exit
 | apply k_hit
 | apply w_block
 | apply w_exit
 | apply w_skip
 | (apply w_condF; exact rfl; exact rfl)
 | (apply s_k (HCA); exact rfl)
 | (apply s_k (HCS); exact rfl)
 | (apply s_k (HCH); exact rfl)
 | (apply s_k (HEv); exact rfl))
 have hwh := (winOk_of os oh).len
 generalize eventsV l s h = VA at *
 generalize eventsV l s g = VO at *
 apply w_loop (fun i : Nat => ⟨(Ab.upd (Ab.upd (Ab.upd (Ab.upd (Ab.upd (fun _ => .bot) 2 (.f (.sl h.length (hitsF h)))) 3 (.f (.sl VA.length (evsF VA)))) 11 (.f (.sl g.length (hitsF g)))) 13 (.f (.sl VO.length (evsF VO)))) 15 (.f (iv ((i : Nat) : Int)))), (fun _ => none), 0⟩) (fun i => i <= VO.length) (fun i => VO.length - i) 0 (Nat.zero_le _) (gh_le ⟨le_upd rfl trivial (le_upd rfl trivial (le_upd rfl trivial (le_upd rfl trivial (le_upd rfl trivial (le_nil _))))), le_h0 _ _⟩)
 intro i hi
 by_cases hio : i < VO.length
 · obtain ⟨hiw, hie⟩ := hvo i hio
   obtain ⟨j, rest, hj1, hj2, k0, hk0, b, hb1, hb2⟩ := hpe _ (List.getElem_mem hiw)
   have hoh : VO[i].hits = (j : Int) :: natsL rest := by
    rw [hie]; show hitsInV g _ = _
    rw [hitsInV_hN, hj1]; rfl
   have hol : VO[i].hits.length <= 1000 := by
    rw [hie]; have := hitsInV_len g (windowsV l s g)[i]; show (hitsInV g _).length <= _; omega
   repeat (first
 | (apply s_a TY; exact rfl)
 | (apply s_t; exact rfl; omega)
 | apply w_seq
 | apply w_region
 | apply s_nil
 | apply t_norm
 | apply w_block
 | apply w_skip
 | (apply w_condT; exact rfl; exact rfl))
   apply w_loop (fun q : Nat × Bool => ⟨(Ab.upd (Ab.upd (Ab.upd (Ab.upd (Ab.upd (Ab.upd (Ab.upd (fun _ => .bot) 2 (.f (.sl h.length (hitsF h)))) 3 (.f (.sl VA.length (evsF VA)))) 11 (.f (.sl g.length (hitsF g)))) 13 (.f (.sl VO.length (evsF VO)))) 15 (.f (iv ((i : Nat) : Int)))) 16 (.f (.v (.bool q.2)))) 17 (.f (iv ((q.1 : Nat) : Int)))), (fun _ => none), 0⟩) (fun q => q.1 <= VA.length /\ (q.2 = true \/ q.1 <= k0)) (fun q => VA.length - q.1) (0, false) ⟨Nat.zero_le _, .inr (Nat.zero_le _)⟩ (gh_le ⟨le_upd rfl trivial (le_upd rfl trivial (le_upd rfl trivial (le_upd rfl trivial (le_upd rfl trivial (le_upd rfl trivial (le_upd rfl trivial (le_nil _))))))), le_h0 _ _⟩)
   rintro ⟨k, fb⟩ ⟨hk, hb⟩
   change k <= VA.length at hk
   change fb = true \/ k <= k0 at hb
   change W _ _ _ _ (⟨(Ab.upd (Ab.upd (Ab.upd (Ab.upd (Ab.upd (Ab.upd (Ab.upd (fun _ => .bot) 2 (.f (.sl h.length (hitsF h)))) 3 (.f (.sl VA.length (evsF VA)))) 11 (.f (.sl g.length (hitsF g)))) 13 (.f (.sl VO.length (evsF VO)))) 15 (.f (iv ((i : Nat) : Int)))) 16 (.f (.v (.bool fb)))) 17 (.f (iv ((k : Nat) : Int)))), (fun _ => none), 0⟩)
   by_cases hka : k < VA.length
   · obtain ⟨hkw, hkev⟩ := hva k hka
     have hel := hitsInV_len h (windowsV l s h)[k]
     have HH := holdsFirst_s h g VA[k] VO[i] (by omega) (by omega) (by rw [hkev]; show (hitsInV h _).length <= _; omega) (fun q hq => by
      have hq2 : q < (hitsInV h (windowsV l s h)[k]).length := by rw [hkev] at hq; exact hq
      have := nats_bd hq2
      simp only [hkev]; exact this) j (natsL rest) hj2 hoh hol
     have hvn : evsF VA ≠ [] := evsF_ne (k := k) hka
     have hon : evsF VO ≠ [] := evsF_ne (k := i) hio
     cases hr : anyP VA[k].hits.length (hfB h VA[k] g[j]) with
     | true =>
       rw [hr] at HH
       repeat (first
 | (apply s_a TY; exact rfl)
 | (apply s_t; exact rfl; omega)
 | apply w_seq
 | apply w_region
 | (apply w_draw (id := 17) 10 rfl (by kernel_rfl))
 | apply s_nil
 | apply t_norm
 | apply k_norm
 | apply w_block
 | apply w_skip
 | (apply w_condT; exact rfl; exact rfl)
 | (apply s_k (HH); exact rfl)
 | (apply s_c TY; exact rfl; (first | omega | exact ⟨by omega, by (with_reducible assumption)⟩))
 | (apply s_m TY; exact rfl; (((with_reducible apply evsF_sub); omega)); exact rfl))
       exact ⟨(k + 1, true), ⟨hka, .inl rfl⟩, by show VA.length - (k + 1) < VA.length - k; omega, gh_le ⟨le_upd rfl trivial (le_upd rfl trivial (le_upd rfl trivial (le_upd rfl trivial (le_upd rfl trivial (le_upd rfl trivial (le_upd rfl trivial (le_nil _))))))), le_h0 _ _⟩⟩
     | false =>
       rw [hr] at HH
       have hkk : fb = true \/ k + 1 <= k0 := by
        rcases hb with e | e
        · exact .inl e
        · refine .inr (Nat.lt_of_le_of_ne e fun e2 => ?_)
          subst e2
          have hh : anyP VA[k].hits.length (hfB h VA[k] g[j]) = true := by
           rw [anyP_iff]
           have hbm : (b : Int) ∈ VA[k].hits := by rw [hkev]; show (b : Int) ∈ hitsInV h _; rw [hitsInV_hN]; exact List.mem_map_of_mem hb1
           obtain ⟨q, hq, hqe⟩ := List.getElem_of_mem hbm
           refine ⟨q, hq, ?_⟩
           unfold hfB
           rw [decide_eq_true_eq, getD_at hq, hqe, show ((b : Int)).toNat = b by omega, hb2, getD_e hj2]
          rw [hh] at hr; cases hr
       repeat (first
 | (apply s_a TY; exact rfl)
 | (apply s_t; exact rfl; omega)
 | apply w_seq
 | apply w_region
 | (apply w_draw (id := 17) 10 rfl (by kernel_rfl))
 | apply s_nil
 | apply t_norm
 | apply k_norm
 | apply w_block
 | apply w_skip
 | (apply w_condT; exact rfl; exact rfl)
 | (apply w_condF; exact rfl; exact rfl)
 | (apply s_k (HH); exact rfl)
 | (apply s_c TY; exact rfl; (first | omega | exact ⟨by omega, by (with_reducible assumption)⟩))
 | (apply s_m TY; exact rfl; (((with_reducible apply evsF_sub); omega)); exact rfl))
       exact ⟨(k + 1, fb), ⟨hka, hkk⟩, by show VA.length - (k + 1) < VA.length - k; omega, gh_le ⟨le_upd rfl trivial (le_upd rfl trivial (le_upd rfl trivial (le_upd rfl trivial (le_upd rfl trivial (le_upd rfl trivial (le_upd rfl trivial (le_nil _))))))), le_h0 _ _⟩⟩
   · have hft : fb = true := by
      rcases hb with e | e
      · exact e
      · omega
     subst hft
     repeat (first
 | (apply s_a TY; exact rfl)
 | (apply s_f; exact rfl; omega)
 | apply w_seq
 | apply w_region
 | apply s_nil
 | apply t_norm
 | apply t_exit
 | apply k_hit
 | apply k_norm
 | apply w_exit
 | apply w_skip
 | (apply w_condF; exact rfl; exact rfl)
 | (apply s_c TY; exact rfl; omega))
     exact ⟨i + 1, by omega, by omega, gh_le ⟨le_upd rfl trivial (le_upd rfl trivial (le_upd rfl trivial (le_upd rfl trivial (le_upd rfl trivial (le_nil _))))), le_h0 _ _⟩⟩
 · repeat (first
 | (apply s_a TY; exact rfl)
 | (apply s_f; exact rfl; omega)
 | apply w_seq
 | apply w_region
 | apply s_nil
 | apply t_norm
 | apply t_exit
 | apply k_hit
 | apply w_exit
 | apply w_ret
 | (apply w_condF; exact rfl; exact rfl))
   exact lv_ret (ret1 rfl (res_tmp rfl))
theorem rowDin {a b : List Hit} {x : Hit} (e : b = a ++ [x]) : some (Blk.row 50 3 (a.length + 1) (hitsF a ++ hitF x)) = some (Blk.row 50 3 b.length (hitsF b)) := by rw [e, hitsF_snoc, List.length_append]; rfl
theorem rowDout {a b : List Hit} (e : b = a) : some (Blk.row 50 3 a.length (hitsF a)) = some (Blk.row 50 3 b.length (hitsF b)) := by rw [e]
theorem CLR {m0 m1 m2 : Int} (h : Nat -> Option Blk) (h1 : (h 1).isSome = true) (h2 : (h 2).isSome = true) (h3 : (h 3).isSome = true) : closedB h (.rowA 204 2 3 [.ow 1, .f (iv m0), .ow 2, .f (iv m1), .ow 3, .f (iv m2)]) := fun x hx => by
 simp only [List.mem_cons, List.not_mem_nil, or_false] at hx
 rcases hx with rfl | rfl | rfl | rfl | rfl | rfl
 · exact h1
 · trivial
 · exact h2
 · trivial
 · exact h3
 · trivial
set_option maxRecDepth 4000 in
set_option maxHeartbeats 16000000 in
theorem divStreams_s (h : List Hit) (wh : List Int) (m0 m1 m2 count : Int) (hl : h.length <= 1000) : Summ Tryz.prog GG 22 [.agg [.sl h.length (hitsF h), .sl wh.length (intsF wh), iv m0, iv m1, iv m2], iv count] (.sl 3 (stmsF (divS h wh m0 m1 m2 count))) := by
 obtain ⟨i3, hi3, hz3⟩ := sizeB_spec (n := 1) (TY.ok 3) rfl
 have hu94 : Tryz.prog.underlying 30 = some (.array 3 3) := by kernel_rfl
 have hlen : ∀ (m k : Int) (n : Nat), (selK h wh count m k n).length <= n := fun m k n => selK_len n
 refine summW Tryz.func22 rfl rfl 74 rfl (by simp) (fun M0 => ?_)
 repeat (first
 | (apply s_idxAw hu94 hi3 hz3; (iterate 4 exact rfl); decide; decide)
 | (apply s_bslicew TY (len := 3); (iterate 9 exact rfl))
 | (apply s_a TY; exact rfl)
 | apply w_seq
 | apply w_region
 | apply s_nil
 | apply t_norm
 | apply w_block)
 apply w_gh (gh_rowA 0 rfl)
 apply w_gh (gh_ownA 0 0 50 3 rfl rfl rfl)
 apply w_gh (gh_ownA 0 2 50 3 rfl rfl rfl)
 apply w_gh (gh_ownA 0 4 50 3 rfl rfl rfl)
 apply w_loop (fun i : Nat => ⟨(Ab.upd (Ab.upd (Ab.upd (Ab.upd (fun _ => .bot) 1 (.f (iv count))) 2 (.f (.pt [.sl h.length (hitsF h), .sl wh.length (intsF wh), iv m0, iv m1, iv m2] 0))) 5 (.ow 0)) 6 (.f (iv ((i : Nat) : Int)))), (Ab.upd (Ab.upd (Ab.upd (Ab.upd (fun _ => none) 0 (some (.rowA 204 2 3 [.ow 1, .f (iv m0), .ow 2, .f (iv m1), .ow 3, .f (iv m2)]))) 1 (some (.row 50 3 (selK h wh count m0 0 i).length (hitsF (selK h wh count m0 0 i))))) 2 (some (.row 50 3 (selK h wh count m1 1 i).length (hitsF (selK h wh count m1 1 i))))) 3 (some (.row 50 3 (selK h wh count m2 2 i).length (hitsF (selK h wh count m2 2 i))))), 4⟩) (fun i => i <= h.length) (fun i => h.length - i) 0 (Nat.zero_le _) (gh_le ⟨le_upd rfl trivial (le_upd rfl rfl (le_upd rfl trivial (le_upd rfl trivial (le_nil _)))), le_hupd rfl trivial (le_hupd rfl trivial (le_hupd rfl trivial (le_hupd rfl (CLR _ rfl rfl rfl) (le_h0 _ _))))⟩)
 intro i hi
 by_cases hc : i < h.length
 · have hat : h.getD i default = h[i] := getD_eq hc
   have g0 := hlen m0 0 i
   have g1 := hlen m1 1 i
   have g2 := hlen m2 2 i
   rcases whereZ_bd wh i with hw | hw | hw
   · by_cases hin : i < wh.length
     · have HW : Summ Tryz.prog GG 113 [iv wh[i], iv 3] (iv 0) := by
        have e := mod_s wh[i]
        rw [show modZ wh[i] = 0 by rw [<- hw]; unfold whereZ; rw [if_pos hin]; simp [hin]] at e
        exact e
       have HM := mod_s i
       by_cases h1 : (i : Int) < count
       · have e0 : selK h wh count m0 0 (i + 1) = selK h wh count m0 0 i ++ [h[i]] := (selK_in hw (.inl h1)).trans (by rw [hat])
         have e1 : selK h wh count m1 1 (i + 1) = selK h wh count m1 1 i := selK_out (.inl (by rw [hw]; decide))
         have e2 : selK h wh count m2 2 (i + 1) = selK h wh count m2 2 i := selK_out (.inl (by rw [hw]; decide))
         repeat (first
 | (apply s_a TY; exact rfl)
 | (apply s_o TY; exact rfl)
 | (apply s_t; exact rfl; (first | assumption | omega))
 | apply w_seq
 | apply w_region
 | (apply w_draw (id := 8) 14 rfl (by kernel_rfl))
 | apply s_nil
 | apply t_norm
 | apply k_norm
 | apply w_block
 | apply w_skip
 | (apply w_condT; exact rfl; exact rfl)
 | (apply s_k (HM); exact rfl)
 | (apply s_k (HW); exact rfl)
 | (apply s_s; exact rfl)
 | (apply s_c TY; exact rfl; (first | omega | exact ⟨by omega, by (first | ((with_reducible apply hitsF_ne); omega) | ((with_reducible apply intsF_ne); omega))⟩))
 | (apply s_l TY; exact rfl; (((with_reducible apply intsF_at); omega)))
 | (apply s_m TY; exact rfl; (((with_reducible apply hitsF_sub); omega)); exact rfl)
 | (apply s_idxOA TY; (iterate 6 exact rfl); decide; decide)
 | (apply s_storeA TY; (iterate 6 exact rfl))
 | (apply w_draw3 (id := 9) 13 14 8188 3 rfl (by kernel_rfl) (by kernel_rfl); exact rfl)
 | (apply s_gro3 TY; (iterate 9 exact rfl); (unfold maxLen; omega); omega; exact rfl; exact rfl; exact (fun _ => rfl))
 | (refine KE.mk ⟨rfl, rfl, rfl, rfl, rfl, rfl, rfl, rfl, rfl, rfl, rfl, rfl, rfl, trivial⟩ ?_))
         exact ⟨i + 1, by omega, by omega, gh_le ⟨le_upd rfl trivial (le_upd rfl rfl (le_upd rfl trivial (le_upd rfl trivial (le_nil _)))), le_hupd (rowDout e2) trivial (le_hupd (rowDout e1) trivial (le_hupd (rowDin e0) trivial (le_hupd rfl (CLR _ rfl rfl rfl) (le_h0 _ _))))⟩⟩
       · by_cases h2 : h[i].tm <= m0
         · have e0 : selK h wh count m0 0 (i + 1) = selK h wh count m0 0 i ++ [h[i]] := (selK_in hw (.inr (by rw [hat]; exact h2))).trans (by rw [hat])
           have e1 : selK h wh count m1 1 (i + 1) = selK h wh count m1 1 i := selK_out (.inl (by rw [hw]; decide))
           have e2 : selK h wh count m2 2 (i + 1) = selK h wh count m2 2 i := selK_out (.inl (by rw [hw]; decide))
           repeat (first
 | (apply s_a TY; exact rfl)
 | (apply s_o TY; exact rfl)
 | (apply s_t; exact rfl; (first | assumption | omega))
 | (apply s_f; exact rfl; assumption)
 | apply w_seq
 | apply w_region
 | (apply w_draw (id := 8) 14 rfl (by kernel_rfl))
 | apply s_nil
 | apply t_norm
 | apply k_norm
 | apply w_block
 | apply w_skip
 | (apply w_condT; exact rfl; exact rfl)
 | (apply s_k (HM); exact rfl)
 | (apply s_k (HW); exact rfl)
 | (apply s_c TY; exact rfl; (first | omega | exact ⟨by omega, by (first | ((with_reducible apply hitsF_ne); omega) | ((with_reducible apply intsF_ne); omega))⟩))
 | (apply s_l TY; exact rfl; (first | ((with_reducible apply hitsF_f0); omega) | ((with_reducible apply intsF_at); omega)))
 | (apply s_m TY; exact rfl; (((with_reducible apply hitsF_sub); omega)); exact rfl)
 | (apply s_idxAw hu94 hi3 hz3; (iterate 4 exact rfl); decide; decide)
 | (apply s_idxOA TY; (iterate 6 exact rfl); decide; decide)
 | (apply s_storeA TY; (iterate 6 exact rfl))
 | (apply w_draw3 (id := 9) 13 14 8188 3 rfl (by kernel_rfl) (by kernel_rfl); exact rfl)
 | (apply s_gro3 TY; (iterate 9 exact rfl); (unfold maxLen; omega); omega; exact rfl; exact rfl; exact (fun _ => rfl))
 | (refine KE.mk ⟨rfl, rfl, rfl, rfl, rfl, rfl, rfl, rfl, rfl, rfl, rfl, rfl, rfl, trivial⟩ ?_))
           exact ⟨i + 1, by omega, by omega, gh_le ⟨le_upd rfl trivial (le_upd rfl rfl (le_upd rfl trivial (le_upd rfl trivial (le_nil _)))), le_hupd (rowDout e2) trivial (le_hupd (rowDout e1) trivial (le_hupd (rowDin e0) trivial (le_hupd rfl (CLR _ rfl rfl rfl) (le_h0 _ _))))⟩⟩
         · have e0 : selK h wh count m0 0 (i + 1) = selK h wh count m0 0 i := selK_out (.inr (by rw [hat]; omega))
           have e1 : selK h wh count m1 1 (i + 1) = selK h wh count m1 1 i := selK_out (.inl (by rw [hw]; decide))
           have e2 : selK h wh count m2 2 (i + 1) = selK h wh count m2 2 i := selK_out (.inl (by rw [hw]; decide))
           repeat (first
 | (apply s_a TY; exact rfl)
 | (apply s_t; exact rfl; omega)
 | (apply s_f; exact rfl; assumption)
 | apply w_seq
 | apply w_region
 | (apply w_draw (id := 8) 14 rfl (by kernel_rfl))
 | apply s_nil
 | apply t_norm
 | apply k_norm
 | apply w_block
 | apply w_skip
 | (apply w_condT; exact rfl; exact rfl)
 | (apply w_condF; exact rfl; exact rfl)
 | (apply s_k (HM); exact rfl)
 | (apply s_k (HW); exact rfl)
 | (apply s_c TY; exact rfl; (first | omega | exact ⟨by omega, by (first | ((with_reducible apply hitsF_ne); omega) | ((with_reducible apply intsF_ne); omega))⟩))
 | (apply s_l TY; exact rfl; (first | ((with_reducible apply hitsF_f0); omega) | ((with_reducible apply intsF_at); omega)))
 | (apply s_idxAw hu94 hi3 hz3; (iterate 4 exact rfl); decide; decide))
           exact ⟨i + 1, by omega, by omega, gh_le ⟨le_upd rfl trivial (le_upd rfl rfl (le_upd rfl trivial (le_upd rfl trivial (le_nil _)))), le_hupd (rowDout e2) trivial (le_hupd (rowDout e1) trivial (le_hupd (rowDout e0) trivial (le_hupd rfl (CLR _ rfl rfl rfl) (le_h0 _ _))))⟩⟩
     · have HM : Summ Tryz.prog GG 113 [iv i, iv 3] (iv 0) := by
        have e := mod_s i
        rw [show modZ i = 0 by rw [<- hw]; unfold whereZ; rw [if_neg hin]] at e
        exact e
       by_cases h1 : (i : Int) < count
       · have e0 : selK h wh count m0 0 (i + 1) = selK h wh count m0 0 i ++ [h[i]] := (selK_in hw (.inl h1)).trans (by rw [hat])
         have e1 : selK h wh count m1 1 (i + 1) = selK h wh count m1 1 i := selK_out (.inl (by rw [hw]; decide))
         have e2 : selK h wh count m2 2 (i + 1) = selK h wh count m2 2 i := selK_out (.inl (by rw [hw]; decide))
         repeat (first
 | (apply s_a TY; exact rfl)
 | (apply s_o TY; exact rfl)
 | (apply s_t; exact rfl; (first | assumption | omega))
 | (apply s_f; exact rfl; omega)
 | apply w_seq
 | apply w_region
 | (apply w_draw (id := 8) 14 rfl (by kernel_rfl))
 | apply s_nil
 | apply t_norm
 | apply k_norm
 | apply w_block
 | apply w_skip
 | (apply w_condT; exact rfl; exact rfl)
 | (apply w_condF; exact rfl; exact rfl)
 | (apply s_k (HM); exact rfl)
 | (apply s_s; exact rfl)
 | (apply s_c TY; exact rfl; (first | omega | exact ⟨by omega, by (((with_reducible apply hitsF_ne); omega))⟩))
 | (apply s_m TY; exact rfl; (((with_reducible apply hitsF_sub); omega)); exact rfl)
 | (apply s_idxOA TY; (iterate 6 exact rfl); decide; decide)
 | (apply s_storeA TY; (iterate 6 exact rfl))
 | (apply w_draw3 (id := 9) 13 14 8188 3 rfl (by kernel_rfl) (by kernel_rfl); exact rfl)
 | (apply s_gro3 TY; (iterate 9 exact rfl); (unfold maxLen; omega); omega; exact rfl; exact rfl; exact (fun _ => rfl))
 | (refine KE.mk ⟨rfl, rfl, rfl, rfl, rfl, rfl, rfl, rfl, rfl, rfl, rfl, rfl, rfl, trivial⟩ ?_))
         exact ⟨i + 1, by omega, by omega, gh_le ⟨le_upd rfl trivial (le_upd rfl rfl (le_upd rfl trivial (le_upd rfl trivial (le_nil _)))), le_hupd (rowDout e2) trivial (le_hupd (rowDout e1) trivial (le_hupd (rowDin e0) trivial (le_hupd rfl (CLR _ rfl rfl rfl) (le_h0 _ _))))⟩⟩
       · by_cases h2 : h[i].tm <= m0
         · have e0 : selK h wh count m0 0 (i + 1) = selK h wh count m0 0 i ++ [h[i]] := (selK_in hw (.inr (by rw [hat]; exact h2))).trans (by rw [hat])
           have e1 : selK h wh count m1 1 (i + 1) = selK h wh count m1 1 i := selK_out (.inl (by rw [hw]; decide))
           have e2 : selK h wh count m2 2 (i + 1) = selK h wh count m2 2 i := selK_out (.inl (by rw [hw]; decide))
           repeat (first
 | (apply s_a TY; exact rfl)
 | (apply s_o TY; exact rfl)
 | (apply s_t; exact rfl; (first | assumption | omega))
 | (apply s_f; exact rfl; (first | assumption | omega))
 | apply w_seq
 | apply w_region
 | (apply w_draw (id := 8) 14 rfl (by kernel_rfl))
 | apply s_nil
 | apply t_norm
 | apply k_norm
 | apply w_block
 | apply w_skip
 | (apply w_condT; exact rfl; exact rfl)
 | (apply w_condF; exact rfl; exact rfl)
 | (apply s_k (HM); exact rfl)
 | (apply s_c TY; exact rfl; (first | omega | exact ⟨by omega, by (((with_reducible apply hitsF_ne); omega))⟩))
 | (apply s_l TY; exact rfl; (((with_reducible apply hitsF_f0); omega)))
 | (apply s_m TY; exact rfl; (((with_reducible apply hitsF_sub); omega)); exact rfl)
 | (apply s_idxAw hu94 hi3 hz3; (iterate 4 exact rfl); decide; decide)
 | (apply s_idxOA TY; (iterate 6 exact rfl); decide; decide)
 | (apply s_storeA TY; (iterate 6 exact rfl))
 | (apply w_draw3 (id := 9) 13 14 8188 3 rfl (by kernel_rfl) (by kernel_rfl); exact rfl)
 | (apply s_gro3 TY; (iterate 9 exact rfl); (unfold maxLen; omega); omega; exact rfl; exact rfl; exact (fun _ => rfl))
 | (refine KE.mk ⟨rfl, rfl, rfl, rfl, rfl, rfl, rfl, rfl, rfl, rfl, rfl, rfl, rfl, trivial⟩ ?_))
           exact ⟨i + 1, by omega, by omega, gh_le ⟨le_upd rfl trivial (le_upd rfl rfl (le_upd rfl trivial (le_upd rfl trivial (le_nil _)))), le_hupd (rowDout e2) trivial (le_hupd (rowDout e1) trivial (le_hupd (rowDin e0) trivial (le_hupd rfl (CLR _ rfl rfl rfl) (le_h0 _ _))))⟩⟩
         · have e0 : selK h wh count m0 0 (i + 1) = selK h wh count m0 0 i := selK_out (.inr (by rw [hat]; omega))
           have e1 : selK h wh count m1 1 (i + 1) = selK h wh count m1 1 i := selK_out (.inl (by rw [hw]; decide))
           have e2 : selK h wh count m2 2 (i + 1) = selK h wh count m2 2 i := selK_out (.inl (by rw [hw]; decide))
           repeat (first
 | (apply s_a TY; exact rfl)
 | (apply s_t; exact rfl; omega)
 | (apply s_f; exact rfl; (first | assumption | omega))
 | apply w_seq
 | apply w_region
 | (apply w_draw (id := 8) 14 rfl (by kernel_rfl))
 | apply s_nil
 | apply t_norm
 | apply k_norm
 | apply w_block
 | apply w_skip
 | (apply w_condT; exact rfl; exact rfl)
 | (apply w_condF; exact rfl; exact rfl)
 | (apply s_k (HM); exact rfl)
 | (apply s_c TY; exact rfl; (first | omega | exact ⟨by omega, by (((with_reducible apply hitsF_ne); omega))⟩))
 | (apply s_l TY; exact rfl; (((with_reducible apply hitsF_f0); omega)))
 | (apply s_idxAw hu94 hi3 hz3; (iterate 4 exact rfl); decide; decide))
           exact ⟨i + 1, by omega, by omega, gh_le ⟨le_upd rfl trivial (le_upd rfl rfl (le_upd rfl trivial (le_upd rfl trivial (le_nil _)))), le_hupd (rowDout e2) trivial (le_hupd (rowDout e1) trivial (le_hupd (rowDout e0) trivial (le_hupd rfl (CLR _ rfl rfl rfl) (le_h0 _ _))))⟩⟩
   · by_cases hin : i < wh.length
     · have HW : Summ Tryz.prog GG 113 [iv wh[i], iv 3] (iv 1) := by
        have e := mod_s wh[i]
        rw [show modZ wh[i] = 1 by rw [<- hw]; unfold whereZ; rw [if_pos hin]; simp [hin]] at e
        exact e
       have HM := mod_s i
       by_cases h1 : (i : Int) < count
       · have e0 : selK h wh count m0 0 (i + 1) = selK h wh count m0 0 i := selK_out (.inl (by rw [hw]; decide))
         have e1 : selK h wh count m1 1 (i + 1) = selK h wh count m1 1 i ++ [h[i]] := (selK_in hw (.inl h1)).trans (by rw [hat])
         have e2 : selK h wh count m2 2 (i + 1) = selK h wh count m2 2 i := selK_out (.inl (by rw [hw]; decide))
         repeat (first
 | (apply s_a TY; exact rfl)
 | (apply s_o TY; exact rfl)
 | (apply s_t; exact rfl; (first | assumption | omega))
 | apply w_seq
 | apply w_region
 | (apply w_draw (id := 8) 14 rfl (by kernel_rfl))
 | apply s_nil
 | apply t_norm
 | apply k_norm
 | apply w_block
 | apply w_skip
 | (apply w_condT; exact rfl; exact rfl)
 | (apply s_k (HM); exact rfl)
 | (apply s_k (HW); exact rfl)
 | (apply s_s; exact rfl)
 | (apply s_c TY; exact rfl; (first | omega | exact ⟨by omega, by (first | ((with_reducible apply hitsF_ne); omega) | ((with_reducible apply intsF_ne); omega))⟩))
 | (apply s_l TY; exact rfl; (((with_reducible apply intsF_at); omega)))
 | (apply s_m TY; exact rfl; (((with_reducible apply hitsF_sub); omega)); exact rfl)
 | (apply s_idxOA TY; (iterate 6 exact rfl); decide; decide)
 | (apply s_storeA TY; (iterate 6 exact rfl))
 | (apply w_draw3 (id := 9) 13 14 8188 3 rfl (by kernel_rfl) (by kernel_rfl); exact rfl)
 | (apply s_gro3 TY; (iterate 9 exact rfl); (unfold maxLen; omega); omega; exact rfl; exact rfl; exact (fun _ => rfl))
 | (refine KE.mk ⟨rfl, rfl, rfl, rfl, rfl, rfl, rfl, rfl, rfl, rfl, rfl, rfl, rfl, trivial⟩ ?_))
         exact ⟨i + 1, by omega, by omega, gh_le ⟨le_upd rfl trivial (le_upd rfl rfl (le_upd rfl trivial (le_upd rfl trivial (le_nil _)))), le_hupd (rowDout e2) trivial (le_hupd (rowDin e1) trivial (le_hupd (rowDout e0) trivial (le_hupd rfl (CLR _ rfl rfl rfl) (le_h0 _ _))))⟩⟩
       · by_cases h2 : h[i].tm <= m1
         · have e0 : selK h wh count m0 0 (i + 1) = selK h wh count m0 0 i := selK_out (.inl (by rw [hw]; decide))
           have e1 : selK h wh count m1 1 (i + 1) = selK h wh count m1 1 i ++ [h[i]] := (selK_in hw (.inr (by rw [hat]; exact h2))).trans (by rw [hat])
           have e2 : selK h wh count m2 2 (i + 1) = selK h wh count m2 2 i := selK_out (.inl (by rw [hw]; decide))
           repeat (first
 | (apply s_a TY; exact rfl)
 | (apply s_o TY; exact rfl)
 | (apply s_t; exact rfl; (first | assumption | omega))
 | (apply s_f; exact rfl; assumption)
 | apply w_seq
 | apply w_region
 | (apply w_draw (id := 8) 14 rfl (by kernel_rfl))
 | apply s_nil
 | apply t_norm
 | apply k_norm
 | apply w_block
 | apply w_skip
 | (apply w_condT; exact rfl; exact rfl)
 | (apply s_k (HM); exact rfl)
 | (apply s_k (HW); exact rfl)
 | (apply s_c TY; exact rfl; (first | omega | exact ⟨by omega, by (first | ((with_reducible apply hitsF_ne); omega) | ((with_reducible apply intsF_ne); omega))⟩))
 | (apply s_l TY; exact rfl; (first | ((with_reducible apply hitsF_f0); omega) | ((with_reducible apply intsF_at); omega)))
 | (apply s_m TY; exact rfl; (((with_reducible apply hitsF_sub); omega)); exact rfl)
 | (apply s_idxAw hu94 hi3 hz3; (iterate 4 exact rfl); decide; decide)
 | (apply s_idxOA TY; (iterate 6 exact rfl); decide; decide)
 | (apply s_storeA TY; (iterate 6 exact rfl))
 | (apply w_draw3 (id := 9) 13 14 8188 3 rfl (by kernel_rfl) (by kernel_rfl); exact rfl)
 | (apply s_gro3 TY; (iterate 9 exact rfl); (unfold maxLen; omega); omega; exact rfl; exact rfl; exact (fun _ => rfl))
 | (refine KE.mk ⟨rfl, rfl, rfl, rfl, rfl, rfl, rfl, rfl, rfl, rfl, rfl, rfl, rfl, trivial⟩ ?_))
           exact ⟨i + 1, by omega, by omega, gh_le ⟨le_upd rfl trivial (le_upd rfl rfl (le_upd rfl trivial (le_upd rfl trivial (le_nil _)))), le_hupd (rowDout e2) trivial (le_hupd (rowDin e1) trivial (le_hupd (rowDout e0) trivial (le_hupd rfl (CLR _ rfl rfl rfl) (le_h0 _ _))))⟩⟩
         · have e0 : selK h wh count m0 0 (i + 1) = selK h wh count m0 0 i := selK_out (.inl (by rw [hw]; decide))
           have e1 : selK h wh count m1 1 (i + 1) = selK h wh count m1 1 i := selK_out (.inr (by rw [hat]; omega))
           have e2 : selK h wh count m2 2 (i + 1) = selK h wh count m2 2 i := selK_out (.inl (by rw [hw]; decide))
           repeat (first
 | (apply s_a TY; exact rfl)
 | (apply s_t; exact rfl; omega)
 | (apply s_f; exact rfl; assumption)
 | apply w_seq
 | apply w_region
 | (apply w_draw (id := 8) 14 rfl (by kernel_rfl))
 | apply s_nil
 | apply t_norm
 | apply k_norm
 | apply w_block
 | apply w_skip
 | (apply w_condT; exact rfl; exact rfl)
 | (apply w_condF; exact rfl; exact rfl)
 | (apply s_k (HM); exact rfl)
 | (apply s_k (HW); exact rfl)
 | (apply s_c TY; exact rfl; (first | omega | exact ⟨by omega, by (first | ((with_reducible apply hitsF_ne); omega) | ((with_reducible apply intsF_ne); omega))⟩))
 | (apply s_l TY; exact rfl; (first | ((with_reducible apply hitsF_f0); omega) | ((with_reducible apply intsF_at); omega)))
 | (apply s_idxAw hu94 hi3 hz3; (iterate 4 exact rfl); decide; decide))
           exact ⟨i + 1, by omega, by omega, gh_le ⟨le_upd rfl trivial (le_upd rfl rfl (le_upd rfl trivial (le_upd rfl trivial (le_nil _)))), le_hupd (rowDout e2) trivial (le_hupd (rowDout e1) trivial (le_hupd (rowDout e0) trivial (le_hupd rfl (CLR _ rfl rfl rfl) (le_h0 _ _))))⟩⟩
     · have HM : Summ Tryz.prog GG 113 [iv i, iv 3] (iv 1) := by
        have e := mod_s i
        rw [show modZ i = 1 by rw [<- hw]; unfold whereZ; rw [if_neg hin]] at e
        exact e
       by_cases h1 : (i : Int) < count
       · have e0 : selK h wh count m0 0 (i + 1) = selK h wh count m0 0 i := selK_out (.inl (by rw [hw]; decide))
         have e1 : selK h wh count m1 1 (i + 1) = selK h wh count m1 1 i ++ [h[i]] := (selK_in hw (.inl h1)).trans (by rw [hat])
         have e2 : selK h wh count m2 2 (i + 1) = selK h wh count m2 2 i := selK_out (.inl (by rw [hw]; decide))
         repeat (first
 | (apply s_a TY; exact rfl)
 | (apply s_o TY; exact rfl)
 | (apply s_t; exact rfl; (first | assumption | omega))
 | (apply s_f; exact rfl; omega)
 | apply w_seq
 | apply w_region
 | (apply w_draw (id := 8) 14 rfl (by kernel_rfl))
 | apply s_nil
 | apply t_norm
 | apply k_norm
 | apply w_block
 | apply w_skip
 | (apply w_condT; exact rfl; exact rfl)
 | (apply w_condF; exact rfl; exact rfl)
 | (apply s_k (HM); exact rfl)
 | (apply s_s; exact rfl)
 | (apply s_c TY; exact rfl; (first | omega | exact ⟨by omega, by (((with_reducible apply hitsF_ne); omega))⟩))
 | (apply s_m TY; exact rfl; (((with_reducible apply hitsF_sub); omega)); exact rfl)
 | (apply s_idxOA TY; (iterate 6 exact rfl); decide; decide)
 | (apply s_storeA TY; (iterate 6 exact rfl))
 | (apply w_draw3 (id := 9) 13 14 8188 3 rfl (by kernel_rfl) (by kernel_rfl); exact rfl)
 | (apply s_gro3 TY; (iterate 9 exact rfl); (unfold maxLen; omega); omega; exact rfl; exact rfl; exact (fun _ => rfl))
 | (refine KE.mk ⟨rfl, rfl, rfl, rfl, rfl, rfl, rfl, rfl, rfl, rfl, rfl, rfl, rfl, trivial⟩ ?_))
         exact ⟨i + 1, by omega, by omega, gh_le ⟨le_upd rfl trivial (le_upd rfl rfl (le_upd rfl trivial (le_upd rfl trivial (le_nil _)))), le_hupd (rowDout e2) trivial (le_hupd (rowDin e1) trivial (le_hupd (rowDout e0) trivial (le_hupd rfl (CLR _ rfl rfl rfl) (le_h0 _ _))))⟩⟩
       · by_cases h2 : h[i].tm <= m1
         · have e0 : selK h wh count m0 0 (i + 1) = selK h wh count m0 0 i := selK_out (.inl (by rw [hw]; decide))
           have e1 : selK h wh count m1 1 (i + 1) = selK h wh count m1 1 i ++ [h[i]] := (selK_in hw (.inr (by rw [hat]; exact h2))).trans (by rw [hat])
           have e2 : selK h wh count m2 2 (i + 1) = selK h wh count m2 2 i := selK_out (.inl (by rw [hw]; decide))
           repeat (first
 | (apply s_a TY; exact rfl)
 | (apply s_o TY; exact rfl)
 | (apply s_t; exact rfl; (first | assumption | omega))
 | (apply s_f; exact rfl; (first | assumption | omega))
 | apply w_seq
 | apply w_region
 | (apply w_draw (id := 8) 14 rfl (by kernel_rfl))
 | apply s_nil
 | apply t_norm
 | apply k_norm
 | apply w_block
 | apply w_skip
 | (apply w_condT; exact rfl; exact rfl)
 | (apply w_condF; exact rfl; exact rfl)
 | (apply s_k (HM); exact rfl)
 | (apply s_c TY; exact rfl; (first | omega | exact ⟨by omega, by (((with_reducible apply hitsF_ne); omega))⟩))
 | (apply s_l TY; exact rfl; (((with_reducible apply hitsF_f0); omega)))
 | (apply s_m TY; exact rfl; (((with_reducible apply hitsF_sub); omega)); exact rfl)
 | (apply s_idxAw hu94 hi3 hz3; (iterate 4 exact rfl); decide; decide)
 | (apply s_idxOA TY; (iterate 6 exact rfl); decide; decide)
 | (apply s_storeA TY; (iterate 6 exact rfl))
 | (apply w_draw3 (id := 9) 13 14 8188 3 rfl (by kernel_rfl) (by kernel_rfl); exact rfl)
 | (apply s_gro3 TY; (iterate 9 exact rfl); (unfold maxLen; omega); omega; exact rfl; exact rfl; exact (fun _ => rfl))
 | (refine KE.mk ⟨rfl, rfl, rfl, rfl, rfl, rfl, rfl, rfl, rfl, rfl, rfl, rfl, rfl, trivial⟩ ?_))
           exact ⟨i + 1, by omega, by omega, gh_le ⟨le_upd rfl trivial (le_upd rfl rfl (le_upd rfl trivial (le_upd rfl trivial (le_nil _)))), le_hupd (rowDout e2) trivial (le_hupd (rowDin e1) trivial (le_hupd (rowDout e0) trivial (le_hupd rfl (CLR _ rfl rfl rfl) (le_h0 _ _))))⟩⟩
         · have e0 : selK h wh count m0 0 (i + 1) = selK h wh count m0 0 i := selK_out (.inl (by rw [hw]; decide))
           have e1 : selK h wh count m1 1 (i + 1) = selK h wh count m1 1 i := selK_out (.inr (by rw [hat]; omega))
           have e2 : selK h wh count m2 2 (i + 1) = selK h wh count m2 2 i := selK_out (.inl (by rw [hw]; decide))
           repeat (first
 | (apply s_a TY; exact rfl)
 | (apply s_t; exact rfl; omega)
 | (apply s_f; exact rfl; (first | assumption | omega))
 | apply w_seq
 | apply w_region
 | (apply w_draw (id := 8) 14 rfl (by kernel_rfl))
 | apply s_nil
 | apply t_norm
 | apply k_norm
 | apply w_block
 | apply w_skip
 | (apply w_condT; exact rfl; exact rfl)
 | (apply w_condF; exact rfl; exact rfl)
 | (apply s_k (HM); exact rfl)
 | (apply s_c TY; exact rfl; (first | omega | exact ⟨by omega, by (((with_reducible apply hitsF_ne); omega))⟩))
 | (apply s_l TY; exact rfl; (((with_reducible apply hitsF_f0); omega)))
 | (apply s_idxAw hu94 hi3 hz3; (iterate 4 exact rfl); decide; decide))
           exact ⟨i + 1, by omega, by omega, gh_le ⟨le_upd rfl trivial (le_upd rfl rfl (le_upd rfl trivial (le_upd rfl trivial (le_nil _)))), le_hupd (rowDout e2) trivial (le_hupd (rowDout e1) trivial (le_hupd (rowDout e0) trivial (le_hupd rfl (CLR _ rfl rfl rfl) (le_h0 _ _))))⟩⟩
   · by_cases hin : i < wh.length
     · have HW : Summ Tryz.prog GG 113 [iv wh[i], iv 3] (iv 2) := by
        have e := mod_s wh[i]
        rw [show modZ wh[i] = 2 by rw [<- hw]; unfold whereZ; rw [if_pos hin]; simp [hin]] at e
        exact e
       have HM := mod_s i
       by_cases h1 : (i : Int) < count
       · have e0 : selK h wh count m0 0 (i + 1) = selK h wh count m0 0 i := selK_out (.inl (by rw [hw]; decide))
         have e1 : selK h wh count m1 1 (i + 1) = selK h wh count m1 1 i := selK_out (.inl (by rw [hw]; decide))
         have e2 : selK h wh count m2 2 (i + 1) = selK h wh count m2 2 i ++ [h[i]] := (selK_in hw (.inl h1)).trans (by rw [hat])
         repeat (first
 | (apply s_a TY; exact rfl)
 | (apply s_o TY; exact rfl)
 | (apply s_t; exact rfl; (first | assumption | omega))
 | apply w_seq
 | apply w_region
 | (apply w_draw (id := 8) 14 rfl (by kernel_rfl))
 | apply s_nil
 | apply t_norm
 | apply k_norm
 | apply w_block
 | apply w_skip
 | (apply w_condT; exact rfl; exact rfl)
 | (apply s_k (HM); exact rfl)
 | (apply s_k (HW); exact rfl)
 | (apply s_s; exact rfl)
 | (apply s_c TY; exact rfl; (first | omega | exact ⟨by omega, by (first | ((with_reducible apply hitsF_ne); omega) | ((with_reducible apply intsF_ne); omega))⟩))
 | (apply s_l TY; exact rfl; (((with_reducible apply intsF_at); omega)))
 | (apply s_m TY; exact rfl; (((with_reducible apply hitsF_sub); omega)); exact rfl)
 | (apply s_idxOA TY; (iterate 6 exact rfl); decide; decide)
 | (apply s_storeA TY; (iterate 6 exact rfl))
 | (apply w_draw3 (id := 9) 13 14 8188 3 rfl (by kernel_rfl) (by kernel_rfl); exact rfl)
 | (apply s_gro3 TY; (iterate 9 exact rfl); (unfold maxLen; omega); omega; exact rfl; exact rfl; exact (fun _ => rfl))
 | (refine KE.mk ⟨rfl, rfl, rfl, rfl, rfl, rfl, rfl, rfl, rfl, rfl, rfl, rfl, rfl, trivial⟩ ?_))
         exact ⟨i + 1, by omega, by omega, gh_le ⟨le_upd rfl trivial (le_upd rfl rfl (le_upd rfl trivial (le_upd rfl trivial (le_nil _)))), le_hupd (rowDin e2) trivial (le_hupd (rowDout e1) trivial (le_hupd (rowDout e0) trivial (le_hupd rfl (CLR _ rfl rfl rfl) (le_h0 _ _))))⟩⟩
       · by_cases h2 : h[i].tm <= m2
         · have e0 : selK h wh count m0 0 (i + 1) = selK h wh count m0 0 i := selK_out (.inl (by rw [hw]; decide))
           have e1 : selK h wh count m1 1 (i + 1) = selK h wh count m1 1 i := selK_out (.inl (by rw [hw]; decide))
           have e2 : selK h wh count m2 2 (i + 1) = selK h wh count m2 2 i ++ [h[i]] := (selK_in hw (.inr (by rw [hat]; exact h2))).trans (by rw [hat])
           repeat (first
 | (apply s_a TY; exact rfl)
 | (apply s_o TY; exact rfl)
 | (apply s_t; exact rfl; (first | assumption | omega))
 | (apply s_f; exact rfl; assumption)
 | apply w_seq
 | apply w_region
 | (apply w_draw (id := 8) 14 rfl (by kernel_rfl))
 | apply s_nil
 | apply t_norm
 | apply k_norm
 | apply w_block
 | apply w_skip
 | (apply w_condT; exact rfl; exact rfl)
 | (apply s_k (HM); exact rfl)
 | (apply s_k (HW); exact rfl)
 | (apply s_c TY; exact rfl; (first | omega | exact ⟨by omega, by (first | ((with_reducible apply hitsF_ne); omega) | ((with_reducible apply intsF_ne); omega))⟩))
 | (apply s_l TY; exact rfl; (first | ((with_reducible apply hitsF_f0); omega) | ((with_reducible apply intsF_at); omega)))
 | (apply s_m TY; exact rfl; (((with_reducible apply hitsF_sub); omega)); exact rfl)
 | (apply s_idxAw hu94 hi3 hz3; (iterate 4 exact rfl); decide; decide)
 | (apply s_idxOA TY; (iterate 6 exact rfl); decide; decide)
 | (apply s_storeA TY; (iterate 6 exact rfl))
 | (apply w_draw3 (id := 9) 13 14 8188 3 rfl (by kernel_rfl) (by kernel_rfl); exact rfl)
 | (apply s_gro3 TY; (iterate 9 exact rfl); (unfold maxLen; omega); omega; exact rfl; exact rfl; exact (fun _ => rfl))
 | (refine KE.mk ⟨rfl, rfl, rfl, rfl, rfl, rfl, rfl, rfl, rfl, rfl, rfl, rfl, rfl, trivial⟩ ?_))
           exact ⟨i + 1, by omega, by omega, gh_le ⟨le_upd rfl trivial (le_upd rfl rfl (le_upd rfl trivial (le_upd rfl trivial (le_nil _)))), le_hupd (rowDin e2) trivial (le_hupd (rowDout e1) trivial (le_hupd (rowDout e0) trivial (le_hupd rfl (CLR _ rfl rfl rfl) (le_h0 _ _))))⟩⟩
         · have e0 : selK h wh count m0 0 (i + 1) = selK h wh count m0 0 i := selK_out (.inl (by rw [hw]; decide))
           have e1 : selK h wh count m1 1 (i + 1) = selK h wh count m1 1 i := selK_out (.inl (by rw [hw]; decide))
           have e2 : selK h wh count m2 2 (i + 1) = selK h wh count m2 2 i := selK_out (.inr (by rw [hat]; omega))
           repeat (first
 | (apply s_a TY; exact rfl)
 | (apply s_t; exact rfl; omega)
 | (apply s_f; exact rfl; assumption)
 | apply w_seq
 | apply w_region
 | (apply w_draw (id := 8) 14 rfl (by kernel_rfl))
 | apply s_nil
 | apply t_norm
 | apply k_norm
 | apply w_block
 | apply w_skip
 | (apply w_condT; exact rfl; exact rfl)
 | (apply w_condF; exact rfl; exact rfl)
 | (apply s_k (HM); exact rfl)
 | (apply s_k (HW); exact rfl)
 | (apply s_c TY; exact rfl; (first | omega | exact ⟨by omega, by (first | ((with_reducible apply hitsF_ne); omega) | ((with_reducible apply intsF_ne); omega))⟩))
 | (apply s_l TY; exact rfl; (first | ((with_reducible apply hitsF_f0); omega) | ((with_reducible apply intsF_at); omega)))
 | (apply s_idxAw hu94 hi3 hz3; (iterate 4 exact rfl); decide; decide))
           exact ⟨i + 1, by omega, by omega, gh_le ⟨le_upd rfl trivial (le_upd rfl rfl (le_upd rfl trivial (le_upd rfl trivial (le_nil _)))), le_hupd (rowDout e2) trivial (le_hupd (rowDout e1) trivial (le_hupd (rowDout e0) trivial (le_hupd rfl (CLR _ rfl rfl rfl) (le_h0 _ _))))⟩⟩
     · have HM : Summ Tryz.prog GG 113 [iv i, iv 3] (iv 2) := by
        have e := mod_s i
        rw [show modZ i = 2 by rw [<- hw]; unfold whereZ; rw [if_neg hin]] at e
        exact e
       by_cases h1 : (i : Int) < count
       · have e0 : selK h wh count m0 0 (i + 1) = selK h wh count m0 0 i := selK_out (.inl (by rw [hw]; decide))
         have e1 : selK h wh count m1 1 (i + 1) = selK h wh count m1 1 i := selK_out (.inl (by rw [hw]; decide))
         have e2 : selK h wh count m2 2 (i + 1) = selK h wh count m2 2 i ++ [h[i]] := (selK_in hw (.inl h1)).trans (by rw [hat])
         repeat (first
 | (apply s_a TY; exact rfl)
 | (apply s_o TY; exact rfl)
 | (apply s_t; exact rfl; (first | assumption | omega))
 | (apply s_f; exact rfl; omega)
 | apply w_seq
 | apply w_region
 | (apply w_draw (id := 8) 14 rfl (by kernel_rfl))
 | apply s_nil
 | apply t_norm
 | apply k_norm
 | apply w_block
 | apply w_skip
 | (apply w_condT; exact rfl; exact rfl)
 | (apply w_condF; exact rfl; exact rfl)
 | (apply s_k (HM); exact rfl)
 | (apply s_s; exact rfl)
 | (apply s_c TY; exact rfl; (first | omega | exact ⟨by omega, by (((with_reducible apply hitsF_ne); omega))⟩))
 | (apply s_m TY; exact rfl; (((with_reducible apply hitsF_sub); omega)); exact rfl)
 | (apply s_idxOA TY; (iterate 6 exact rfl); decide; decide)
 | (apply s_storeA TY; (iterate 6 exact rfl))
 | (apply w_draw3 (id := 9) 13 14 8188 3 rfl (by kernel_rfl) (by kernel_rfl); exact rfl)
 | (apply s_gro3 TY; (iterate 9 exact rfl); (unfold maxLen; omega); omega; exact rfl; exact rfl; exact (fun _ => rfl))
 | (refine KE.mk ⟨rfl, rfl, rfl, rfl, rfl, rfl, rfl, rfl, rfl, rfl, rfl, rfl, rfl, trivial⟩ ?_))
         exact ⟨i + 1, by omega, by omega, gh_le ⟨le_upd rfl trivial (le_upd rfl rfl (le_upd rfl trivial (le_upd rfl trivial (le_nil _)))), le_hupd (rowDin e2) trivial (le_hupd (rowDout e1) trivial (le_hupd (rowDout e0) trivial (le_hupd rfl (CLR _ rfl rfl rfl) (le_h0 _ _))))⟩⟩
       · by_cases h2 : h[i].tm <= m2
         · have e0 : selK h wh count m0 0 (i + 1) = selK h wh count m0 0 i := selK_out (.inl (by rw [hw]; decide))
           have e1 : selK h wh count m1 1 (i + 1) = selK h wh count m1 1 i := selK_out (.inl (by rw [hw]; decide))
           have e2 : selK h wh count m2 2 (i + 1) = selK h wh count m2 2 i ++ [h[i]] := (selK_in hw (.inr (by rw [hat]; exact h2))).trans (by rw [hat])
           repeat (first
 | (apply s_a TY; exact rfl)
 | (apply s_o TY; exact rfl)
 | (apply s_t; exact rfl; (first | assumption | omega))
 | (apply s_f; exact rfl; (first | assumption | omega))
 | apply w_seq
 | apply w_region
 | (apply w_draw (id := 8) 14 rfl (by kernel_rfl))
 | apply s_nil
 | apply t_norm
 | apply k_norm
 | apply w_block
 | apply w_skip
 | (apply w_condT; exact rfl; exact rfl)
 | (apply w_condF; exact rfl; exact rfl)
 | (apply s_k (HM); exact rfl)
 | (apply s_c TY; exact rfl; (first | omega | exact ⟨by omega, by (((with_reducible apply hitsF_ne); omega))⟩))
 | (apply s_l TY; exact rfl; (((with_reducible apply hitsF_f0); omega)))
 | (apply s_m TY; exact rfl; (((with_reducible apply hitsF_sub); omega)); exact rfl)
 | (apply s_idxAw hu94 hi3 hz3; (iterate 4 exact rfl); decide; decide)
 | (apply s_idxOA TY; (iterate 6 exact rfl); decide; decide)
 | (apply s_storeA TY; (iterate 6 exact rfl))
 | (apply w_draw3 (id := 9) 13 14 8188 3 rfl (by kernel_rfl) (by kernel_rfl); exact rfl)
 | (apply s_gro3 TY; (iterate 9 exact rfl); (unfold maxLen; omega); omega; exact rfl; exact rfl; exact (fun _ => rfl))
 | (refine KE.mk ⟨rfl, rfl, rfl, rfl, rfl, rfl, rfl, rfl, rfl, rfl, rfl, rfl, rfl, trivial⟩ ?_))
           exact ⟨i + 1, by omega, by omega, gh_le ⟨le_upd rfl trivial (le_upd rfl rfl (le_upd rfl trivial (le_upd rfl trivial (le_nil _)))), le_hupd (rowDin e2) trivial (le_hupd (rowDout e1) trivial (le_hupd (rowDout e0) trivial (le_hupd rfl (CLR _ rfl rfl rfl) (le_h0 _ _))))⟩⟩
         · have e0 : selK h wh count m0 0 (i + 1) = selK h wh count m0 0 i := selK_out (.inl (by rw [hw]; decide))
           have e1 : selK h wh count m1 1 (i + 1) = selK h wh count m1 1 i := selK_out (.inl (by rw [hw]; decide))
           have e2 : selK h wh count m2 2 (i + 1) = selK h wh count m2 2 i := selK_out (.inr (by rw [hat]; omega))
           repeat (first
 | (apply s_a TY; exact rfl)
 | (apply s_t; exact rfl; omega)
 | (apply s_f; exact rfl; (first | assumption | omega))
 | apply w_seq
 | apply w_region
 | (apply w_draw (id := 8) 14 rfl (by kernel_rfl))
 | apply s_nil
 | apply t_norm
 | apply k_norm
 | apply w_block
 | apply w_skip
 | (apply w_condT; exact rfl; exact rfl)
 | (apply w_condF; exact rfl; exact rfl)
 | (apply s_k (HM); exact rfl)
 | (apply s_c TY; exact rfl; (first | omega | exact ⟨by omega, by (((with_reducible apply hitsF_ne); omega))⟩))
 | (apply s_l TY; exact rfl; (((with_reducible apply hitsF_f0); omega)))
 | (apply s_idxAw hu94 hi3 hz3; (iterate 4 exact rfl); decide; decide))
           exact ⟨i + 1, by omega, by omega, gh_le ⟨le_upd rfl trivial (le_upd rfl rfl (le_upd rfl trivial (le_upd rfl trivial (le_nil _)))), le_hupd (rowDout e2) trivial (le_hupd (rowDout e1) trivial (le_hupd (rowDout e0) trivial (le_hupd rfl (CLR _ rfl rfl rfl) (le_h0 _ _))))⟩⟩
 · have hke : i = h.length := by omega
   subst hke
   repeat (first
 | (apply s_a TY; exact rfl)
 | (apply s_f; exact rfl; omega)
 | apply w_seq
 | apply w_region
 | apply s_nil
 | apply t_norm
 | apply t_exit
 | apply k_hit
 | apply w_exit
 | apply w_ret
 | (apply w_condF; exact rfl; exact rfl))
   exact lv_ret (ret_gh (gh_trans (gh_row 1 rfl) (gh_trans (gh_row 2 rfl) (gh_trans (gh_row 3 rfl) (gh_trans (gh_rowF 0 (cs := stmsF (divS h wh m0 m1 m2 count)) rfl) (gh_row 0 rfl))))) (ret1 rfl (res_tmp rfl)))
end Go.Proofs.YtbkdjlahhcofmaaGreatDoor
namespace Go.Ab
open Go Go.RowKit
section
variable {P : Program} {w : World}
def InW (z : Int) : Prop := -9223372036854775808 <= z /\ z < 9223372036854775808
end
end Go.Ab
namespace Go.Proofs.YtbkdjlahhcofmaaGreatDoor
open Go Go.RowKit Go.Proofs Go.Shelf Go.Ab
theorem eq_rng {x y : Operand} {a b : Rng} {c : Bool} (h : decide (a = b) = c) : ∀ w, (do eqGuard .eql 34 x y (.agg #[.int .i64 a.lo, .int .i64 a.hi]) (.agg #[.int .i64 b.lo, .int .i64 b.hi]); binOp .eql 34 (.agg #[.int .i64 a.lo, .int .i64 a.hi]) (.agg #[.int .i64 b.lo, .int .i64 b.hi]) : Sem Value).run Tryz.prog w = .ok (.bool c) w := fun w => by
 have h1 := equalIn_rng 9998 a b w
 rw [h] at h1
 first
 | (simp [eqGuard, run_eql_struct, h1]; done)
 | simp [eqGuard, guard_rng, run_eql_struct, h1]
theorem holds_s (w r : Rng) : Summ Tryz.prog GG 125 [.agg (rngF w), .agg (rngF r)] (bv (insideB w r)) := by
 unfold insideB
 by_cases h1 : w.lo <= r.lo
 · by_cases h2 : r.hi <= w.hi
   · rw [decide_eq_true h1, decide_eq_true h2]
     refine summW Tryz.func125 rfl rfl 17 rfl (by simp) (fun M0 => ?_)
     repeat (first
 | (apply s_a TY; exact rfl)
 | (apply s_t; exact rfl; assumption)
 | apply w_seq
 | apply w_region
 | apply s_nil
 | apply t_norm
 | apply w_ret)
     exact lv_ret (ret1 rfl (res_tmp rfl))
   · rw [decide_eq_true h1, decide_eq_false h2]
     refine summW Tryz.func125 rfl rfl 17 rfl (by simp) (fun M0 => ?_)
     repeat (first
 | (apply s_a TY; exact rfl)
 | (apply s_t; exact rfl; assumption)
 | (apply s_f; exact rfl; assumption)
 | apply w_seq
 | apply w_region
 | apply s_nil
 | apply t_norm
 | apply w_ret)
     exact lv_ret (ret1 rfl (res_tmp rfl))
 · rw [decide_eq_false h1]
   refine summW Tryz.func125 rfl rfl 17 rfl (by simp) (fun M0 => ?_)
   repeat (first
 | (apply s_a TY; exact rfl)
 | (apply s_f; exact rfl; assumption)
 | apply w_seq
 | apply w_region
 | apply s_nil
 | apply t_norm
 | apply w_ret
 | (apply s_s; exact rfl))
   exact lv_ret (ret1 rfl (res_tmp rfl))
theorem chk11_s (w r : Rng) : Summ Tryz.prog GG 124 [.agg (rngF r), .pt (rngF w) 0] (bv (!insideB w r)) := by
 have H := holds_s w r
 cases h : insideB w r with
 | true =>
   rw [h] at H
   refine summW Tryz.func124 rfl rfl 8 rfl (by simp) (fun M0 => ?_)
   repeat (first
 | (apply s_a TY; exact rfl)
 | apply w_seq
 | apply w_region
 | apply s_nil
 | apply t_norm
 | apply w_ret
 | (apply s_k (H); exact rfl))
   exact lv_ret (ret1 rfl (res_tmp rfl))
 | false =>
   rw [h] at H
   refine summW Tryz.func124 rfl rfl 8 rfl (by simp) (fun M0 => ?_)
   repeat (first
 | (apply s_a TY; exact rfl)
 | apply w_seq
 | apply w_region
 | apply s_nil
 | apply t_norm
 | apply w_ret
 | (apply s_k (H); exact rfl))
   exact lv_ret (ret1 rfl (res_tmp rfl))
theorem chk21_s (v : Ev) (r : Rng) : Summ Tryz.prog GG 129 [.agg (evF v), .pt (rngF r) 0] (bv (insideB (evW v) r)) := by
 have H := holds_s (evW v) r
 refine summW Tryz.func129 rfl rfl 8 rfl (by simp) (fun M0 => ?_)
 repeat (first
 | (apply s_a TY; exact rfl)
 | apply w_seq
 | apply w_region
 | apply s_nil
 | apply t_norm
 | apply w_ret
 | (apply s_k (H); exact rfl))
 exact lv_ret (ret1 rfl (res_tmp rfl))
theorem chk2_s (h : List Hit) (c : List Ev) (r : Rng) (hc : c.length <= 1000000) : Summ Tryz.prog GG 127 [.agg (rngF r), .pt [.sl h.length (hitsF h), .sl c.length (evsF c)] 0] (bv (!readB c r)) := by
 have H := idxdelEC_s c 129 [.pt (rngF r) 0] (fun k => insideB (evW (c.getD k default)) r) hc (fun i hi => by rw [getD_at hi]; exact chk21_s c[i] r)
 rw [show anyP c.length (fun k => insideB (evW (c.getD k default)) r) = readB c r from rfl] at H
 cases hq : readB c r with
 | true =>
   rw [hq] at H
   refine summW Tryz.func127 rfl rfl 9 rfl (by simp) (fun M0 => ?_)
   repeat (first
 | (apply s_a TY; exact rfl)
 | (apply s_makefn; exact rfl; exact rfl)
 | apply w_seq
 | apply w_region
 | apply s_nil
 | apply t_norm
 | apply w_ret
 | (apply s_k (H); exact rfl))
   exact lv_ret (ret1 rfl (res_tmp rfl))
 | false =>
   rw [hq] at H
   refine summW Tryz.func127 rfl rfl 9 rfl (by simp) (fun M0 => ?_)
   repeat (first
 | (apply s_a TY; exact rfl)
 | (apply s_makefn; exact rfl; exact rfl)
 | apply w_seq
 | apply w_region
 | apply s_nil
 | apply t_norm
 | apply w_ret
 | (apply s_k (H); exact rfl))
   exact lv_ret (ret1 rfl (res_tmp rfl))
set_option maxRecDepth 100000 in
theorem equalI_s (a b : List Int) (ha : a.length <= 1000000) (hb : b.length <= 1000000) : Summ Tryz.prog GG 119 [.sl a.length (intsF a), .sl b.length (intsF b)] (bv (decide (a = b))) := by
 by_cases hl : a.length = b.length
 · refine summW Tryz.func119 rfl rfl 26 rfl (by simp) (fun M0 => ?_)
   repeat (first
 | (apply s_a TY; exact rfl)
 | (apply s_t; exact rfl; omega)
 | apply w_seq
 | apply w_region
 | apply s_nil
 | apply t_norm
 | apply w_block
 | apply w_skip
 | (apply w_condF; exact rfl; exact rfl))
   apply w_loop (fun k : Nat => ⟨(Ab.upd (Ab.upd (Ab.upd (Ab.upd (fun _ => .bot) 0 (.f (.sl a.length (intsF a)))) 1 (.f (.sl b.length (intsF b)))) 12 (.f (iv a.length))) 13 (.f (iv ((k : Nat) : Int)))), (fun _ => none), 0⟩) (fun k => k <= a.length /\ a.take k = b.take k) (fun k => a.length - k) 0 (⟨Nat.zero_le _, rfl⟩) (gh_le ⟨le_upd rfl trivial (le_upd rfl trivial (le_upd rfl trivial (le_upd rfl trivial (le_nil _)))), le_h0 _ _⟩)
   intro k ⟨hk, ht⟩
   by_cases hc : k < a.length
   · have hcb : k < b.length := by omega
     by_cases he : a[k] = b[k]
     · repeat (first
 | (apply s_a TY; exact rfl)
 | (apply s_t; exact rfl; (first | assumption | omega))
 | apply w_seq
 | apply w_region
 | (apply w_draw (id := 6) 8 rfl (by kernel_rfl))
 | apply s_nil
 | apply t_norm
 | apply k_norm
 | apply w_block
 | apply w_skip
 | (apply w_condT; exact rfl; exact rfl)
 | (apply w_condF; exact rfl; exact rfl)
 | (apply s_c TY; exact rfl; (first | omega | exact ⟨by omega, by (((with_reducible apply intsF_ne); omega))⟩))
 | (apply s_l TY; exact rfl; (((with_reducible apply intsF_at); omega))))
       exact ⟨k + 1, ⟨by omega, take_eq_succ hc hcb ht he⟩, by omega, gh_le ⟨le_upd rfl trivial (le_upd rfl trivial (le_upd rfl trivial (le_upd rfl trivial (le_nil _)))), le_h0 _ _⟩⟩
     · rw [decide_eq_false (fun e : a = b => he (by subst e; rfl))]
       repeat (first
 | (apply s_a TY; exact rfl)
 | (apply s_t; exact rfl; omega)
 | (apply s_f; exact rfl; assumption)
 | apply w_seq
 | apply w_region
 | (apply w_draw (id := 6) 8 rfl (by kernel_rfl))
 | apply s_nil
 | apply t_norm
 | apply t_ret
 | apply k_ret
 | apply w_block
 | apply w_ret
 | apply w_skip
 | (apply w_condT; exact rfl; exact rfl)
 | (apply s_c TY; exact rfl; (exact ⟨by omega, by (((with_reducible apply intsF_ne); omega))⟩))
 | (apply s_l TY; exact rfl; (((with_reducible apply intsF_at); omega))))
       exact lv_ret (ret1 rfl (res_tmp rfl))
   · rw [decide_eq_true (take_all_eq hl (by omega) ht)]
     repeat (first
 | (apply s_a TY; exact rfl)
 | (apply s_f; exact rfl; omega)
 | apply w_seq
 | apply w_region
 | apply s_nil
 | apply t_norm
 | apply t_exit
 | apply k_hit
 | apply w_exit
 | apply w_ret
 | (apply w_condF; exact rfl; exact rfl))
     exact lv_ret (ret1 rfl (res_tmp rfl))
 · rw [decide_eq_false (fun e : a = b => hl (by rw [e]))]
   refine summW Tryz.func119 rfl rfl 26 rfl (by simp) (fun M0 => ?_)
   repeat (first
 | (apply s_a TY; exact rfl)
 | (apply s_f; exact rfl; omega)
 | apply w_seq
 | apply w_region
 | apply s_nil
 | apply t_norm
 | apply t_ret
 | apply w_ret
 | (apply w_condT; exact rfl; exact rfl))
   exact lv_ret (ret1 rfl (res_tmp rfl))
def encQ (r : Rng) : List Value := [.int .i64 r.lo, .int .i64 r.hi]
theorem encQ_len : ∀ x, (encQ x).length = 2 := fun _ => rfl
theorem encQ_one (l : List Rng) : ∀ u ∈ l.flatMap encQ, u.oneCell' = true := by
 intro u hu
 obtain ⟨z, _, h⟩ := List.mem_flatMap.1 hu
 simp [encQ] at h
 rcases h with rfl | rfl <;> rfl
theorem infoQ : (Tryz.prog.info? 34).map (fun i => (i.zero, i.size, i.bytes)) = some (some (.agg #[.int .i64 0, .int .i64 0]), 2, 16) := by kernel_rfl
theorem detC_rngs (l : List Rng) : detC (rngsF l) = some (l.flatMap encQ) := detC_flat (f := rngF) (e := encQ) (fun _ => rfl) l
set_option maxRecDepth 100000 in
set_option maxHeartbeats 1000000 in
theorem cloneQ (a : Option Addr) (l : List Rng) (c : Nat) (w : World) (hr : RowS encQ w a l) (hl : l.length <= 1000000) :
 Calls Tryz.prog 123 #[.slice a l.length c] w fun e w' => ∃ a' c', e = .returned (.slice a' l.length c') /\ w'.ownsRow w.heap.size 34 2 (.slice a' l.length c') l.length (l.flatMap encQ) /\ Ext w w' := by
 obtain ⟨i0, hi, hz0, hz1, hz2⟩ := info_parts infoQ
 have HI := Lib.hid hi
 have HZ0 := Lib.hid hz0
 have HZ1 := Lib.hid hz1
 have HZ2 := Lib.hid hz2
 clear hi hz0 hz1 hz2
 have HR := Lib.hid hr
 clear hr
 have hnil := fun (w : World) (a : Option Addr) (n c : Nat) => Lib.run_eql_slice_nil (P := Tryz.prog) w 70 34 a n c 0 0 Tryz.underlying70
 cases ha : a with
 | none =>
   subst ha
   have hl : l = [] := Classical.byContradiction fun hne => by
    cases l with
    | nil => exact hne rfl
    | cons x l =>
      obtain ⟨_, _, e, _⟩ := HR.out.at_ (by simp [List.flatMap_cons, encQ])
      cases e
   subst hl
   go_enter Tryz.func123, Tryz.ntmps123
   go_wp2_with fail
   go_ret
   exact ⟨none, 0, rfl, World.ownsRow_nil _ _ _ _, Ext.refl _⟩
 | some ad =>
   subst ha
   go_enter Tryz.func123, Tryz.ntmps123
   have hown0 := Lib.hid (World.ownsRow_lit (base := w.heap.size) (size := 2) (e := 34) w #[] 0 (Nat.le_refl _) (by decide) (by simp))
   go_wp2_with (refine wpList_append_row rfl (.tmp 5) (.tmp 6) 70 rfl w.heap.size 34 i0 (.agg #[.int .i64 0, .int .i64 0]) 2 16 Tryz.underlying70 HI.out HZ0.out HZ1.out HZ2.out rfl (by decide) _ 0 _ rfl hown0.out (some ad) l.length c (l.flatMap encQ) rfl (flatMap_length encQ_len l) (HR.out.ext (Ext.alloc _ _)) (encQ_one l) ?m1 ?m2 ?m3 ?_)
   case m1 => unfold maxLen; omega
   case m2 => omega
   intro v' w1 hown hgrow
   have hx := Lib.hid ((Ext.alloc w _).grown hgrow (fun k e => by simp [Value.ownBlock] at e; omega))
   obtain ⟨a', c', rfl⟩ := hown.isSlice
   have HO := Lib.hid hown
   clear hown hgrow hown0
   go_wp2_with fail
   go_ret
   exact ⟨a', c', rfl, HO.out, hx.out⟩
theorem cloneQ_n (l : List Rng) (hl : l.length <= 1000000) : SummN Tryz.prog GG 123 [.sl l.length (rngsF l)] 34 2 l.length (rngsF l) := by
 refine ⟨enters_of Tryz.func123 (by kernel_rfl) rfl, fun w M us hM hG R => ?_⟩
 obtain ⟨u1, us1, rfl, r1, R1⟩ := R.head
 have := R1.end; subst this
 obtain ⟨a, c, rfl, _, rr⟩ := rep_row r1 (detC_rngs l)
 exact (cloneQ a l c w rr hl).mono fun e w' ⟨a', c', h1, h2, h3⟩ => ⟨_, _, h1, h2, encQ_one l, repL_det (detC_rngs l), h3⟩
theorem own_q (S : List Rng) (w : Rng) : S.filter (fun x => !(!insideB w x)) = ownV S w := by
 unfold ownV; congr 1; funext x; rw [Bool.not_not]
set_option maxRecDepth 100000 in
set_option maxHeartbeats 6400000 in
theorem chk1_s (S : List Rng) (h : List Hit) (c : List Ev) (i : Nat) (hi : i < c.length) (hS3 : S.length <= 1000) (hh6 : h.length <= 1000000) (hc6 : c.length <= 1000000) (hv6 : c[i].hits.length <= 1000000) (hlo : LoOk S) (hhi : HiOk S) (hb : ∀ k (hk : k < c.length), InW c[k].lo /\ InW c[k].hi) : Summ Tryz.prog GG 118 [iv i, .agg (evF c[i]), .pt [.sl h.length (hitsF h), .sl c.length (evsF c)] 0, .pt [.sl S.length (rngsF S)] 0] (iv (clmE S h c i)) := by
 have hS6 : S.length <= 1000000 := by omega
 have hg := getD_at hi
 have HI := hitsIn_s h (evW c[i]) hh6
 have HE := equalI_s c[i].hits (hitsInV h (evW c[i])) hv6 (Nat.le_trans (hitsInN_len h (evW c[i]) h.length) hh6)
 have HJ := joined_s (ownV S (evW c[i])) (fun r hr => hlo r (own_sub r hr)) (fun r hr => hhi r (own_sub r hr)) (by
  have : (ownV S (evW c[i])).length <= S.length := List.length_filter_le _ _
  omega)
 have hbi := hb i hi
 unfold InW at hbi
 by_cases h1 : c[i].lo <= c[i].hi
 · by_cases h0 : i = 0
   · subst h0
     have hord : ordE c 0 := ⟨by rw [hg]; exact h1, .inl rfl⟩
     by_cases he : c[0].hits = hitsInV h (evW c[0])
     · rw [decide_eq_true he] at HE
       have HD := delR_g S 124 [.pt (rngF (evW c[0])) 0] (fun r => !insideB (evW c[0]) r) hS6 (fun k hk => chk11_s (evW c[0]) S[k])
       rw [own_q] at HD
       have HCl := cloneQ_n S hS6
       by_cases hj : (joinedV (ownV S (evW c[0]))) = [(evW c[0])]
       · rw [hj] at HJ
         have hl1 : ((([(evW c[0])] : List Rng).length : Nat) : Int) = 1 := rfl
         have hne1 : rngsF [(evW c[0])] ≠ [] := by simp [rngsF, rngF]
         rw [show clmE S h c 0 = 0 by rw [clmE_ok, getD_at hi]; exact ⟨hord, he, hj⟩]
         refine summW Tryz.func118 rfl rfl 74 rfl (by simp) (fun M0 => ?_)
         repeat (first
 | (refine s_ghost (o := ⟨some 14, _, _, _, _, none⟩) rfl (gh_box 0 (cs := [iv c[0].lo, iv c[0].hi]) rfl rfl) ?_)
 | (apply s_callN HCl; (iterate 5 exact rfl))
 | (apply s_a TY; exact rfl)
 | (apply s_makefn; exact rfl; exact rfl)
 | (apply s_t; exact rfl; (first | assumption | omega))
 | (apply s_f; exact rfl; omega)
 | apply w_seq
 | apply w_region
 | (apply w_draw (id := 6) 8 rfl (by kernel_rfl))
 | apply s_nil
 | apply t_norm
 | apply w_skip
 | (apply w_condF; exact rfl; exact rfl)
 | (apply s_k (HI); exact rfl)
 | (apply s_k (HE); exact rfl)
 | (apply s_k1 (tfirst2_1 _ _); exact rfl; omega)
 | (apply s_k (tunless_T _); exact rfl)
 | (apply s_alloc TY; exact rfl; exact rfl; exact rfl)
 | (apply s_store TY; (iterate 6 exact rfl)))
         repeat (first
 | (apply s_callG [1] (HD); exact rfl; exact rfl; exact rfl; exact ⟨rfl, trivial⟩; exact rfl; (exact ⟨rfl, rfl⟩)))
         refine s_ghost rfl (gh_row 1 rfl) ?_
         repeat (first
 | (apply s_m TY; exact rfl; exact rfl; exact rfl)
 | (apply s_bind; (iterate 6 exact rfl); exact eq_rng (a := (evW c[0])) (b := (evW c[0])) (c := true) (decide_eq_true rfl))
 | (apply s_a TY; exact rfl)
 | (apply s_t; exact rfl; assumption)
 | apply w_seq
 | (apply w_draw (id := 10) 8 rfl (by kernel_rfl))
 | apply s_nil
 | apply t_norm
 | apply w_ret
 | (apply s_k (HJ); exact rfl)
 | (apply s_k (tunless_T _); exact rfl)
 | (apply s_z TY; exact rfl; (exact ⟨by omega, by (with_reducible assumption)⟩)))
         exact lv_ret (ret1 rfl (res_tmp rfl))
       · rw [show clmE S h c 0 = 19 by unfold clmE; rw [getD_at hi, if_neg (by simpa using hord), if_neg (by simpa using he), if_pos hj]]
         rcases hjl : (joinedV (ownV S (evW c[0]))) with _ | ⟨x, _ | ⟨y, t⟩⟩
         · rw [hjl] at HJ
           have hl1 : ((([] : List Rng).length : Nat) : Int) = 0 := rfl
           refine summW Tryz.func118 rfl rfl 74 rfl (by simp) (fun M0 => ?_)
           repeat (first
 | (refine s_ghost (o := ⟨some 14, _, _, _, _, none⟩) rfl (gh_box 0 (cs := [iv c[0].lo, iv c[0].hi]) rfl rfl) ?_)
 | (apply s_callN HCl; (iterate 5 exact rfl))
 | (apply s_a TY; exact rfl)
 | (apply s_makefn; exact rfl; exact rfl)
 | (apply s_t; exact rfl; assumption)
 | (apply s_f; exact rfl; omega)
 | apply w_seq
 | apply w_region
 | (apply w_draw (id := 6) 8 rfl (by kernel_rfl))
 | apply s_nil
 | apply t_norm
 | apply w_skip
 | (apply w_condF; exact rfl; exact rfl)
 | (apply s_k (HI); exact rfl)
 | (apply s_k (HE); exact rfl)
 | (apply s_k1 (tfirst2_1 _ _); exact rfl; assumption)
 | (apply s_k (tunless_T _); exact rfl)
 | (apply s_alloc TY; exact rfl; exact rfl; exact rfl)
 | (apply s_store TY; (iterate 6 exact rfl)))
           repeat (first
 | (apply s_callG [1] (HD); exact rfl; exact rfl; exact rfl; exact ⟨rfl, trivial⟩; exact rfl; (exact ⟨rfl, rfl⟩)))
           refine s_ghost rfl (gh_row 1 rfl) ?_
           repeat (first
 | (apply s_a TY; exact rfl)
 | (apply s_f; exact rfl; omega)
 | apply w_seq
 | (apply w_draw (id := 10) 8 rfl (by kernel_rfl))
 | apply s_nil
 | apply t_norm
 | apply w_ret
 | (apply s_k (HJ); exact rfl)
 | (apply s_k (tunless_F _); exact rfl)
 | (apply s_s; exact rfl))
           exact lv_ret (ret1 rfl (res_tmp rfl))
         · rw [hjl] at HJ
           have hl1 : ((([x] : List Rng).length : Nat) : Int) = 1 := rfl
           have hne1 : rngsF [x] ≠ [] := by simp [rngsF, rngF]
           have hxw : ¬ x = (evW c[0]) := fun e => hj (by rw [hjl, e])
           refine summW Tryz.func118 rfl rfl 74 rfl (by simp) (fun M0 => ?_)
           repeat (first
 | (refine s_ghost (o := ⟨some 14, _, _, _, _, none⟩) rfl (gh_box 0 (cs := [iv c[0].lo, iv c[0].hi]) rfl rfl) ?_)
 | (apply s_callN HCl; (iterate 5 exact rfl))
 | (apply s_a TY; exact rfl)
 | (apply s_makefn; exact rfl; exact rfl)
 | (apply s_t; exact rfl; (first | assumption | omega))
 | (apply s_f; exact rfl; omega)
 | apply w_seq
 | apply w_region
 | (apply w_draw (id := 6) 8 rfl (by kernel_rfl))
 | apply s_nil
 | apply t_norm
 | apply w_skip
 | (apply w_condF; exact rfl; exact rfl)
 | (apply s_k (HI); exact rfl)
 | (apply s_k (HE); exact rfl)
 | (apply s_k1 (tfirst2_1 _ _); exact rfl; omega)
 | (apply s_k (tunless_T _); exact rfl)
 | (apply s_alloc TY; exact rfl; exact rfl; exact rfl)
 | (apply s_store TY; (iterate 6 exact rfl)))
           repeat (first
 | (apply s_callG [1] (HD); exact rfl; exact rfl; exact rfl; exact ⟨rfl, trivial⟩; exact rfl; (exact ⟨rfl, rfl⟩)))
           refine s_ghost rfl (gh_row 1 rfl) ?_
           repeat (first
 | (apply s_m TY; exact rfl; exact rfl; exact rfl)
 | (apply s_bind; (iterate 6 exact rfl); exact eq_rng (a := x) (b := (evW c[0])) (c := false) (decide_eq_false hxw))
 | (apply s_a TY; exact rfl)
 | (apply s_t; exact rfl; assumption)
 | apply w_seq
 | (apply w_draw (id := 10) 8 rfl (by kernel_rfl))
 | apply s_nil
 | apply t_norm
 | apply w_ret
 | (apply s_k (HJ); exact rfl)
 | (apply s_k (tunless_F _); exact rfl)
 | (apply s_z TY; exact rfl; (exact ⟨by omega, by (with_reducible assumption)⟩)))
           exact lv_ret (ret1 rfl (res_tmp rfl))
         · rw [hjl] at HJ
           have hl2 : ¬ (((x :: y :: t).length : Nat) : Int) = 1 := by simp; omega
           refine summW Tryz.func118 rfl rfl 74 rfl (by simp) (fun M0 => ?_)
           repeat (first
 | (refine s_ghost (o := ⟨some 14, _, _, _, _, none⟩) rfl (gh_box 0 (cs := [iv c[0].lo, iv c[0].hi]) rfl rfl) ?_)
 | (apply s_callN HCl; (iterate 5 exact rfl))
 | (apply s_a TY; exact rfl)
 | (apply s_makefn; exact rfl; exact rfl)
 | (apply s_t; exact rfl; (first | assumption | omega))
 | (apply s_f; exact rfl; omega)
 | apply w_seq
 | apply w_region
 | (apply w_draw (id := 6) 8 rfl (by kernel_rfl))
 | apply s_nil
 | apply t_norm
 | apply w_skip
 | (apply w_condF; exact rfl; exact rfl)
 | (apply s_k (HI); exact rfl)
 | (apply s_k (HE); exact rfl)
 | (apply s_k1 (tfirst2_1 _ _); exact rfl; omega)
 | (apply s_k (tunless_T _); exact rfl)
 | (apply s_alloc TY; exact rfl; exact rfl; exact rfl)
 | (apply s_store TY; (iterate 6 exact rfl)))
           repeat (first
 | (apply s_callG [1] (HD); exact rfl; exact rfl; exact rfl; exact ⟨rfl, trivial⟩; exact rfl; (exact ⟨rfl, rfl⟩)))
           refine s_ghost rfl (gh_row 1 rfl) ?_
           repeat (first
 | (apply s_a TY; exact rfl)
 | (apply s_f; exact rfl; assumption)
 | apply w_seq
 | (apply w_draw (id := 10) 8 rfl (by kernel_rfl))
 | apply s_nil
 | apply t_norm
 | apply w_ret
 | (apply s_k (HJ); exact rfl)
 | (apply s_k (tunless_F _); exact rfl)
 | (apply s_s; exact rfl))
           exact lv_ret (ret1 rfl (res_tmp rfl))
     · rw [decide_eq_false he] at HE
       rw [show clmE S h c 0 = 3 by unfold clmE; rw [getD_at hi, if_neg (by simpa using hord), if_pos he]]
       refine summW Tryz.func118 rfl rfl 74 rfl (by simp) (fun M0 => ?_)
       repeat (first
 | (refine s_ghost (o := ⟨some 14, _, _, _, _, none⟩) rfl (gh_box 0 (cs := [iv c[0].lo, iv c[0].hi]) rfl rfl) ?_)
 | (apply s_a TY; exact rfl)
 | (apply s_t; exact rfl; assumption)
 | (apply s_f; exact rfl; omega)
 | apply w_seq
 | apply w_region
 | (apply w_draw (id := 6) 8 rfl (by kernel_rfl))
 | apply s_nil
 | apply t_norm
 | apply t_ret
 | apply w_ret
 | apply w_skip
 | (apply w_condT; exact rfl; exact rfl)
 | (apply w_condF; exact rfl; exact rfl)
 | (apply s_k (HI); exact rfl)
 | (apply s_k (HE); exact rfl)
 | (apply s_k1 (tfirst2_1 _ _); exact rfl; omega)
 | (apply s_k (tunless_T _); exact rfl)
 | (apply s_k (tunless_F _); exact rfl)
 | (apply s_alloc TY; exact rfl; exact rfl; exact rfl)
 | (apply s_store TY; (iterate 6 exact rfl)))
       exact lv_ret (ret1 rfl (res_tmp rfl))
   · have hq : ((i : Int) - 1).toNat = i - 1 := by omega
     have hbq := hb ((i : Int) - 1).toNat (by omega)
     unfold InW at hbq
     have hgp : (c.getD (i - 1) default).hi = (c[((i : Int) - 1).toNat]'(by omega)).hi := by
      rw [getD_at (show i - 1 < c.length by omega)]; simp only [hq]
     by_cases h2 : (c[((i : Int) - 1).toNat]'(by omega)).hi < c[i].lo
     · by_cases h3 : (c[((i : Int) - 1).toNat]'(by omega)).hi < c[i].lo - 1
       · have hord : ordE c i := ⟨by rw [hg]; exact h1, .inr (by rw [hg, hgp]; omega)⟩
         by_cases he : c[i].hits = hitsInV h (evW c[i])
         · rw [decide_eq_true he] at HE
           have HD := delR_g S 124 [.pt (rngF (evW c[i])) 0] (fun r => !insideB (evW c[i]) r) hS6 (fun k hk => chk11_s (evW c[i]) S[k])
           rw [own_q] at HD
           have HCl := cloneQ_n S hS6
           by_cases hj : (joinedV (ownV S (evW c[i]))) = [(evW c[i])]
           · rw [hj] at HJ
             have hl1 : ((([(evW c[i])] : List Rng).length : Nat) : Int) = 1 := rfl
             have hne1 : rngsF [(evW c[i])] ≠ [] := by simp [rngsF, rngF]
             rw [show clmE S h c i = 0 by rw [clmE_ok, getD_at hi]; exact ⟨hord, he, hj⟩]
             refine summW Tryz.func118 rfl rfl 74 rfl (by simp) (fun M0 => ?_)
             repeat (first
 | (refine s_ghost (o := ⟨some 14, _, _, _, _, none⟩) rfl (gh_box 0 (cs := [iv c[i].lo, iv c[i].hi]) rfl rfl) ?_)
 | (apply s_callN HCl; (iterate 5 exact rfl))
 | (apply s_a TY; exact rfl)
 | (apply s_makefn; exact rfl; exact rfl)
 | (apply s_t; exact rfl; (first | assumption | omega))
 | apply w_seq
 | apply w_region
 | (apply w_draw (id := 6) 8 rfl (by kernel_rfl))
 | apply s_nil
 | apply t_norm
 | apply w_skip
 | (apply w_condT; exact rfl; exact rfl)
 | (apply w_condF; exact rfl; exact rfl)
 | (apply s_k (HI); exact rfl)
 | (apply s_k (HE); exact rfl)
 | (apply s_k1 (tfirst2_1 _ _); exact rfl; omega)
 | (apply s_k (tunless_T _); exact rfl)
 | (apply s_c TY; exact rfl; omega)
 | (apply s_z TY; exact rfl; (exact ⟨by omega, by (((with_reducible apply evsF_ne); omega))⟩))
 | (apply s_l TY; exact rfl; (((with_reducible apply evsF_f1); omega)))
 | (apply s_alloc TY; exact rfl; exact rfl; exact rfl)
 | (apply s_store TY; (iterate 6 exact rfl)))
             repeat (first
 | (apply s_callG [1] (HD); exact rfl; exact rfl; exact rfl; exact ⟨rfl, trivial⟩; exact rfl; (exact ⟨rfl, rfl⟩)))
             refine s_ghost rfl (gh_row 1 rfl) ?_
             repeat (first
 | (apply s_m TY; exact rfl; exact rfl; exact rfl)
 | (apply s_bind; (iterate 6 exact rfl); exact eq_rng (a := (evW c[i])) (b := (evW c[i])) (c := true) (decide_eq_true rfl))
 | (apply s_a TY; exact rfl)
 | (apply s_t; exact rfl; assumption)
 | apply w_seq
 | (apply w_draw (id := 10) 8 rfl (by kernel_rfl))
 | apply s_nil
 | apply t_norm
 | apply w_ret
 | (apply s_k (HJ); exact rfl)
 | (apply s_k (tunless_T _); exact rfl)
 | (apply s_z TY; exact rfl; (exact ⟨by omega, by (with_reducible assumption)⟩)))
             exact lv_ret (ret1 rfl (res_tmp rfl))
           · rw [show clmE S h c i = 19 by unfold clmE; rw [getD_at hi, if_neg (by simpa using hord), if_neg (by simpa using he), if_pos hj]]
             rcases hjl : (joinedV (ownV S (evW c[i]))) with _ | ⟨x, _ | ⟨y, t⟩⟩
             · rw [hjl] at HJ
               have hl1 : ((([] : List Rng).length : Nat) : Int) = 0 := rfl
               refine summW Tryz.func118 rfl rfl 74 rfl (by simp) (fun M0 => ?_)
               repeat (first
 | (refine s_ghost (o := ⟨some 14, _, _, _, _, none⟩) rfl (gh_box 0 (cs := [iv c[i].lo, iv c[i].hi]) rfl rfl) ?_)
 | (apply s_callN HCl; (iterate 5 exact rfl))
 | (apply s_a TY; exact rfl)
 | (apply s_makefn; exact rfl; exact rfl)
 | (apply s_t; exact rfl; (first | assumption | omega))
 | apply w_seq
 | apply w_region
 | (apply w_draw (id := 6) 8 rfl (by kernel_rfl))
 | apply s_nil
 | apply t_norm
 | apply w_skip
 | (apply w_condT; exact rfl; exact rfl)
 | (apply w_condF; exact rfl; exact rfl)
 | (apply s_k (HI); exact rfl)
 | (apply s_k (HE); exact rfl)
 | (apply s_k1 (tfirst2_1 _ _); exact rfl; assumption)
 | (apply s_k (tunless_T _); exact rfl)
 | (apply s_c TY; exact rfl; omega)
 | (apply s_z TY; exact rfl; (exact ⟨by omega, by (((with_reducible apply evsF_ne); omega))⟩))
 | (apply s_l TY; exact rfl; (((with_reducible apply evsF_f1); omega)))
 | (apply s_alloc TY; exact rfl; exact rfl; exact rfl)
 | (apply s_store TY; (iterate 6 exact rfl)))
               repeat (first
 | (apply s_callG [1] (HD); exact rfl; exact rfl; exact rfl; exact ⟨rfl, trivial⟩; exact rfl; (exact ⟨rfl, rfl⟩)))
               refine s_ghost rfl (gh_row 1 rfl) ?_
               repeat (first
 | (apply s_a TY; exact rfl)
 | (apply s_f; exact rfl; omega)
 | apply w_seq
 | (apply w_draw (id := 10) 8 rfl (by kernel_rfl))
 | apply s_nil
 | apply t_norm
 | apply w_ret
 | (apply s_k (HJ); exact rfl)
 | (apply s_k (tunless_F _); exact rfl)
 | (apply s_s; exact rfl))
               exact lv_ret (ret1 rfl (res_tmp rfl))
             · rw [hjl] at HJ
               have hl1 : ((([x] : List Rng).length : Nat) : Int) = 1 := rfl
               have hne1 : rngsF [x] ≠ [] := by simp [rngsF, rngF]
               have hxw : ¬ x = (evW c[i]) := fun e => hj (by rw [hjl, e])
               refine summW Tryz.func118 rfl rfl 74 rfl (by simp) (fun M0 => ?_)
               repeat (first
 | (refine s_ghost (o := ⟨some 14, _, _, _, _, none⟩) rfl (gh_box 0 (cs := [iv c[i].lo, iv c[i].hi]) rfl rfl) ?_)
 | (apply s_callN HCl; (iterate 5 exact rfl))
 | (apply s_a TY; exact rfl)
 | (apply s_makefn; exact rfl; exact rfl)
 | (apply s_t; exact rfl; (first | assumption | omega))
 | apply w_seq
 | apply w_region
 | (apply w_draw (id := 6) 8 rfl (by kernel_rfl))
 | apply s_nil
 | apply t_norm
 | apply w_skip
 | (apply w_condT; exact rfl; exact rfl)
 | (apply w_condF; exact rfl; exact rfl)
 | (apply s_k (HI); exact rfl)
 | (apply s_k (HE); exact rfl)
 | (apply s_k1 (tfirst2_1 _ _); exact rfl; omega)
 | (apply s_k (tunless_T _); exact rfl)
 | (apply s_c TY; exact rfl; omega)
 | (apply s_z TY; exact rfl; (exact ⟨by omega, by (((with_reducible apply evsF_ne); omega))⟩))
 | (apply s_l TY; exact rfl; (((with_reducible apply evsF_f1); omega)))
 | (apply s_alloc TY; exact rfl; exact rfl; exact rfl)
 | (apply s_store TY; (iterate 6 exact rfl)))
               repeat (first
 | (apply s_callG [1] (HD); exact rfl; exact rfl; exact rfl; exact ⟨rfl, trivial⟩; exact rfl; (exact ⟨rfl, rfl⟩)))
               refine s_ghost rfl (gh_row 1 rfl) ?_
               repeat (first
 | (apply s_m TY; exact rfl; exact rfl; exact rfl)
 | (apply s_bind; (iterate 6 exact rfl); exact eq_rng (a := x) (b := (evW c[i])) (c := false) (decide_eq_false hxw))
 | (apply s_a TY; exact rfl)
 | (apply s_t; exact rfl; assumption)
 | apply w_seq
 | (apply w_draw (id := 10) 8 rfl (by kernel_rfl))
 | apply s_nil
 | apply t_norm
 | apply w_ret
 | (apply s_k (HJ); exact rfl)
 | (apply s_k (tunless_F _); exact rfl)
 | (apply s_z TY; exact rfl; (exact ⟨by omega, by (with_reducible assumption)⟩)))
               exact lv_ret (ret1 rfl (res_tmp rfl))
             · rw [hjl] at HJ
               have hl2 : ¬ (((x :: y :: t).length : Nat) : Int) = 1 := by simp; omega
               refine summW Tryz.func118 rfl rfl 74 rfl (by simp) (fun M0 => ?_)
               repeat (first
 | (refine s_ghost (o := ⟨some 14, _, _, _, _, none⟩) rfl (gh_box 0 (cs := [iv c[i].lo, iv c[i].hi]) rfl rfl) ?_)
 | (apply s_callN HCl; (iterate 5 exact rfl))
 | (apply s_a TY; exact rfl)
 | (apply s_makefn; exact rfl; exact rfl)
 | (apply s_t; exact rfl; (first | assumption | omega))
 | apply w_seq
 | apply w_region
 | (apply w_draw (id := 6) 8 rfl (by kernel_rfl))
 | apply s_nil
 | apply t_norm
 | apply w_skip
 | (apply w_condT; exact rfl; exact rfl)
 | (apply w_condF; exact rfl; exact rfl)
 | (apply s_k (HI); exact rfl)
 | (apply s_k (HE); exact rfl)
 | (apply s_k1 (tfirst2_1 _ _); exact rfl; omega)
 | (apply s_k (tunless_T _); exact rfl)
 | (apply s_c TY; exact rfl; omega)
 | (apply s_z TY; exact rfl; (exact ⟨by omega, by (((with_reducible apply evsF_ne); omega))⟩))
 | (apply s_l TY; exact rfl; (((with_reducible apply evsF_f1); omega)))
 | (apply s_alloc TY; exact rfl; exact rfl; exact rfl)
 | (apply s_store TY; (iterate 6 exact rfl)))
               repeat (first
 | (apply s_callG [1] (HD); exact rfl; exact rfl; exact rfl; exact ⟨rfl, trivial⟩; exact rfl; (exact ⟨rfl, rfl⟩)))
               refine s_ghost rfl (gh_row 1 rfl) ?_
               repeat (first
 | (apply s_a TY; exact rfl)
 | (apply s_f; exact rfl; assumption)
 | apply w_seq
 | (apply w_draw (id := 10) 8 rfl (by kernel_rfl))
 | apply s_nil
 | apply t_norm
 | apply w_ret
 | (apply s_k (HJ); exact rfl)
 | (apply s_k (tunless_F _); exact rfl)
 | (apply s_s; exact rfl))
               exact lv_ret (ret1 rfl (res_tmp rfl))
         · rw [decide_eq_false he] at HE
           rw [show clmE S h c i = 3 by unfold clmE; rw [getD_at hi, if_neg (by simpa using hord), if_pos he]]
           refine summW Tryz.func118 rfl rfl 74 rfl (by simp) (fun M0 => ?_)
           repeat (first
 | (refine s_ghost (o := ⟨some 14, _, _, _, _, none⟩) rfl (gh_box 0 (cs := [iv c[i].lo, iv c[i].hi]) rfl rfl) ?_)
 | (apply s_a TY; exact rfl)
 | (apply s_t; exact rfl; (first | assumption | omega))
 | (apply s_f; exact rfl; omega)
 | apply w_seq
 | apply w_region
 | (apply w_draw (id := 6) 8 rfl (by kernel_rfl))
 | apply s_nil
 | apply t_norm
 | apply t_ret
 | apply w_ret
 | (apply w_condT; exact rfl; exact rfl)
 | (apply s_k (HI); exact rfl)
 | (apply s_k (HE); exact rfl)
 | (apply s_k1 (tfirst2_1 _ _); exact rfl; omega)
 | (apply s_k (tunless_T _); exact rfl)
 | (apply s_k (tunless_F _); exact rfl)
 | (apply s_c TY; exact rfl; omega)
 | (apply s_z TY; exact rfl; (exact ⟨by omega, by (((with_reducible apply evsF_ne); omega))⟩))
 | (apply s_l TY; exact rfl; (((with_reducible apply evsF_f1); omega)))
 | (apply s_alloc TY; exact rfl; exact rfl; exact rfl)
 | (apply s_store TY; (iterate 6 exact rfl)))
           exact lv_ret (ret1 rfl (res_tmp rfl))
       · rw [show clmE S h c i = 9 by unfold clmE; rw [if_pos (show ¬ ordE c i from fun ho => by have := ho.2; rw [hg, hgp] at this; omega)]]
         refine summW Tryz.func118 rfl rfl 74 rfl (by simp) (fun M0 => ?_)
         repeat (first
 | (refine s_ghost (o := ⟨some 14, _, _, _, _, none⟩) rfl (gh_box 0 (cs := [iv c[i].lo, iv c[i].hi]) rfl rfl) ?_)
 | (apply s_a TY; exact rfl)
 | (apply s_t; exact rfl; (first | assumption | omega))
 | (apply s_f; exact rfl; (first | assumption | omega))
 | apply w_seq
 | apply w_region
 | (apply w_draw (id := 6) 8 rfl (by kernel_rfl))
 | apply s_nil
 | apply t_norm
 | apply t_ret
 | apply w_ret
 | (apply w_condT; exact rfl; exact rfl)
 | (apply s_k (HI); exact rfl)
 | (apply s_k (HE); exact rfl)
 | (apply s_k1 (tfirst2_0 _ _); exact rfl; omega)
 | (apply s_k (tunless_F _); exact rfl)
 | (apply s_k (tunless_s _ _); exact rfl)
 | (apply s_c TY; exact rfl; omega)
 | (apply s_z TY; exact rfl; (exact ⟨by omega, by (((with_reducible apply evsF_ne); omega))⟩))
 | (apply s_l TY; exact rfl; (((with_reducible apply evsF_f1); omega)))
 | (apply s_alloc TY; exact rfl; exact rfl; exact rfl)
 | (apply s_store TY; (iterate 6 exact rfl)))
         exact lv_ret (ret1 rfl (res_tmp rfl))
     · rw [show clmE S h c i = 9 by unfold clmE; rw [if_pos (show ¬ ordE c i from fun ho => by have := ho.2; rw [hg, hgp] at this; omega)]]
       refine summW Tryz.func118 rfl rfl 74 rfl (by simp) (fun M0 => ?_)
       repeat (first
 | (refine s_ghost (o := ⟨some 14, _, _, _, _, none⟩) rfl (gh_box 0 (cs := [iv c[i].lo, iv c[i].hi]) rfl rfl) ?_)
 | (apply s_a TY; exact rfl)
 | (apply s_t; exact rfl; (first | assumption | omega))
 | (apply s_f; exact rfl; (first | assumption | omega))
 | apply w_seq
 | apply w_region
 | (apply w_draw (id := 6) 8 rfl (by kernel_rfl))
 | apply s_nil
 | apply t_norm
 | apply t_ret
 | apply w_ret
 | (apply w_condT; exact rfl; exact rfl)
 | (apply s_k (HI); exact rfl)
 | (apply s_k (HE); exact rfl)
 | (apply s_k1 (tfirst2_0 _ _); exact rfl; omega)
 | (apply s_k (tunless_F _); exact rfl)
 | (apply s_k (tunless_s _ _); exact rfl)
 | (apply s_s; exact rfl)
 | (apply s_c TY; exact rfl; omega)
 | (apply s_z TY; exact rfl; (exact ⟨by omega, by (((with_reducible apply evsF_ne); omega))⟩))
 | (apply s_l TY; exact rfl; (((with_reducible apply evsF_f1); omega)))
 | (apply s_alloc TY; exact rfl; exact rfl; exact rfl)
 | (apply s_store TY; (iterate 6 exact rfl)))
       exact lv_ret (ret1 rfl (res_tmp rfl))
 · by_cases h0 : i = 0
   · subst h0
     rw [show clmE S h c 0 = 9 by unfold clmE; rw [if_pos (show ¬ ordE c 0 from fun ho => h1 (by have := ho.1; rwa [hg] at this))]]
     refine summW Tryz.func118 rfl rfl 74 rfl (by simp) (fun M0 => ?_)
     repeat (first
 | (refine s_ghost (o := ⟨some 14, _, _, _, _, none⟩) rfl (gh_box 0 (cs := [iv c[0].lo, iv c[0].hi]) rfl rfl) ?_)
 | (apply s_a TY; exact rfl)
 | (apply s_f; exact rfl; (first | assumption | omega))
 | apply w_seq
 | apply w_region
 | (apply w_draw (id := 6) 8 rfl (by kernel_rfl))
 | apply s_nil
 | apply t_norm
 | apply t_ret
 | apply w_ret
 | apply w_skip
 | (apply w_condT; exact rfl; exact rfl)
 | (apply w_condF; exact rfl; exact rfl)
 | (apply s_k (HI); exact rfl)
 | (apply s_k (HE); exact rfl)
 | (apply s_k1 (tfirst2_0 _ _); exact rfl; omega)
 | (apply s_k (tunless_F _); exact rfl)
 | (apply s_k (tunless_s _ _); exact rfl)
 | (apply s_alloc TY; exact rfl; exact rfl; exact rfl)
 | (apply s_store TY; (iterate 6 exact rfl)))
     exact lv_ret (ret1 rfl (res_tmp rfl))
   · have hq : ((i : Int) - 1).toNat = i - 1 := by omega
     rw [show clmE S h c i = 9 by unfold clmE; rw [if_pos (show ¬ ordE c i from fun ho => h1 (by have := ho.1; rwa [hg] at this))]]
     refine summW Tryz.func118 rfl rfl 74 rfl (by simp) (fun M0 => ?_)
     repeat (first
 | (refine s_ghost (o := ⟨some 14, _, _, _, _, none⟩) rfl (gh_box 0 (cs := [iv c[i].lo, iv c[i].hi]) rfl rfl) ?_)
 | (apply s_a TY; exact rfl)
 | (apply s_t; exact rfl; omega)
 | (apply s_f; exact rfl; (first | assumption | omega))
 | apply w_seq
 | apply w_region
 | (apply w_draw (id := 6) 8 rfl (by kernel_rfl))
 | apply s_nil
 | apply t_norm
 | apply t_ret
 | apply w_ret
 | (apply w_condT; exact rfl; exact rfl)
 | (apply s_k (HI); exact rfl)
 | (apply s_k (HE); exact rfl)
 | (apply s_k1 (tfirst2_0 _ _); exact rfl; omega)
 | (apply s_k (tunless_F _); exact rfl)
 | (apply s_k (tunless_s _ _); exact rfl)
 | (apply s_s; exact rfl)
 | (apply s_c TY; exact rfl; omega)
 | (apply s_z TY; exact rfl; (exact ⟨by omega, by (((with_reducible apply evsF_ne); omega))⟩))
 | (apply s_l TY; exact rfl; (((with_reducible apply evsF_f1); omega)))
 | (apply s_alloc TY; exact rfl; exact rfl; exact rfl)
 | (apply s_store TY; (iterate 6 exact rfl)))
     exact lv_ret (ret1 rfl (res_tmp rfl))
set_option maxRecDepth 100000 in
set_option maxHeartbeats 3200000 in
theorem CheckEvents_ok (l : List Site) (s : Setup) (h : List Hit) (c : List Ev) (hl : l.length <= 1000000) (hsl : s.rules.length <= 1000000) (hh : h.length <= 1000000) (hn : c.length <= 1000000) (hv : ∀ i (hi : i < c.length), c[i].hits.length <= 1000000) (hb : ∀ i (hi : i < c.length), InW c[i].lo /\ InW c[i].hi) (e : setErr l s h = 0) : Summ Tryz.prog GG 27 [arrF l, setF s, .agg [.sl h.length (hitsF h), .sl c.length (evsF c)]] (.tup [iv (clmChk l s h c).1, iv (clmChk l s h c).2]) := by
 obtain ⟨e1, e2, e3⟩ := setErr_parts e
 have hl0 := arrOk_of e1
 have hs := setOk_of e2
 have ho := hitsOk_of hl0 e3
 have HO := openSetup_ok l s h hl hsl hh e
 by_cases h40 : 40 < c.length
 · rw [show clmChk l s h c = (0, 8) by unfold clmChk; rw [if_pos h40]]
   refine summW Tryz.func27 rfl rfl 53 rfl (by simp) (fun M0 => ?_)
   repeat (first
 | (apply s_a TY; exact rfl)
 | (apply s_f; exact rfl; omega)
 | apply w_seq
 | apply w_region
 | apply s_nil
 | apply t_norm
 | apply t_ret
 | apply w_ret
 | (apply w_condT; exact rfl; exact rfl)
 | (apply s_k (HO); exact rfl)
 | (apply s_k1 (tfirst2_1 _ _); exact rfl; omega)
 | (apply s_k (tunless_F _); exact rfl)
 | (apply s_alloc TY; exact rfl; exact rfl; exact rfl)
 | (apply s_store TY; (iterate 6 exact rfl)))
   exact lv_ret (ret2 rfl (res_tmp rfl) (res_tmp rfl))
 · have h160 := single_len hs ho (l := l)
   have HS := single_s l s h hs hl0 ho
   have HE := eachEv_s c 118 [.pt [.sl h.length (hitsF h), .sl c.length (evsF c)] 0, .pt [.sl (singleV l s h).length (rngsF (singleV l s h))] 0] (clmE (singleV l s h) h c) hn (fun i hi => chk1_s (singleV l s h) h c i hi (by omega) hh hn (hv i hi) (single_lo hs ho) (single_hi hs ho) hb)
   by_cases he : (eachE c.length (clmE (singleV l s h) h c)).2 = 0
   · have hef := eachE_fst he
     have HL := idxdelRC_s (singleV l s h) 127 [.pt [.sl h.length (hitsF h), .sl c.length (evsF c)] 0] (fun k => !readB c ((singleV l s h).getD k default)) (by omega) (fun i hi => by rw [getD_at hi]; exact chk2_s h c (singleV l s h)[i] hn)
     rw [show anyP (singleV l s h).length (fun k => !readB c ((singleV l s h).getD k default)) = lostB (singleV l s h) c from rfl] at HL
     rw [hef] at HE
     cases hlo : lostB (singleV l s h) c with
     | true =>
       rw [hlo] at HL
       rw [show clmChk l s h c = (0, 14) by unfold clmChk; rw [if_neg h40, if_neg (by simpa using he), if_pos hlo]]
       refine summW Tryz.func27 rfl rfl 53 rfl (by simp) (fun M0 => ?_)
       repeat (first
 | (refine s_ghost (o := ⟨some 37, _, _, _, _, none⟩) rfl (gh_box 1 (cs := [.sl (singleV l s h).length (rngsF (singleV l s h))]) rfl rfl) ?_)
 | (apply s_a TY; exact rfl)
 | (apply s_makefn; exact rfl; exact rfl)
 | (apply s_t; exact rfl; omega)
 | apply w_seq
 | apply w_region
 | apply s_nil
 | apply t_norm
 | apply w_ret
 | apply w_skip
 | (apply w_condF; exact rfl; exact rfl)
 | (apply s_k (HO); exact rfl)
 | (apply s_k (HS); exact rfl)
 | (apply s_k (HE); exact rfl)
 | (apply s_k (HL); exact rfl)
 | (apply s_k1 (tfirst2_1 _ _); exact rfl; omega)
 | (apply s_k (tunless_T _); exact rfl)
 | (apply s_k (tunless_F _); exact rfl)
 | (apply s_alloc TY; exact rfl; exact rfl; exact rfl)
 | (apply s_store TY; (iterate 6 exact rfl)))
       exact lv_ret (ret2 rfl (res_tmp rfl) (res_tmp rfl))
     | false =>
       rw [hlo] at HL
       rw [show clmChk l s h c = (0, 0) by unfold clmChk; rw [if_neg h40, if_neg (by simpa using he), if_neg (by rw [hlo]; decide)]]
       refine summW Tryz.func27 rfl rfl 53 rfl (by simp) (fun M0 => ?_)
       repeat (first
 | (refine s_ghost (o := ⟨some 37, _, _, _, _, none⟩) rfl (gh_box 1 (cs := [.sl (singleV l s h).length (rngsF (singleV l s h))]) rfl rfl) ?_)
 | (apply s_a TY; exact rfl)
 | (apply s_makefn; exact rfl; exact rfl)
 | (apply s_t; exact rfl; omega)
 | apply w_seq
 | apply w_region
 | apply s_nil
 | apply t_norm
 | apply w_ret
 | apply w_skip
 | (apply w_condF; exact rfl; exact rfl)
 | (apply s_k (HO); exact rfl)
 | (apply s_k (HS); exact rfl)
 | (apply s_k (HE); exact rfl)
 | (apply s_k (HL); exact rfl)
 | (apply s_k1 (tfirst2_1 _ _); exact rfl; omega)
 | (apply s_k (tunless_T _); exact rfl)
 | (apply s_alloc TY; exact rfl; exact rfl; exact rfl)
 | (apply s_store TY; (iterate 6 exact rfl)))
       exact lv_ret (ret2 rfl (res_tmp rfl) (res_tmp rfl))
   · rw [show clmChk l s h c = (eachE c.length (clmE (singleV l s h) h c)) by unfold clmChk; rw [if_neg h40, if_pos he]]
     refine summW Tryz.func27 rfl rfl 53 rfl (by simp) (fun M0 => ?_)
     repeat (first
 | (refine s_ghost (o := ⟨some 37, _, _, _, _, none⟩) rfl (gh_box 1 (cs := [.sl (singleV l s h).length (rngsF (singleV l s h))]) rfl rfl) ?_)
 | (apply s_a TY; exact rfl)
 | (apply s_makefn; exact rfl; exact rfl)
 | (apply s_t; exact rfl; omega)
 | (apply s_f; exact rfl; assumption)
 | apply w_seq
 | apply w_region
 | apply s_nil
 | apply t_norm
 | apply t_ret
 | apply w_ret
 | apply w_skip
 | (apply w_condT; exact rfl; exact rfl)
 | (apply w_condF; exact rfl; exact rfl)
 | (apply s_k (HO); exact rfl)
 | (apply s_k (HS); exact rfl)
 | (apply s_k (HE); exact rfl)
 | (apply s_k1 (tfirst2_1 _ _); exact rfl; omega)
 | (apply s_k (tunless_T _); exact rfl)
 | (apply s_alloc TY; exact rfl; exact rfl; exact rfl)
 | (apply s_store TY; (iterate 6 exact rfl)))
     exact lv_ret (ret2 rfl (res_tmp rfl) (res_tmp rfl))
theorem evs_sub2 {c : List Ev} {k : Nat} (hk : k < c.length) : ((evsF c).drop (k * 3 + 0)).take 2 = rngF (evW c[k]) := by
 have := congrArg (List.take 2) (evsF_sub hk)
 rw [List.take_take] at this
 exact this
theorem row_tkE {L : List Ev} {k : Nat} (h : k < L.length) : some (Blk.row 72 3 ((L.take k).length + 1) (evsF (L.take k) ++ [iv L[k].lo, iv L[k].hi, .sl L[k].hits.length (intsF L[k].hits)])) = some (Blk.row 72 3 (L.take (k + 1)).length (evsF (L.take (k + 1)))) := by
 rw [evsF_tk h, List.take_succ_eq_append_getElem h, List.length_append]; rfl
set_option maxRecDepth 100000 in
set_option maxHeartbeats 1600000 in
theorem tCopyEvents_s (c : List Ev) (hn : c.length <= 1000000) (hv : ∀ i (hi : i < c.length), c[i].hits.length <= 1000000) : Summ Tryz.prog GG 28 [.sl c.length (evsF c)] (.sl c.length (evsF c)) := by
 refine summW Tryz.func28 rfl rfl 27 rfl (by simp) (fun M0 => ?_)
 repeat (first
 | (apply s_a TY; exact rfl)
 | apply w_seq
 | apply w_region
 | apply s_nil
 | apply t_norm
 | apply w_block)
 apply w_gh (gh_own 3 72 3 rfl rfl)
 apply w_loop (fun k : Nat => ⟨(Ab.upd (Ab.upd (Ab.upd (fun _ => .bot) 0 (.f (.sl c.length (evsF c)))) 3 (.ow 0)) 4 (.f (iv ((k : Nat) : Int)))), (Ab.upd (fun _ => none) 0 (some (.row 72 3 (c.take k).length (evsF (c.take k))))), 1⟩) (fun k => k <= c.length) (fun k => c.length - k) 0 (Nat.zero_le _) (gh_le ⟨le_upd rfl trivial (le_upd rfl rfl (le_upd rfl trivial (le_nil _))), le_hupd rfl trivial (le_h0 _ _)⟩)
 intro k hk
 have hlk : (c.take k).length = k := by rw [List.length_take]; omega
 by_cases hc : k < c.length
 · have HC := CopyInts_s c[k].hits (hv k hc)
   have hs2 := evs_sub2 hc
   repeat (first
 | (apply s_a TY; exact rfl)
 | (apply s_t; exact rfl; omega)
 | apply w_seq
 | apply w_region
 | (apply w_draw (id := 5) 14 rfl (by kernel_rfl))
 | apply s_nil
 | apply t_norm
 | apply k_norm
 | apply w_block
 | apply w_skip
 | (apply w_condT; exact rfl; exact rfl)
 | (apply s_k (HC); exact rfl)
 | (apply s_c TY; exact rfl; (first | omega | exact ⟨by omega, by (((with_reducible apply evsF_ne); omega))⟩))
 | (apply s_l TY; exact rfl; (((with_reducible apply evsF_f2); omega)))
 | (apply s_m TY; exact rfl; (with_reducible assumption); exact rfl)
 | (apply s_append TY; (iterate 9 exact rfl); (unfold maxLen; omega); omega))
   exact ⟨k + 1, by omega, by omega, gh_le ⟨le_upd rfl trivial (le_upd rfl rfl (le_upd rfl trivial (le_nil _))), le_hupd (row_tkE hc) trivial (le_h0 _ _)⟩⟩
 · have hke : k = c.length := by omega
   subst hke
   rw [List.take_length]
   repeat (first
 | (apply s_a TY; exact rfl)
 | (apply s_f; exact rfl; omega)
 | apply w_seq
 | apply w_region
 | apply s_nil
 | apply t_norm
 | apply t_exit
 | apply k_hit
 | apply w_exit
 | apply w_ret
 | (apply w_condF; exact rfl; exact rfl))
   exact lv_ret (ret_gh (gh_row 0 rfl) (ret1 rfl (res_tmp rfl)))
open Go.Lib (itoa decDigits decFrom digitVal join atoiAll)
theorem summ_nila {P : Program} {G : Nat -> Option FV} {g : Nat} {ys : List FV} {r : FV} (S : Summ P G g (.sl 0 [] :: ys) r) : Summ P G g (.v (.slice none 0 0) :: ys) r :=
 ⟨S.enters, fun w M us hM hG R => S.call w M us hM hG ⟨R.1, fun k u x h1 h2 => by
  cases k with
  | zero => cases h2; exact rep_nilsl (R.2 0 u _ h1 rfl)
  | succ k => exact R.2 (k + 1) u x h1 h2⟩⟩
theorem I64_7 {l : List Int} {n : Nat} (hn : n <= 18) (h : ∀ z, z ∈ l -> 0 <= z /\ z.toNat < 10 ^ n) : I64 l := fun z hz => by
 have h1 := h z hz
 have h2 : 10 ^ n <= 10 ^ 18 := Nat.pow_le_pow_right (by decide) hn
 have h3 : (10 : Nat) ^ 18 = 1000000000000000000 := by decide
 omega
theorem wo_lo {l : List Site} {s : Setup} {h : List Hit} (hs : SetOk s) (oh : HitsOk l h) {i : Nat} (hi : i < (windowsV l s h).length) : -1152921504606846976 <= (windowsV l s h)[i].lo := by
 obtain ⟨_, _, j3⟩ := joined_good (single_lo hs oh) (fun r hr => (single_le hs oh hr).1)
 obtain ⟨q, hq, h1, _⟩ := j3 _ (List.getElem_mem hi)
 have := single_lo hs oh q hq
 omega
theorem few_l {l : List Site} {h : List Hit} (e : FewB l h = true) : l.length <= 32 := by
 unfold FewB at e
 rw [Bool.and_eq_true, decide_eq_true_eq] at e
 exact e.1
theorem few_r {s : Setup} (e : fewRulesB s = true) : s.rules.length <= 6 := by
 unfold fewRulesB at e
 rw [Bool.and_eq_true, decide_eq_true_eq] at e
 exact e.1
set_option maxRecDepth 100000 in
set_option maxHeartbeats 25600000 in
theorem TopTriggerWhole_s (l : List Site) (s : Setup) (h : List Hit) (wh : List Int) (m0 m1 m2 : Int) (r : Rng) (z : Int) : Summ Tryz.prog GS 3 [arrF l, setF s, .agg ([.sl h.length (hitsF h), .sl wh.length (intsF wh), iv m0, iv m1, iv m2] ++ [iv r.lo, iv r.hi, iv z])] (.v (.bool true)) := by
 obtain ⟨i3, hi3, hz3⟩ := sizeB_spec (n := 1) (TY.ok 3) rfl
 have hu3 : Tryz.prog.underlying 30 = some (.array 3 3) := by kernel_rfl
 have HA := up tshown_s
 have HFw := up (Few_s l h)
 cases hFw : FewB l h with
 | false =>
   rw [hFw] at HFw
   refine summW Tryz.func3 rfl rfl 327 rfl (by simp) (fun M0 => ?_)
   repeat (first
 | (refine s_ghost rfl (gh_box 0 (cs := [.sl h.length (hitsF h), .sl wh.length (intsF wh), iv m0, iv m1, iv m2]) rfl rfl) ?_)
 | (apply s_a TY; exact rfl)
 | apply w_seq
 | apply w_region
 | apply s_nil
 | apply t_norm
 | apply t_ret
 | apply w_ret
 | apply w_skip
 | (apply w_condT; exact rfl; exact rfl)
 | (apply w_condF; exact rfl; exact rfl)
 | (apply s_k (HA); exact rfl)
 | (apply s_k (HFw); exact rfl)
 | (apply s_s; exact rfl)
 | (apply s_alloc TY; exact rfl; exact rfl; exact rfl)
 | (apply s_store TY; (iterate 6 exact rfl)))
   exact lv_ret (ret1 rfl (res_tmp rfl))
 | true =>
 rw [hFw] at HFw
 have hl32 := few_l hFw
 by_cases h12 : h.length <= 12
 case neg =>
  refine summW Tryz.func3 rfl rfl 327 rfl (by simp) (fun M0 => ?_)
  repeat (first
 | (refine s_ghost rfl (gh_box 0 (cs := [.sl h.length (hitsF h), .sl wh.length (intsF wh), iv m0, iv m1, iv m2]) rfl rfl) ?_)
 | (apply s_a TY; exact rfl)
 | (apply s_t; exact rfl; omega)
 | apply w_seq
 | apply w_region
 | apply s_nil
 | apply t_norm
 | apply t_ret
 | apply w_ret
 | apply w_skip
 | (apply w_condT; exact rfl; exact rfl)
 | (apply w_condF; exact rfl; exact rfl)
 | (apply s_k (HA); exact rfl)
 | (apply s_k (HFw); exact rfl)
 | (apply s_s; exact rfl)
 | (apply s_alloc TY; exact rfl; exact rfl; exact rfl)
 | (apply s_store TY; (iterate 6 exact rfl)))
  exact lv_ret (ret1 rfl (res_tmp rfl))
 have HFR := up (FewRules_s s)
 cases hFR : fewRulesB s with
 | false =>
   rw [hFR] at HFR
   refine summW Tryz.func3 rfl rfl 327 rfl (by simp) (fun M0 => ?_)
   repeat (first
 | (refine s_ghost rfl (gh_box 0 (cs := [.sl h.length (hitsF h), .sl wh.length (intsF wh), iv m0, iv m1, iv m2]) rfl rfl) ?_)
 | (apply s_a TY; exact rfl)
 | (apply s_f; exact rfl; omega)
 | apply w_seq
 | apply w_region
 | apply s_nil
 | apply t_norm
 | apply t_ret
 | apply w_ret
 | apply w_skip
 | (apply w_condT; exact rfl; exact rfl)
 | (apply w_condF; exact rfl; exact rfl)
 | (apply s_k (HA); exact rfl)
 | (apply s_k (HFw); exact rfl)
 | (apply s_k (HFR); exact rfl)
 | (apply s_s; exact rfl)
 | (apply s_alloc TY; exact rfl; exact rfl; exact rfl)
 | (apply s_store TY; (iterate 6 exact rfl)))
   exact lv_ret (ret1 rfl (res_tmp rfl))
 | true =>
 rw [hFR] at HFR
 have hs6 := few_r hFR
 have HSE := up (SetErr_s l s h (by omega) (by omega) (by omega))
 by_cases he : setErr l s h = 0
 case neg =>
  refine summW Tryz.func3 rfl rfl 327 rfl (by simp) (fun M0 => ?_)
  repeat (first
 | (refine s_ghost rfl (gh_box 0 (cs := [.sl h.length (hitsF h), .sl wh.length (intsF wh), iv m0, iv m1, iv m2]) rfl rfl) ?_)
 | (apply s_a TY; exact rfl)
 | (apply s_f; exact rfl; (first | assumption | omega))
 | apply w_seq
 | apply w_region
 | apply s_nil
 | apply t_norm
 | apply t_ret
 | apply w_ret
 | apply w_skip
 | (apply w_condT; exact rfl; exact rfl)
 | (apply w_condF; exact rfl; exact rfl)
 | (apply s_k (HA); exact rfl)
 | (apply s_k (HFw); exact rfl)
 | (apply s_k (HFR); exact rfl)
 | (apply s_k (HSE); exact rfl)
 | (apply s_s; exact rfl)
 | (apply s_alloc TY; exact rfl; exact rfl; exact rfl)
 | (apply s_store TY; (iterate 6 exact rfl)))
  exact lv_ret (ret1 rfl (res_tmp rfl))
 rw [he] at HSE
 by_cases hm0 : 0 <= m0 /\ m0 <= 1000000000000
 case neg =>
  have HT0 := up (bIsTick_F m0 hm0)
  refine summW Tryz.func3 rfl rfl 327 rfl (by simp) (fun M0 => ?_)
  repeat (first
 | (refine s_ghost rfl (gh_box 0 (cs := [.sl h.length (hitsF h), .sl wh.length (intsF wh), iv m0, iv m1, iv m2]) rfl rfl) ?_)
 | (apply s_idxAw hu3 hi3 hz3; (iterate 4 exact rfl); decide; decide)
 | (apply s_a TY; exact rfl)
 | (apply s_t; exact rfl; omega)
 | (apply s_f; exact rfl; omega)
 | apply w_seq
 | apply w_region
 | apply s_nil
 | apply t_norm
 | apply t_ret
 | apply w_ret
 | apply w_skip
 | (apply w_condT; exact rfl; exact rfl)
 | (apply w_condF; exact rfl; exact rfl)
 | (apply s_k (HA); exact rfl)
 | (apply s_k (HFw); exact rfl)
 | (apply s_k (HFR); exact rfl)
 | (apply s_k (HSE); exact rfl)
 | (apply s_k (HT0); exact rfl)
 | (apply s_s; exact rfl)
 | (apply s_alloc TY; exact rfl; exact rfl; exact rfl)
 | (apply s_store TY; (iterate 6 exact rfl)))
  exact lv_ret (ret1 rfl (res_tmp rfl))
 have HT0 := up (bIsTick_T m0 hm0)
 by_cases hm1 : 0 <= m1 /\ m1 <= 1000000000000
 case neg =>
  have HT1 := up (bIsTick_F m1 hm1)
  refine summW Tryz.func3 rfl rfl 327 rfl (by simp) (fun M0 => ?_)
  repeat (first
 | (refine s_ghost rfl (gh_box 0 (cs := [.sl h.length (hitsF h), .sl wh.length (intsF wh), iv m0, iv m1, iv m2]) rfl rfl) ?_)
 | (apply s_idxAw hu3 hi3 hz3; (iterate 4 exact rfl); decide; decide)
 | (apply s_a TY; exact rfl)
 | (apply s_t; exact rfl; omega)
 | (apply s_f; exact rfl; omega)
 | apply w_seq
 | apply w_region
 | apply s_nil
 | apply t_norm
 | apply t_ret
 | apply w_ret
 | apply w_skip
 | (apply w_condT; exact rfl; exact rfl)
 | (apply w_condF; exact rfl; exact rfl)
 | (apply s_k (HA); exact rfl)
 | (apply s_k (HFw); exact rfl)
 | (apply s_k (HFR); exact rfl)
 | (apply s_k (HSE); exact rfl)
 | (apply s_k (HT0); exact rfl)
 | (apply s_k (HT1); exact rfl)
 | (apply s_s; exact rfl)
 | (apply s_alloc TY; exact rfl; exact rfl; exact rfl)
 | (apply s_store TY; (iterate 6 exact rfl)))
  exact lv_ret (ret1 rfl (res_tmp rfl))
 have HT1 := up (bIsTick_T m1 hm1)
 by_cases hm2 : 0 <= m2 /\ m2 <= 1000000000000
 case neg =>
  have HT2 := up (bIsTick_F m2 hm2)
  refine summW Tryz.func3 rfl rfl 327 rfl (by simp) (fun M0 => ?_)
  repeat (first
 | (refine s_ghost rfl (gh_box 0 (cs := [.sl h.length (hitsF h), .sl wh.length (intsF wh), iv m0, iv m1, iv m2]) rfl rfl) ?_)
 | (apply s_idxAw hu3 hi3 hz3; (iterate 4 exact rfl); decide; decide)
 | (apply s_a TY; exact rfl)
 | (apply s_t; exact rfl; omega)
 | (apply s_f; exact rfl; omega)
 | apply w_seq
 | apply w_region
 | apply s_nil
 | apply t_norm
 | apply t_ret
 | apply w_ret
 | apply w_skip
 | (apply w_condT; exact rfl; exact rfl)
 | (apply w_condF; exact rfl; exact rfl)
 | (apply s_k (HA); exact rfl)
 | (apply s_k (HFw); exact rfl)
 | (apply s_k (HFR); exact rfl)
 | (apply s_k (HSE); exact rfl)
 | (apply s_k (HT0); exact rfl)
 | (apply s_k (HT1); exact rfl)
 | (apply s_k (HT2); exact rfl)
 | (apply s_s; exact rfl)
 | (apply s_alloc TY; exact rfl; exact rfl; exact rfl)
 | (apply s_store TY; (iterate 6 exact rfl)))
  exact lv_ret (ret1 rfl (res_tmp rfl))
 have HT2 := up (bIsTick_T m2 hm2)
 have HL0 := up (summ_nila (LiveErr_s [] r))
 by_cases hl0 : lErrV [] r = 0
 case neg =>
  refine summW Tryz.func3 rfl rfl 327 rfl (by simp) (fun M0 => ?_)
  repeat (first
 | (refine s_ghost rfl (gh_box 0 (cs := [.sl h.length (hitsF h), .sl wh.length (intsF wh), iv m0, iv m1, iv m2]) rfl rfl) ?_)
 | (apply s_idxAw hu3 hi3 hz3; (iterate 4 exact rfl); decide; decide)
 | (apply s_a TY; exact rfl)
 | (apply s_t; exact rfl; omega)
 | (apply s_f; exact rfl; (first | assumption | omega))
 | apply w_seq
 | apply w_region
 | apply s_nil
 | apply t_norm
 | apply t_ret
 | apply w_ret
 | apply w_skip
 | (apply w_condT; exact rfl; exact rfl)
 | (apply w_condF; exact rfl; exact rfl)
 | (apply s_k (HA); exact rfl)
 | (apply s_k (HFw); exact rfl)
 | (apply s_k (HFR); exact rfl)
 | (apply s_k (HSE); exact rfl)
 | (apply s_k (HT0); exact rfl)
 | (apply s_k (HT1); exact rfl)
 | (apply s_k (HT2); exact rfl)
 | (apply s_k (HL0); exact rfl)
 | (apply s_alloc TY; exact rfl; exact rfl; exact rfl)
 | (apply s_store TY; (iterate 6 exact rfl)))
  exact lv_ret (ret1 rfl (res_tmp rfl))
 rw [hl0] at HL0
 obtain ⟨e1, e2, e3⟩ := setErr_parts he
 have oa := arrOk_of e1
 have os := setOk_of e2
 have oh := hitsOk_of oa e3
 have odd := os.dead
 refine summW Tryz.func3 rfl rfl 327 rfl (by simp) (fun M0 => ?_)
 repeat (first
 | (refine s_ghost rfl (gh_box 0 (cs := [.sl h.length (hitsF h), .sl wh.length (intsF wh), iv m0, iv m1, iv m2]) rfl rfl) ?_)
 | (apply s_idxAw hu3 hi3 hz3; (iterate 4 exact rfl); decide; decide)
 | (apply s_a TY; exact rfl)
 | (apply s_t; exact rfl; omega)
 | (apply s_f; exact rfl; omega)
 | apply w_seq
 | apply w_region
 | apply s_nil
 | apply t_norm
 | apply w_block
 | apply w_skip
 | (apply w_condF; exact rfl; exact rfl)
 | (apply s_k (HA); exact rfl)
 | (apply s_k (HFw); exact rfl)
 | (apply s_k (HFR); exact rfl)
 | (apply s_k (HSE); exact rfl)
 | (apply s_k (HT0); exact rfl)
 | (apply s_k (HT1); exact rfl)
 | (apply s_k (HT2); exact rfl)
 | (apply s_k (HL0); exact rfl)
 | (apply s_alloc TY; exact rfl; exact rfl; exact rfl)
 | (apply s_store TY; (iterate 6 exact rfl)))
 apply w_loop (fun i : Nat => ⟨(Ab.upd (Ab.upd (Ab.upd (Ab.upd (Ab.upd (fun _ => .bot) 3 (.f (.pt [.sl l.length (sitesF l)] 0))) 4 (.f (.pt (setL s) 0))) 5 (.f (.pt ([.sl h.length (hitsF h), .sl wh.length (intsF wh), iv m0, iv m1, iv m2] ++ [iv r.lo, iv r.hi, iv z]) 0))) 7 (.f (.pt [.sl h.length (hitsF h), .sl wh.length (intsF wh), iv m0, iv m1, iv m2] 0))) 8 (.f (iv ((i : Nat) : Int)))), (fun _ => none), 0⟩) (fun i => i <= s.rules.length) (fun i => s.rules.length - i) 0 (Nat.zero_le _) (gh_le ⟨le_upd rfl trivial (le_upd rfl trivial (le_upd rfl trivial (le_upd rfl trivial (le_upd rfl trivial (le_nil _))))), le_h0 _ _⟩)
 intro i hi
 by_cases hir : i < s.rules.length
 · have hr0 := os.rule i hir
   have hrn : rulesF s.rules ≠ [] := rulesF_ne (k := i) hir
   have h64 := I64_7 (by decide) (rule_bd hr0)
   have HFo := FormatRule_s s.rules[i] h64
   have hwl := wordsS_len h64
   have HPa := ParseRule_s (wordsS (lR s.rules[i])) (by change _ <= 22 * 5 at hwl; omega)
   rw [rulP_again hr0] at HPa
   change Summ _ _ _ _ (sv (wordsS (lR s.rules[i]))) at HFo
   generalize wordsS (lR s.rules[i]) = SR at HFo HPa
   have hd : decide (s.rules[i] = s.rules[i]) = !false := by simp
   repeat (first
 | (apply s_bind; (iterate 6 exact rfl); exact ne_rule (by assumption))
 | (apply s_a TY; exact rfl)
 | (apply s_t; exact rfl; omega)
 | apply w_seq
 | apply w_region
 | (apply w_draw (id := 10) 9 rfl (by kernel_rfl))
 | apply s_nil
 | apply t_norm
 | apply k_norm
 | apply w_block
 | apply w_skip
 | (apply w_condT; exact rfl; exact rfl)
 | (apply w_condF; exact rfl; exact rfl)
 | (apply s_k (HFo); exact rfl)
 | (apply s_k (HPa); exact rfl)
 | (apply s_c TY; exact rfl; (first | omega | exact ⟨by omega, by (with_reducible assumption)⟩))
 | (apply s_m TY; exact rfl; (((with_reducible apply rulesF_sub); omega)); exact rfl)
 | (apply s_alloc TY; exact rfl; exact rfl; exact rfl)
 | (apply s_store TY; (iterate 6 exact rfl)))
   exact ⟨i + 1, by omega, by omega, gh_le ⟨le_upd rfl trivial (le_upd rfl trivial (le_upd rfl trivial (le_upd rfl trivial (le_upd rfl trivial (le_nil _))))), le_h0 _ _⟩⟩
 repeat (first
 | (apply s_a TY; exact rfl)
 | (apply s_f; exact rfl; omega)
 | apply w_seq
 | apply w_region
 | apply s_nil
 | apply t_norm
 | apply t_exit
 | apply k_hit
 | apply w_block
 | apply w_exit
 | (apply w_condF; exact rfl; exact rfl))
 clear hi hir
 apply w_loop (fun i : Nat => ⟨(Ab.upd (Ab.upd (Ab.upd (Ab.upd (Ab.upd (fun _ => .bot) 3 (.f (.pt [.sl l.length (sitesF l)] 0))) 4 (.f (.pt (setL s) 0))) 5 (.f (.pt ([.sl h.length (hitsF h), .sl wh.length (intsF wh), iv m0, iv m1, iv m2] ++ [iv r.lo, iv r.hi, iv z]) 0))) 7 (.f (.pt [.sl h.length (hitsF h), .sl wh.length (intsF wh), iv m0, iv m1, iv m2] 0))) 11 (.f (iv ((i : Nat) : Int)))), (fun _ => none), 0⟩) (fun i => i <= h.length) (fun i => h.length - i) 0 (Nat.zero_le _) (gh_le ⟨le_upd rfl trivial (le_upd rfl trivial (le_upd rfl trivial (le_upd rfl trivial (le_upd rfl trivial (le_nil _))))), le_h0 _ _⟩)
 intro i hi
 by_cases hih : i < h.length
 · have hho := oh.hit i hih
   have hB : hitB h[i] := ⟨hho.tm, hho.line, hho.sensor⟩
   have hhn : hitsF h ≠ [] := hitsF_ne (k := i) hih
   have h64 := I64_7 (by decide) (hit_bd hB)
   have HFo := FormatHit_s h[i] h64
   have hwl := wordsS_len h64
   have HPa := ParseHit_s (wordsS (lH h[i])) (by change _ <= 22 * 3 at hwl; omega)
   rw [hitP_again hB] at HPa
   change Summ _ _ _ _ (sv (wordsS (lH h[i]))) at HFo
   generalize wordsS (lH h[i]) = SH at HFo HPa
   have hd : decide (h[i] = h[i]) = !false := by simp
   repeat (first
 | (apply s_bind; (iterate 6 exact rfl); exact ne_hit (by assumption))
 | (apply s_a TY; exact rfl)
 | (apply s_t; exact rfl; omega)
 | apply w_seq
 | apply w_region
 | (apply w_draw (id := 16) 9 rfl (by kernel_rfl))
 | apply s_nil
 | apply t_norm
 | apply k_norm
 | apply w_block
 | apply w_skip
 | (apply w_condT; exact rfl; exact rfl)
 | (apply w_condF; exact rfl; exact rfl)
 | (apply s_k (HFo); exact rfl)
 | (apply s_k (HPa); exact rfl)
 | (apply s_c TY; exact rfl; (first | omega | exact ⟨by omega, by (with_reducible assumption)⟩))
 | (apply s_m TY; exact rfl; (((with_reducible apply hitsF_sub); omega)); exact rfl)
 | (apply s_alloc TY; exact rfl; exact rfl; exact rfl)
 | (apply s_store TY; (iterate 6 exact rfl)))
   exact ⟨i + 1, by omega, by omega, gh_le ⟨le_upd rfl trivial (le_upd rfl trivial (le_upd rfl trivial (le_upd rfl trivial (le_upd rfl trivial (le_nil _))))), le_h0 _ _⟩⟩
 have hie : i = h.length := by omega
 subst hie
 clear hi hih
 have HCA := up (CopyArray_s l (by omega))
 have HCS := up (CopySetup_s s (by omega))
 have HCH := up (CopyHits_s h (by omega))
 have HDv := up (divStreams_s h wh m0 m1 m2 (h.length : Int) (by omega))
 have hdf := divS_full (wh := wh) (m0 := m0) (m1 := m1) (m2 := m2) (count := (h.length : Int)) oh (Int.le_refl _)
 have hdc := divS_chk (wh := wh) (count := (h.length : Int)) oh hm0 hm1 hm2
 have HMg := up (Merged_ok l (divS h wh m0 m1 m2 h.length) (by omega) e1 (by rw [hdc]) (by rw [hdf]; omega))
 rw [hdf] at HMg
 change Summ _ _ _ [arrF l, .sl 3 (stmsF (divS h wh m0 m1 m2 h.length))] _ at HMg
 generalize divS h wh m0 m1 m2 h.length = DV at HDv HMg
 have HEv := up (EventsOf_ok l s h (by omega) (by omega) (by omega) he)
 have wo := winOk_of os oh
 have hwl := wo.len
 have hvl := ev_len l s h
 have hva := fun k hk => ev_at (l := l) (s := s) (h := h) (k := k) hk
 have HSm := up (SameHits_s h h (by omega) (by omega))
 rw [decide_eq_true rfl] at HSm
 have hvh : ∀ i (hi : i < (eventsV l s h).length), (eventsV l s h)[i].hits.length <= 1000000 := fun i hi => by
  obtain ⟨hw, e⟩ := hva i hi
  rw [e]; have := hitsInV_len h (windowsV l s h)[i]; show (hitsInV h _).length <= _; omega
 have HCE := up (tCopyEvents_s (eventsV l s h) (by omega) hvh)
 have HCk := up (CheckEvents_ok l s h (eventsV l s h) (by omega) (by omega) (by omega) (by omega) hvh (fun i hi => by
  obtain ⟨hw, e⟩ := hva i hi
  have h1 := wo.bd i hw
  have h2 := wo.le hw
  obtain ⟨k, hk, h3, h4⟩ := wo.hit i hw
  have h5 := (oh.hit k hk).tm
  have h6 := wo_lo os oh hw
  rw [e]
  unfold InW
  show (_ <= (windowsV l s h)[i].lo /\ (windowsV l s h)[i].lo < _) /\ (_ <= (windowsV l s h)[i].hi /\ (windowsV l s h)[i].hi < _)
  omega) he)
 rw [claim_own os oh (by omega)] at HCk
 change Summ _ _ _ _ (.tup [iv 0, iv 0]) at HCk
 have htog : ∀ i (hir : i < s.rules.length), s.rules[i].kind = 0 -> Summ Tryz.prog GG 31 [.agg (ruleF s.rules[i]), .sl h.length (hitsF h), .sl (eventsV l s h).length (evsF (eventsV l s h))] (.v (.bool true)) := fun i hir hk0 => by
  refine together_s l s.rules[i] h (eventsV l s h) oh (os.rule i hir) (by omega) fun q c hc hq hw => ?_
  have hr0 := os.rule i hir
  have h1 : 1 <= c := by
   have hb : 1 <= s.rules[i].count := by
    unfold ruleErr at hr0
    split at hr0
    · cases hr0
    · split at hr0
      · cases hr0
      · omega
   omega
  obtain ⟨k, hk, w1, w2⟩ := many_win os oh (List.getElem_mem hir) hk0 hc h1 hq hw
  have hkv : k < (eventsV l s h).length := by omega
  obtain ⟨_, e⟩ := hva k hkv
  refine ⟨k, hkv, ?_, ?_⟩
  · rw [getD_at hkv, e]; exact w1
  · rw [getD_at hkv, e]; exact w2
 have HPt := up (particle_s l s h z (by omega) (by omega) he)
 have hVW : ∀ k (hk : k < (eventsV l s h).length) (hw : k < (windowsV l s h).length), (eventsV l s h)[k].lo = (windowsV l s h)[k].lo /\ (eventsV l s h)[k].hi = (windowsV l s h)[k].hi := fun k hk hw => by
  obtain ⟨_, e⟩ := hva k hk
  rw [e]; exact ⟨rfl, rfl⟩
 clear hva hvh wo
 generalize eventsV l s h = V at *
 generalize windowsV l s h = W0 at *
 repeat (first
 | (apply s_a TY; exact rfl)
 | (apply s_t; exact rfl; omega)
 | (apply s_f; exact rfl; omega)
 | apply w_seq
 | apply w_region
 | (apply w_draw (id := 18) 12 rfl (by kernel_rfl))
 | (apply w_draw (id := 19) 12 rfl (by kernel_rfl))
 | (apply w_draw (id := 22) 14 rfl (by kernel_rfl))
 | apply s_nil
 | apply t_norm
 | apply t_exit
 | apply k_hit
 | apply w_block
 | apply w_exit
 | apply w_skip
 | (apply w_condF; exact rfl; exact rfl)
 | (apply s_k (HCA); exact rfl)
 | (apply s_k (HCS); exact rfl)
 | (apply s_k (HCH); exact rfl)
 | (apply s_k (HDv); exact rfl)
 | (apply s_k (HMg); exact rfl)
 | (apply s_k (HEv); exact rfl)
 | (apply s_k (HSm); exact rfl)
 | (apply s_k (HCE); exact rfl)
 | (apply s_k (HCk); exact rfl))
 apply w_gh (gh_own 20 34 2 rfl rfl)
 apply w_loop (fun i : Nat => ⟨(Ab.upd (Ab.upd (Ab.upd (Ab.upd (Ab.upd (Ab.upd (Ab.upd (fun _ => .bot) 3 (.f (.pt [.sl l.length (sitesF l)] 0))) 4 (.f (.pt (setL s) 0))) 5 (.f (.pt ([.sl h.length (hitsF h), .sl wh.length (intsF wh), iv m0, iv m1, iv m2] ++ [iv r.lo, iv r.hi, iv z]) 0))) 7 (.f (.pt [.sl h.length (hitsF h), .sl wh.length (intsF wh), iv m0, iv m1, iv m2] 0))) 16 (.f (.sl V.length (evsF V)))) 20 (.ow 0)) 21 (.f (iv ((i : Nat) : Int)))), (Ab.upd (fun _ => none) 0 (some (.row 34 2 (W0.take i).length (rngsF (W0.take i))))), 1⟩) (fun i => i <= V.length) (fun i => V.length - i) 0 (Nat.zero_le _) (gh_le ⟨le_upd rfl trivial (le_upd rfl rfl (le_upd rfl trivial (le_upd rfl trivial (le_upd rfl trivial (le_upd rfl trivial (le_upd rfl trivial (le_nil _))))))), le_hupd rfl trivial (le_h0 _ _)⟩)
 intro i hi
 by_cases hiv : i < V.length
 · have hiw : i < W0.length := by omega
   have hvn : evsF V ≠ [] := evsF_ne (k := i) hiv
   have hwtl : (W0.take i).length = i := by rw [List.length_take]; omega
   have hsb : ((evsF V).drop (i * 3 + 0)).take 2 = rngF W0[i] := by
    have e := congrArg (List.take 2) (evsF_sub hiv)
    rw [List.take_take] at e
    obtain ⟨g1, g2⟩ := hVW i hiv hiw
    have e2 : (evF V[i]).take 2 = rngF W0[i] := by
     show [iv V[i].lo, iv V[i].hi] = [iv W0[i].lo, iv W0[i].hi]
     rw [g1, g2]
    rw [e2] at e
    exact e
   have hrow : some (Blk.row 34 2 ((W0.take i).length + 1) (rngsF (W0.take i) ++ rngF W0[i])) = some (Blk.row 34 2 (W0.take (i + 1)).length (rngsF (W0.take (i + 1)))) := by
    rw [List.take_succ_eq_append_getElem hiw, rngsF_snoc, List.length_append]; rfl
   repeat (first
 | (apply s_append TY; (iterate 9 exact rfl); (unfold maxLen; omega); omega)
 | (apply s_a TY; exact rfl)
 | (apply s_t; exact rfl; omega)
 | apply w_seq
 | apply w_region
 | apply s_nil
 | apply t_norm
 | apply k_norm
 | apply w_block
 | apply w_skip
 | (apply w_condT; exact rfl; exact rfl)
 | (apply s_c TY; exact rfl; (first | omega | exact ⟨by omega, by (with_reducible assumption)⟩))
 | (apply s_m TY; exact rfl; (with_reducible assumption); exact rfl))
   exact ⟨i + 1, by omega, by omega, gh_le ⟨le_upd rfl trivial (le_upd rfl rfl (le_upd rfl trivial (le_upd rfl trivial (le_upd rfl trivial (le_upd rfl trivial (le_upd rfl trivial (le_nil _))))))), le_hupd hrow trivial (le_h0 _ _)⟩⟩
 have hie : i = W0.length := by omega
 subst hie
 have hrn : some (Blk.row 34 2 (W0.take W0.length).length (rngsF (W0.take W0.length))) = some (Blk.row 34 2 W0.length (rngsF W0)) := by rw [List.take_length]
 apply w_gh (gh_row 0 hrn)
 have HLE := up (LiveErr_s W0 r)
 have HCR := up (CopyRanges_s W0 (by omega))
 by_cases hLE : lErrV W0 r = 0
 · have hLV : liveErrV s W0 r = 0 := by rw [liveErr_b e2]; exact hLE
   have HLI := up (LiveIn_s s W0 r (by omega) (by omega))
   rw [hLV, if_pos rfl] at HLI
   rw [hLE] at HLE
   obtain ⟨_, _, q3, q4, q5⟩ := liveErr_parts hLV
   have hld := live_dead (s := s) (ws := W0) q5 odd.1 (runs_of (fun i hi => (q3 i hi).2) rfl)
   have hdb := fun k => deadK_bd (s := s) (ws := W0) q4 odd k
   have hwb : ∀ i (hi : i < W0.length), (-2000000000000 <= W0[i].hi /\ W0[i].hi <= 2000000000000) := fun i hi => by
    have := (q3 i hi).1
    unfold wA at this
    rw [getD_at hi] at this
    split at this
    · rename_i e; exact e.2
    · cases this
   repeat (first
 | (apply s_a TY; exact rfl)
 | (apply s_t; exact rfl; omega)
 | (apply s_f; exact rfl; omega)
 | apply w_seq
 | apply w_region
 | (apply w_draw (id := 31) 11 rfl (by kernel_rfl))
 | apply s_nil
 | apply t_norm
 | apply t_exit
 | apply k_hit
 | apply w_block
 | apply w_exit
 | (apply w_condT; exact rfl; exact rfl)
 | (apply w_condF; exact rfl; exact rfl)
 | (apply s_k (HLE); exact rfl)
 | (apply s_k (HLI); exact rfl)
 | (apply s_k (HCS); exact rfl)
 | (apply s_k (HCR); exact rfl))
   apply w_loop (fun i : Nat => ⟨(Ab.upd (Ab.upd (Ab.upd (Ab.upd (Ab.upd (Ab.upd (Ab.upd (Ab.upd (Ab.upd (Ab.upd (fun _ => .bot) 3 (.f (.pt [.sl l.length (sitesF l)] 0))) 4 (.f (.pt (setL s) 0))) 5 (.f (.pt ([.sl h.length (hitsF h), .sl wh.length (intsF wh), iv m0, iv m1, iv m2] ++ [iv r.lo, iv r.hi, iv z]) 0))) 7 (.f (.pt [.sl h.length (hitsF h), .sl wh.length (intsF wh), iv m0, iv m1, iv m2] 0))) 16 (.f (.sl V.length (evsF V)))) 20 (.f (.sl W0.length (rngsF W0)))) 22 (.f (iv (liveV s W0 r)))) 23 (.f (iv 0))) 24 (.f (iv (deadK s W0 r i)))) 25 (.f (iv ((i : Nat) : Int)))), (fun _ => none), 0⟩) (fun i => i <= W0.length) (fun i => W0.length - i) 0 (Nat.zero_le _) (gh_le ⟨le_upd rfl trivial (le_upd rfl trivial (le_upd rfl trivial (le_upd rfl trivial (le_upd rfl trivial (le_upd rfl trivial (le_upd rfl trivial (le_upd rfl trivial (le_upd rfl trivial (le_upd rfl trivial (le_nil _)))))))))), le_h0 _ _⟩)
   intro i hi
   by_cases hiw : i < W0.length
   · have hb1 := hwb i hiw
     have hb2 := hdb i
     have hwn : rngsF W0 ≠ [] := rngsF_ne (k := i) hiw
     have hf1 : (rngsF W0)[i * 2 + 1]? = some (iv W0[i].hi) := rngsF_f1 hiw
     by_cases hi1 : i + 1 < W0.length
     · obtain ⟨b1, hbb⟩ : ∃ b1, b1 = (W0[i + 1]'hi1).hi := ⟨_, rfl⟩
       have hb3 : -2000000000000 <= b1 /\ b1 <= 2000000000000 := by rw [hbb]; exact hwb (i + 1) hi1
       have hf2 : (rngsF W0)[(((i : Nat) : Int) + 1).toNat * 2 + 1]? = some (iv b1) := by
        rw [hbb, show (((i : Nat) : Int) + 1).toNat = i + 1 by omega]; exact rngsF_f1 hi1
       have hf3 : (rngsF W0)[(i + 1) * 2 + 1]? = some (iv b1) := by
        rw [hbb]; exact rngsF_f1 hi1
       have e : deadK s W0 r (i + 1) = deadK s W0 r i + max 0 (min (min (W0[i].hi + s.dead) r.hi) b1 - max (W0[i].hi + 1) r.lo + 1) := by
        rw [hbb, deadK, toZ, if_pos hi1, getD_at hiw, getD_at hi1]
       clear hbb
       repeat (first
 | (apply s_a TY; exact rfl)
 | (apply s_t; exact rfl; omega)
 | apply w_seq
 | apply w_region
 | (apply w_draw (id := 36) 11 rfl (by kernel_rfl))
 | (apply w_draw (id := 39) 15 rfl (by kernel_rfl))
 | apply s_nil
 | apply t_norm
 | apply k_norm
 | apply w_block
 | apply w_skip
 | (apply w_condT; exact rfl; exact rfl)
 | (apply s_c TY; exact rfl; (first | omega | exact ⟨by omega, by (with_reducible assumption)⟩))
 | (apply s_l TY; exact rfl; with_reducible assumption))
       exact ⟨i + 1, by omega, by omega, gh_le ⟨le_upd rfl trivial (le_upd (congrArg (fun z => AV.f (iv z)) e) trivial (le_upd rfl trivial (le_upd rfl trivial (le_upd rfl trivial (le_upd rfl trivial (le_upd rfl trivial (le_upd rfl trivial (le_upd rfl trivial (le_upd rfl trivial (le_nil _)))))))))), le_h0 _ _⟩⟩
     · have e : deadK s W0 r (i + 1) = deadK s W0 r i + max 0 (min (W0[i].hi + s.dead) r.hi - max (W0[i].hi + 1) r.lo + 1) := by
        rw [deadK, toZ, if_neg hi1, getD_at hiw]
       repeat (first
 | (apply s_a TY; exact rfl)
 | (apply s_t; exact rfl; omega)
 | (apply s_f; exact rfl; omega)
 | apply w_seq
 | apply w_region
 | (apply w_draw (id := 36) 11 rfl (by kernel_rfl))
 | (apply w_draw (id := 39) 15 rfl (by kernel_rfl))
 | apply s_nil
 | apply t_norm
 | apply k_norm
 | apply w_block
 | apply w_skip
 | (apply w_condT; exact rfl; exact rfl)
 | (apply w_condF; exact rfl; exact rfl)
 | (apply s_c TY; exact rfl; (first | omega | exact ⟨by omega, by (with_reducible assumption)⟩))
 | (apply s_l TY; exact rfl; with_reducible assumption))
       exact ⟨i + 1, by omega, by omega, gh_le ⟨le_upd rfl trivial (le_upd (congrArg (fun z => AV.f (iv z)) e) trivial (le_upd rfl trivial (le_upd rfl trivial (le_upd rfl trivial (le_upd rfl trivial (le_upd rfl trivial (le_upd rfl trivial (le_upd rfl trivial (le_upd rfl trivial (le_nil _)))))))))), le_h0 _ _⟩⟩
   have hie : i = W0.length := by omega
   subst hie
   have hb2 := hdb W0.length
   repeat (first
 | (apply s_a TY; exact rfl)
 | (apply s_t; exact rfl; (first | assumption | omega))
 | (apply s_f; exact rfl; omega)
 | apply w_seq
 | apply w_region
 | apply s_nil
 | apply t_norm
 | apply t_exit
 | apply k_hit
 | apply w_block
 | apply w_exit
 | apply w_skip
 | (apply w_condF; exact rfl; exact rfl)
 | (apply s_c TY; exact rfl; omega))
   apply w_loop (fun i : Nat => ⟨(Ab.upd (Ab.upd (Ab.upd (Ab.upd (Ab.upd (Ab.upd (fun _ => .bot) 3 (.f (.pt [.sl l.length (sitesF l)] 0))) 4 (.f (.pt (setL s) 0))) 5 (.f (.pt ([.sl h.length (hitsF h), .sl wh.length (intsF wh), iv m0, iv m1, iv m2] ++ [iv r.lo, iv r.hi, iv z]) 0))) 7 (.f (.pt [.sl h.length (hitsF h), .sl wh.length (intsF wh), iv m0, iv m1, iv m2] 0))) 16 (.f (.sl V.length (evsF V)))) 27 (.f (iv ((i : Nat) : Int)))), (fun _ => none), 0⟩) (fun i => i <= s.rules.length) (fun i => s.rules.length - i) 0 (Nat.zero_le _) (gh_le ⟨le_upd rfl trivial (le_upd rfl trivial (le_upd rfl trivial (le_upd rfl trivial (le_upd rfl trivial (le_upd rfl trivial (le_nil _)))))), le_h0 _ _⟩)
   intro i hi
   by_cases hir : i < s.rules.length
   · have hrn : rulesF s.rules ≠ [] := rulesF_ne (k := i) hir
     by_cases hk0 : s.rules[i].kind = 0
     · have HTg := up (htog i hir hk0)
       repeat (first
 | (apply s_a TY; exact rfl)
 | (apply s_t; exact rfl; (first | assumption | omega))
 | apply w_seq
 | apply w_region
 | (apply w_draw (id := 45) 16 rfl (by kernel_rfl))
 | apply s_nil
 | apply t_norm
 | apply k_norm
 | apply w_block
 | apply w_skip
 | (apply w_condT; exact rfl; exact rfl)
 | (apply w_condF; exact rfl; exact rfl)
 | (apply s_k (HTg); exact rfl)
 | (apply s_c TY; exact rfl; (first | omega | exact ⟨by omega, by (with_reducible assumption)⟩))
 | (apply s_l TY; exact rfl; (((with_reducible apply rulesF_f0); omega)))
 | (apply s_m TY; exact rfl; (((with_reducible apply rulesF_sub); omega)); exact rfl))
       exact ⟨i + 1, by omega, by omega, gh_le ⟨le_upd rfl trivial (le_upd rfl trivial (le_upd rfl trivial (le_upd rfl trivial (le_upd rfl trivial (le_upd rfl trivial (le_nil _)))))), le_h0 _ _⟩⟩
     · repeat (first
 | (apply s_a TY; exact rfl)
 | (apply s_t; exact rfl; omega)
 | (apply s_f; exact rfl; assumption)
 | apply w_seq
 | apply w_region
 | (apply w_draw (id := 45) 16 rfl (by kernel_rfl))
 | apply s_nil
 | apply t_norm
 | apply k_norm
 | apply w_block
 | apply w_skip
 | (apply w_condT; exact rfl; exact rfl)
 | (apply w_condF; exact rfl; exact rfl)
 | (apply s_s; exact rfl)
 | (apply s_c TY; exact rfl; (first | omega | exact ⟨by omega, by (with_reducible assumption)⟩))
 | (apply s_l TY; exact rfl; (((with_reducible apply rulesF_f0); omega))))
       exact ⟨i + 1, by omega, by omega, gh_le ⟨le_upd rfl trivial (le_upd rfl trivial (le_upd rfl trivial (le_upd rfl trivial (le_upd rfl trivial (le_upd rfl trivial (le_nil _)))))), le_h0 _ _⟩⟩
   · repeat (first
 | (apply s_a TY; exact rfl)
 | (apply s_f; exact rfl; omega)
 | apply w_seq
 | apply w_region
 | apply s_nil
 | apply t_norm
 | apply t_exit
 | apply k_hit
 | apply w_exit
 | apply w_ret
 | (apply w_condF; exact rfl; exact rfl)
 | (apply s_k (HPt); exact rfl))
     exact lv_ret (ret1 rfl (res_tmp rfl))
 · repeat (first
 | (apply s_a TY; exact rfl)
 | (apply s_f; exact rfl; (first | assumption | omega))
 | apply w_seq
 | apply w_region
 | apply s_nil
 | apply t_norm
 | apply t_exit
 | apply k_hit
 | apply w_block
 | apply w_exit
 | apply w_skip
 | (apply w_condF; exact rfl; exact rfl)
 | (apply s_k (HLE); exact rfl))
   apply w_loop (fun i : Nat => ⟨(Ab.upd (Ab.upd (Ab.upd (Ab.upd (Ab.upd (Ab.upd (fun _ => .bot) 3 (.f (.pt [.sl l.length (sitesF l)] 0))) 4 (.f (.pt (setL s) 0))) 5 (.f (.pt ([.sl h.length (hitsF h), .sl wh.length (intsF wh), iv m0, iv m1, iv m2] ++ [iv r.lo, iv r.hi, iv z]) 0))) 7 (.f (.pt [.sl h.length (hitsF h), .sl wh.length (intsF wh), iv m0, iv m1, iv m2] 0))) 16 (.f (.sl V.length (evsF V)))) 27 (.f (iv ((i : Nat) : Int)))), (fun _ => none), 0⟩) (fun i => i <= s.rules.length) (fun i => s.rules.length - i) 0 (Nat.zero_le _) (gh_le ⟨le_upd rfl trivial (le_upd rfl trivial (le_upd rfl trivial (le_upd rfl trivial (le_upd rfl trivial (le_upd rfl trivial (le_nil _)))))), le_h0 _ _⟩)
   intro i hi
   by_cases hir : i < s.rules.length
   · have hrn : rulesF s.rules ≠ [] := rulesF_ne (k := i) hir
     by_cases hk0 : s.rules[i].kind = 0
     · have HTg := up (htog i hir hk0)
       repeat (first
 | (apply s_a TY; exact rfl)
 | (apply s_t; exact rfl; (first | assumption | omega))
 | apply w_seq
 | apply w_region
 | (apply w_draw (id := 45) 16 rfl (by kernel_rfl))
 | apply s_nil
 | apply t_norm
 | apply k_norm
 | apply w_block
 | apply w_skip
 | (apply w_condT; exact rfl; exact rfl)
 | (apply w_condF; exact rfl; exact rfl)
 | (apply s_k (HTg); exact rfl)
 | (apply s_c TY; exact rfl; (first | omega | exact ⟨by omega, by (with_reducible assumption)⟩))
 | (apply s_l TY; exact rfl; (((with_reducible apply rulesF_f0); omega)))
 | (apply s_m TY; exact rfl; (((with_reducible apply rulesF_sub); omega)); exact rfl))
       exact ⟨i + 1, by omega, by omega, gh_le ⟨le_upd rfl trivial (le_upd rfl trivial (le_upd rfl trivial (le_upd rfl trivial (le_upd rfl trivial (le_upd rfl trivial (le_nil _)))))), le_h0 _ _⟩⟩
     · repeat (first
 | (apply s_a TY; exact rfl)
 | (apply s_t; exact rfl; omega)
 | (apply s_f; exact rfl; assumption)
 | apply w_seq
 | apply w_region
 | (apply w_draw (id := 45) 16 rfl (by kernel_rfl))
 | apply s_nil
 | apply t_norm
 | apply k_norm
 | apply w_block
 | apply w_skip
 | (apply w_condT; exact rfl; exact rfl)
 | (apply w_condF; exact rfl; exact rfl)
 | (apply s_s; exact rfl)
 | (apply s_c TY; exact rfl; (first | omega | exact ⟨by omega, by (with_reducible assumption)⟩))
 | (apply s_l TY; exact rfl; (((with_reducible apply rulesF_f0); omega))))
       exact ⟨i + 1, by omega, by omega, gh_le ⟨le_upd rfl trivial (le_upd rfl trivial (le_upd rfl trivial (le_upd rfl trivial (le_upd rfl trivial (le_upd rfl trivial (le_nil _)))))), le_h0 _ _⟩⟩
   · repeat (first
 | (apply s_a TY; exact rfl)
 | (apply s_f; exact rfl; omega)
 | apply w_seq
 | apply w_region
 | apply s_nil
 | apply t_norm
 | apply t_exit
 | apply k_hit
 | apply w_exit
 | apply w_ret
 | (apply w_condF; exact rfl; exact rfl)
 | (apply s_k (HPt); exact rfl))
     exact lv_ret (ret1 rfl (res_tmp rfl))
open Go Go.Ab Go.ChangeShapes Go.WideShapes Go.ChangeAt Go.RowKit
theorem ownKnobT : ownKnob Tryz.prog.godebug = none := by kernel_rfl
theorem laidOutT : laidOutB Tryz.prog = true := by kernel_rfl
theorem trodAll_stays {H : Type} {enc : TypeId × Value -> H} {W W' : World} {sp : Nat -> Bool} (hb : Below W.heap.size W W') : ∀ {ts : List TypeId} {vs : List Value} {ds : List (DataW H)} {ps : List MemPlace}, (∀ t ∈ ts, Tryz.prog.readableRec t = true /\ t < Tryz.prog.types.size) -> DataW.TrodAll enc Tryz.prog W 0 (fun _ => true) true ts vs ds ps -> (∀ p ∈ ps, p.block < W.heap.size) -> (∀ p ∈ ps, sp p.block = true) -> DataW.TrodAll enc Tryz.prog W' 0 sp true ts vs ds ps
 | [], [], [], _, _, h, _, _ => h
 | t :: ts, v :: vs, d :: ds, ps, ht, ⟨p, q, h1, h2, e⟩, hlt, hsp => by
   have hp : ∀ x ∈ p, x ∈ ps := fun x hx => by rw [e]; exact List.mem_append_left _ hx
   have hq : ∀ x ∈ q, x ∈ ps := fun x hx => by rw [e]; exact List.mem_append_right _ hx
   exact ⟨p, q, WideElems.Trod_stays laidOutT (ht t (by simp)).1 (ht t (by simp)).2 h1 (fun x hx => hb.same (hlt x (hp x hx))) (fun x hx => hsp x (hp x hx)),
    trodAll_stays hb (fun u hu => ht u (by simp [hu])) h2 (fun x hx => hlt x (hq x hx)) (fun x hx => hsp x (hq x hx)), e⟩
theorem post_law {H : Type} {enc : TypeId × Value -> H} {f : Func} {s : ChangeSpec} {W W' : World} {args : Array Value} {ds gs : List (DataW H)} {before : List MemPlace}
 (hW : DataW.Whole enc Tryz.prog f.params.toList s.vars false W args.toList ds gs before) (hv : s.vars = []) (hr : f.resultTypes = #[4])
 (ht : ∀ t ∈ f.params.toList, Tryz.prog.readableRec t = true /\ t < Tryz.prog.types.size)
 (hres : (s.fn H (ds ++ gs)).results = [.lit (.bool true)]) (hargs : (s.fn H (ds ++ gs)).args = ds) (hvs : (s.fn H (ds ++ gs)).vars = [])
 (hb : Below W.heap.size W W') : s.post enc Tryz.prog f false true false false W args (.bool true) W' := by
 have hlt := hW.lt
 have hW0 := hW
 obtain ⟨p, q, h1, h2, e, hz, hn⟩ := hW
 have h2' := h2
 rw [hv] at h2'
 have hq : gs = [] /\ q = [] := by
  cases gs with
  | nil => exact ⟨rfl, h2'⟩
  | cons g r => exact absurd h2' (by intro h; cases h)
 obtain ⟨rfl, rfl⟩ := hq
 rw [List.append_nil] at e
 subst e
 refine ⟨ds, [], before, [], before, [], hW0, ?_, ?_, ?_, Below.frame hb _, fun h => by cases h⟩
 · rw [hr, hres]; exact trodAll_mk1 (shut_bool Tryz.underlying4 true)
 · rw [hargs]
   exact trodAll_stays hb ht h1 hlt (fun x hx => by simpa using hlt x hx)
 · rw [hv, hvs]; rfl
theorem sq_map {α : Type} (f : α -> FV) : ∀ l : List α, l.flatMap (fun x => [f x]) = l.map f
 | [] => rfl
 | x :: l => by rw [List.flatMap_cons, sq_map f l]; rfl
section
variable {W : World}
theorem opens_i : Opens Tryz.prog W 3 (fun z : Int => [iv z]) := opens_int Tryz.underlying3
end
set_option maxRecDepth 100000 in
theorem arg_st {H : Type} {enc : TypeId × Value -> H} {W : World} {base : Nat} {T : TypeId} {fs : Array Field} {α : Type} {f : α -> List FV} {v : Value} {d : DataW H} {ps : List MemPlace} (h : Opens Tryz.prog W T f) (ht : Tryz.prog.underlying T = some (.struct fs)) (hv : Value.okWide Tryz.prog W .any base T v) (hd : DataW.Trod enc Tryz.prog W 0 (fun _ => true) true T v d ps) : ∃ a, RepF W (fun _ => False) v (.agg (f a)) := by
 obtain ⟨cs, e, _⟩ := okWide_struct ht hv
 exact arg_agg h e hd
end Go.Proofs.YtbkdjlahhcofmaaGreatDoor
