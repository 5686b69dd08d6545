/- Laws on which the proofs of this seat stand. No condition. -/
import Derived.Test.YtnmaabejdmaahaaGreatDoorIcPla4
import Derived.DataShut
import Derived.OpenShut
import Derived.ChangeKeysEq
import Derived.Test.YtnmaabejdmaahaaGreatDoorRows
import Derived.WalkKit
import Derived.ProofKit
import Derived.Stop.Joined
namespace Go.Proofs.YtnmaabejdmaahaaGreatDoor
open Go Go.RowKit Go.Proofs Go.Shelf Go.Ab
def hulG (g : Plc → Int) (l : List Plc) (k : Nat) : Int × Int := (l.take k).foldl (fun r q => (min r.1 (g q), max r.2 (g q))) (g (l.getD 0 default), g (l.getD 0 default))
theorem hulG_succ (g : Plc → Int) {l : List Plc} {k : Nat} (h : k < l.length) : hulG g l (k + 1) = (min (hulG g l k).1 (g l[k]), max (hulG g l k).2 (g l[k])) := by
  unfold hulG
  rw [List.take_succ_eq_append_getElem h, List.foldl_append]
  rfl
theorem hulG_zero (g : Plc → Int) {l : List Plc} (h : 0 < l.length) : hulG g l 0 = (g l[0], g l[0]) := by
  unfold hulG
  rw [List.take_zero, getD_at h]
  rfl
def boxK (l : List Plc) (k : Nat) : Box := ⟨(hulG Plc.x l k).1, (hulG Plc.x l k).2, (hulG Plc.y l k).1, (hulG Plc.y l k).2, (hulG Plc.z l k).1, (hulG Plc.z l k).2⟩
def boxZ : Box := ⟨0, 0, 0, 0, 0, 0⟩
theorem cox_s (q : Plc) : Summ Tryz.prog GG 42 [.agg (plcF q)] (iv (Plc.x q)) := by
  refine summW Tryz.func42 rfl rfl 5 rfl (by simp) (fun M0 => ?_)
  repeat (first
    | (apply s_a TY; exact rfl)
    | apply w_seq
    | apply w_region
    | apply s_nil
    | apply t_norm
    | apply w_ret)
  exact lv_ret (ret1 rfl (res_tmp rfl))
theorem coy_s (q : Plc) : Summ Tryz.prog GG 43 [.agg (plcF q)] (iv (Plc.y q)) := by
  refine summW Tryz.func43 rfl rfl 5 rfl (by simp) (fun M0 => ?_)
  repeat (first
    | (apply s_a TY; exact rfl)
    | apply w_seq
    | apply w_region
    | apply s_nil
    | apply t_norm
    | apply w_ret)
  exact lv_ret (ret1 rfl (res_tmp rfl))
theorem coz_s (q : Plc) : Summ Tryz.prog GG 44 [.agg (plcF q)] (iv (Plc.z q)) := by
  refine summW Tryz.func44 rfl rfl 5 rfl (by simp) (fun M0 => ?_)
  repeat (first
    | (apply s_a TY; exact rfl)
    | apply w_seq
    | apply w_region
    | apply s_nil
    | apply t_norm
    | apply w_ret)
  exact lv_ret (ret1 rfl (res_tmp rfl))
set_option maxRecDepth 100000 in
set_option maxHeartbeats 3200000 in
theorem side_s (gf : Nat) (g : Plc → Int) (HG : ∀ q, Summ Tryz.prog GG gf [.agg (plcF q)] (iv (g q))) (l : List Plc) (h0 : 0 < l.length) (hl : l.length ≤ 1000000) : Summ Tryz.prog GG 41 [.fn gf [], .pt [.sl l.length (plcsF l)] 0] (.agg [iv (hulG g l l.length).1, iv (hulG g l l.length).2]) := by
  have hne0 : plcsF l ≠ [] := plcsF_ne h0
  have H0 := HG l[0]
  have hz := hulG_zero g h0
  have hz0 : ((plcsF l).drop (0 * 3)).take 3 = plcF l[0] := plcsF_sub h0
  refine summW Tryz.func41 rfl rfl 39 rfl (by simp) (fun M0 => ?_)
  repeat (first
    | (apply s_a TY; exact rfl)
    | apply w_seq
    | apply w_region
    | (apply w_draw (id := 1) 12 rfl (by kernel_rfl))
    | apply s_nil
    | apply t_norm
    | apply w_block
    | (apply s_k (H0); exact rfl)
    | (apply s_c TY; exact rfl; (first | omega | exact ⟨by omega, by (first | with_reducible assumption | ((with_reducible apply plcsF_ne); omega) | assumption)⟩))
    | (apply s_m TY; exact rfl; (first | with_reducible assumption | ((with_reducible apply plcsF_sub); omega) | exact rfl); exact rfl)
    | (apply s_alloc TY; exact rfl; exact rfl; exact rfl)
    | (apply s_store TY; exact rfl; exact rfl; exact rfl; exact rfl; exact rfl; exact rfl))
  apply w_loop (fun k : Nat => ⟨(Ab.upd (Ab.upd (Ab.upd (Ab.upd (Ab.upd (Ab.upd (Ab.upd (fun _ => .bot) 0 (.f (.fn gf []))) 1 (.f (.pt [.sl l.length (plcsF l)] 0))) 3 (.bx 0 0)) 4 (.bx 1 0)) 18 (.f (.sl l.length (plcsF l)))) 19 (.f (iv l.length))) 20 (.f (iv ((k : Nat) : Int)))), (Ab.upd (Ab.upd (fun _ => none) 0 (some (.box [.f (iv 0), .f (iv 0)]))) 1 (some (.box [.f (iv (hulG g l k).1), .f (iv (hulG g l k).2)]))), 2⟩) (fun k => k ≤ l.length) (fun k => l.length - k) 0 (Nat.zero_le _) (gh_le ⟨le_upd rfl trivial (le_upd rfl trivial (le_upd rfl trivial (le_upd rfl rfl (le_upd rfl rfl (le_upd rfl trivial (le_upd rfl trivial (le_nil _))))))), le_hupd (by rw [hz]; rfl) (fun x hx => by simp at hx; rcases hx with rfl | rfl <;> trivial) (le_hupd rfl (fun x hx => by simp at hx; rcases hx with rfl | rfl <;> trivial) (le_h0 _ _))⟩)
  intro k hk
  by_cases hc : k < l.length
  · have HK := HG l[k]
    have hs := hulG_succ g hc
    repeat (first
    | (apply s_a TY; exact rfl)
    | (apply s_t; exact rfl; (first | assumption | omega))
    | apply w_seq
    | apply w_region
    | (apply w_draw (id := 5) 12 rfl (by kernel_rfl))
    | apply s_nil
    | apply t_norm
    | apply k_norm
    | apply w_block
    | apply w_skip
    | (apply w_condT; exact rfl; exact rfl)
    | (apply s_k (HK); exact rfl)
    | (apply s_c TY; exact rfl; (first | omega | exact ⟨by omega, by (first | with_reducible assumption | ((with_reducible apply plcsF_ne); omega) | assumption)⟩))
    | (apply s_m TY; exact rfl; (first | with_reducible assumption | ((with_reducible apply plcsF_sub); omega) | exact rfl); exact rfl)
    | (apply s_alloc TY; exact rfl; exact rfl; exact rfl)
    | (apply s_store TY; exact rfl; exact rfl; exact rfl; exact rfl; exact rfl; exact rfl))
    exact ⟨k + 1, by omega, by omega, gh_le ⟨le_upd rfl trivial (le_upd rfl trivial (le_upd rfl trivial (le_upd rfl rfl (le_upd rfl rfl (le_upd rfl trivial (le_upd rfl trivial (le_nil _))))))), le_hupd (by rw [hs]; rfl) (fun x hx => by simp at hx; rcases hx with rfl | rfl <;> trivial) (le_hupd rfl (fun x hx => by simp at hx; rcases hx with rfl | rfl <;> trivial) (le_h0 _ _))⟩⟩
  · have hke : k = l.length := by omega
    subst hke
    repeat (first
    | (apply s_a TY; exact rfl)
    | (apply s_f; exact rfl; (first | assumption | omega))
    | apply w_seq
    | apply w_region
    | apply s_nil
    | apply t_norm
    | apply t_exit
    | apply k_hit
    | apply w_exit
    | apply w_ret
    | (apply w_condF; exact rfl; exact rfl)
    | (apply s_store TY; exact rfl; exact rfl; exact rfl; exact rfl; exact rfl; exact rfl))
    exact lv_ret (ret1 rfl (res_bxs (sub := [iv (hulG g l l.length).1, iv (hulG g l l.length).2]) TY rfl rfl rfl rfl rfl))
set_option maxRecDepth 100000 in
set_option maxHeartbeats 3200000 in
theorem BoxOf_err (x : Srch) (hl : x.ds.length ≤ 1000000) (he0 : srE x ≠ 0) : Summ Tryz.prog GG 9 [srF x] (.tup [boxF boxZ, iv (srE x)]) := by
  have HP := PlacesIn_err x hl he0
  refine summW Tryz.func9 rfl rfl 31 rfl (by simp) (fun M0 => ?_)
  repeat (first
    | (apply s_a TY; exact rfl)
    | (apply s_f; exact rfl; (first | assumption | omega))
    | apply w_seq
    | apply w_region
    | apply s_nil
    | apply t_norm
    | apply t_ret
    | apply w_ret
    | (apply w_condT; exact rfl; exact rfl)
    | (apply s_k (HP); exact rfl)
    | (apply s_k1 (ifirst2_0 _ _); exact rfl; (first | assumption | omega | decide))
    | (apply s_k (iunless_F _); exact rfl)
    | (apply s_alloc TY; exact rfl; exact rfl; exact rfl)
    | (apply s_store TY; exact rfl; exact rfl; exact rfl; exact rfl; exact rfl; exact rfl))
  exact lv_ret (ret2 rfl (res_bxs (sub := boxL boxZ) TY rfl rfl rfl rfl rfl) (res_tmp rfl))
theorem BoxOf_none (x : Srch) (v : SrOk x) (h0 : plcL x = []) : Summ Tryz.prog GG 9 [srF x] (.tup [boxF boxZ, iv 12]) := by
  have HP := PlacesIn_ok x v
  rw [h0] at HP
  change Summ Tryz.prog GG 7 [srF x] (.tup [.sl 0 [], iv 0]) at HP
  refine summW Tryz.func9 rfl rfl 31 rfl (by simp) (fun M0 => ?_)
  repeat (first
    | (apply s_a TY; exact rfl)
    | (apply s_f; exact rfl; (first | assumption | omega))
    | apply w_seq
    | apply w_region
    | apply s_nil
    | apply t_norm
    | apply t_ret
    | apply w_ret
    | (apply w_condT; exact rfl; exact rfl)
    | (apply s_k (HP); exact rfl)
    | (apply s_k1 (ifirst2_1 _ _); exact rfl; (first | assumption | omega | decide))
    | (apply s_k (iunless_F _); exact rfl)
    | (apply s_alloc TY; exact rfl; exact rfl; exact rfl)
    | (apply s_store TY; exact rfl; exact rfl; exact rfl; exact rfl; exact rfl; exact rfl))
  exact lv_ret (ret2 rfl (res_bxs (sub := boxL boxZ) TY rfl rfl rfl rfl rfl) (res_tmp rfl))
set_option maxRecDepth 100000 in
set_option maxHeartbeats 3200000 in
theorem BoxOf_ok (x : Srch) (v : SrOk x) (h0 : plcL x ≠ []) (hl : (plcL x).length ≤ 1000000) : Summ Tryz.prog GG 9 [srF x] (.tup [boxF (boxK (plcL x) (plcL x).length), iv 0]) := by
  have HP := PlacesIn_ok x v
  have hp : 0 < (plcL x).length := List.length_pos_iff.2 h0
  refine summW Tryz.func9 rfl rfl 31 rfl (by simp) (fun M0 => ?_)
  repeat (first
    | (refine s_ghost (o := ⟨some 23, _, _, _, _, none⟩) rfl (gh_box 1 (cs := [.sl (plcL x).length (plcsF (plcL x))]) rfl rfl) ?_)
    | (apply s_k (side_s 42 _ cox_s (plcL x) (by omega) (by omega)); exact rfl)
    | (apply s_k (side_s 43 _ coy_s (plcL x) (by omega) (by omega)); exact rfl)
    | (apply s_k (side_s 44 _ coz_s (plcL x) (by omega) (by omega)); exact rfl)
    | (apply s_a TY; exact rfl)
    | (apply s_makefn; exact rfl; exact rfl)
    | (apply s_t; exact rfl; (first | assumption | omega))
    | apply w_seq
    | apply w_region
    | apply s_nil
    | apply t_norm
    | apply w_ret
    | apply w_skip
    | (apply w_condF; exact rfl; exact rfl)
    | (apply s_k (HP); exact rfl)
    | (apply s_k1 (ifirst2_1 _ _); exact rfl; (first | assumption | omega | decide))
    | (apply s_k (iunless_T _); exact rfl)
    | (apply s_alloc TY; exact rfl; exact rfl; exact rfl)
    | (apply s_store TY; exact rfl; exact rfl; exact rfl; exact rfl; exact rfl; exact rfl))
  exact lv_ret (ret2 rfl (res_bxs (sub := boxL (boxK (plcL x) (plcL x).length)) TY rfl rfl rfl rfl rfl) (res_tmp rfl))
end Go.Proofs.YtnmaabejdmaahaaGreatDoor
namespace Go.Proofs.YtnmaabejdmaahaaGreatDoor
open Go Go.RowKit Go.Proofs Go.Shelf Go.Ab
set_option maxRecDepth 100000 in
theorem rSide_s (lo hi : Int) : Summ Tryz.prog GG 32 [.agg [iv lo, iv hi]] (iv (sdE lo hi)) := by
  by_cases h1 : ¬ isP lo
  · rw [show sdE lo hi = 2 by unfold sdE; rw [if_pos h1]]
    unfold isP at *
    refine summW Tryz.func32 rfl rfl 24 rfl (by simp) (fun M0 => ?_)
    repeat (first
    | (apply s_a TY; exact rfl)
    | apply w_seq
    | apply w_region
    | apply s_nil
    | apply t_norm
    | apply t_ret
    | apply w_ret
    | (apply w_condT; exact rfl; exact rfl)
    | (apply s_k1 (bwithin_F _ _ _); exact rfl; (first | assumption | omega | decide))
    | (apply s_s; exact rfl))
    exact lv_ret (ret1 rfl (res_tmp rfl))
  · by_cases h2 : ¬ isP hi
    · rw [show sdE lo hi = 2 by unfold sdE; rw [if_neg h1, if_pos h2]]
      have h1b := Classical.not_not.1 h1
      unfold isP at *
      refine summW Tryz.func32 rfl rfl 24 rfl (by simp) (fun M0 => ?_)
      repeat (first
    | (apply s_a TY; exact rfl)
    | apply w_seq
    | apply w_region
    | apply s_nil
    | apply t_norm
    | apply t_ret
    | apply w_ret
    | (apply w_condT; exact rfl; exact rfl)
    | (apply s_k1 (bwithin_T _ _ _); exact rfl; (first | assumption | omega | decide))
    | (apply s_k1 (bwithin_F _ _ _); exact rfl; (first | assumption | omega | decide)))
      exact lv_ret (ret1 rfl (res_tmp rfl))
    · by_cases h3 : hi < lo
      · rw [show sdE lo hi = 9 by unfold sdE; rw [if_neg h1, if_neg h2, if_pos h3]]
        have h1b := Classical.not_not.1 h1
        have h2b := Classical.not_not.1 h2
        unfold isP at *
        refine summW Tryz.func32 rfl rfl 24 rfl (by simp) (fun M0 => ?_)
        repeat (first
    | (apply s_a TY; exact rfl)
    | (apply s_t; exact rfl; (first | assumption | omega))
    | apply w_seq
    | apply w_region
    | apply s_nil
    | apply t_norm
    | apply t_ret
    | apply w_ret
    | apply w_skip
    | (apply w_condT; exact rfl; exact rfl)
    | (apply w_condF; exact rfl; exact rfl)
    | (apply s_k1 (bwithin_T _ _ _); exact rfl; (first | assumption | omega | decide)))
        exact lv_ret (ret1 rfl (res_tmp rfl))
      · by_cases h4 : 20 < hi - lo
        · rw [show sdE lo hi = 8 by unfold sdE; rw [if_neg h1, if_neg h2, if_neg h3, if_pos h4]]
          have h1b := Classical.not_not.1 h1
          have h2b := Classical.not_not.1 h2
          unfold isP at *
          refine summW Tryz.func32 rfl rfl 24 rfl (by simp) (fun M0 => ?_)
          repeat (first
    | (apply s_a TY; exact rfl)
    | (apply s_t; exact rfl; (first | assumption | omega))
    | (apply s_f; exact rfl; (first | assumption | omega))
    | apply w_seq
    | apply w_region
    | apply s_nil
    | apply t_norm
    | apply t_ret
    | apply w_ret
    | apply w_skip
    | (apply w_condT; exact rfl; exact rfl)
    | (apply w_condF; exact rfl; exact rfl)
    | (apply s_k1 (bwithin_T _ _ _); exact rfl; (first | assumption | omega | decide))
    | (apply s_c TY; exact rfl; omega))
          exact lv_ret (ret1 rfl (res_tmp rfl))
        · rw [show sdE lo hi = 0 by unfold sdE; rw [if_neg h1, if_neg h2, if_neg h3, if_neg h4]]
          have h1b := Classical.not_not.1 h1
          have h2b := Classical.not_not.1 h2
          unfold isP at *
          refine summW Tryz.func32 rfl rfl 24 rfl (by simp) (fun M0 => ?_)
          repeat (first
    | (apply s_a TY; exact rfl)
    | (apply s_f; exact rfl; (first | assumption | omega))
    | apply w_seq
    | apply w_region
    | apply s_nil
    | apply t_norm
    | apply w_ret
    | apply w_skip
    | (apply w_condF; exact rfl; exact rfl)
    | (apply s_k1 (bwithin_T _ _ _); exact rfl; (first | assumption | omega | decide))
    | (apply s_c TY; exact rfl; omega))
          exact lv_ret (ret1 rfl (res_tmp rfl))
def sdR (r : IRng) : Int := sdE r.lo r.hi
def rsL (x : Srch) : List IRng := [⟨x.box.x0, x.box.x1⟩, ⟨x.box.y0, x.box.y1⟩, ⟨x.box.z0, x.box.z1⟩]
theorem srE_1 {x : Srch} {k : Nat} (hk : k < (rsL x).length) (hz : ∀ i, i < k → sdR ((rsL x).getD i default) = 0) (hn : sdR (rsL x)[k] ≠ 0) : srE x = sdR (rsL x)[k] := by
  have h3 : k < 3 := hk
  have e : srE x = firstE ((rsL x).map sdR ++ (unlessE (decide (x.ds.length ≤ 8)) 8 :: x.ds.map dsE)) := rfl
  have hl : k < ((rsL x).map sdR ++ (unlessE (decide (x.ds.length ≤ 8)) 8 :: x.ds.map dsE)).length := by rw [List.length_append, List.length_map]; omega
  have ek : ((rsL x).map sdR ++ (unlessE (decide (x.ds.length ≤ 8)) 8 :: x.ds.map dsE))[k] = sdR (rsL x)[k] := by rw [List.getElem_append_left (by rw [List.length_map]; exact hk), List.getElem_map]; rfl
  rw [e, firstE_at hl (fun j hj hlt => by
    have := hz j hlt
    rw [getD_at (show j < (rsL x).length by omega)] at this
    rw [List.getElem_append_left (by rw [List.length_map]; omega), List.getElem_map]; exact this) (by rw [ek]; exact hn), ek]; rfl
theorem srE_2 {x : Srch} (hz : ∀ i, i < 3 → sdR ((rsL x).getD i default) = 0) : srE x = firstE (unlessE (decide (x.ds.length ≤ 8)) 8 :: x.ds.map dsE) := by
  have h0 := hz 0 (by decide)
  have h1 := hz 1 (by decide)
  have h2 := hz 2 (by decide)
  have e : srE x = firstE (sdR ((rsL x).getD 0 default) :: sdR ((rsL x).getD 1 default) :: sdR ((rsL x).getD 2 default) :: unlessE (decide (x.ds.length ≤ 8)) 8 :: x.ds.map dsE) := rfl
  rw [e, h0, h1, h2, firstE_tl, firstE_tl, firstE_tl]
theorem srE_3 {x : Srch} (hz : ∀ i, i < 3 → sdR ((rsL x).getD i default) = 0) (h8 : x.ds.length ≤ 8) : srE x = firstE (x.ds.map dsE) := by
  rw [srE_2 hz, decide_eq_true h8]
  exact firstE_tl
theorem srE_4 {x : Srch} {k : Nat} (hz : ∀ i, i < 3 → sdR ((rsL x).getD i default) = 0) (h8 : x.ds.length ≤ 8) (hk : k < x.ds.length) (hd : ∀ i, i < k → dsE (x.ds.getD i default) = 0) (hn : dsE x.ds[k] ≠ 0) : srE x = dsE x.ds[k] := by
  rw [srE_3 hz h8, firstE_at (k := k) (by rw [List.length_map]; exact hk) (fun j hj hlt => by
    have := hd j hlt
    rw [getD_at (show j < x.ds.length by omega)] at this
    rw [List.getElem_map, this]) (by rw [List.getElem_map]; exact hn), List.getElem_map]
theorem srE_5 {x : Srch} (hz : ∀ i, i < 3 → sdR ((rsL x).getD i default) = 0) (h8 : x.ds.length ≤ 8) (hd : ∀ i, i < x.ds.length → dsE (x.ds.getD i default) = 0) : srE x = 0 := by
  rw [srE_3 hz h8, firstE_zeros (fun j hj => by
    rw [List.length_map] at hj
    have := hd j hj
    rw [getD_at hj] at this
    rw [List.getElem_map, this])]
def coL (d : Dst) : List Int := [d.fr.x, d.fr.y, d.fr.z]
theorem dsE_co {d : Dst} {j : Nat} (hj : j < (coL d).length) (h : ¬ isP (coL d)[j]) : dsE d = 2 := by
  have h3 : j < 3 := hj
  unfold dsE
  by_cases h1 : isP d.fr.x
  · rw [if_neg (Classical.not_not.2 h1)]
    by_cases h2 : isP d.fr.y
    · rw [if_neg (Classical.not_not.2 h2)]
      by_cases h4 : isP d.fr.z
      · exfalso
        rcases (by omega : j = 0 ∨ j = 1 ∨ j = 2) with rfl | rfl | rfl
        · exact h h1
        · exact h h2
        · exact h h4
      · rw [if_pos h4]
    · rw [if_pos h2]
  · rw [if_pos h1]
theorem dsE_co0 {d : Dst} (h : ∀ i, i < 3 → isP ((coL d).getD i 0)) : dsE d = if ¬ (0 ≤ d.lo ∧ d.lo ≤ 1000000000000) then 2 else if ¬ (0 ≤ d.hi ∧ d.hi ≤ 1000000000000) then 2 else if d.hi < d.lo then 9 else 0 := by
  have h0 : isP d.fr.x := h 0 (by decide)
  have h1 : isP d.fr.y := h 1 (by decide)
  have h2 : isP d.fr.z := h 2 (by decide)
  unfold dsE
  rw [if_neg (Classical.not_not.2 h0), if_neg (Classical.not_not.2 h1), if_neg (Classical.not_not.2 h2)]
set_option maxRecDepth 100000 in
set_option maxHeartbeats 6400000 in
theorem SearchErr_s (x : Srch) (hl : x.ds.length ≤ 1000000) : Summ Tryz.prog GG 6 [srF x] (iv (srE x)) := by
  refine summW Tryz.func6 rfl rfl 91 rfl (by simp) (fun M0 => ?_)
  repeat (first
    | (apply s_a TY; exact rfl)
    | apply w_seq
    | apply w_region
    | apply s_nil
    | apply t_norm
    | apply w_block)
  apply w_loop (fun k : Nat => ⟨(Ab.upd (Ab.upd (Ab.upd (fun _ => .bot) 1 (.f (.pt (srL x) 0))) 3 (.f (.sl (rsL x).length (irngsF (rsL x))))) 4 (.f (iv ((k : Nat) : Int)))), (fun _ => none), 0⟩) (fun k => k ≤ 3 ∧ ∀ i, i < k → sdR ((rsL x).getD i default) = 0) (fun k => 3 - k) 0 (⟨Nat.zero_le _, fun j h => absurd h (Nat.not_lt_zero j)⟩) (gh_le ⟨le_upd rfl trivial (le_upd rfl trivial (le_upd rfl trivial (le_nil _))), le_h0 _ _⟩)
  intro k ⟨hk, hz⟩
  have h3 : (rsL x).length = 3 := rfl
  by_cases hc : k < (rsL x).length
  · have HS := rSide_s (rsL x)[k].lo (rsL x)[k].hi
    by_cases he : sdR (rsL x)[k] = 0
    · unfold sdR at he
      repeat (first
    | (apply s_a TY; exact rfl)
    | (apply s_t; exact rfl; (first | assumption | omega))
    | apply w_seq
    | apply w_region
    | apply s_nil
    | apply t_norm
    | apply k_norm
    | apply w_block
    | apply w_skip
    | (apply w_condT; exact rfl; exact rfl)
    | (apply w_condF; exact rfl; exact rfl)
    | (apply s_k (HS); exact rfl)
    | (apply s_c TY; exact rfl; (first | omega | exact ⟨by omega, by (first | with_reducible assumption | ((with_reducible apply dstsF_ne); omega) | ((with_reducible apply intsF_ne); omega) | ((with_reducible apply irngsF_ne); omega) | assumption)⟩))
    | (apply s_m TY; exact rfl; (first | with_reducible assumption | ((with_reducible apply dstsF_sub); omega) | ((with_reducible apply irngsF_sub); omega) | exact rfl); exact rfl))
      exact ⟨k + 1, ⟨by omega, fun i hi => by
        by_cases e : i = k
        · subst e; rw [getD_at hc]; exact he
        · exact hz i (by omega)⟩, by omega, gh_le ⟨le_upd rfl trivial (le_upd rfl trivial (le_upd rfl trivial (le_nil _))), le_h0 _ _⟩⟩
    · rw [srE_1 hc hz he]
      unfold sdR at he
      repeat (first
    | (apply s_a TY; exact rfl)
    | (apply s_t; exact rfl; (first | assumption | omega))
    | (apply s_f; exact rfl; (first | assumption | omega))
    | apply w_seq
    | apply w_region
    | apply s_nil
    | apply t_norm
    | apply t_ret
    | apply k_ret
    | apply w_block
    | apply w_ret
    | apply w_skip
    | (apply w_condT; exact rfl; exact rfl)
    | (apply s_k (HS); exact rfl)
    | (apply s_c TY; exact rfl; (first | omega | exact ⟨by omega, by (first | with_reducible assumption | ((with_reducible apply dstsF_ne); omega) | ((with_reducible apply intsF_ne); omega) | ((with_reducible apply irngsF_ne); omega) | assumption)⟩))
    | (apply s_m TY; exact rfl; (first | with_reducible assumption | ((with_reducible apply dstsF_sub); omega) | ((with_reducible apply irngsF_sub); omega) | exact rfl); exact rfl))
      exact lv_ret (ret1 rfl (res_tmp rfl))
  have hk3 : k = 3 := by omega
  subst hk3
  by_cases h8 : x.ds.length ≤ 8
  case neg =>
    rw [srE_2 hz, decide_eq_false h8, firstE_hd (by decide)]
    repeat (first
    | (apply s_a TY; exact rfl)
    | (apply s_t; exact rfl; (first | assumption | omega))
    | (apply s_f; exact rfl; (first | assumption | omega))
    | apply w_seq
    | apply w_region
    | apply s_nil
    | apply t_norm
    | apply t_exit
    | apply t_ret
    | apply k_hit
    | apply w_exit
    | apply w_ret
    | (apply w_condT; exact rfl; exact rfl)
    | (apply w_condF; exact rfl; exact rfl))
    exact lv_ret (ret1 rfl (res_tmp rfl))
  repeat (first
    | (apply s_a TY; exact rfl)
    | (apply s_f; exact rfl; (first | assumption | omega))
    | apply w_seq
    | apply w_region
    | apply s_nil
    | apply t_norm
    | apply t_exit
    | apply k_hit
    | apply w_block
    | apply w_exit
    | apply w_skip
    | (apply w_condF; exact rfl; exact rfl))
  apply w_loop (fun k : Nat => ⟨(Ab.upd (Ab.upd (fun _ => .bot) 1 (.f (.pt (srL x) 0))) 6 (.f (iv ((k : Nat) : Int)))), (fun _ => none), 0⟩) (fun k => k ≤ x.ds.length ∧ ∀ i, i < k → dsE (x.ds.getD i default) = 0) (fun k => x.ds.length - k) 0 (⟨Nat.zero_le _, fun j h => absurd h (Nat.not_lt_zero j)⟩) (gh_le ⟨le_upd rfl trivial (le_upd rfl trivial (le_nil _)), le_h0 _ _⟩)
  clear hk hc
  intro k ⟨hk, hd⟩
  by_cases hc : k < x.ds.length
  · repeat (first
    | (apply s_a TY; exact rfl)
    | (apply s_t; exact rfl; (first | assumption | omega))
    | apply w_seq
    | apply w_region
    | apply s_nil
    | apply t_norm
    | apply w_block
    | apply w_skip
    | (apply w_condT; exact rfl; exact rfl)
    | (apply s_c TY; exact rfl; (first | omega | exact ⟨by omega, by (first | with_reducible assumption | ((with_reducible apply dstsF_ne); omega) | ((with_reducible apply intsF_ne); omega) | ((with_reducible apply irngsF_ne); omega) | assumption)⟩))
    | (apply s_m TY; exact rfl; (first | with_reducible assumption | ((with_reducible apply dstsF_sub); omega) | ((with_reducible apply irngsF_sub); omega) | exact rfl); exact rfl)
    | (apply s_alloc TY; exact rfl; exact rfl; exact rfl)
    | (apply s_store TY; exact rfl; exact rfl; exact rfl; exact rfl; exact rfl; exact rfl))
    apply w_loop (fun j : Nat => ⟨(Ab.upd (Ab.upd (Ab.upd (Ab.upd (Ab.upd (fun _ => .bot) 1 (.f (.pt (srL x) 0))) 6 (.f (iv ((k : Nat) : Int)))) 7 (.bx 0 0)) 8 (.f (.sl (coL x.ds[k]).length (intsF (coL x.ds[k]))))) 9 (.f (iv ((j : Nat) : Int)))), (Ab.upd (fun _ => none) 0 (some (.box [.f (iv x.ds[k].fr.x), .f (iv x.ds[k].fr.y), .f (iv x.ds[k].fr.z), .f (iv x.ds[k].lo), .f (iv x.ds[k].hi)]))), 1⟩) (fun j => j ≤ 3 ∧ ∀ i, i < j → isP ((coL x.ds[k]).getD i 0)) (fun j => 3 - j) 0 (⟨Nat.zero_le _, fun j h => absurd h (Nat.not_lt_zero j)⟩) (gh_le ⟨le_upd rfl trivial (le_upd rfl trivial (le_upd rfl rfl (le_upd rfl trivial (le_upd rfl trivial (le_nil _))))), le_hupd rfl (fun x hx => by simp at hx; rcases hx with rfl | rfl | rfl | rfl | rfl <;> trivial) (le_h0 _ _)⟩)
    intro j ⟨hj3, hj⟩
    have hcl : (coL x.ds[k]).length = 3 := rfl
    by_cases hjc : j < (coL x.ds[k]).length
    · by_cases hp : isP (coL x.ds[k])[j]
      · have hp2 := hp
        unfold isP at hp2
        repeat (first
    | (apply s_a TY; exact rfl)
    | (apply s_t; exact rfl; (first | assumption | omega))
    | apply w_seq
    | apply w_region
    | apply s_nil
    | apply t_norm
    | apply k_norm
    | apply w_block
    | apply w_skip
    | (apply w_condT; exact rfl; exact rfl)
    | (apply w_condF; exact rfl; exact rfl)
    | (apply s_k1 (bwithin_T _ _ _); exact rfl; (first | assumption | omega | decide))
    | (apply s_c TY; exact rfl; (first | omega | exact ⟨by omega, by (first | with_reducible assumption | ((with_reducible apply dstsF_ne); omega) | ((with_reducible apply intsF_ne); omega) | ((with_reducible apply irngsF_ne); omega) | assumption)⟩))
    | (apply s_l TY; exact rfl; (first | exact rfl | with_reducible assumption | ((with_reducible apply dstsF_f0); omega) | ((with_reducible apply dstsF_f1); omega) | ((with_reducible apply dstsF_f2); omega) | ((with_reducible apply dstsF_f3); omega) | ((with_reducible apply dstsF_f4); omega) | ((with_reducible apply intsF_at); omega) | ((with_reducible apply irngsF_f0); omega) | ((with_reducible apply irngsF_f1); omega) | assumption)))
        exact ⟨j + 1, ⟨by omega, fun i hi => by
          by_cases e : i = j
          · subst e; rw [List.getD_eq_getElem?_getD, List.getElem?_eq_getElem hjc]; exact hp
          · exact hj i (by omega)⟩, by omega, gh_le ⟨le_upd rfl trivial (le_upd rfl trivial (le_upd rfl rfl (le_upd rfl trivial (le_upd rfl trivial (le_nil _))))), le_hupd rfl (fun x hx => by simp at hx; rcases hx with rfl | rfl | rfl | rfl | rfl <;> trivial) (le_h0 _ _)⟩⟩
      · rw [srE_4 hz h8 hc hd (by rw [dsE_co hjc hp]; decide), dsE_co hjc hp]
        unfold isP at hp
        repeat (first
    | (apply s_a TY; exact rfl)
    | (apply s_t; exact rfl; (first | assumption | omega))
    | apply w_seq
    | apply w_region
    | apply s_nil
    | apply t_norm
    | apply t_ret
    | apply k_ret
    | apply w_block
    | apply w_ret
    | apply w_skip
    | (apply w_condT; exact rfl; exact rfl)
    | (apply s_k1 (bwithin_F _ _ _); exact rfl; (first | assumption | omega | decide))
    | (apply s_c TY; exact rfl; (first | omega | exact ⟨by omega, by (first | with_reducible assumption | ((with_reducible apply dstsF_ne); omega) | ((with_reducible apply intsF_ne); omega) | ((with_reducible apply irngsF_ne); omega) | assumption)⟩))
    | (apply s_l TY; exact rfl; (first | exact rfl | with_reducible assumption | ((with_reducible apply dstsF_f0); omega) | ((with_reducible apply dstsF_f1); omega) | ((with_reducible apply dstsF_f2); omega) | ((with_reducible apply dstsF_f3); omega) | ((with_reducible apply dstsF_f4); omega) | ((with_reducible apply intsF_at); omega) | ((with_reducible apply irngsF_f0); omega) | ((with_reducible apply irngsF_f1); omega) | assumption)))
        exact lv_ret (ret1 rfl (res_tmp rfl))
    have hj4 : j = 3 := by omega
    subst hj4
    have hjj : ∀ i, i < 3 → isP ((coL x.ds[k]).getD i 0) := hj
    by_cases h4 : ¬ (0 ≤ x.ds[k].lo ∧ x.ds[k].lo ≤ 1000000000000)
    · have hv : dsE x.ds[k] = 2 := by rw [dsE_co0 hjj]; rw [if_pos h4]
      rw [srE_4 hz h8 hc hd (by rw [hv]; decide), hv]
      repeat (first
    | (apply s_a TY; exact rfl)
    | (apply s_f; exact rfl; (first | assumption | omega))
    | apply w_seq
    | apply w_region
    | apply s_nil
    | apply t_norm
    | apply t_exit
    | apply t_ret
    | apply k_hit
    | apply k_ret
    | apply w_exit
    | apply w_ret
    | (apply w_condT; exact rfl; exact rfl)
    | (apply w_condF; exact rfl; exact rfl)
    | (apply s_k1 (bwithin_F _ _ _); exact rfl; (first | assumption | omega | decide))
    | (apply s_s; exact rfl))
      exact lv_ret (ret1 rfl (res_tmp rfl))
    · by_cases h5 : ¬ (0 ≤ x.ds[k].hi ∧ x.ds[k].hi ≤ 1000000000000)
      · have hv : dsE x.ds[k] = 2 := by rw [dsE_co0 hjj]; rw [if_neg h4, if_pos h5]
        have h4b := Classical.not_not.1 h4
        rw [srE_4 hz h8 hc hd (by rw [hv]; decide), hv]
        repeat (first
    | (apply s_a TY; exact rfl)
    | (apply s_f; exact rfl; (first | assumption | omega))
    | apply w_seq
    | apply w_region
    | apply s_nil
    | apply t_norm
    | apply t_exit
    | apply t_ret
    | apply k_hit
    | apply k_ret
    | apply w_exit
    | apply w_ret
    | (apply w_condT; exact rfl; exact rfl)
    | (apply w_condF; exact rfl; exact rfl)
    | (apply s_k1 (bwithin_T _ _ _); exact rfl; (first | assumption | omega | decide))
    | (apply s_k1 (bwithin_F _ _ _); exact rfl; (first | assumption | omega | decide)))
        exact lv_ret (ret1 rfl (res_tmp rfl))
      · by_cases h6 : x.ds[k].hi < x.ds[k].lo
        · have hv : dsE x.ds[k] = 9 := by rw [dsE_co0 hjj]; rw [if_neg h4, if_neg h5, if_pos h6]
          have h4b := Classical.not_not.1 h4
          have h5b := Classical.not_not.1 h5
          rw [srE_4 hz h8 hc hd (by rw [hv]; decide), hv]
          repeat (first
    | (apply s_a TY; exact rfl)
    | (apply s_t; exact rfl; (first | assumption | omega))
    | (apply s_f; exact rfl; (first | assumption | omega))
    | apply w_seq
    | apply w_region
    | apply s_nil
    | apply t_norm
    | apply t_exit
    | apply t_ret
    | apply k_hit
    | apply k_ret
    | apply w_exit
    | apply w_ret
    | apply w_skip
    | (apply w_condT; exact rfl; exact rfl)
    | (apply w_condF; exact rfl; exact rfl)
    | (apply s_k1 (bwithin_T _ _ _); exact rfl; (first | assumption | omega | decide)))
          exact lv_ret (ret1 rfl (res_tmp rfl))
        · have hv : dsE x.ds[k] = 0 := by rw [dsE_co0 hjj]; rw [if_neg h4, if_neg h5, if_neg h6]
          have h4b := Classical.not_not.1 h4
          have h5b := Classical.not_not.1 h5
          repeat (first
    | (apply s_a TY; exact rfl)
    | (apply s_f; exact rfl; (first | assumption | omega))
    | apply w_seq
    | apply w_region
    | apply s_nil
    | apply t_norm
    | apply t_exit
    | apply k_hit
    | apply k_norm
    | apply w_exit
    | apply w_skip
    | (apply w_condF; exact rfl; exact rfl)
    | (apply s_k1 (bwithin_T _ _ _); exact rfl; (first | assumption | omega | decide))
    | (apply s_c TY; exact rfl; (first | omega | exact ⟨by omega, by (first | with_reducible assumption | ((with_reducible apply dstsF_ne); omega) | ((with_reducible apply intsF_ne); omega) | ((with_reducible apply irngsF_ne); omega) | assumption)⟩)))
          exact ⟨k + 1, ⟨by omega, fun i hi => by
            by_cases e : i = k
            · subst e; rw [getD_at hc]; exact hv
            · exact hd i (by omega)⟩, by omega, gh_le ⟨le_upd rfl trivial (le_upd rfl trivial (le_nil _)), le_h0 _ _⟩⟩
  · have hke : k = x.ds.length := by omega
    subst hke
    rw [srE_5 hz h8 hd]
    repeat (first
    | (apply s_a TY; exact rfl)
    | (apply s_f; exact rfl; (first | assumption | omega))
    | apply w_seq
    | apply w_region
    | apply s_nil
    | apply t_norm
    | apply t_exit
    | apply k_hit
    | apply w_exit
    | apply w_ret
    | (apply w_condF; exact rfl; exact rfl))
    exact lv_ret (ret1 rfl (res_tmp rfl))
end Go.Proofs.YtnmaabejdmaahaaGreatDoor
namespace Go.Proofs.YtnmaabejdmaahaaGreatDoor
open Go Go.RowKit Go.Proofs Go.Shelf Go.Ab
theorem CopySearch_s (x : Srch) (hl : x.ds.length ≤ 1000000) : Summ Tryz.prog GG 8 [srF x] (srF x) := by
  have hlen := dstsF_len x.ds
  refine summW Tryz.func8 rfl rfl 9 rfl (by simp) (fun M0 => ?_)
  repeat (first
    | (apply s_bslice_clip TY; exact rfl; exact rfl; exact rfl; exact rfl; exact rfl; exact rfl)
    | (apply s_append_copy TY; exact rfl; exact rfl; exact rfl; exact rfl; exact rfl; exact rfl; exact rfl; assumption; (unfold maxLen; omega); omega)
    | (apply s_boxw; exact rfl; exact rfl; exact rfl; exact rfl)
    | (apply s_a TY; exact rfl)
    | apply w_seq
    | apply w_region
    | apply s_nil
    | apply t_norm
    | apply w_ret
    | (apply s_alloc TY; exact rfl; exact rfl; exact rfl)
    | (apply s_store TY; exact rfl; exact rfl; exact rfl; exact rfl; exact rfl; exact rfl))
  exact lv_ret (ret1 rfl (res_bxs (sub := srL x) TY rfl rfl rfl rfl rfl))
set_option maxRecDepth 100000 in
set_option maxHeartbeats 3200000 in
theorem Fits_s (x : Srch) (p : Plc) (pv : PlOk p) (hl : x.ds.length ≤ 1000000) (hv : ∀ d ∈ x.ds, DsOk d) : Summ Tryz.prog GG 45 [srF x, .agg (plcF p)] (bv (fitL x.ds p)) := by
  refine summW Tryz.func45 rfl rfl 59 rfl (by simp) (fun M0 => ?_)
  repeat (first
    | (apply s_a TY; exact rfl)
    | apply w_seq
    | apply w_region
    | apply s_nil
    | apply t_norm
    | apply w_block)
  apply w_loop (fun k : Nat => ⟨(Ab.upd (Ab.upd (Ab.upd (fun _ => .bot) 2 (.f (.pt (srL x) 0))) 3 (.f (.pt (plcF p) 0))) 5 (.f (iv ((k : Nat) : Int)))), (fun _ => none), 0⟩) (fun k => k ≤ x.ds.length ∧ ∀ i, i < k → fitD p (x.ds.getD i default) = true) (fun k => x.ds.length - k) 0 (⟨Nat.zero_le _, fun j h => absurd h (Nat.not_lt_zero j)⟩) (gh_le ⟨le_upd rfl trivial (le_upd rfl trivial (le_upd rfl trivial (le_nil _))), le_h0 _ _⟩)
  intro k ⟨hk, hz⟩
  by_cases hc : k < x.ds.length
  · have ⟨a1, a2⟩ := pv.x; have ⟨a3, a4⟩ := pv.y; have ⟨a5, a6⟩ := pv.z
    have dv := hv _ (List.getElem_mem hc)
    have ⟨b1, b2⟩ := dv.x; have ⟨b3, b4⟩ := dv.y; have ⟨b5, b6⟩ := dv.z
    have q1 := sq_bd (a := p.x - x.ds[k].fr.x) (by omega)
    have q2 := sq_bd (a := p.y - x.ds[k].fr.y) (by omega)
    have q3 := sq_bd (a := p.z - x.ds[k].fr.z) (by omega)
    by_cases h : x.ds[k].lo ≤ sqD p x.ds[k].fr ∧ sqD p x.ds[k].fr ≤ x.ds[k].hi
    · have ht : fitD p x.ds[k] = true := decide_eq_true h
      unfold sqD at h
      repeat (first
    | (apply s_a TY; exact rfl)
    | (apply s_t; exact rfl; (first | assumption | omega))
    | apply w_seq
    | apply w_region
    | (apply w_draw (id := 5) 20 rfl (by kernel_rfl))
    | apply s_nil
    | apply t_norm
    | apply k_norm
    | apply w_block
    | apply w_skip
    | (apply w_condT; exact rfl; exact rfl)
    | (apply w_condF; exact rfl; exact rfl)
    | (apply s_k1 (bwithin_T _ _ _); exact rfl; (first | assumption | omega | decide))
    | (apply s_c TY; exact rfl; (first | omega | exact ⟨by omega, by (first | with_reducible assumption | ((with_reducible apply dstsF_ne); omega) | assumption)⟩))
    | (apply s_m TY; exact rfl; (first | with_reducible assumption | ((with_reducible apply dstsF_sub); omega) | exact rfl); exact rfl)
    | (apply s_alloc TY; exact rfl; exact rfl; exact rfl)
    | (apply s_store TY; exact rfl; exact rfl; exact rfl; exact rfl; exact rfl; exact rfl))
      exact ⟨k + 1, ⟨by omega, fun i hi => by
        by_cases e : i = k
        · subst e; rw [getD_at hc]; exact ht
        · exact hz i (by omega)⟩, by omega, gh_le ⟨le_upd rfl trivial (le_upd rfl trivial (le_upd rfl trivial (le_nil _))), le_h0 _ _⟩⟩
    · have ht : fitD p x.ds[k] = false := decide_eq_false h
      rw [show fitL x.ds p = false by
        cases hb : fitL x.ds p with
        | false => rfl
        | true => rw [List.all_eq_true.1 hb _ (List.getElem_mem hc)] at ht; cases ht]
      unfold sqD at h
      repeat (first
    | (apply s_a TY; exact rfl)
    | (apply s_t; exact rfl; (first | assumption | omega))
    | apply w_seq
    | apply w_region
    | (apply w_draw (id := 5) 20 rfl (by kernel_rfl))
    | apply s_nil
    | apply t_norm
    | apply t_ret
    | apply k_ret
    | apply w_block
    | apply w_ret
    | apply w_skip
    | (apply w_condT; exact rfl; exact rfl)
    | (apply s_k1 (bwithin_F _ _ _); exact rfl; (first | assumption | omega | decide))
    | (apply s_c TY; exact rfl; (first | omega | exact ⟨by omega, by (first | with_reducible assumption | ((with_reducible apply dstsF_ne); omega) | assumption)⟩))
    | (apply s_m TY; exact rfl; (first | with_reducible assumption | ((with_reducible apply dstsF_sub); omega) | exact rfl); exact rfl)
    | (apply s_alloc TY; exact rfl; exact rfl; exact rfl)
    | (apply s_store TY; exact rfl; exact rfl; exact rfl; exact rfl; exact rfl; exact rfl))
      exact lv_ret (ret1 rfl (res_tmp rfl))
  · have hke : k = x.ds.length := by omega
    subst hke
    rw [show fitL x.ds p = true by
      refine List.all_eq_true.2 fun d hd => ?_
      obtain ⟨i, hi, rfl⟩ := List.getElem_of_mem hd
      have := hz i hi
      rwa [getD_at hi] at this]
    repeat (first
    | (apply s_a TY; exact rfl)
    | (apply s_f; exact rfl; (first | assumption | omega))
    | apply w_seq
    | apply w_region
    | apply s_nil
    | apply t_norm
    | apply t_exit
    | apply k_hit
    | apply w_exit
    | apply w_ret
    | (apply w_condF; exact rfl; exact rfl))
    exact lv_ret (ret1 rfl (res_tmp rfl))
section
variable (F : Plc → Bool) (z0 y0 x0 : Int) (nx ny : Nat)
def sowX (y z : Int) (k : Nat) : List Plc := ((List.range k).map fun i : Nat => (⟨z, y, z0 + i⟩ : Plc)).filter F
def sowY (z : Int) (k : Nat) : List Plc := (List.range k).flatMap fun j : Nat => sowX F z0 (y0 + j) z nx
def sowZ (k : Nat) : List Plc := (List.range k).flatMap fun j : Nat => sowY F z0 y0 nx (x0 + j) ny
theorem sowX_succ (y z : Int) (k : Nat) : sowX F z0 y z (k + 1) = sowX F z0 y z k ++ (if F ⟨z, y, z0 + k⟩ = true then [⟨z, y, z0 + k⟩] else []) := by
  unfold sowX
  rw [List.range_succ, List.map_append, List.filter_append]
  congr 1
  cases h : F ⟨z, y, z0 + k⟩ <;> simp [h]
theorem sowY_succ (z : Int) (k : Nat) : sowY F z0 y0 nx z (k + 1) = sowY F z0 y0 nx z k ++ sowX F z0 (y0 + k) z nx := by
  unfold sowY
  rw [List.range_succ, List.flatMap_append]; simp
theorem sowZ_succ (k : Nat) : sowZ F z0 y0 x0 nx ny (k + 1) = sowZ F z0 y0 x0 nx ny k ++ sowY F z0 y0 nx (x0 + k) ny := by
  unfold sowZ
  rw [List.range_succ, List.flatMap_append]; simp
theorem sowX_len (y z : Int) (k : Nat) : (sowX F z0 y z k).length ≤ k := by
  unfold sowX
  exact Nat.le_trans (List.length_filter_le _ _) (by simp)
theorem sowY_len (z : Int) : ∀ k, (sowY F z0 y0 nx z k).length ≤ k * nx
  | 0 => by simp [sowY]
  | k + 1 => by
    have := sowY_len z k
    have := sowX_len F z0 (y0 + k) z nx
    rw [sowY_succ, List.length_append, Nat.succ_mul]; omega
theorem sowZ_len : ∀ k, (sowZ F z0 y0 x0 nx ny k).length ≤ k * (ny * nx)
  | 0 => by simp [sowZ]
  | k + 1 => by
    have := sowZ_len k
    have := sowY_len F z0 y0 nx (x0 + k) ny
    rw [sowZ_succ, List.length_append, Nat.succ_mul]; omega
end
theorem plcR_rows (F : Plc → Bool) (x0 x1 y0 y1 z0 z1 : Int) : plcR F x0 x1 y0 y1 z0 z1 = sowZ F z0 y0 x0 (z1 + 1 - z0).toNat (y1 + 1 - y0).toNat (x1 + 1 - x0).toNat := by
  unfold plcR sowZ sowY sowX upto
  rw [List.flatMap_map]
  congr 1
  funext c
  rw [List.flatMap_map]
  congr 1
  funext b
  rw [List.map_map]
  rfl
set_option maxRecDepth 100000 in
set_option maxHeartbeats 6400000 in
theorem Places_s (x : Srch) (v : SrOk x) : Summ Tryz.prog GG 10 [srF x] (.sl (plcL x).length (plcsF (plcL x))) := by
  have hl := v.n
  obtain ⟨⟨X1, X2⟩, ⟨X3, X4⟩, X5, X6⟩ := v.sx
  obtain ⟨⟨Y1, Y2⟩, ⟨Y3, Y4⟩, Y5, Y6⟩ := v.sy
  obtain ⟨⟨Z1, Z2⟩, ⟨Z3, Z4⟩, Z5, Z6⟩ := v.sz
  have hnx : (x.box.x1 + 1 - x.box.x0).toNat ≤ 21 := by omega
  have hny : (x.box.y1 + 1 - x.box.y0).toNat ≤ 21 := by omega
  have hnz : (x.box.z1 + 1 - x.box.z0).toNat ≤ 21 := by omega
  have hyx : (x.box.y1 + 1 - x.box.y0).toNat * (x.box.z1 + 1 - x.box.z0).toNat ≤ 21 * 21 := Nat.mul_le_mul hny hnz
  have hL : plcL x = sowZ (fitL x.ds) x.box.z0 x.box.y0 x.box.x0 (x.box.z1 + 1 - x.box.z0).toNat (x.box.y1 + 1 - x.box.y0).toNat (x.box.x1 + 1 - x.box.x0).toNat := plcR_rows _ _ _ _ _ _ _
  rw [hL]
  refine summW Tryz.func10 rfl rfl 56 rfl (by simp) (fun M0 => ?_)
  repeat (first
    | (apply s_a TY; exact rfl)
    | apply w_seq
    | apply w_region
    | apply s_nil
    | apply t_norm
    | apply w_block)
  apply w_gh (gh_own 3 85 3 rfl rfl)
  apply w_loop (fun c : Nat => ⟨(Ab.upd (Ab.upd (Ab.upd (fun _ => .bot) 1 (.f (.pt (srL x) 0))) 3 (.ow 0)) 4 (.f (iv (x.box.x0 + ((c : Nat) : Int))))), (Ab.upd (fun _ => none) 0 (some (.row 85 3 (sowZ (fitL x.ds) x.box.z0 x.box.y0 x.box.x0 (x.box.z1 + 1 - x.box.z0).toNat (x.box.y1 + 1 - x.box.y0).toNat c).length (plcsF (sowZ (fitL x.ds) x.box.z0 x.box.y0 x.box.x0 (x.box.z1 + 1 - x.box.z0).toNat (x.box.y1 + 1 - x.box.y0).toNat c))))), 1⟩) (fun c => c ≤ (x.box.x1 + 1 - x.box.x0).toNat) (fun c => (x.box.x1 + 1 - x.box.x0).toNat - c) 0 (Nat.zero_le _) (gh_le ⟨le_upd (congrArg (fun z => AV.f (iv z)) (by omega : x.box.x0 + ((0 : Nat) : Int) = x.box.x0)) trivial (le_upd rfl rfl (le_upd rfl trivial (le_nil _))), le_hupd rfl trivial (le_h0 _ _)⟩)
  intro c hcz
  have lz := sowZ_len (fitL x.ds) x.box.z0 x.box.y0 x.box.x0 (x.box.z1 + 1 - x.box.z0).toNat (x.box.y1 + 1 - x.box.y0).toNat c
  have lz2 : c * ((x.box.y1 + 1 - x.box.y0).toNat * (x.box.z1 + 1 - x.box.z0).toNat) ≤ 21 * (21 * 21) := Nat.mul_le_mul (by omega) hyx
  by_cases hc : c < (x.box.x1 + 1 - x.box.x0).toNat
  · repeat (first
    | (apply s_a TY; exact rfl)
    | (apply s_t; exact rfl; (first | assumption | omega))
    | apply w_seq
    | apply w_region
    | apply s_nil
    | apply t_norm
    | apply w_block
    | apply w_skip
    | (apply w_condT; exact rfl; exact rfl))
    apply w_loop (fun b : Nat => ⟨(Ab.upd (Ab.upd (Ab.upd (Ab.upd (fun _ => .bot) 1 (.f (.pt (srL x) 0))) 3 (.ow 0)) 4 (.f (iv (x.box.x0 + ((c : Nat) : Int))))) 5 (.f (iv (x.box.y0 + ((b : Nat) : Int))))), (Ab.upd (fun _ => none) 0 (some (.row 85 3 ((sowZ (fitL x.ds) x.box.z0 x.box.y0 x.box.x0 (x.box.z1 + 1 - x.box.z0).toNat (x.box.y1 + 1 - x.box.y0).toNat c) ++ (sowY (fitL x.ds) x.box.z0 x.box.y0 (x.box.z1 + 1 - x.box.z0).toNat (x.box.x0 + ((c : Nat) : Int)) b)).length (plcsF ((sowZ (fitL x.ds) x.box.z0 x.box.y0 x.box.x0 (x.box.z1 + 1 - x.box.z0).toNat (x.box.y1 + 1 - x.box.y0).toNat c) ++ (sowY (fitL x.ds) x.box.z0 x.box.y0 (x.box.z1 + 1 - x.box.z0).toNat (x.box.x0 + ((c : Nat) : Int)) b)))))), 1⟩) (fun b => b ≤ (x.box.y1 + 1 - x.box.y0).toNat) (fun b => (x.box.y1 + 1 - x.box.y0).toNat - b) 0 (Nat.zero_le _) (gh_le ⟨le_upd (congrArg (fun z => AV.f (iv z)) (by omega : x.box.y0 + ((0 : Nat) : Int) = x.box.y0)) trivial (le_upd rfl trivial (le_upd rfl rfl (le_upd rfl trivial (le_nil _)))), le_hupd (rowP2 (List.append_nil _).symm) trivial (le_h0 _ _)⟩)
    intro b hby
    have ly := sowY_len (fitL x.ds) x.box.z0 x.box.y0 (x.box.z1 + 1 - x.box.z0).toNat (x.box.x0 + ((c : Nat) : Int)) b
    have ly2 : b * (x.box.z1 + 1 - x.box.z0).toNat ≤ 21 * 21 := Nat.mul_le_mul (by omega) hnz
    by_cases hb : b < (x.box.y1 + 1 - x.box.y0).toNat
    · repeat (first
    | (apply s_a TY; exact rfl)
    | (apply s_t; exact rfl; (first | assumption | omega))
    | apply w_seq
    | apply w_region
    | apply s_nil
    | apply t_norm
    | apply w_block
    | apply w_skip
    | (apply w_condT; exact rfl; exact rfl))
      apply w_loop (fun a : Nat => ⟨(Ab.upd (Ab.upd (Ab.upd (Ab.upd (Ab.upd (fun _ => .bot) 1 (.f (.pt (srL x) 0))) 3 (.ow 0)) 4 (.f (iv (x.box.x0 + ((c : Nat) : Int))))) 5 (.f (iv (x.box.y0 + ((b : Nat) : Int))))) 6 (.f (iv (x.box.z0 + ((a : Nat) : Int))))), (Ab.upd (fun _ => none) 0 (some (.row 85 3 ((sowZ (fitL x.ds) x.box.z0 x.box.y0 x.box.x0 (x.box.z1 + 1 - x.box.z0).toNat (x.box.y1 + 1 - x.box.y0).toNat c) ++ (sowY (fitL x.ds) x.box.z0 x.box.y0 (x.box.z1 + 1 - x.box.z0).toNat (x.box.x0 + ((c : Nat) : Int)) b) ++ (sowX (fitL x.ds) x.box.z0 (x.box.y0 + ((b : Nat) : Int)) (x.box.x0 + ((c : Nat) : Int)) a)).length (plcsF ((sowZ (fitL x.ds) x.box.z0 x.box.y0 x.box.x0 (x.box.z1 + 1 - x.box.z0).toNat (x.box.y1 + 1 - x.box.y0).toNat c) ++ (sowY (fitL x.ds) x.box.z0 x.box.y0 (x.box.z1 + 1 - x.box.z0).toNat (x.box.x0 + ((c : Nat) : Int)) b) ++ (sowX (fitL x.ds) x.box.z0 (x.box.y0 + ((b : Nat) : Int)) (x.box.x0 + ((c : Nat) : Int)) a)))))), 1⟩) (fun a => a ≤ (x.box.z1 + 1 - x.box.z0).toNat) (fun a => (x.box.z1 + 1 - x.box.z0).toNat - a) 0 (Nat.zero_le _) (gh_le ⟨le_upd (congrArg (fun z => AV.f (iv z)) (by omega : x.box.z0 + ((0 : Nat) : Int) = x.box.z0)) trivial (le_upd rfl trivial (le_upd rfl trivial (le_upd rfl rfl (le_upd rfl trivial (le_nil _))))), le_hupd (rowP2 (List.append_nil _).symm) trivial (le_h0 _ _)⟩)
      intro a hax
      have lx := sowX_len (fitL x.ds) x.box.z0 (x.box.y0 + ((b : Nat) : Int)) (x.box.x0 + ((c : Nat) : Int)) a
      have ll : ((sowZ (fitL x.ds) x.box.z0 x.box.y0 x.box.x0 (x.box.z1 + 1 - x.box.z0).toNat (x.box.y1 + 1 - x.box.y0).toNat c) ++ (sowY (fitL x.ds) x.box.z0 x.box.y0 (x.box.z1 + 1 - x.box.z0).toNat (x.box.x0 + ((c : Nat) : Int)) b) ++ (sowX (fitL x.ds) x.box.z0 (x.box.y0 + ((b : Nat) : Int)) (x.box.x0 + ((c : Nat) : Int)) a)).length ≤ 21 * (21 * 21) + 21 * 21 + 21 := by rw [List.length_append, List.length_append]; omega
      by_cases ha : a < (x.box.z1 + 1 - x.box.z0).toNat
      · have HF := Fits_s x (⟨x.box.x0 + ((c : Nat) : Int), x.box.y0 + ((b : Nat) : Int), x.box.z0 + ((a : Nat) : Int)⟩ : Plc) ⟨⟨by simp only; omega, by simp only; omega⟩, ⟨by simp only; omega, by simp only; omega⟩, ⟨by simp only; omega, by simp only; omega⟩⟩ (by omega) v.ds
        have hs := sowX_succ (fitL x.ds) x.box.z0 (x.box.y0 + ((b : Nat) : Int)) (x.box.x0 + ((c : Nat) : Int)) a
        cases hf : fitL x.ds (⟨x.box.x0 + ((c : Nat) : Int), x.box.y0 + ((b : Nat) : Int), x.box.z0 + ((a : Nat) : Int)⟩ : Plc) with
        | true =>
          rw [hf] at HF
          rw [hf, if_pos rfl] at hs
          repeat (first
    | (apply s_append TY; exact rfl; exact rfl; exact rfl; exact rfl; exact rfl; exact rfl; exact rfl; exact rfl; exact rfl; (unfold maxLen; omega); omega)
    | (apply s_a TY; exact rfl)
    | (apply s_t; exact rfl; (first | assumption | omega))
    | apply w_seq
    | apply w_region
    | apply s_nil
    | apply t_norm
    | apply k_norm
    | apply w_block
    | apply w_skip
    | (apply w_condT; exact rfl; exact rfl)
    | (apply s_k (HF); exact rfl)
    | (apply s_c TY; exact rfl; omega)
    | (apply s_alloc TY; exact rfl; exact rfl; exact rfl)
    | (apply s_store TY; exact rfl; exact rfl; exact rfl; exact rfl; exact rfl; exact rfl))
          exact ⟨a + 1, by omega, by omega, gh_le ⟨le_upd (congrArg (fun z => AV.f (iv z)) (by omega : x.box.z0 + ((a + 1 : Nat) : Int) = x.box.z0 + ((a : Nat) : Int) + 1)) trivial (le_upd rfl trivial (le_upd rfl trivial (le_upd rfl rfl (le_upd rfl trivial (le_nil _))))), le_hupd (rowP3 (by rw [hs, ← List.append_assoc]; simp only [List.length_append, List.length_singleton]) (by rw [hs, ← List.append_assoc, plcsF_snoc]; rfl)) trivial (le_h0 _ _)⟩⟩
        | false =>
          rw [hf] at HF
          rw [hf, if_neg (by decide), List.append_nil] at hs
          repeat (first
    | (apply s_a TY; exact rfl)
    | (apply s_t; exact rfl; (first | assumption | omega))
    | apply w_seq
    | apply w_region
    | apply s_nil
    | apply t_norm
    | apply k_norm
    | apply w_block
    | apply w_skip
    | (apply w_condT; exact rfl; exact rfl)
    | (apply w_condF; exact rfl; exact rfl)
    | (apply s_k (HF); exact rfl)
    | (apply s_c TY; exact rfl; omega)
    | (apply s_alloc TY; exact rfl; exact rfl; exact rfl)
    | (apply s_store TY; exact rfl; exact rfl; exact rfl; exact rfl; exact rfl; exact rfl))
          exact ⟨a + 1, by omega, by omega, gh_le ⟨le_upd (congrArg (fun z => AV.f (iv z)) (by omega : x.box.z0 + ((a + 1 : Nat) : Int) = x.box.z0 + ((a : Nat) : Int) + 1)) trivial (le_upd rfl trivial (le_upd rfl trivial (le_upd rfl rfl (le_upd rfl trivial (le_nil _))))), le_hupd (rowP2 (by rw [hs])) trivial (le_h0 _ _)⟩⟩
      · have hke : a = (x.box.z1 + 1 - x.box.z0).toNat := by omega
        subst hke
        have hs := sowY_succ (fitL x.ds) x.box.z0 x.box.y0 (x.box.z1 + 1 - x.box.z0).toNat (x.box.x0 + ((c : Nat) : Int)) b
        repeat (first
    | (apply s_a TY; exact rfl)
    | (apply s_f; exact rfl; (first | assumption | omega))
    | apply w_seq
    | apply w_region
    | apply s_nil
    | apply t_norm
    | apply t_exit
    | apply k_hit
    | apply k_norm
    | apply w_exit
    | (apply w_condF; exact rfl; exact rfl)
    | (apply s_c TY; exact rfl; omega))
        exact ⟨b + 1, by omega, by omega, gh_le ⟨le_upd (congrArg (fun z => AV.f (iv z)) (by omega : x.box.y0 + ((b + 1 : Nat) : Int) = x.box.y0 + ((b : Nat) : Int) + 1)) trivial (le_upd rfl trivial (le_upd rfl rfl (le_upd rfl trivial (le_nil _)))), le_hupd (rowP2 (by rw [hs, ← List.append_assoc])) trivial (le_h0 _ _)⟩⟩
    · have hke : b = (x.box.y1 + 1 - x.box.y0).toNat := by omega
      subst hke
      have hs := sowZ_succ (fitL x.ds) x.box.z0 x.box.y0 x.box.x0 (x.box.z1 + 1 - x.box.z0).toNat (x.box.y1 + 1 - x.box.y0).toNat c
      repeat (first
    | (apply s_a TY; exact rfl)
    | (apply s_f; exact rfl; (first | assumption | omega))
    | apply w_seq
    | apply w_region
    | apply s_nil
    | apply t_norm
    | apply t_exit
    | apply k_hit
    | apply k_norm
    | apply w_exit
    | (apply w_condF; exact rfl; exact rfl)
    | (apply s_c TY; exact rfl; omega))
      exact ⟨c + 1, by omega, by omega, gh_le ⟨le_upd (congrArg (fun z => AV.f (iv z)) (by omega : x.box.x0 + ((c + 1 : Nat) : Int) = x.box.x0 + ((c : Nat) : Int) + 1)) trivial (le_upd rfl rfl (le_upd rfl trivial (le_nil _))), le_hupd (rowP2 (by rw [hs])) trivial (le_h0 _ _)⟩⟩
  · have hke : c = (x.box.x1 + 1 - x.box.x0).toNat := by omega
    subst hke
    repeat (first
    | (apply s_a TY; exact rfl)
    | (apply s_f; exact rfl; (first | assumption | omega))
    | apply w_seq
    | apply w_region
    | apply s_nil
    | apply t_norm
    | apply t_exit
    | apply k_hit
    | apply w_exit
    | apply w_ret
    | (apply w_condF; exact rfl; exact rfl))
    exact lv_ret (ret_gh (gh_row 0 rfl) (ret1 rfl (res_tmp rfl)))
theorem stood_plc : Tryz.prog.stoodInHeld 85 = false := by kernel_rfl
theorem fields_plc : Tryz.prog.fieldsOf 85 = #[{ name := "X", type := 3, offset := 0, embedded := false, tag := "", pkgPath := "", byteOffset := 0 }, { name := "Y", type := 3, offset := 1, embedded := false, tag := "", pkgPath := "", byteOffset := 8 }, { name := "Z", type := 3, offset := 2, embedded := false, tag := "", pkgPath := "", byteOffset := 16 }] := by kernel_rfl
theorem equalIn_plc (d : Nat) (a b : Plc) (W : World) : (Op.equalIn (d + 2) 85 (.agg #[.int .i64 a.x, .int .i64 a.y, .int .i64 a.z]) (.agg #[.int .i64 b.x, .int .i64 b.y, .int .i64 b.z])).run Tryz.prog W = .ok (decide (a = b)) W := by
  rw [run_equalIn_agg W (d + 1) 85 _ _ (by rw [fields_plc]; exact Tryz.underlying85) stood_plc, fields_plc]
  have e : decide (a = b) = (a.x == b.x && a.y == b.y && a.z == b.z) := by
    cases a; cases b; simp [Plc.mk.injEq]
    try simp [Bool.and_assoc]
    try rfl
  rw [e]
  cases h0 : a.x == b.x <;> cases h1 : a.y == b.y <;> cases h2 : a.z == b.z <;> simp [Op.eqFields, part, run_equalIn_int W d 3 _ _ _ _ Tryz.underlying3, h0, h1, h2]
theorem guard_plc : Tryz.prog.eqGuardType Tryz.prog.depth 85 = false := by kernel_rfl
theorem ne_plc {x y : Operand} {a b : Plc} {c : Bool} (h : decide (a = b) = !c) : ∀ w, (do eqGuard .neq 85 x y (.agg #[.int .i64 a.x, .int .i64 a.y, .int .i64 a.z]) (.agg #[.int .i64 b.x, .int .i64 b.y, .int .i64 b.z]); binOp .neq 85 (.agg #[.int .i64 a.x, .int .i64 a.y, .int .i64 a.z]) (.agg #[.int .i64 b.x, .int .i64 b.y, .int .i64 b.z]) : Sem Value).run Tryz.prog w = .ok (.bool c) w := fun w => by
  have h1 := equalIn_plc 9998 a b w
  rw [h] at h1
  first
  | (simp [eqGuard, run_neq_struct, h1]; done)
  | simp [eqGuard, guard_plc, run_neq_struct, h1]
theorem take_eq_succ {α : Type} {a b : List α} {k : Nat} (ha : k < a.length) (hb : k < b.length) (ht : a.take k = b.take k) (he : a[k] = b[k]) : a.take (k + 1) = b.take (k + 1) := by
  rw [List.take_succ_eq_append_getElem ha, List.take_succ_eq_append_getElem hb, ht, he]
theorem take_all_eq {α : Type} {a b : List α} {k : Nat} (hl : a.length = b.length) (hk : a.length ≤ k) (ht : a.take k = b.take k) : a = b := by
  rwa [List.take_of_length_le hk, List.take_of_length_le (by omega)] at ht
set_option maxRecDepth 100000 in
set_option maxHeartbeats 1600000 in
theorem SamePlaces_s (a b : List Plc) (ha : a.length ≤ 1000000) (_hb : b.length ≤ 1000000) : Summ Tryz.prog GG 11 [.sl a.length (plcsF a), .sl b.length (plcsF b)] (bv (decide (a = b))) := by
  by_cases hl : a.length = b.length
  · refine summW Tryz.func11 rfl rfl 26 rfl (by simp) (fun M0 => ?_)
    repeat (first
    | (apply s_a TY; exact rfl)
    | (apply s_t; exact rfl; (first | assumption | omega))
    | apply w_seq
    | apply w_region
    | apply s_nil
    | apply t_norm
    | apply w_block
    | apply w_skip
    | (apply w_condF; exact rfl; exact rfl))
    apply w_loop (fun k : Nat => ⟨(Ab.upd (Ab.upd (Ab.upd (fun _ => .bot) 0 (.f (.sl a.length (plcsF a)))) 1 (.f (.sl b.length (plcsF b)))) 5 (.f (iv (k : Nat)))), (fun _ => none), 0⟩) (fun k => k ≤ a.length ∧ a.take k = b.take k) (fun k => a.length - k) 0 (⟨Nat.zero_le _, by simp⟩) (gh_le ⟨le_upd rfl trivial (le_upd rfl trivial (le_upd rfl trivial (le_nil _))), le_h0 _ _⟩)
    intro k ⟨hk, ht⟩
    by_cases hc : k < a.length
    · have hcb : k < b.length := by omega
      by_cases he : a[k] = b[k]
      · have hd : decide (a[k] = b[k]) = !false := by simp [he]
        repeat (first
    | (apply s_bind; exact rfl; exact rfl; exact rfl; exact rfl; exact rfl; exact rfl; exact ne_plc (by assumption))
    | (apply s_a TY; exact rfl)
    | (apply s_t; exact rfl; (first | assumption | omega))
    | apply w_seq
    | apply w_region
    | (apply w_draw (id := 6) 8 rfl (by kernel_rfl))
    | apply s_nil
    | apply t_norm
    | apply k_norm
    | apply w_block
    | apply w_skip
    | (apply w_condT; exact rfl; exact rfl)
    | (apply w_condF; exact rfl; exact rfl)
    | (apply s_c TY; exact rfl; (first | omega | exact ⟨by omega, by (first | with_reducible assumption | ((with_reducible apply plcsF_ne); omega) | assumption)⟩))
    | (apply s_m TY; exact rfl; (first | with_reducible assumption | ((with_reducible apply plcsF_sub); omega) | exact rfl); exact rfl))
        exact ⟨k + 1, ⟨by omega, take_eq_succ hc hcb ht he⟩, by omega, gh_le ⟨le_upd rfl trivial (le_upd rfl trivial (le_upd rfl trivial (le_nil _))), le_h0 _ _⟩⟩
      · have hd : decide (a[k] = b[k]) = !true := by simp [he]
        have hne : ¬ a = b := fun e => he (by simp [e])
        rw [decide_eq_false hne]
        repeat (first
    | (apply s_bind; exact rfl; exact rfl; exact rfl; exact rfl; exact rfl; exact rfl; exact ne_plc (by assumption))
    | (apply s_a TY; exact rfl)
    | (apply s_t; exact rfl; (first | assumption | omega))
    | apply w_seq
    | apply w_region
    | (apply w_draw (id := 6) 8 rfl (by kernel_rfl))
    | apply s_nil
    | apply t_norm
    | apply t_ret
    | apply k_ret
    | apply w_block
    | apply w_ret
    | apply w_skip
    | (apply w_condT; exact rfl; exact rfl)
    | (apply s_c TY; exact rfl; (first | omega | exact ⟨by omega, by (first | with_reducible assumption | ((with_reducible apply plcsF_ne); omega) | assumption)⟩))
    | (apply s_m TY; exact rfl; (first | with_reducible assumption | ((with_reducible apply plcsF_sub); omega) | exact rfl); exact rfl))
        exact lv_ret (ret1 rfl (res_tmp rfl))
    · rw [decide_eq_true (take_all_eq hl (by omega) ht)]
      repeat (first
    | (apply s_a TY; exact rfl)
    | (apply s_f; exact rfl; (first | assumption | omega))
    | apply w_seq
    | apply w_region
    | apply s_nil
    | apply t_norm
    | apply t_exit
    | apply k_hit
    | apply w_exit
    | apply w_ret
    | (apply w_condF; exact rfl; exact rfl))
      exact lv_ret (ret1 rfl (res_tmp rfl))
  · have hne : ¬ a = b := fun e => hl (by rw [e])
    rw [decide_eq_false hne]
    refine summW Tryz.func11 rfl rfl 26 rfl (by simp) (fun M0 => ?_)
    repeat (first
    | (apply s_a TY; exact rfl)
    | (apply s_f; exact rfl; (first | assumption | omega))
    | apply w_seq
    | apply w_region
    | apply s_nil
    | apply t_norm
    | apply t_ret
    | apply w_ret
    | (apply w_condT; exact rfl; exact rfl))
    exact lv_ret (ret1 rfl (res_tmp rfl))
theorem hull_s (a b n : Int) : Summ Tryz.prog GG 46 [.agg [iv a, iv b], iv n] (.agg [iv (min a n), iv (max b n)]) := by
  refine summW Tryz.func46 rfl rfl 14 rfl (by simp) (fun M0 => ?_)
  repeat (first
    | (apply s_a TY; exact rfl)
    | apply w_seq
    | apply w_region
    | apply s_nil
    | apply t_norm
    | apply w_ret
    | (apply s_alloc TY; exact rfl; exact rfl; exact rfl)
    | (apply s_store TY; exact rfl; exact rfl; exact rfl; exact rfl; exact rfl; exact rfl))
  exact lv_ret (ret1 rfl (res_bxs (sub := [iv (min a n), iv (max b n)]) TY rfl rfl rfl rfl rfl))
set_option maxRecDepth 100000 in
set_option maxHeartbeats 3200000 in
theorem Box_s (l : List Plc) (h0 : 0 < l.length) (hl : l.length ≤ 1000000) : Summ Tryz.prog GG 12 [.sl l.length (plcsF l)] (boxF (boxK l l.length)) := by
  have hne0 : plcsF l ≠ [] := plcsF_ne h0
  have hz0 : ((plcsF l).drop (0 * 3)).take 3 = plcF l[0] := plcsF_sub h0
  have z1 := hulG_zero Plc.x h0
  have z2 := hulG_zero Plc.y h0
  have z3 := hulG_zero Plc.z h0
  refine summW Tryz.func12 rfl rfl 57 rfl (by simp) (fun M0 => ?_)
  repeat (first
    | (apply s_a TY; exact rfl)
    | apply w_seq
    | apply w_region
    | apply s_nil
    | apply t_norm
    | apply w_block
    | (apply s_c TY; exact rfl; (first | omega | exact ⟨by omega, by (first | with_reducible assumption | ((with_reducible apply plcsF_ne); omega) | assumption)⟩))
    | (apply s_m TY; exact rfl; (first | with_reducible assumption | ((with_reducible apply plcsF_sub); omega) | exact rfl); exact rfl)
    | (apply s_alloc TY; exact rfl; exact rfl; exact rfl)
    | (apply s_store TY; exact rfl; exact rfl; exact rfl; exact rfl; exact rfl; exact rfl))
  apply w_loop (fun k : Nat => ⟨(Ab.upd (Ab.upd (Ab.upd (Ab.upd (fun _ => .bot) 0 (.f (.sl l.length (plcsF l)))) 2 (.bx 0 0)) 4 (.bx 2 0)) 5 (.f (iv ((k : Nat) : Int)))), (Ab.upd (Ab.upd (Ab.upd (fun _ => none) 0 (some (.box [.f (iv 0), .f (iv 0), .f (iv 0), .f (iv 0), .f (iv 0), .f (iv 0)]))) 1 (some (.box [.f (iv l[0].x), .f (iv l[0].y), .f (iv l[0].z)]))) 2 (some (.box [.f (iv (boxK l k).x0), .f (iv (boxK l k).x1), .f (iv (boxK l k).y0), .f (iv (boxK l k).y1), .f (iv (boxK l k).z0), .f (iv (boxK l k).z1)]))), 3⟩) (fun k => k ≤ l.length) (fun k => l.length - k) 0 (Nat.zero_le _) (gh_le ⟨le_upd rfl trivial (le_upd rfl rfl (le_upd rfl rfl (le_upd rfl trivial (le_nil _)))), le_hupd (by unfold boxK; rw [z1, z2, z3]; rfl) (fun x hx => by simp at hx; rcases hx with rfl | rfl | rfl | rfl | rfl | rfl <;> trivial) (le_hupd rfl (fun x hx => by simp at hx; rcases hx with rfl | rfl | rfl <;> trivial) (le_hupd rfl (fun x hx => by simp at hx; rcases hx with rfl | rfl | rfl | rfl | rfl | rfl <;> trivial) (le_h0 _ _)))⟩)
  intro k hk
  by_cases hc : k < l.length
  · have s1 := hulG_succ Plc.x hc
    have s2 := hulG_succ Plc.y hc
    have s3 := hulG_succ Plc.z hc
    repeat (first
    | (apply s_a TY; exact rfl)
    | (apply s_t; exact rfl; (first | assumption | omega))
    | apply w_seq
    | apply w_region
    | (apply w_draw (id := 6) 23 rfl (by kernel_rfl))
    | apply s_nil
    | apply t_norm
    | apply k_norm
    | apply w_block
    | apply w_skip
    | (apply w_condT; exact rfl; exact rfl)
    | (apply s_k (hull_s _ _ _); exact rfl)
    | (apply s_c TY; exact rfl; (first | omega | exact ⟨by omega, by (first | with_reducible assumption | ((with_reducible apply plcsF_ne); omega) | assumption)⟩))
    | (apply s_l TY; exact rfl; (first | exact rfl | with_reducible assumption | ((with_reducible apply plcsF_f0); omega) | ((with_reducible apply plcsF_f1); omega) | ((with_reducible apply plcsF_f2); omega) | assumption))
    | (apply s_store TY; exact rfl; exact rfl; exact rfl; exact rfl; exact rfl; exact rfl))
    exact ⟨k + 1, by omega, by omega, gh_le ⟨le_upd rfl trivial (le_upd rfl rfl (le_upd rfl rfl (le_upd rfl trivial (le_nil _)))), le_hupd (by unfold boxK; rw [s1, s2, s3]; rfl) (fun x hx => by simp at hx; rcases hx with rfl | rfl | rfl | rfl | rfl | rfl <;> trivial) (le_hupd rfl (fun x hx => by simp at hx; rcases hx with rfl | rfl | rfl <;> trivial) (le_hupd rfl (fun x hx => by simp at hx; rcases hx with rfl | rfl | rfl | rfl | rfl | rfl <;> trivial) (le_h0 _ _)))⟩⟩
  · have hke : k = l.length := by omega
    subst hke
    repeat (first
    | (apply s_a TY; exact rfl)
    | (apply s_f; exact rfl; (first | assumption | omega))
    | apply w_seq
    | apply w_region
    | apply s_nil
    | apply t_norm
    | apply t_exit
    | apply k_hit
    | apply w_exit
    | apply w_ret
    | (apply w_condF; exact rfl; exact rfl)
    | (apply s_store TY; exact rfl; exact rfl; exact rfl; exact rfl; exact rfl; exact rfl))
    exact lv_ret (ret1 rfl (res_bxs (sub := boxL (boxK l l.length)) TY rfl rfl rfl rfl rfl))
theorem stood_irng : Tryz.prog.stoodInHeld 23 = false := by kernel_rfl
theorem fields_irng : Tryz.prog.fieldsOf 23 = #[{ name := "Lo", type := 3, offset := 0, embedded := false, tag := "", pkgPath := "", byteOffset := 0 }, { name := "Hi", type := 3, offset := 1, embedded := false, tag := "", pkgPath := "", byteOffset := 8 }] := by kernel_rfl
theorem equalIn_irng (d : Nat) (a0 a1 b0 b1 : Int) (W : World) : (Op.equalIn (d + 2) 23 (.agg #[.int .i64 a0, .int .i64 a1]) (.agg #[.int .i64 b0, .int .i64 b1])).run Tryz.prog W = .ok (a0 == b0 && a1 == b1) W := by
  rw [run_equalIn_agg W (d + 1) 23 _ _ (by rw [fields_irng]; exact Tryz.underlying23) stood_irng, fields_irng]
  cases h0 : a0 == b0 <;> cases h1 : a1 == b1 <;> simp [Op.eqFields, part, run_equalIn_int W d 3 _ _ _ _ Tryz.underlying3, Tryz.isAgg3, Tryz.sizeOf3, h0, h1]
theorem stood_box : Tryz.prog.stoodInHeld 25 = false := by kernel_rfl
theorem fields_box : Tryz.prog.fieldsOf 25 = #[{ name := "X", type := 23, offset := 0, embedded := false, tag := "", pkgPath := "", byteOffset := 0 }, { name := "Y", type := 23, offset := 2, embedded := false, tag := "", pkgPath := "", byteOffset := 16 }, { name := "Z", type := 23, offset := 4, embedded := false, tag := "", pkgPath := "", byteOffset := 32 }] := by kernel_rfl
set_option maxRecDepth 100000 in
theorem equalIn_box (d : Nat) (a b : Box) (W : World) : (Op.equalIn (d + 3) 25 (.agg #[.int .i64 a.x0, .int .i64 a.x1, .int .i64 a.y0, .int .i64 a.y1, .int .i64 a.z0, .int .i64 a.z1]) (.agg #[.int .i64 b.x0, .int .i64 b.x1, .int .i64 b.y0, .int .i64 b.y1, .int .i64 b.z0, .int .i64 b.z1])).run Tryz.prog W = .ok (decide (a = b)) W := by
  rw [run_equalIn_agg W (d + 2) 25 _ _ (by rw [fields_box]; exact Tryz.underlying25) stood_box, fields_box]
  have e : decide (a = b) = ((a.x0 == b.x0 && a.x1 == b.x1) && ((a.y0 == b.y0 && a.y1 == b.y1) && (a.z0 == b.z0 && a.z1 == b.z1))) := by
    cases a; cases b; simp [Box.mk.injEq]
    try simp [Bool.and_assoc]
    try rfl
  rw [e]
  have h1 := equalIn_irng d a.x0 a.x1 b.x0 b.x1 W
  have h2 := equalIn_irng d a.y0 a.y1 b.y0 b.y1 W
  have h3 := equalIn_irng d a.z0 a.z1 b.z0 b.z1 W
  cases e1 : (a.x0 == b.x0 && a.x1 == b.x1) <;> cases e2 : (a.y0 == b.y0 && a.y1 == b.y1) <;> cases e3 : (a.z0 == b.z0 && a.z1 == b.z1) <;> (rw [e1] at h1; rw [e2] at h2; rw [e3] at h3; simp [Op.eqFields, part, Tryz.isAgg23, Tryz.sizeOf23, h1]; try (simp [h2]); try (simp [h3]))
theorem guard_box : Tryz.prog.eqGuardType Tryz.prog.depth 25 = false := by kernel_rfl
theorem eq_box {x y : Operand} {a b : Box} {c : Bool} (h : decide (a = b) = c) : ∀ w, (do eqGuard .eql 25 x y (.agg #[.int .i64 a.x0, .int .i64 a.x1, .int .i64 a.y0, .int .i64 a.y1, .int .i64 a.z0, .int .i64 a.z1]) (.agg #[.int .i64 b.x0, .int .i64 b.x1, .int .i64 b.y0, .int .i64 b.y1, .int .i64 b.z0, .int .i64 b.z1]); binOp .eql 25 (.agg #[.int .i64 a.x0, .int .i64 a.x1, .int .i64 a.y0, .int .i64 a.y1, .int .i64 a.z0, .int .i64 a.z1]) (.agg #[.int .i64 b.x0, .int .i64 b.x1, .int .i64 b.y0, .int .i64 b.y1, .int .i64 b.z0, .int .i64 b.z1]) : Sem Value).run Tryz.prog w = .ok (.bool c) w := fun w => by
  have h1 := equalIn_box 9997 a b w
  rw [h] at h1
  first
  | (simp [eqGuard, run_eql_struct, h1]; done)
  | simp [eqGuard, guard_box, run_eql_struct, h1]
theorem ne_box {x y : Operand} {a b : Box} {c : Bool} (h : decide (a = b) = !c) : ∀ w, (do eqGuard .neq 25 x y (.agg #[.int .i64 a.x0, .int .i64 a.x1, .int .i64 a.y0, .int .i64 a.y1, .int .i64 a.z0, .int .i64 a.z1]) (.agg #[.int .i64 b.x0, .int .i64 b.x1, .int .i64 b.y0, .int .i64 b.y1, .int .i64 b.z0, .int .i64 b.z1]); binOp .neq 25 (.agg #[.int .i64 a.x0, .int .i64 a.x1, .int .i64 a.y0, .int .i64 a.y1, .int .i64 a.z0, .int .i64 a.z1]) (.agg #[.int .i64 b.x0, .int .i64 b.x1, .int .i64 b.y0, .int .i64 b.y1, .int .i64 b.z0, .int .i64 b.z1]) : Sem Value).run Tryz.prog w = .ok (.bool c) w := fun w => by
  have h1 := equalIn_box 9997 a b w
  rw [h] at h1
  first
  | (simp [eqGuard, run_neq_struct, h1]; done)
  | simp [eqGuard, guard_box, run_neq_struct, h1]
end Go.Proofs.YtnmaabejdmaahaaGreatDoor
namespace Go.Proofs.YtnmaabejdmaahaaGreatDoor
open Go Go.RowKit Go.Proofs Go.Shelf Go.Ab
theorem upJ {f : Nat} {a : List FV} {r : FV} (S : Summ Tryz.prog GG f a r) : Summ Tryz.prog Ice.GG f a r := ⟨S.enters, fun w M us h1 h2 h3 => S.call w M us h1 (fun g x e => by cases e) h3⟩
section
variable {F G : Plc → Bool} (z0 y0 x0 : Int) (nx ny : Nat)
theorem sowX_mono (h : ∀ p, F p = true → G p = true) (y z : Int) : ∀ k, (sowX F z0 y z k).length ≤ (sowX G z0 y z k).length
  | 0 => by simp [sowX]
  | k + 1 => by
    have := sowX_mono h y z k
    rw [sowX_succ, sowX_succ, List.length_append, List.length_append]
    by_cases hf : F ⟨z, y, z0 + k⟩ = true
    · rw [if_pos hf, if_pos (h _ hf)]; simp only [List.length_singleton]; omega
    · rw [if_neg hf]; simp only [List.length_nil]; omega
theorem sowY_mono (h : ∀ p, F p = true → G p = true) (z : Int) : ∀ k, (sowY F z0 y0 nx z k).length ≤ (sowY G z0 y0 nx z k).length
  | 0 => by simp [sowY]
  | k + 1 => by
    have := sowY_mono h z k
    have := sowX_mono z0 h (y0 + k) z nx
    rw [sowY_succ, sowY_succ, List.length_append, List.length_append]; omega
theorem sowZ_mono (h : ∀ p, F p = true → G p = true) : ∀ k, (sowZ F z0 y0 x0 nx ny k).length ≤ (sowZ G z0 y0 x0 nx ny k).length
  | 0 => by simp [sowZ]
  | k + 1 => by
    have := sowZ_mono h k
    have := sowY_mono z0 y0 nx h (x0 + k) ny
    rw [sowZ_succ, sowZ_succ, List.length_append, List.length_append]; omega
theorem sowX_full (h : ∀ p, F p = true) (y z : Int) : ∀ k, (sowX F z0 y z k).length = k
  | 0 => by simp [sowX]
  | k + 1 => by
    have := sowX_full h y z k
    rw [sowX_succ, List.length_append, if_pos (h _)]; simp only [List.length_singleton]; omega
theorem sowY_full (h : ∀ p, F p = true) (z : Int) : ∀ k, (sowY F z0 y0 nx z k).length = k * nx
  | 0 => by simp [sowY]
  | k + 1 => by
    have := sowY_full h z k
    have := sowX_full z0 h (y0 + k) z nx
    rw [sowY_succ, List.length_append, Nat.succ_mul]; omega
theorem sowZ_full (h : ∀ p, F p = true) : ∀ k, (sowZ F z0 y0 x0 nx ny k).length = k * (ny * nx)
  | 0 => by simp [sowZ]
  | k + 1 => by
    have := sowZ_full h k
    have := sowY_full z0 y0 nx h (x0 + k) ny
    rw [sowZ_succ, List.length_append, Nat.succ_mul]; omega
end
theorem plcL_rows (x : Srch) : plcL x = sowZ (fitL x.ds) x.box.z0 x.box.y0 x.box.x0 (x.box.z1 + 1 - x.box.z0).toNat (x.box.y1 + 1 - x.box.y0).toNat (x.box.x1 + 1 - x.box.x0).toNat := plcR_rows _ _ _ _ _ _ _
theorem plcL_len {x : Srch} (v : SrOk x) : (plcL x).length ≤ 10000 := by
  have h1 := v.sx.d
  have h2 := v.sy.d
  have h3 := v.sz.d
  have h := sowZ_len (fitL x.ds) x.box.z0 x.box.y0 x.box.x0 (x.box.z1 + 1 - x.box.z0).toNat (x.box.y1 + 1 - x.box.y0).toNat (x.box.x1 + 1 - x.box.x0).toNat
  have h4 : (x.box.y1 + 1 - x.box.y0).toNat * (x.box.z1 + 1 - x.box.z0).toNat ≤ 21 * 21 := Nat.mul_le_mul (by omega) (by omega)
  have h5 : (x.box.x1 + 1 - x.box.x0).toNat * ((x.box.y1 + 1 - x.box.y0).toNat * (x.box.z1 + 1 - x.box.z0).toNat) ≤ 21 * (21 * 21) := Nat.mul_le_mul (by omega) h4
  rw [plcL_rows]; omega
theorem plcL_fewer (b : Box) (d : Dst) (ds : List Dst) : (plcL ⟨b, d :: ds⟩).length ≤ (plcL ⟨b, ds⟩).length := by
  rw [plcL_rows, plcL_rows]
  refine sowZ_mono _ _ _ _ _ (fun q h => ?_) _
  unfold fitL at *
  rw [List.all_cons, Bool.and_eq_true] at h
  exact h.2
theorem plcL_all {x : Srch} (v : SrOk x) (h0 : x.ds = []) : ((plcL x).length : Int) = (x.box.x1 - x.box.x0 + 1) * (x.box.y1 - x.box.y0 + 1) * (x.box.z1 - x.box.z0 + 1) := by
  have h1 := v.sx.c
  have h2 := v.sy.c
  have h3 := v.sz.c
  rw [plcL_rows, sowZ_full _ _ _ _ _ (fun q => by rw [h0]; rfl)]
  rw [show x.box.x1 - x.box.x0 + 1 = (((x.box.x1 + 1 - x.box.x0).toNat : Nat) : Int) by omega, show x.box.y1 - x.box.y0 + 1 = (((x.box.y1 + 1 - x.box.y0).toNat : Nat) : Int) by omega, show x.box.z1 - x.box.z0 + 1 = (((x.box.z1 + 1 - x.box.z0).toNat : Nat) : Int) by omega]
  push_cast
  rw [Int.mul_assoc]
set_option maxRecDepth 100000 in
set_option maxHeartbeats 6400000 in
theorem IcePlaces_s (x : Srch) : Summ Tryz.prog Ice.GG 3 [srF x] (.v (.bool true)) := by
  have HA := Ice.awake_s
  by_cases h10 : 10 < x.ds.length
  · refine summW Tryz.func3 rfl rfl 177 rfl (by simp) (fun M0 => ?_)
    repeat (first
    | (apply s_a TY; exact rfl)
    | (apply s_t; exact rfl; (first | assumption | omega))
    | apply w_seq
    | apply w_region
    | apply s_nil
    | apply t_norm
    | apply t_ret
    | apply w_ret
    | apply w_skip
    | (apply w_condT; exact rfl; exact rfl)
    | (apply w_condF; exact rfl; exact rfl)
    | (apply s_k (HA); exact rfl))
    exact lv_ret (ret1 rfl (res_tmp rfl))
  have HE := upJ (SearchErr_s x (by omega))
  have HC := upJ (CopySearch_s x (by omega))
  by_cases he : srE x = 0
  case neg =>
    have HP := upJ (PlacesIn_err x (by omega) he)
    have HB := upJ (BoxOf_err x (by omega) he)
    refine summW Tryz.func3 rfl rfl 177 rfl (by simp) (fun M0 => ?_)
    repeat (first
    | (apply s_bind; exact rfl; exact rfl; exact rfl; exact rfl; exact rfl; exact rfl; exact eq_box (a := boxZ) (b := boxZ) (c := true) (by decide))
    | (apply s_a TY; exact rfl)
    | (apply s_t; exact rfl; (first | assumption | omega))
    | (apply s_f; exact rfl; (first | assumption | omega))
    | apply w_seq
    | apply w_region
    | apply s_nil
    | apply t_norm
    | apply t_ret
    | apply w_ret
    | apply w_skip
    | (apply w_condT; exact rfl; exact rfl)
    | (apply w_condF; exact rfl; exact rfl)
    | (apply s_k (HA); exact rfl)
    | (apply s_k (HE); exact rfl)
    | (apply s_k (HC); exact rfl)
    | (apply s_k (HP); exact rfl)
    | (apply s_k (HB); exact rfl)
    | (apply s_s; exact rfl)
    | (apply s_alloc TY; exact rfl; exact rfl; exact rfl)
    | (apply s_store TY; exact rfl; exact rfl; exact rfl; exact rfl; exact rfl; exact rfl))
    exact lv_ret (ret1 rfl (res_tmp rfl))
  have v := srE_zero.1 he
  rw [he] at HE
  have ⟨⟨X1, X2⟩, ⟨X3, X4⟩, X5, X6⟩ := v.sx
  have ⟨⟨Y1, Y2⟩, ⟨Y3, Y4⟩, Y5, Y6⟩ := v.sy
  have ⟨⟨Z1, Z2⟩, ⟨Z3, Z4⟩, Z5, Z6⟩ := v.sz
  by_cases g1 : 8 < x.box.x1 - x.box.x0
  · refine summW Tryz.func3 rfl rfl 177 rfl (by simp) (fun M0 => ?_)
    repeat (first
    | (apply s_a TY; exact rfl)
    | (apply s_t; exact rfl; (first | assumption | omega))
    | (apply s_f; exact rfl; (first | assumption | omega))
    | apply w_seq
    | apply w_region
    | apply s_nil
    | apply t_norm
    | apply t_ret
    | apply w_ret
    | apply w_skip
    | (apply w_condT; exact rfl; exact rfl)
    | (apply w_condF; exact rfl; exact rfl)
    | (apply s_k (HA); exact rfl)
    | (apply s_k (HE); exact rfl)
    | (apply s_s; exact rfl)
    | (apply s_c TY; exact rfl; omega))
    exact lv_ret (ret1 rfl (res_tmp rfl))
  by_cases g2 : 8 < x.box.y1 - x.box.y0
  · refine summW Tryz.func3 rfl rfl 177 rfl (by simp) (fun M0 => ?_)
    repeat (first
    | (apply s_a TY; exact rfl)
    | (apply s_t; exact rfl; (first | assumption | omega))
    | (apply s_f; exact rfl; (first | assumption | omega))
    | apply w_seq
    | apply w_region
    | apply s_nil
    | apply t_norm
    | apply t_ret
    | apply w_ret
    | apply w_skip
    | (apply w_condT; exact rfl; exact rfl)
    | (apply w_condF; exact rfl; exact rfl)
    | (apply s_k (HA); exact rfl)
    | (apply s_k (HE); exact rfl)
    | (apply s_s; exact rfl)
    | (apply s_c TY; exact rfl; omega))
    exact lv_ret (ret1 rfl (res_tmp rfl))
  by_cases g3 : 8 < x.box.z1 - x.box.z0
  · refine summW Tryz.func3 rfl rfl 177 rfl (by simp) (fun M0 => ?_)
    repeat (first
    | (apply s_a TY; exact rfl)
    | (apply s_t; exact rfl; (first | assumption | omega))
    | (apply s_f; exact rfl; (first | assumption | omega))
    | apply w_seq
    | apply w_region
    | apply s_nil
    | apply t_norm
    | apply t_ret
    | apply w_ret
    | apply w_skip
    | (apply w_condT; exact rfl; exact rfl)
    | (apply w_condF; exact rfl; exact rfl)
    | (apply s_k (HA); exact rfl)
    | (apply s_k (HE); exact rfl)
    | (apply s_c TY; exact rfl; omega))
    exact lv_ret (ret1 rfl (res_tmp rfl))
  have hln := plcL_len v
  have HP := upJ (PlacesIn_ok x v)
  have HW := upJ (Places_s x v)
  have HS := upJ (SamePlaces_s (plcL x) (plcL x) (by omega) (by omega))
  rw [decide_eq_true rfl] at HS
  by_cases h0 : plcL x = []
  · have HB := upJ (BoxOf_none x v h0)
    rw [h0] at HP HW HS
    have hn0 : (([] : List Plc).length : Int) = 0 := rfl
    refine summW Tryz.func3 rfl rfl 177 rfl (by simp) (fun M0 => ?_)
    repeat (first
    | (apply s_bind; exact rfl; exact rfl; exact rfl; exact rfl; exact rfl; exact rfl; exact eq_box (a := boxZ) (b := boxZ) (c := true) (by decide))
    | (apply s_a TY; exact rfl)
    | (apply s_t; exact rfl; (first | assumption | omega))
    | (apply s_f; exact rfl; (first | assumption | omega))
    | apply w_seq
    | apply w_region
    | apply s_nil
    | apply t_norm
    | apply t_ret
    | apply w_ret
    | apply w_skip
    | (apply w_condT; exact rfl; exact rfl)
    | (apply w_condF; exact rfl; exact rfl)
    | (apply s_k (HA); exact rfl)
    | (apply s_k (HE); exact rfl)
    | (apply s_k (HC); exact rfl)
    | (apply s_k (HP); exact rfl)
    | (apply s_k (HB); exact rfl)
    | (apply s_k (HW); exact rfl)
    | (apply s_k (HS); exact rfl)
    | (apply s_c TY; exact rfl; omega)
    | (apply s_alloc TY; exact rfl; exact rfl; exact rfl)
    | (apply s_store TY; exact rfl; exact rfl; exact rfl; exact rfl; exact rfl; exact rfl))
    exact lv_ret (ret1 rfl (res_tmp rfl))
  have hp : 0 < (plcL x).length := List.length_pos_iff.2 h0
  have HB := upJ (BoxOf_ok x v h0 (by omega))
  have HX := upJ (Box_s (plcL x) hp (by omega))
  by_cases hd : x.ds = []
  · have hd0 : x.ds.length = 0 := by rw [hd]; rfl
    have ha := plcL_all v hd
    have m1 : 0 ≤ (x.box.x1 - x.box.x0 + 1) * (x.box.y1 - x.box.y0 + 1) := Int.mul_nonneg (by omega) (by omega)
    have m2 : (x.box.x1 - x.box.x0 + 1) * (x.box.y1 - x.box.y0 + 1) ≤ 9 * 9 := Int.mul_le_mul (by omega) (by omega) (by omega) (by omega)
    refine summW Tryz.func3 rfl rfl 177 rfl (by simp) (fun M0 => ?_)
    repeat (first
    | (apply s_bind; exact rfl; exact rfl; exact rfl; exact rfl; exact rfl; exact rfl; exact ne_box (a := (boxK (plcL x) (plcL x).length)) (b := (boxK (plcL x) (plcL x).length)) (c := false) (by rw [decide_eq_true rfl]; rfl))
    | (apply s_a TY; exact rfl)
    | (apply s_t; exact rfl; (first | assumption | omega))
    | (apply s_f; exact rfl; (first | assumption | omega))
    | apply w_seq
    | apply w_region
    | (apply w_draw (id := 17) 6 rfl (by kernel_rfl))
    | apply s_nil
    | apply t_norm
    | apply t_ret
    | apply w_ret
    | apply w_skip
    | (apply w_condT; exact rfl; exact rfl)
    | (apply w_condF; exact rfl; exact rfl)
    | (apply s_k (HA); exact rfl)
    | (apply s_k (HE); exact rfl)
    | (apply s_k (HC); exact rfl)
    | (apply s_k (HP); exact rfl)
    | (apply s_k (HB); exact rfl)
    | (apply s_k (HW); exact rfl)
    | (apply s_k (HS); exact rfl)
    | (apply s_k (HX); exact rfl)
    | (apply s_c TY; exact rfl; omega)
    | (apply s_alloc TY; exact rfl; exact rfl; exact rfl)
    | (apply s_store TY; exact rfl; exact rfl; exact rfl; exact rfl; exact rfl; exact rfl))
    exact lv_ret (ret1 rfl (res_tmp rfl))
  obtain ⟨d, ds, hds⟩ := List.exists_cons_of_ne_nil hd
  have hdl : x.ds.length = ds.length + 1 := by rw [hds]; rfl
  have hv2 : SrOk ⟨x.box, ds⟩ := ⟨v.sx, v.sy, v.sz, by have := v.n; show ds.length ≤ 8; omega, fun q hq => v.ds q (by rw [hds]; exact List.mem_cons_of_mem _ hq)⟩
  have HP2 := upJ (PlacesIn_ok ⟨x.box, ds⟩ hv2)
  have hfw : (plcL x).length ≤ (plcL ⟨x.box, ds⟩).length := by
    have := plcL_fewer x.box d ds
    rwa [← hds] at this
  have hdr : (dstsF x.ds).drop (1 * 5) = dstsF ds := by rw [dstsF_drop, hds]; rfl
  have hdt : List.take (((x.ds.length : Int).toNat - Int.toNat 1) * 5) (List.drop (Int.toNat 1 * 5) (dstsF x.ds)) = dstsF ds := by
    show List.take ((x.ds.length - 1) * 5) (List.drop (1 * 5) (dstsF x.ds)) = _
    rw [hdr, List.take_of_length_le (by rw [dstsF_len, hdl]; exact Nat.le_refl _)]
  have hdn : (x.ds.length : Int).toNat - Int.toNat 1 = ds.length := by show x.ds.length - 1 = _; omega
  have hlen : (List.take (((x.ds.length : Int).toNat - Int.toNat 1) * 5) (List.drop (Int.toNat 1 * 5) (dstsF x.ds))).length = ((x.ds.length : Int).toNat - Int.toNat 1) * 5 := by rw [hdt, hdn, dstsF_len]
  have hsr : srF ⟨x.box, ds⟩ = .agg [iv x.box.x0, iv x.box.x1, iv x.box.y0, iv x.box.y1, iv x.box.z0, iv x.box.z1, .sl ((x.ds.length : Int).toNat - Int.toNat 1) (List.take (((x.ds.length : Int).toNat - Int.toNat 1) * 5) (List.drop (Int.toNat 1 * 5) (dstsF x.ds)))] := by rw [hdt, hdn]; rfl
  rw [hsr] at HP2
  refine summW Tryz.func3 rfl rfl 177 rfl (by simp) (fun M0 => ?_)
  repeat (first
    | (apply s_bslice_clip TY; exact rfl; exact rfl; exact rfl; exact rfl; exact rfl; exact rfl)
    | (apply s_append_copy TY; exact rfl; exact rfl; exact rfl; exact rfl; exact rfl; exact rfl; exact rfl; assumption; (unfold maxLen; omega); omega)
    | (apply s_bind; exact rfl; exact rfl; exact rfl; exact rfl; exact rfl; exact rfl; exact ne_box (a := (boxK (plcL x) (plcL x).length)) (b := (boxK (plcL x) (plcL x).length)) (c := false) (by rw [decide_eq_true rfl]; rfl))
    | (apply s_a TY; exact rfl)
    | (apply s_t; exact rfl; (first | assumption | omega))
    | (apply s_f; exact rfl; (first | assumption | omega))
    | apply w_seq
    | apply w_region
    | (apply w_draw (id := 17) 6 rfl (by kernel_rfl))
    | (apply w_draw (id := 21) 13 rfl (by kernel_rfl))
    | apply s_nil
    | apply t_norm
    | apply w_ret
    | apply w_skip
    | (apply w_condF; exact rfl; exact rfl)
    | (apply s_k (HA); exact rfl)
    | (apply s_k (HE); exact rfl)
    | (apply s_k (HC); exact rfl)
    | (apply s_k (HP); exact rfl)
    | (apply s_k (HB); exact rfl)
    | (apply s_k (HW); exact rfl)
    | (apply s_k (HS); exact rfl)
    | (apply s_k (HX); exact rfl)
    | (apply s_k (HP2); exact rfl)
    | (apply s_c TY; exact rfl; omega)
    | (apply s_alloc TY; exact rfl; exact rfl; exact rfl)
    | (apply s_store TY; exact rfl; exact rfl; exact rfl; exact rfl; exact rfl; exact rfl)
    | (apply s_slice TY; exact rfl; exact rfl; exact rfl; (first | exact rfl | exact ⟨_, rfl⟩); (first | exact rfl | exact ⟨_, rfl⟩); omega; omega; omega))
  exact lv_ret (ret1 rfl (res_tmp rfl))
end Go.Proofs.YtnmaabejdmaahaaGreatDoor
namespace Go.Ab
open Go Go.RowKit Go.Shelf Go.Proofs
def OpensFs (P : Program) (w : World) (fs : List Field) (off tot : Nat) {α : Type} (k : α → List FV) : Prop :=
  ∀ (H : Type) (enc : TypeId × Value → H) (base : Nat) (sp : Nat → Bool) (hd : Bool) (n : Nat) (cs : List Value), cs.length = off + tot → (∀ (i : Nat) (f : Field), fs[i]? = some f → ∃ x, DataW.trod enc P w base sp hd n f.type ((cs.drop f.offset).take (P.cellsOf f.type)) = some x) → ∃ a : α, RepL w (fun _ => False) (cs.drop off) (k a) ∧ ∀ u ∈ cs.drop off, u.oneCell'
section
variable {P : Program} {w : World}
theorem ofs_nil {off : Nat} : OpensFs P w [] off 0 (fun _ : Unit => []) := fun H enc base sp hd n cs hl _ => by
  rw [List.drop_eq_nil_of_le (by omega)]
  exact ⟨(), RepL.nil _ _, by simp⟩
theorem ofs_cons {f : Field} {fs : List Field} {off s tot : Nat} {α β : Type} {g : α → List FV} {k : β → List FV} (hc : P.cellsOf f.type = s) (ho : f.offset = off) (h : Opens P w f.type g) (hr : OpensFs P w fs (off + s) tot k) : OpensFs P w (f :: fs) off (s + tot) (fun p : α × β => g p.1 ++ k p.2) := fun H enc base sp hd n cs hl hx => by
  obtain ⟨x, hx0⟩ := hx 0 f rfl
  obtain ⟨a, r0, q0⟩ := h H enc base sp hd n _ _ hx0
  obtain ⟨b, r1, q1⟩ := hr H enc base sp hd n cs (by omega) (fun i f' hf => hx (i + 1) f' hf)
  rw [ho, hc] at r0 q0
  have hs : cs.drop off = (cs.drop off).take s ++ cs.drop (off + s) := by rw [← List.drop_drop, List.take_append_drop]
  refine ⟨(a, b), ?_, fun u hu => ?_⟩
  · rw [hs]; exact RepL.append r0 r1
  · rw [hs] at hu
    rcases List.mem_append.1 hu with h | h
    · exact q0 u h
    · exact q1 u h
theorem opens_st {T : TypeId} {fs : Array Field} {tot : Nat} {α : Type} {k : α → List FV} (ht : P.underlying T = some (.struct fs)) (ct : P.cellsOf T = tot) (h : OpensFs P w fs.toList 0 tot k) : Opens P w T k := fun H enc base sp hd fuel cs x hx => by
  obtain ⟨xs, n, _, _, hlen, hxl, hf⟩ := DataW.trod_struct ht hx
  have := h H enc base sp hd n cs (by rw [hlen, ct]; omega) (fun i f hi => by
    have hi' : fs[i]? = some f := by rw [← hi]; simp
    have e := hf i f hi'
    have hlt : i < xs.length := by
      rw [hxl]
      exact (Array.getElem?_eq_some_iff.1 hi').1
    rw [List.getElem?_eq_getElem hlt] at e
    exact ⟨_, e⟩)
  rwa [List.drop_zero] at this
end
end Go.Ab
namespace Go.Ab
open Go Go.RowKit
section
variable {P : Program} {w : World}
end
end Go.Ab
namespace Go.Ab
open Go Go.RowKit Go.Shelf Go.Proofs
section
variable {C : Ctx} {N : Nat} {st : St}
variable {ops : Array Oper} {pr : Bool} {K : St → Prop} {rest : List Oper} {d : Option Tmp} {T0 : TypeId} {pos : String} {af : Array Edge} {g : Option (Nat × Bool)}
end
end Go.Ab
namespace Go.Ab
open Go Go.RowKit Go.Shelf Go.Proofs
section
variable {C : Ctx} {N : Nat}
variable {Q : Exit → St → Prop} {st : St} {ops : Array Oper} {pr : Bool} {K : St → Prop} {rest : List Oper}
end
end Go.Ab
namespace Go.Ab
open Go Go.RowKit Go.Shelf Go.Proofs
section
variable {C : Ctx} {N : Nat}
variable {Q : Exit → St → Prop} {st : St} {ops : Array Oper} {pr : Bool} {K : St → Prop} {rest : List Oper} {d : Option Tmp} {T0 : TypeId} {pos : String} {af : Array Edge} {g : Option (Nat × Bool)}
end
end Go.Ab
namespace Go.Ab
open Go Go.RowKit Go.Shelf Go.Proofs
section
variable {C : Ctx} {N : Nat}
def GroOp (C : Ctx) (N : Nat) (o : Oper) (st : St) (i : Nat) (B : Blk) (d : Nat) : Prop := o.guard = none ∧ o.dst = some d ∧
  ∀ w0 a w st', Agree C o st st' → (∀ k, st'.h k = st.h k) → SimE C w0 N st' a w → ∀ K Q, (∀ v w', SimE C w0 N ((st'.grow i B).put (some d) (.ow i)) (a.put o.dst v) w' → K (a.put o.dst v) w') → o.wpIn (Fence.wr C.ro) 7 C.P a w K Q
def dstsB (l : List Oper) (s1 s2 : Nat → AV) (i : Nat) : Prop := match l with
  | [] => True
  | o :: l => (match o.dst with | some t => killA i (s1 t) = s2 t | none => True) ∧ dstsB l s1 s2 i
variable {l : List Oper} {n0 : Nat}
structure GD (C : Ctx) (N : Nat) (ops : Array Oper) (o : Oper) (mid : List Oper) (K : St → Prop) (st : St) : Prop where
  out : ∃ i B d, GroOp C N o st i B d ∧ Run C N ops true (fun st1 => Run C N ops true (fun st2 => (dstsB mid st1.s st2.s i ∧ st1.nx = st.nx ∧ st2.nx = st.nx) ∧ K st2) mid ((st.grow i B).put (some d) (.ow i))) mid st
structure KD (mid : List Oper) (i n : Nat) (K : St → Prop) (st1 st2 : St) : Prop where
  eqs : dstsB mid st1.s st2.s i
  nx1 : st1.nx = n
  nx2 : st2.nx = n
  out : K st2
end
end Go.Ab
namespace Go.Ab
open Go Go.RowKit Go.Shelf Go.Proofs
section
variable {C : Ctx} {N : Nat}
variable {l : List Oper} {n0 : Nat}
structure GE (C : Ctx) (N : Nat) (ops : Array Oper) (o : Oper) (all mid : List Oper) (K : St → Prop) (stE stA stP : St) : Prop where
  out : ∃ i B d, GroOp C N o stP i B d ∧ (∀ x ∈ o.op.operands.toList, stE.ev C x = stP.ev C x) ∧ (∀ k, stA.h k = stP.h k) ∧ Run C N ops true (fun stB => dstsB all stA.s stB.s i ∧ K stB) mid ((stP.grow i B).put (some d) (.ow i))
structure KE (all : List Oper) (i : Nat) (K : St → Prop) (stA stB : St) : Prop where
  eqs : dstsB all stA.s stB.s i
  out : K stB
end
end Go.Ab
namespace Go.Ab
open Go Go.RowKit Go.Shelf Go.Proofs
section
variable {C : Ctx} {N : Nat} {st : St} {ops : Array Oper} {pr : Bool} {K : St → Prop} {rest : List Oper}
end
end Go.Ab
namespace Go.Ab
open Go Go.RowKit Go.Shelf Go.Proofs
section
variable {C : Ctx} {N : Nat} {st : St}
def Hp (st st' : St) : Prop := ∀ i B, st.h i = some B → st'.h i = none ∨ ∃ B', st'.h i = some B' ∧ More B B'
def Sees (C : Ctx) (N : Nat) (st : St) (x : AV) (y : FV) : Prop := ∀ st', Hp st st' → ∀ w0 a w J, Sim C w0 N st' a w J → ∀ v, RepA C w st'.h J v x → RepF w C.M0 v y
theorem Hp.blk {st st' : St} {w0 : World} {a : Act} {w : World} {J : Nat → Value} (H : Hp st st') (S : Sim C w0 N st' a w J) {i : Nat} {B : Blk} (hi : st.h i = some B) (hl : (st'.h i).isSome = true) : RepB C w w0.heap.size st'.h J (J i) B := by
  rcases H i B hi with h | ⟨B', h, m⟩
  · rw [h] at hl; cases hl
  · exact m.rep (S.blk i B' h)
def SeesL (C : Ctx) (N : Nat) (st : St) : List AV → List FV → Prop
  | [], [] => True
  | x :: xs, y :: ys => Sees C N st x y ∧ SeesL C N st xs ys
  | _, _ => False
theorem SeesL.len : ∀ {xs : List AV} {ys : List FV}, SeesL C N st xs ys → xs.length = ys.length
  | [], [], _ => rfl
  | _ :: _, _ :: _, h => by simp [SeesL.len h.2]
  | [], _ :: _, h => h.elim
  | _ :: _, [], h => h.elim
theorem SeesL.at_ : ∀ {xs : List AV} {ys : List FV}, SeesL C N st xs ys → ∀ (k : Nat) (x : AV) (y : FV), xs[k]? = some x → ys[k]? = some y → Sees C N st x y
  | [], [], _, k, x, y, h, _ => by simp at h
  | x :: xs, y :: ys, h, k, x', y', h1, h2 => by
    cases k with
    | zero => simp at h1 h2; subst h1; subst h2; exact h.1
    | succ k => exact SeesL.at_ h.2 k x' y' (by simpa using h1) (by simpa using h2)
  | [], _ :: _, h, _, _, _, _, _ => h.elim
  | _ :: _, [], h, _, _, _, _, _ => h.elim
theorem SeesL.append : ∀ {xs xs' : List AV} {ys ys' : List FV}, SeesL C N st xs ys → SeesL C N st xs' ys' → SeesL C N st (xs ++ xs') (ys ++ ys')
  | [], _, [], _, _, k => k
  | _ :: _, _, _ :: _, _, h, k => ⟨h.1, SeesL.append h.2 k⟩
  | [], _, _ :: _, _, h, _ => h.elim
  | _ :: _, _, [], _, h, _ => h.elim
theorem SeesL.of : ∀ {xs : List AV} {ys : List FV}, xs.length = ys.length → (∀ (k : Nat) (x : AV) (y : FV), xs[k]? = some x → ys[k]? = some y → Sees C N st x y) → SeesL C N st xs ys
  | [], [], _, _ => trivial
  | x :: xs, y :: ys, hl, h => ⟨h 0 x y rfl rfl, SeesL.of (by simpa using hl) fun k x' y' h1 h2 => h (k + 1) x' y' (by simpa using h1) (by simpa using h2)⟩
  | [], _ :: _, hl, _ => by simp at hl
  | _ :: _, [], hl, _ => by simp at hl
variable {ops : Array Oper} {pr : Bool} {K : St → Prop} {rest : List Oper} {d : Option Tmp} {T0 : TypeId} {pos : String} {af : Array Edge} {gd : Option (Nat × Bool)}
end
end Go.Ab
namespace Go.Ab
open Go Go.RowKit Go.Shelf Go.Proofs
section
variable {C : Ctx} {N : Nat} {st : St}
variable {ops : Array Oper} {pr : Bool} {K : St → Prop} {rest : List Oper} {d : Option Tmp} {T0 : TypeId} {pos : String} {af : Array Edge} {g : Option (Nat × Bool)}
end
end Go.Ab
namespace Go.Ab
open Go Go.RowKit Go.Shelf Go.Proofs
section
variable {C : Ctx} {N : Nat}
variable {ops : Array Oper} {pr : Bool} {K : St → Prop} {rest : List Oper} {d : Option Tmp} {T0 : TypeId} {pos : String} {af : Array Edge} {gd : Option (Nat × Bool)} {st : St}
end
end Go.Ab
namespace Go.Proofs.YtnmaabejdmaahaaGreatDoor
open Go Go.Ab Go.ChangeShapes Go.WideShapes Go.ChangeAt Go.RowKit
theorem ownKnobT : ownKnob Tryz.prog.godebug = none := by kernel_rfl
theorem laidOutT : laidOutB Tryz.prog = true := by kernel_rfl
theorem trodAll_stays {H : Type} {enc : TypeId × Value → H} {W W' : World} {sp : Nat → Bool} (hb : Below W.heap.size W W') : ∀ {ts : List TypeId} {vs : List Value} {ds : List (DataW H)} {ps : List MemPlace}, (∀ t ∈ ts, Tryz.prog.readableRec t = true ∧ t < Tryz.prog.types.size) → DataW.TrodAll enc Tryz.prog W 0 (fun _ => true) true ts vs ds ps → (∀ p ∈ ps, p.block < W.heap.size) → (∀ p ∈ ps, sp p.block = true) → DataW.TrodAll enc Tryz.prog W' 0 sp true ts vs ds ps
  | [], [], [], _, _, h, _, _ => h
  | t :: ts, v :: vs, d :: ds, ps, ht, ⟨p, q, h1, h2, e⟩, hlt, hsp => by
    have hp : ∀ x ∈ p, x ∈ ps := fun x hx => by rw [e]; exact List.mem_append_left _ hx
    have hq : ∀ x ∈ q, x ∈ ps := fun x hx => by rw [e]; exact List.mem_append_right _ hx
    exact ⟨p, q, WideElems.Trod_stays laidOutT (ht t (by simp)).1 (ht t (by simp)).2 h1 (fun x hx => hb.same (hlt x (hp x hx))) (fun x hx => hsp x (hp x hx)),
      trodAll_stays hb (fun u hu => ht u (by simp [hu])) h2 (fun x hx => hlt x (hq x hx)) (fun x hx => hsp x (hq x hx)), e⟩
theorem post_law {H : Type} {enc : TypeId × Value → H} {f : Func} {s : ChangeSpec} {W W' : World} {args : Array Value} {ds gs : List (DataW H)} {before : List MemPlace}
    (hW : DataW.Whole enc Tryz.prog f.params.toList s.vars false W args.toList ds gs before) (hv : s.vars = []) (hr : f.resultTypes = #[4])
    (ht : ∀ t ∈ f.params.toList, Tryz.prog.readableRec t = true ∧ t < Tryz.prog.types.size)
    (hres : (s.fn H (ds ++ gs)).results = [.lit (.bool true)]) (hargs : (s.fn H (ds ++ gs)).args = ds) (hvs : (s.fn H (ds ++ gs)).vars = [])
    (hb : Below W.heap.size W W') : s.post enc Tryz.prog f false true false false W args (.bool true) W' := by
  have hlt := hW.lt
  have hW0 := hW
  obtain ⟨p, q, h1, h2, e, hz, hn⟩ := hW
  have h2' := h2
  rw [hv] at h2'
  have hq : gs = [] ∧ q = [] := by
    cases gs with
    | nil => exact ⟨rfl, h2'⟩
    | cons g r => exact absurd h2' (by intro h; cases h)
  obtain ⟨rfl, rfl⟩ := hq
  rw [List.append_nil] at e
  subst e
  refine ⟨ds, [], before, [], before, [], hW0, ?_, ?_, ?_, Below.frame hb _, fun h => by cases h⟩
  · rw [hr, hres]; exact trodAll_mk1 (shut_bool Tryz.underlying4 true)
  · rw [hargs]
    exact trodAll_stays hb ht h1 hlt (fun x hx => by simpa using hlt x hx)
  · rw [hv, hvs]; rfl
section
variable {W : World}
theorem opens_i : Opens Tryz.prog W 3 (fun z : Int => [iv z]) := opens_int Tryz.underlying3
theorem opens_plc : Opens Tryz.prog W 85 plcF := (opens_st Tryz.underlying85 (by kernel_rfl) (ofs_cons (s := 1) (by kernel_rfl) rfl opens_i (ofs_cons (s := 1) (by kernel_rfl) rfl opens_i (ofs_cons (s := 1) (by kernel_rfl) rfl opens_i (ofs_nil))))).map (fun p => ⟨p.1, p.2.1, p.2.2.1⟩) fun _ => rfl
theorem opens_irng : Opens Tryz.prog W 23 irngF := (opens_st Tryz.underlying23 (by kernel_rfl) (ofs_cons (s := 1) (by kernel_rfl) rfl opens_i (ofs_cons (s := 1) (by kernel_rfl) rfl opens_i (ofs_nil)))).map (fun p => ⟨p.1, p.2.1⟩) fun _ => rfl
theorem opens_dst : Opens Tryz.prog W 87 dstF := (opens_st Tryz.underlying87 (by kernel_rfl) (ofs_cons (s := 3) (by kernel_rfl) rfl opens_plc (ofs_cons (s := 2) (by kernel_rfl) rfl opens_irng (ofs_nil)))).map (fun p => ⟨p.1, p.2.1.lo, p.2.1.hi⟩) fun _ => rfl
theorem opens_dsts : Opens Tryz.prog W 26 (fun l : List Dst => [.sl l.length (dstsF l)]) := opens_sl (s := 5) Tryz.underlying26 (by kernel_rfl) (by decide) opens_dst
theorem opens_box : Opens Tryz.prog W 25 boxL := (opens_st Tryz.underlying25 (by kernel_rfl) (ofs_cons (s := 2) (by kernel_rfl) rfl opens_irng (ofs_cons (s := 2) (by kernel_rfl) rfl opens_irng (ofs_cons (s := 2) (by kernel_rfl) rfl opens_irng (ofs_nil))))).map (fun p => ⟨p.1.lo, p.1.hi, p.2.1.lo, p.2.1.hi, p.2.2.1.lo, p.2.2.1.hi⟩) fun _ => rfl
theorem opens_srch : Opens Tryz.prog W 28 srL := (opens_st Tryz.underlying28 (by kernel_rfl) (ofs_cons (s := 6) (by kernel_rfl) rfl opens_box (ofs_cons (s := 1) (by kernel_rfl) rfl opens_dsts (ofs_nil)))).map (fun p => ⟨p.1, p.2.1⟩) fun _ => rfl
end
set_option maxRecDepth 100000 in
theorem arg_st {H : Type} {enc : TypeId × Value → H} {W : World} {base : Nat} {T : TypeId} {fs : Array Field} {α : Type} {f : α → List FV} {v : Value} {d : DataW H} {ps : List MemPlace} (h : Opens Tryz.prog W T f) (ht : Tryz.prog.underlying T = some (.struct fs)) (hv : Value.okWide Tryz.prog W .any base T v) (hd : DataW.Trod enc Tryz.prog W 0 (fun _ => true) true T v d ps) : ∃ a, RepF W (fun _ => False) v (.agg (f a)) := by
  obtain ⟨cs, e, _⟩ := okWide_struct ht hv
  exact arg_agg h e hd
end Go.Proofs.YtnmaabejdmaahaaGreatDoor
