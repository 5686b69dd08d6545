/- Laws on which the proofs of this seat stand. No condition. -/
import Derived.Test.YtbkdjlahhcofmaaGreatDoorAlStrings4
import Derived.Lib.ItoaLen
import Derived.DataShut
import Derived.Test.YtbkdjlahhcofmaaGreatDoorRows
import Derived.WalkKit
import Derived.ProofKit
import Derived.OpenShut
import Derived.Stop.Joined
namespace Go.Proofs.YtbkdjlahhcofmaaGreatDoor
open Go.Proofs Go.Shelf
def delS_ren : Go.Shelf.Ren := ⟨fun | 45 => 303 | n => n, fun | 22 => 86 | 23 => 9 | 3 => 3 | 4 => 4 | 0 => 0 | n => n, fun | n => n⟩
theorem delS : Go.Proofs.SlLaysE.n45 Tryz.prog delS_ren := {
  mixed := by kernel_rfl
  f45 := ⟨Tryz.f303.name, by decide, Tryz.func303.trans (congrArg some (by kernel_rfl))⟩
  t0 := Tryz.underlying0
  a0 := Tryz.isAgg0
  z0 := Tryz.sizeOf0
  v0 := Tryz.zeroValue0
  t3 := Tryz.underlying3
  a3 := Tryz.isAgg3
  z3 := Tryz.sizeOf3
  v3 := Tryz.zeroValue3
  t4 := Tryz.underlying4
  a4 := Tryz.isAgg4
  z4 := Tryz.sizeOf4
  v4 := Tryz.zeroValue4
  t22 := Tryz.underlying86
  a22 := Tryz.isAgg86
  z22 := Tryz.sizeOf86
  v22 := Tryz.zeroValue86
  a23 := Tryz.isAgg9
  z23 := Tryz.sizeOf9 }
open Go Go.RowKit Go.Proofs Go.Shelf Go.Ab
theorem zeroS (w : World) : (zeroValue 9).run Tryz.prog w = .ok (encStr []) w := by kernel_rfl
theorem infoS : ∃ i0, (Tryz.prog).info? 9 = some i0 ∧ i0.size = 1 := by
  have h : ((Tryz.prog).info? 9).map (·.size) = some 1 := by kernel_rfl
  obtain ⟨i0, h1, h2⟩ := Option.map_eq_some_iff.1 h
  exact ⟨i0, h1, h2⟩
def pplDel (ppl : List Nm) (i : Nat) : List Nm := ppl.take i ++ ppl.drop (i + 1)
theorem delete_g (ppl : List Nm) (i : Nat) (hi : i < ppl.length) : SummG Tryz.prog GG 303 [.row 9 1 ppl.length (strsF ppl)] [.ow 0, .f (iv ((i : Nat) : Int)), .f (iv (((i : Nat) : Int) + 1))] (.ow 0) [.row 9 1 (pplDel ppl i).length (strsF (pplDel ppl i))] := by
  obtain ⟨i0, h1, h2⟩ := infoS
  exact deleteG (enc := encStr) (fun _ => rfl) [] (enters_of Tryz.func303 (by kernel_rfl) rfl) (fun blk off cap i j d w hH a b c e => AnyE.slices_Delete delS encStr (fun _ => rfl) [] zeroS i0 h1 h2 blk off cap i j d w hH a b c e) ppl (by omega) 9 (i := i) (j := i + 1) rfl (by omega) (by omega) (by unfold pplDel; simp; omega) (strsF_enc _) (strsF_enc _)
theorem killsA_ow {i k : Nat} (h : k ≠ i) : killsA [i] (.ow k) = .ow k := by
  show AV.ofC (bif (bif Nat.beq k i then true else false) then none else some (Cap.ow k)) = _
  rw [beqF h]; rfl
theorem killsA_bx {i k o : Nat} (h : k ≠ i) : killsA [i] (.bx k o) = .bx k o := by
  show AV.ofC (bif (bif Nat.beq k i then true else false) then none else some (Cap.bx k o)) = _
  rw [beqF h]; rfl
theorem killsA_fv (i : Nat) (x : FV) : killsA [i] (.f x) = .f x := rfl
theorem HX_kills {al : List Alt} {q i d : Nat} {B : Blk} (hd : d < 5) (h : HX al q i = some B) : killsB [d] B = B := by
  obtain ⟨j, a, _, _, _, ⟨_, rfl⟩ | ⟨_, rfl⟩⟩ := HX_some h
  · rfl
  · show Blk.box ((bxC (2 * j + 5) a).map (killsA [d])) = _
    simp only [bxC, List.map_cons, List.map_nil, killsA_fv, killsA_ow (show 2 * j + 5 ≠ d by omega)]
theorem PT_kills (al : List Alt) (q : Nat) {d : Nat} (hd : d < 4) : (PT al q).map (killsA [d]) = PT al q := by
  refine (List.map_congr_left fun x hx => ?_).trans (List.map_id _)
  rcases PT_mem hx with ⟨rfl, _⟩ | ⟨j, _, _, rfl⟩
  · exact killsA_bx (by omega)
  · exact killsA_bx (by omega)
theorem mv_o0 (k : Nat) : mvA (2 * k + 6) 4 (mvA (2 * k + 5) 3 (.bx 0 0)) = .bx 0 0 := by rw [mvA_bx, if_neg (by omega), mvA_bx, if_neg (by omega)]
theorem mv_ok (k : Nat) : mvA (2 * k + 6) 4 (mvA (2 * k + 5) 3 (.bx (2 * k + 6) 0)) = .bx 4 0 := by rw [mvA_bx, if_neg (by omega), mvA_bx, if_pos rfl]
set_option maxRecDepth 100000 in
set_option maxHeartbeats 3200000 in
theorem act1_h (cs : List Cel) (ppl : List Nm) (al : List Alt) (hl : al.length ≤ 400) (hcs : cs.length ≤ 1000) (n : Nm) (hnl : n.length ≤ 1000) (hn : nameB n = true) (hp : ppl.length ≤ 1000) (i : Nat) (hi : idxP ppl.length (hasS ppl n) = ((i : Nat) : Int)) (hip : i < ppl.length) {r : AV} (HF : SummH Tryz.prog GG 150 (HB cs ppl al) [.bx 0 0, .f (sv n)] r (HB cs ppl al)) : SummH Tryz.prog GG 234 (HB cs ppl al) [.bx 0 0, .f (.agg [iv 1, sv n, .sl 0 []])] (.f (.tup [.v (.slice none 0 0), iv 0])) (HB cs (pplDel ppl i) al) := by
  have HN := isName_s n (by omega)
  rw [hn] at HN
  have HC := cellsErr_s cs [] (by simp) (by omega)
  rw [celsE_nil] at HC
  have HH := hasCells_s 1
  rw [show hasCB 1 = false from rfl] at HH
  have HI := IndexS_s ppl n (by omega)
  rw [hi] at HI
  refine summH_of 1000 Tryz.func234 rfl rfl 145 rfl (by simp) ⟨_, _, rfl, rfl, rfl, rfl⟩ (HB_cl _ _ _ (by omega)) (fun M X J => ?_)
  repeat (first
    | (refine s_callH HF (fun _ => rfl) (fun i q h => (pin0_some h).1) rfl rfl rfl ⟨rfl, trivial, trivial⟩ (fun i B h => h) (fun i h _ => h) ?_; refine s_ghost rfl (st' := ⟨(Ab.upd (Ab.upd (Ab.upd (fun _ => .bot) 0 (.bx 0 0)) 3 (.f (.pt [iv 1, sv n, .sl 0 []] 0))) 45 (.f (iv ((i : Nat) : Int)))), HB cs ppl al, 1000⟩) (gh_le ⟨le_upd rfl trivial (le_upd rfl trivial (le_upd rfl rfl (le_nil _))), le_base (HB_cl cs ppl al (by omega)) (fun i B h => join_h h)⟩) ?_)
    | (refine s_callS HI (fun _ => rfl) rfl rfl rfl ⟨sees_row rfl, sees_f _, trivial⟩ ?_)
    | (apply s_callG [1] (delete_g ppl i hip); exact rfl; exact rfl; exact rfl; exact ⟨rfl, trivial⟩; exact rfl; exact ⟨rfl, rfl⟩)
    | (apply s_bind; exact rfl; exact rfl; exact rfl; exact rfl; exact rfl; exact rfl; exact eqb_t (by first | rfl | assumption))
    | (apply s_o TY; exact rfl)
    | (apply s_nilCheck; exact rfl; exact rfl; exact rfl)
    | (apply s_a TY; exact rfl)
    | (apply s_t; exact rfl; (first | assumption | omega))
    | (apply s_f; exact rfl; (first | assumption | omega))
    | apply w_seq
    | apply w_region
    | (apply w_draw (id := 1) 22 rfl (by kernel_rfl))
    | (apply w_draw (id := 4) 10 rfl (by kernel_rfl))
    | apply s_nil
    | apply t_norm
    | apply t_ret
    | apply k_ret
    | apply w_block
    | apply w_ret
    | apply w_skip
    | (apply w_condT; exact rfl; exact rfl)
    | (apply w_condF; exact rfl; exact rfl)
    | (apply s_k (HN); exact rfl)
    | (apply s_k (HC); exact rfl)
    | (apply s_k (HH); exact rfl)
    | (apply s_k1 (first4_3 _ _ _ _); exact rfl; (first | assumption | omega | decide))
    | (apply s_k (unless_T _); exact rfl)
    | (apply s_k1 (within_T _ _ _); exact rfl; (first | assumption | omega | decide))
    | (apply s_c TY; exact rfl; omega)
    | (apply s_store TY; exact rfl; exact rfl; exact rfl; exact rfl; exact rfl; exact rfl))
  refine lvH_ret (s := Ab.upd (Ab.upd (fun _ => .bot) 4 (.f (.v (.slice none 0 0)))) 5 (.f (iv 0))) (nx := 1000) ?_ ?_
  · exact gh_le ⟨le_upd rfl trivial (le_upd rfl trivial (le_nil _)), le_HB (by omega) rfl rfl (congrArg (fun z => some (Blk.rowA 241 1 al.length z)) (PT_kills al 1000 (by omega))) (fun i B h => by
      have hb := HX_bd h
      try simp only [St.put]
      repeat (first | exact HX_HB h | refine afterG_h1 (e := 1) (by exact rfl) (by simp only [List.mem_cons, List.not_mem_nil, or_false]; omega) (by show i < 1000; omega) ?_ (HX_kills (by omega) h) | refine (Ab.upd_other _ _ (by omega)).trans ?_))⟩
  · exact rg2 (.f (.v (.slice none 0 0))) (.f (iv 0)) rfl (rv_tmp rfl) (rv_tmp rfl) rfl
end Go.Proofs.YtbkdjlahhcofmaaGreatDoor
namespace Go.Proofs.YtbkdjlahhcofmaaGreatDoor
open Go Go.RowKit Go.Proofs Go.Shelf Go.Ab
theorem gh_openA {C : Ctx} {N : Nat} {s : Nat → AV} {cs : List Cel} {ppl : List Nm} {al : List Alt} {k nx : Nat} {a : Alt} (ha : al[k]? = some a) (hl : al.length ≤ 400) (hJ : ∀ i, i ≠ 0 → C.J0 i = none) : Gh C N ⟨s, HB cs ppl al, nx⟩ ⟨fun t => mvA (2 * k + 6) 4 (mvA (2 * k + 5) 3 (s t)), HO cs ppl al k a, nx⟩ := by
  obtain ⟨hk, rfl⟩ := List.getElem?_eq_some_iff.1 ha
  exact gh_open hk hl hJ
theorem pin0_no {J : Nat → Value} : ∀ i, i ≠ 0 → pin0 J i = none := fun i hi => by unfold pin0; rw [beqF hi]; rfl
set_option maxRecDepth 100000 in
set_option maxHeartbeats 3200000 in
theorem act3_h (cs : List Cel) (ppl : List Nm) (al : List Alt) (hl : al.length ≤ 400) (hcs : cs.length ≤ 1000) (n : Nm) (hnl : n.length ≤ 1000) (hn : nameB n = true) (hp : ppl.length ≤ 1000) (cl : List Int) (hc0 : 0 < cl.length) (hcm : cl.length ≤ 1000000) (hcl : celsE cs.length cl = 0) (k : Nat) {n0 : Nm} {ver : Int} {c0 : List Int} {had : Nm → Option Int} {kys : List Nm} (ha : al[k]? = some (⟨n0, ver, c0, false, had, kys⟩ : Alt)) (hz : ∀ i, i < k → nmA al n i = false) (hm : nmA al n k = true) (hver : 0 ≤ ver ∧ ver ≤ 1000) : SummH Tryz.prog GG 234 (HB cs ppl al) [.bx 0 0, .f (.agg [iv 3, sv n, .sl cl.length (intsF cl)])] (.f (.tup [.sl ppl.length (strsF (ascN ppl)), iv 0])) (HB cs ppl (al.set k (sent (⟨n0, ver, c0, false, had, kys⟩ : Alt) cl ppl))) := by
  have HN := isName_s n (by omega)
  rw [hn] at HN
  have HC := cellsErr_s cs cl (by omega) (by omega)
  rw [hcl] at HC
  have HH := hasCells_s 3
  rw [show hasCB 3 = true from rfl] at HH
  have hk : k < al.length := (List.getElem?_eq_some_iff.1 ha).1
  have hall : al.length ≤ 400 := hl
  have HF := find_at cs ppl al n hl k hk hz hm
  have hgk : (HB cs ppl al (2 * k + 6)).isSome = true := by rw [HX_HB (HX_box ha (by omega) (by omega))]; rfl
  have HI := IndexS_s ppl n (by omega)
  refine summH_of 1000 Tryz.func234 rfl rfl 145 rfl (by simp) ⟨_, _, rfl, rfl, rfl, rfl⟩ (HB_cl _ _ _ (by omega)) (fun M X J => ?_)
  repeat (first
    | (refine s_callH HF (fun _ => rfl) (fun i q h => (pin0_some h).1) rfl rfl rfl ⟨rfl, trivial, trivial⟩ (fun i B h => h) (fun i h _ => h) ?_; refine s_ghost rfl (st' := ⟨(Ab.upd (Ab.upd (Ab.upd (Ab.upd (fun _ => .bot) 0 (.bx 0 0)) 3 (.f (.pt [iv 3, sv n, .sl cl.length (intsF cl)] 0))) 45 (.f (iv (idxP ppl.length (hasS ppl n))))) 49 (.bx 4 0)), HO cs ppl al k (⟨n0, ver, c0, false, had, kys⟩ : Alt), 1000⟩) (gh_trans (b := ⟨(Ab.upd (Ab.upd (Ab.upd (Ab.upd (fun _ => .bot) 0 (.bx 0 0)) 3 (.f (.pt [iv 3, sv n, .sl cl.length (intsF cl)] 0))) 45 (.f (iv (idxP ppl.length (hasS ppl n))))) 49 (.bx (2 * k + 6) 0)), HB cs ppl al, 1000⟩) (gh_le ⟨le_upd rfl (show closedA (HB cs ppl al) _ from hgk) (le_upd rfl trivial (le_upd rfl trivial (le_upd rfl rfl (le_nil _)))), le_base (HB_cl cs ppl al (by omega)) (fun i B h => join_h h)⟩) (gh_trans (gh_openA ha (by omega) pin0_no) (gh_le ⟨le_upd (mv_ok k).symm rfl (le_upd rfl trivial (le_upd rfl trivial (le_upd (mv_o0 k).symm rfl (le_nil _)))), le_base (HO_cl cs ppl al k (⟨n0, ver, c0, false, had, kys⟩ : Alt) (by omega)) (fun i B h => h)⟩))) ?_)
    | (refine s_callS HI (fun _ => rfl) rfl rfl rfl ⟨sees_row rfl, sees_f _, trivial⟩ ?_)
    | (apply s_ptrEq (by first | exact rfl | kernel_rfl); exact rfl; exact rfl; exact rfl)
    | (refine s_callH (send_h cs ppl al k (⟨n0, ver, c0, false, had, kys⟩ : Alt) cl (by omega) hall (by omega) hver) (fun _ => rfl) (fun i q h => (pin0_some h).1) rfl rfl rfl ⟨rfl, rfl, trivial, trivial⟩ (fun i B h => h) (fun i h _ => h) ?_)
    | (apply s_bind; exact rfl; exact rfl; exact rfl; exact rfl; exact rfl; exact rfl; exact eqb_t (by first | rfl | assumption))
    | (apply s_o TY; exact rfl)
    | (apply s_nilCheck; exact rfl; exact rfl; exact rfl)
    | (apply s_a TY; exact rfl)
    | (apply s_t; exact rfl; (first | assumption | omega))
    | (apply s_f; exact rfl; (first | assumption | omega))
    | apply w_seq
    | apply w_region
    | (apply w_draw (id := 1) 22 rfl (by kernel_rfl))
    | (apply w_draw (id := 4) 10 rfl (by kernel_rfl))
    | apply s_nil
    | apply t_norm
    | apply t_ret
    | apply k_norm
    | apply w_block
    | apply w_ret
    | apply w_skip
    | (apply w_condT; exact rfl; exact rfl)
    | (apply w_condF; exact rfl; exact rfl)
    | (apply s_k (HN); exact rfl)
    | (apply s_k (HC); exact rfl)
    | (apply s_k (HH); exact rfl)
    | (apply s_k1 (first4_3 _ _ _ _); exact rfl; (first | assumption | omega | decide))
    | (apply s_k (unless_T _); exact rfl)
    | (apply s_k1 (within_T _ _ _); exact rfl; (first | assumption | omega | decide)))
  refine lvH_ret (s := Ab.upd (Ab.upd (fun _ => .bot) 4 (.f (.sl ppl.length (strsF (ascN ppl))))) 5 (.f (iv 0))) (nx := 1000) ?_ ?_
  · exact gh_trans (b := ⟨Ab.upd (Ab.upd (fun _ => .bot) 4 (.f (.sl ppl.length (strsF (ascN ppl))))) 5 (.f (iv 0)), HO cs ppl al k (sent (⟨n0, ver, c0, false, had, kys⟩ : Alt) cl ppl), 1000⟩) (gh_le ⟨le_upd rfl trivial (le_upd rfl trivial (le_nil _)), le_base (HO_cl cs ppl al k (sent (⟨n0, ver, c0, false, had, kys⟩ : Alt) cl ppl) (by omega)) (fun i B h => join_h h)⟩) (gh_trans (gh_close hk hall pin0_no) (gh_le ⟨le_upd rfl trivial (le_upd rfl trivial (le_nil _)), le_base (HB_cl cs ppl _ (by rw [List.length_set]; exact hall)) (fun i B h => h)⟩))
  · exact rg2 (.f (.sl ppl.length (strsF (ascN ppl)))) (.f (iv 0)) rfl (rv_tmp rfl) (rv_tmp rfl) rfl
set_option maxRecDepth 100000 in
set_option maxHeartbeats 3200000 in
theorem act4_h (cs : List Cel) (ppl : List Nm) (al : List Alt) (hl : al.length ≤ 400) (hcs : cs.length ≤ 1000) (n : Nm) (hnl : n.length ≤ 1000) (hn : nameB n = true) (hp : ppl.length ≤ 1000) (k : Nat) {n0 : Nm} {ver : Int} {c0 : List Int} {had : Nm → Option Int} {kys : List Nm} (ha : al[k]? = some (⟨n0, ver, c0, false, had, kys⟩ : Alt)) (hz : ∀ i, i < k → nmA al n i = false) (hm : nmA al n k = true) (hks : KeysAre had kys) (hkl : kys.length ≤ 1000) (hkb : ∀ c, c ∈ kys → c.length ≤ 1000) : SummH Tryz.prog GG 234 (HB cs ppl al) [.bx 0 0, .f (.agg [iv 4, sv n, .sl 0 []])] (.f (.tup [.sl kys.length (strsF (ascN kys)), iv 0])) (HB cs ppl (al.set k (⟨n0, ver, c0, true, had, kys⟩ : Alt))) := by
  rw [← strsF_enc]
  have HN := isName_s n (by omega)
  rw [hn] at HN
  have HC := cellsErr_s cs [] (by simp) (by omega)
  rw [celsE_nil] at HC
  have HH := hasCells_s 4
  rw [show hasCB 4 = false from rfl] at HH
  have hk : k < al.length := (List.getElem?_eq_some_iff.1 ha).1
  have hall : al.length ≤ 400 := hl
  have HF := find_at cs ppl al n hl k hk hz hm
  have hgk : (HB cs ppl al (2 * k + 6)).isSome = true := by rw [HX_HB (HX_box ha (by omega) (by omega))]; rfl
  have HI := IndexS_s ppl n (by omega)
  refine summH_of 1000 Tryz.func234 rfl rfl 145 rfl (by simp) ⟨_, _, rfl, rfl, rfl, rfl⟩ (HB_cl _ _ _ (by omega)) (fun M X J => ?_)
  repeat (first
    | (refine s_callH HF (fun _ => rfl) (fun i q h => (pin0_some h).1) rfl rfl rfl ⟨rfl, trivial, trivial⟩ (fun i B h => h) (fun i h _ => h) ?_; refine s_ghost rfl (st' := ⟨(Ab.upd (Ab.upd (Ab.upd (Ab.upd (fun _ => .bot) 0 (.bx 0 0)) 3 (.f (.pt [iv 4, sv n, .sl 0 []] 0))) 45 (.f (iv (idxP ppl.length (hasS ppl n))))) 49 (.bx 4 0)), HO cs ppl al k (⟨n0, ver, c0, false, had, kys⟩ : Alt), 1000⟩) (gh_trans (b := ⟨(Ab.upd (Ab.upd (Ab.upd (Ab.upd (fun _ => .bot) 0 (.bx 0 0)) 3 (.f (.pt [iv 4, sv n, .sl 0 []] 0))) 45 (.f (iv (idxP ppl.length (hasS ppl n))))) 49 (.bx (2 * k + 6) 0)), HB cs ppl al, 1000⟩) (gh_le ⟨le_upd rfl (show closedA (HB cs ppl al) _ from hgk) (le_upd rfl trivial (le_upd rfl trivial (le_upd rfl rfl (le_nil _)))), le_base (HB_cl cs ppl al (by omega)) (fun i B h => join_h h)⟩) (gh_trans (gh_openA ha (by omega) pin0_no) (gh_le ⟨le_upd (mv_ok k).symm rfl (le_upd rfl trivial (le_upd rfl trivial (le_upd (mv_o0 k).symm rfl (le_nil _)))), le_base (HO_cl cs ppl al k (⟨n0, ver, c0, false, had, kys⟩ : Alt) (by omega)) (fun i B h => h)⟩))) ?_)
    | (refine s_callS HI (fun _ => rfl) rfl rfl rfl ⟨sees_row rfl, sees_f _, trivial⟩ ?_)
    | (apply s_ptrEq (by first | exact rfl | kernel_rfl); exact rfl; exact rfl; exact rfl)
    | (apply s_callG [3] (keysN_g had); exact rfl; exact rfl; exact rfl; exact ⟨rfl, trivial⟩; exact rfl; exact ⟨⟨rfl, rfl⟩, ⟨rfl, rfl⟩⟩)
    | (refine s_callWF (g := 142) (e := 9) (sz := 1) (n := kys.length) (ags := [.fb 237 [.bx 1000 0]]) (vs := (ascN kys).map encStr) (enters_of Tryz.func142 (by kernel_rfl) rfl) (fun v hv => by obtain ⟨y, _, rfl⟩ := List.mem_map.1 hv; rfl) rfl rfl rfl rfl (sortedK_c (f := had) (i := 3) (j := 1000) rfl hks hkl hkb rfl rfl) ?_)
    | (apply s_bind; exact rfl; exact rfl; exact rfl; exact rfl; exact rfl; exact rfl; exact eqb_t (by first | rfl | assumption))
    | (apply s_o TY; exact rfl)
    | (apply s_nilCheck; exact rfl; exact rfl; exact rfl)
    | (apply s_a TY; exact rfl)
    | (apply s_t; exact rfl; (first | assumption | omega))
    | (apply s_f; exact rfl; (first | assumption | omega))
    | apply w_seq
    | apply w_region
    | (apply w_draw (id := 1) 22 rfl (by kernel_rfl))
    | (apply w_draw (id := 4) 10 rfl (by kernel_rfl))
    | apply s_nil
    | apply t_norm
    | apply k_norm
    | apply w_block
    | apply w_ret
    | apply w_skip
    | (apply w_condF; exact rfl; exact rfl)
    | (apply s_k (HN); exact rfl)
    | (apply s_k (HC); exact rfl)
    | (apply s_k (HH); exact rfl)
    | (apply s_k1 (first4_3 _ _ _ _); exact rfl; (first | assumption | omega | decide))
    | (apply s_k (unless_T _); exact rfl)
    | (apply s_k1 (within_T _ _ _); exact rfl; (first | assumption | omega | decide))
    | (apply s_store TY; exact rfl; exact rfl; exact rfl; exact rfl; exact rfl; exact rfl))
  refine lvH_ret (s := Ab.upd (Ab.upd (fun _ => .bot) 4 (.f (.sl kys.length (((ascN kys).map encStr).map FV.v)))) 5 (.f (iv 0))) (nx := 1001) ?_ ?_
  · exact gh_trans (b := ⟨Ab.upd (Ab.upd (fun _ => .bot) 4 (.f (.sl kys.length (((ascN kys).map encStr).map FV.v)))) 5 (.f (iv 0)), HO cs ppl al k (⟨n0, ver, c0, true, had, kys⟩ : Alt), 1001⟩) (gh_le ⟨le_upd rfl trivial (le_upd rfl trivial (le_nil _)), le_HO (a := (⟨n0, ver, c0, false, had, kys⟩ : Alt)) (by omega) rfl rfl (fun i h3 h4 h5 => by
      by_cases e1 : i = 1
      · subst e1; exact rfl
      try simp only [St.put]
      repeat (first | exact rfl | refine (afterG_h (by exact rfl) (by simp only [List.mem_cons, List.not_mem_nil, or_false]; omega) (by show i < 1000; omega)).trans ?_ | refine (Ab.upd_other _ _ (by omega)).trans ?_))⟩) (gh_trans (gh_close hk hall pin0_no) (gh_le ⟨le_upd rfl trivial (le_upd rfl trivial (le_nil _)), le_base (HB_cl cs ppl _ (by rw [List.length_set]; exact hall)) (fun i B h => h)⟩))
  · exact rg2 (.f (.sl kys.length (((ascN kys).map encStr).map FV.v))) (.f (iv 0)) rfl (rv_tmp rfl) (rv_tmp rfl) rfl
end Go.Proofs.YtbkdjlahhcofmaaGreatDoor
namespace Go.Proofs.YtbkdjlahhcofmaaGreatDoor
open Go Go.RowKit Go.Proofs Go.Shelf Go.Ab
theorem HX_newB {al : List Alt} {a : Alt} {i : Nat} {B : Blk} (hl : al.length ≤ 399) (h : HX (al ++ [a]) al.length i = some B) : HX al 1000 i = some B := by rwa [HX_new al a (by omega)] at h
theorem le_HOn {cs : List Cel} {ppl : List Nm} {al : List Alt} {a : Alt} {h : Nat → Option Blk} (hl : al.length ≤ 399) (h0 : h 0 = some (.box [.f (xF cs), .ow 1, .ow 2])) (h1 : h 1 = some (.row 9 1 ppl.length (strsF ppl))) (h2 : h 2 = some (.rowA 241 1 (al.length + 1) (PT al 1000 ++ [.bx 4 0]))) (h3 : h 3 = some (.map (mpG a.had))) (h4 : h 4 = some (.box (bxC 3 a))) (hx : ∀ i B, HX al 1000 i = some B → h i = some B) : ∀ i, HO cs ppl (al ++ [a]) al.length a i = none ∨ ∃ B, HO cs ppl (al ++ [a]) al.length a i = some B ∧ h i = some B ∧ closedB (HO cs ppl (al ++ [a]) al.length a) B := le_base (HO_cl cs ppl _ al.length a (by simp; omega)) fun i B hB => by
  by_cases e0 : i = 0
  · subst e0; rw [h0]; exact hB
  by_cases e1 : i = 1
  · subst e1; rw [h1]; exact hB
  by_cases e2 : i = 2
  · subst e2
    rw [h2, PT_new al a (by omega)]
    have : HO cs ppl (al ++ [a]) al.length a 2 = some (.rowA 241 1 (al ++ [a]).length (PT (al ++ [a]) al.length)) := rfl
    rw [this, List.length_append] at hB
    exact hB
  by_cases e3 : i = 3
  · subst e3; rw [h3]; exact hB
  by_cases e4 : i = 4
  · subst e4; rw [h4]; exact hB
  rw [HO_x _ _ _ _ _ (by omega)] at hB
  exact hx i B (HX_newB hl hB)
theorem PT_killN (al : List Alt) : (PT al 1000 ++ [AV.bx 4 0]).map (killA 2) = PT al 1000 ++ [.bx 4 0] := by
  rw [List.map_append, PT_kill al 1000 (by omega)]; rfl
theorem nil_cell {C : Ctx} {w : World} {h : Nat → Option Blk} {J : Nat → Value} {v : Value} (q : RepA C w h J v (.f (.v (.slice none 0 0)))) : RepA C w h J v (.f (.sl 0 [])) := rep_nilsl q
set_option maxRecDepth 100000 in
set_option maxHeartbeats 3200000 in
theorem act2_h (cs : List Cel) (ppl : List Nm) (al : List Alt) (hl : al.length ≤ 399) (hcs : cs.length ≤ 1000) (n : Nm) (hnl : n.length ≤ 1000) (hn : nameB n = true) (hp : ppl.length ≤ 1000) (cl : List Int) (hc0 : 0 < cl.length) (hcm : cl.length ≤ 1000000) (hcl : celsE cs.length cl = 0) (hz : ∀ i, i < al.length → nmA al n i = false) : SummH Tryz.prog GG 234 (HB cs ppl al) [.bx 0 0, .f (.agg [iv 2, sv n, .sl cl.length (intsF cl)])] (.f (.tup [.sl ppl.length (strsF (ascN ppl)), iv 0])) (HB cs ppl (al ++ [sent (⟨n, 0, [], false, fun _ => none, []⟩ : Alt) cl ppl])) := by
  have hset : (al ++ [(⟨n, 0, [], false, fun _ => none, []⟩ : Alt)]).set al.length (sent (⟨n, 0, [], false, fun _ => none, []⟩ : Alt) cl ppl) = al ++ [sent (⟨n, 0, [], false, fun _ => none, []⟩ : Alt) cl ppl] := by simp
  rw [← hset]
  have HN := isName_s n (by omega)
  rw [hn] at HN
  have HC := cellsErr_s cs cl (by omega) (by omega)
  rw [hcl] at HC
  have HH := hasCells_s 2
  rw [show hasCB 2 = true from rfl] at HH
  have HF := find_no cs ppl al n (by omega) hz
  have HI := IndexS_s ppl n (by omega)
  have hall : (al ++ [(⟨n, 0, [], false, fun _ => none, []⟩ : Alt)]).length ≤ 400 := by simp; omega
  have hk : al.length < (al ++ [(⟨n, 0, [], false, fun _ => none, []⟩ : Alt)]).length := by simp
  have hver : 0 ≤ (⟨n, 0, [], false, fun _ => none, []⟩ : Alt).ver ∧ (⟨n, 0, [], false, fun _ => none, []⟩ : Alt).ver ≤ 1000 := ⟨Int.le_refl _, (by decide : (0 : Int) ≤ 1000)⟩
  refine summH_of 1000 Tryz.func234 rfl rfl 145 rfl (by simp) ⟨_, _, rfl, rfl, rfl, rfl⟩ (HB_cl _ _ _ (by omega)) (fun M X J => ?_)
  repeat (first
    | (apply s_a TY; exact rfl)
    | (refine s_callH HF (fun _ => rfl) (fun i q h => (pin0_some h).1) rfl rfl rfl ⟨rfl, trivial, trivial⟩ (fun i B h => h) (fun i h _ => h) ?_; refine s_ghost rfl (st' := ⟨(Ab.upd (Ab.upd (Ab.upd (Ab.upd (fun _ => .bot) 0 (.bx 0 0)) 3 (.f (.pt [iv 2, sv n, .sl cl.length (intsF cl)] 0))) 45 (.f (iv (idxP ppl.length (hasS ppl n))))) 49 (.f (.v (.pointer none)))), HB cs ppl al, 3⟩) (gh_le ⟨le_upd rfl trivial (le_upd rfl trivial (le_upd rfl trivial (le_upd rfl rfl (le_nil _)))), le_base (HB_cl cs ppl al (by omega)) (fun i B h => join_h h)⟩) ?_)
    | (refine s_callS HI (fun _ => rfl) rfl rfl rfl ⟨sees_row rfl, sees_f _, trivial⟩ ?_)
    | (apply s_nilNe (by first | exact rfl | kernel_rfl); exact rfl; exact rfl; exact rfl)
    | (apply s_boxA; exact rfl; exact rfl; exact rfl; exact rfl)
    | (apply s_bind; exact rfl; exact rfl; exact rfl; exact rfl; exact rfl; exact rfl; exact eqb_t (by first | rfl | assumption))
    | (apply s_nilCheck; exact rfl; exact rfl; exact rfl)
    | (apply s_buildO TY; exact rfl; exact rfl; exact rfl; exact rfl; exact rfl; exact rfl)
    | (apply s_makeMap; exact rfl; exact rfl)
    | (apply s_t; exact rfl; (first | assumption | omega))
    | (apply s_f; exact rfl; (first | assumption | omega))
    | apply w_seq
    | apply w_region
    | (apply w_draw (id := 1) 22 rfl (by kernel_rfl))
    | (apply w_draw (id := 4) 10 rfl (by kernel_rfl))
    | apply s_nil
    | apply t_norm
    | apply w_block
    | apply w_skip
    | (apply w_condT; exact rfl; exact rfl)
    | (apply w_condF; exact rfl; exact rfl)
    | (apply s_k (HN); exact rfl)
    | (apply s_k (HC); exact rfl)
    | (apply s_k (HH); exact rfl)
    | (apply s_k1 (first4_3 _ _ _ _); exact rfl; (first | assumption | omega | decide))
    | (apply s_k (unless_T _); exact rfl)
    | (apply s_k1 (within_T _ _ _); exact rfl; (first | assumption | omega | decide)))
  refine s_ghost rfl (gh_trans (gh_mapW 3 (G := fun o => o = .map #[] 0) (mpG fun _ => none) rfl (fun o h => by
    have h : o = .map #[] 0 := h
    subst h; exact mapFn_new)) (gh_trans (gh_boxW 4 (cs := [.f (sv n), .f (iv 0), .f (.v (.slice none 0 0)), .f (bv false), .f (.v (.slice none 0 0)), .ow 3]) (cs' := bxC 3 (⟨n, 0, [], false, fun _ => none, []⟩ : Alt)) rfl rfl (fun k x x' h1 h2 w J v q => by
    match k, h1, h2 with
    | 0, h1, h2 => cases h1; cases h2; exact q
    | 1, h1, h2 => cases h1; cases h2; exact q
    | 2, h1, h2 => cases h1; cases h2; exact nil_cell q
    | 3, h1, h2 => cases h1; cases h2; exact q
    | 4, h1, h2 => cases h1; cases h2; exact q
    | 5, h1, h2 => cases h1; cases h2; exact q
    | _ + 6, h1, h2 => cases h1)) (gh_nx 1000))) ?_
  repeat (first
    | (apply s_bsliceP TY; exact rfl; exact rfl; exact rfl; exact rfl; exact rfl; exact rfl)
    | (apply s_appendA TY; exact rfl; exact rfl; exact rfl; exact rfl; exact rfl; exact rfl; exact rfl; exact rfl; (unfold maxLen; omega); omega)
    | (apply s_nilCheck; exact rfl; exact rfl; exact rfl)
    | (apply s_a TY; exact rfl)
    | apply w_seq
    | apply w_region
    | apply s_nil
    | apply t_norm
    | (apply s_store TY; exact rfl; exact rfl; exact rfl; exact rfl; exact rfl; exact rfl))
  refine s_ghost rfl (st' := ⟨(Ab.upd (Ab.upd (Ab.upd (fun _ => .bot) 115 (.bx 0 0)) 116 (.bx 4 0)) 118 (.f (.sl cl.length (intsF cl)))), HO cs ppl (al ++ [(⟨n, 0, [], false, fun _ => none, []⟩ : Alt)]) al.length (⟨n, 0, [], false, fun _ => none, []⟩ : Alt), 1000⟩) (gh_le ⟨le_upd rfl trivial (le_upd rfl rfl (le_upd rfl rfl (le_nil _))), le_HOn hl rfl rfl (congrArg (fun z => some (Blk.rowA 241 1 (al.length + 1) z)) (PT_killN al)) rfl rfl (fun i B h => by
      have hb := HX_bd h
      try simp only [St.put]
      repeat (first | exact HX_HB h | refine grow_h (by omega) ?_ (HX_kill (by omega) h) | refine (Ab.upd_other _ _ (by omega)).trans ?_))⟩) ?_
  repeat (first
    | (refine s_callH (send_h cs ppl (al ++ [(⟨n, 0, [], false, fun _ => none, []⟩ : Alt)]) al.length (⟨n, 0, [], false, fun _ => none, []⟩ : Alt) cl (by omega) hall (by omega) hver) (fun _ => rfl) (fun i q h => (pin0_some h).1) rfl rfl rfl ⟨rfl, rfl, trivial, trivial⟩ (fun i B h => h) (fun i h _ => h) ?_)
    | (apply s_a TY; exact rfl)
    | apply s_nil
    | apply t_norm
    | apply t_ret
    | apply k_ret
    | apply w_ret)
  refine lvH_ret (s := Ab.upd (Ab.upd (fun _ => .bot) 4 (.f (.sl ppl.length (strsF (ascN ppl))))) 5 (.f (iv 0))) (nx := 1000) ?_ ?_
  · exact gh_trans (b := ⟨Ab.upd (Ab.upd (fun _ => .bot) 4 (.f (.sl ppl.length (strsF (ascN ppl))))) 5 (.f (iv 0)), HO cs ppl (al ++ [(⟨n, 0, [], false, fun _ => none, []⟩ : Alt)]) al.length (sent (⟨n, 0, [], false, fun _ => none, []⟩ : Alt) cl ppl), 1000⟩) (gh_le ⟨le_upd rfl trivial (le_upd rfl trivial (le_nil _)), le_base (HO_cl cs ppl (al ++ [(⟨n, 0, [], false, fun _ => none, []⟩ : Alt)]) al.length (sent (⟨n, 0, [], false, fun _ => none, []⟩ : Alt) cl ppl) hall) (fun i B h => join_h h)⟩) (gh_trans (gh_close hk hall pin0_no) (gh_le ⟨le_upd rfl trivial (le_upd rfl trivial (le_nil _)), le_base (HB_cl cs ppl _ (by rw [List.length_set]; exact hall)) (fun i B h => h)⟩))
  · exact rg2 (.f (.sl ppl.length (strsF (ascN ppl)))) (.f (iv 0)) rfl (rv_tmp rfl) (rv_tmp rfl) rfl
end Go.Proofs.YtbkdjlahhcofmaaGreatDoor
namespace Go.Proofs.YtbkdjlahhcofmaaGreatDoor
open Go Go.RowKit Go.Proofs Go.Shelf Go.Ab
def chkE (c : Int) (x : Act) : Int := if ¬ (0 ≤ x.kind ∧ x.kind ≤ 4) then 15 else if ¬ nameB x.name = true then 4 else if celsE c x.cells ≠ 0 then celsE c x.cells else if hasCB x.kind = decide (0 < x.cells.length) then 0 else 3
def idxN (ppl : List Nm) (n : Nm) : Int := idxP ppl.length (hasS ppl n)
def idxA (al : List Alt) (n : Nm) : Int := idxP al.length (nmA al n)
abbrev Lst := List Nm × List Alt
def altA (al : List Alt) (n : Nm) : Alt := al.getD (idxA al n).toNat default
def stpE (c : Int) (s : Lst) (x : Act) : Int := if chkE c x ≠ 0 then chkE c x else
  if x.kind = 0 then (if 0 ≤ idxN s.1 x.name then 5 else if s.1.length < 8 then 0 else 16)
  else if x.kind = 1 then (if idxN s.1 x.name < 0 then 6 else 0)
  else if x.kind = 2 then (if 0 ≤ idxA s.2 x.name then 5 else 0)
  else if idxA s.2 x.name < 0 then 6 else if (altA s.2 x.name).gone = true then 20 else 0
def newA (n : Nm) : Alt := ⟨n, 0, [], false, fun _ => none, []⟩
def goneA (a : Alt) : Alt := ⟨a.nm, a.ver, a.cells, true, a.had, a.kys⟩
def stpS (s : Lst) (x : Act) : Lst :=
  if x.kind = 0 then (s.1 ++ [x.name], s.2)
  else if x.kind = 1 then (pplDel s.1 (idxN s.1 x.name).toNat, s.2)
  else if x.kind = 2 then (s.1, s.2 ++ [sent (newA x.name) x.cells s.1])
  else if x.kind = 3 then (s.1, s.2.set (idxA s.2 x.name).toNat (sent (altA s.2 x.name) x.cells s.1))
  else (s.1, s.2.set (idxA s.2 x.name).toNat (goneA (altA s.2 x.name)))
def stpW (s : Lst) (x : Act) : List Nm := if x.kind = 2 ∨ x.kind = 3 then ascN s.1 else if x.kind = 4 then ascN (altA s.2 x.name).kys else []
structure Inv (m : Nat) (s : Lst) : Prop where
  al : s.2.length ≤ m
  pl : s.1.length ≤ 8
  nd : s.1.Nodup
  nm : ∀ n, n ∈ s.1 → n.length ≤ 12
  ver : ∀ a, a ∈ s.2 → 0 ≤ a.ver ∧ a.ver ≤ m
  kys : ∀ a, a ∈ s.2 → KeysAre a.had a.kys ∧ a.kys.length ≤ 8 * m ∧ ∀ c, c ∈ a.kys → c.length ≤ 12
theorem inv0 : Inv 0 ([], []) := ⟨Nat.le_refl _, by simp, List.nodup_nil, fun n h => by simp at h, fun a h => by simp at h, fun a h => by simp at h⟩
theorem nameB_12 {n : Nm} (h : nameB n = true) : n.length ≤ 12 := by
  refine Classical.byContradiction fun hn => ?_
  rw [nameB_len (by omega)] at h; cases h
theorem chkE_0 {c : Int} {x : Act} (h : chkE c x = 0) : (0 ≤ x.kind ∧ x.kind ≤ 4) ∧ nameB x.name = true ∧ celsE c x.cells = 0 ∧ hasCB x.kind = decide (0 < x.cells.length) := by
  unfold chkE at h
  split at h
  · cases h
  rename_i h1
  split at h
  · cases h
  rename_i h2
  split at h
  · rename_i h3; exact absurd h h3
  rename_i h3
  split at h
  · rename_i h4
    exact ⟨by omega, by simpa using h2, by omega, h4⟩
  · cases h
theorem stpE_0 {c : Int} {s : Lst} {x : Act} (h : stpE c s x = 0) : chkE c x = 0 ∧ ((x.kind = 0 ∧ idxN s.1 x.name < 0 ∧ s.1.length < 8) ∨ (x.kind = 1 ∧ 0 ≤ idxN s.1 x.name) ∨ (x.kind = 2 ∧ idxA s.2 x.name < 0) ∨ ((x.kind = 3 ∨ x.kind = 4) ∧ 0 ≤ idxA s.2 x.name ∧ (altA s.2 x.name).gone = false)) := by
  unfold stpE at h
  split at h
  · rename_i h1; exact absurd h h1
  rename_i h1
  have hc : chkE c x = 0 := by simpa using h1
  refine ⟨hc, ?_⟩
  have hk := (chkE_0 hc).1
  split at h
  · rename_i h2
    split at h
    · cases h
    split at h
    · rename_i h3 h4; exact .inl ⟨h2, by omega, h4⟩
    · cases h
  split at h
  · rename_i h2
    split at h
    · cases h
    · rename_i h3; exact .inr (.inl ⟨h2, by omega⟩)
  split at h
  · rename_i h2
    split at h
    · cases h
    · rename_i h3; exact .inr (.inr (.inl ⟨h2, by omega⟩))
  split at h
  · cases h
  split at h
  · cases h
  · rename_i h2 h3 h4 h5 h6; exact .inr (.inr (.inr ⟨by omega, by omega, by simpa using h6⟩))
theorem summH_retW {P : Program} {G : Nat → Option FV} {g : Nat} {h h' : Nat → Option Blk} {args : List AV} {y y' : FV} (K : SummH P G g h args (.f y) h') (hy : ∀ (w : World) (M : Nat → Prop) (v : Value), RepF w M v y → RepF w M v y') : SummH P G g h args (.f y') h' :=
  ⟨K.enters, K.one, K.cl, fun w M X us J a b c d e f => (K.call w M X us J a b c d e f).mono fun _ _ ⟨v, J', q1, q2, q3⟩ => ⟨v, J', q1, hy _ _ _ q2, q3⟩⟩
theorem tup_nil1 {y : FV} (w : World) (M : Nat → Prop) (v : Value) (q : RepF w M v (.tup [.v (.slice none 0 0), y])) : RepF w M v (.tup [.sl 0 [], y]) := by
  cases q with
  | tup cs us hl hr =>
    refine RepF.tup _ us (by simpa using hl) (fun k u x a b => ?_)
    match k with
    | 0 => simp at b; subst b; exact rep_nilsl (hr 0 u _ a rfl)
    | 1 => simp at b; subst b; exact hr 1 u _ a rfl
    | k + 2 => simp at b
theorem find_any (cs : List Cel) (ppl : List Nm) (al : List Alt) (n : Nm) (hl : al.length ≤ 400) : ∃ r, SummH Tryz.prog GG 150 (HB cs ppl al) [.bx 0 0, .f (sv n)] r (HB cs ppl al) := by
  rcases idxP_cases al.length (nmA al n) with ⟨_, hz⟩ | ⟨k, hk, hz, hp, _⟩
  · exact ⟨_, find_no cs ppl al n hl hz⟩
  · exact ⟨_, find_at cs ppl al n hl k hk hz hp⟩
theorem cells_nil {k : Int} {l : List Int} (h : hasCB k = decide (0 < l.length)) (hk : hasCB k = false) : l = [] := by
  rw [hk] at h
  have := of_decide_eq_false h.symm
  exact List.eq_nil_of_length_eq_zero (by omega)
theorem cells_pos {k : Int} {l : List Int} (h : hasCB k = decide (0 < l.length)) (hk : hasCB k = true) : 0 < l.length := by
  rw [hk] at h
  exact of_decide_eq_true h.symm
theorem act_ok (cs : List Cel) (s : Lst) (m : Nat) (i : Inv m s) (hm : m ≤ 100) (hcs : cs.length ≤ 1000) (x : Act) (hx : x.cells.length ≤ 1000000) (h : stpE cs.length s x = 0) : SummH Tryz.prog GG 234 (HB cs s.1 s.2) [.bx 0 0, .f (.agg (actF x))] (.f (.tup [.sl (stpW s x).length (strsF (stpW s x)), iv 0])) (HB cs (stpS s x).1 (stpS s x).2) := by
  obtain ⟨ppl, al⟩ := s
  obtain ⟨kind, n, cl⟩ := x
  obtain ⟨hc, hr⟩ := stpE_0 h
  obtain ⟨hk, hn, hcl, hh⟩ := chkE_0 hc
  have hnl : n.length ≤ 1000 := by have := nameB_12 hn; simp only at this; omega
  have hal : al.length ≤ 100 := by have := i.al; simp only at this; omega
  have hpl : ppl.length ≤ 8 := i.pl
  simp only at hk hn hcl hh hr hx
  rcases hr with ⟨rfl, hi, h8⟩ | ⟨rfl, hi⟩ | ⟨rfl, hi⟩ | ⟨rfl | rfl, hi, hg⟩
  · have := cells_nil hh rfl
    subst this
    obtain ⟨r, HF⟩ := find_any cs ppl al n (by omega)
    have hi1 : idxP ppl.length (hasS ppl n) = -1 := by
      rcases idxP_cases ppl.length (hasS ppl n) with ⟨e, _⟩ | ⟨k, _, _, _, e⟩
      · exact e
      · unfold idxN at hi; omega
    exact summH_retW (act0_h cs ppl al (by omega) hcs n hnl hn hi1 h8 HF) tup_nil1
  · have := cells_nil hh rfl
    subst this
    obtain ⟨r, HF⟩ := find_any cs ppl al n (by omega)
    rcases idxP_cases ppl.length (hasS ppl n) with ⟨e, _⟩ | ⟨k, hk2, _, _, e⟩
    · unfold idxN at hi; omega
    · have hst : stpS (ppl, al) ⟨1, n, []⟩ = (pplDel ppl k, al) := by
        show (pplDel ppl (idxN ppl n).toNat, al) = _
        unfold idxN; rw [e, Int.toNat_natCast]
      rw [hst]
      exact summH_retW (act1_h cs ppl al (by omega) hcs n hnl hn (by omega) k e hk2 HF) tup_nil1
  · have hc0 := cells_pos hh rfl
    have hz : ∀ j, j < al.length → nmA al n j = false := by
      rcases idxP_cases al.length (nmA al n) with ⟨_, hz⟩ | ⟨k, _, _, _, e⟩
      · exact hz
      · unfold idxA at hi; omega
    rw [show stpW (ppl, al) ⟨2, n, cl⟩ = ascN ppl from rfl, ascN_len]
    exact act2_h cs ppl al (by omega) hcs n hnl hn (by omega) cl hc0 hx hcl hz
  all_goals
    rcases idxP_cases al.length (nmA al n) with ⟨e, _⟩ | ⟨k, hk2, hz, hpn, e⟩
    · unfold idxA at hi; omega
  · have hc0 := cells_pos hh rfl
    have hka : (idxA al n).toNat = k := by unfold idxA; rw [e, Int.toNat_natCast]
    have ha : altA al n = al[k] := by unfold altA; rw [hka, getD_at hk2]
    have hst : stpS (ppl, al) ⟨3, n, cl⟩ = (ppl, al.set k (sent al[k] cl ppl)) := by
      show (ppl, al.set (idxA al n).toNat (sent (altA al n) cl ppl)) = _
      rw [ha, hka]
    rw [hst]
    rw [ha] at hg
    have hv := i.ver al[k] (List.getElem_mem hk2)
    have hge := List.getElem?_eq_getElem hk2
    generalize al[k] = a at hg hv hge
    obtain ⟨n0, ver, c0, gone, had, kys⟩ := a
    simp only at hg hv
    subst hg
    rw [show stpW (ppl, al) ⟨3, n, cl⟩ = ascN ppl from rfl, ascN_len]
    exact act3_h cs ppl al (by omega) hcs n hnl hn (by omega) cl hc0 hx hcl k hge hz hpn (by omega)
  · have := cells_nil hh rfl
    subst this
    have hka : (idxA al n).toNat = k := by unfold idxA; rw [e, Int.toNat_natCast]
    have ha : altA al n = al[k] := by unfold altA; rw [hka, getD_at hk2]
    have hst : stpS (ppl, al) ⟨4, n, []⟩ = (ppl, al.set k (goneA al[k])) := by
      show (ppl, al.set (idxA al n).toNat (goneA (altA al n))) = _
      rw [ha, hka]
    have hw : stpW (ppl, al) ⟨4, n, []⟩ = ascN al[k].kys := by
      show ascN (altA al n).kys = _
      rw [ha]
    rw [hst, hw, ascN_len]
    rw [ha] at hg
    obtain ⟨hks, hkl, hkb⟩ := i.kys al[k] (List.getElem_mem hk2)
    have hge := List.getElem?_eq_getElem hk2
    generalize al[k] = a at hg hge hks hkl hkb
    obtain ⟨n0, ver, c0, gone, had, kys⟩ := a
    simp only at hg hks hkl hkb
    subst hg
    exact act4_h cs ppl al (by omega) hcs n hnl hn (by omega) k hge hz hpn hks (show kys.length ≤ 1000 by omega) (fun c h => by have := hkb c h; omega)
end Go.Proofs.YtbkdjlahhcofmaaGreatDoor
namespace Go.Proofs.YtbkdjlahhcofmaaGreatDoor
open Go Go.RowKit Go.Proofs Go.Shelf Go.Ab
theorem hasS_not {l : List Nm} {n : Nm} (h : idxN l n < 0) : n ∉ l := fun hm => by
  have : anyP l.length (hasS l n) = true := by rw [anyS_has]; simpa using hm
  have := (idxP_pos l.length (hasS l n)).2 this
  unfold idxN at h; omega
theorem pplDel_eq (l : List Nm) (i : Nat) : pplDel l i = l.eraseIdx i := (List.eraseIdx_eq_take_drop_succ l i).symm
theorem pplDel_sub (l : List Nm) (i : Nat) : (pplDel l i).Sublist l := by rw [pplDel_eq]; exact List.eraseIdx_sublist l i
theorem keys_sent {a : Alt} {ppl : List Nm} (cl : List Int) (hk : KeysAre a.had a.kys) (hn : ppl.Nodup) : KeysAre (sent a cl ppl).had (sent a cl ppl).kys := by
  have hf : ∀ c, c ∈ (ppl.filter fun n => !a.kys.contains n) ↔ c ∈ ppl ∧ c ∉ a.kys := fun c => by simp [List.mem_filter]
  constructor
  · show (a.kys ++ ppl.filter fun n => !a.kys.contains n).Nodup
    refine List.nodup_append.2 ⟨hk.nd, hn.sublist List.filter_sublist, fun x hx y hy e => ?_⟩
    subst e
    exact ((hf x).1 hy).2 hx
  · intro c
    show c ∈ a.kys ++ (ppl.filter fun n => !a.kys.contains n) ↔ (updAll a.had ppl (a.ver + 1) c).isSome = true
    rw [List.mem_append, hf]
    unfold updAll
    by_cases h : c ∈ ppl
    · rw [if_pos h]
      by_cases h2 : c ∈ a.kys
      · simp [h2]
      · simp [h, h2]
    · rw [if_neg h, ← hk.mem]
      simp [h]
theorem inv_step {m : Nat} {s : Lst} {c : Int} {x : Act} (i : Inv m s) (h : stpE c s x = 0) : Inv (m + 1) (stpS s x) := by
  obtain ⟨ppl, al⟩ := s
  obtain ⟨kind, n, cl⟩ := x
  obtain ⟨hc, hr⟩ := stpE_0 h
  obtain ⟨hk, hn, -, -⟩ := chkE_0 hc
  have i1 := i.al; have i2 := i.pl; have i3 := i.nd; have i4 := i.nm; have i5 := i.ver; have i6 := i.kys
  simp only at hk hn hr i1 i2 i3 i4 i5 i6
  have n12 := nameB_12 hn
  have i5' : ∀ a, a ∈ al → 0 ≤ a.ver ∧ a.ver ≤ ((m + 1 : Nat) : Int) := fun a ha => by have := i5 a ha; omega
  have i6' : ∀ a, a ∈ al → KeysAre a.had a.kys ∧ a.kys.length ≤ 8 * (m + 1) ∧ ∀ c, c ∈ a.kys → c.length ≤ 12 := fun a ha => by
    obtain ⟨h1, h2, h3⟩ := i6 a ha
    exact ⟨h1, by omega, h3⟩
  have hs : ∀ a, (0 ≤ a.ver ∧ a.ver ≤ (m : Int)) → (KeysAre a.had a.kys ∧ a.kys.length ≤ 8 * m ∧ ∀ c, c ∈ a.kys → c.length ≤ 12) → (0 ≤ (sent a cl ppl).ver ∧ (sent a cl ppl).ver ≤ ((m + 1 : Nat) : Int)) ∧ (KeysAre (sent a cl ppl).had (sent a cl ppl).kys ∧ (sent a cl ppl).kys.length ≤ 8 * (m + 1) ∧ ∀ c, c ∈ (sent a cl ppl).kys → c.length ≤ 12) := fun a hv ⟨h1, h2, h3⟩ => by
    refine ⟨⟨by show 0 ≤ a.ver + 1; omega, by show a.ver + 1 ≤ _; omega⟩, keys_sent cl h1 i3, ?_, fun c hc => ?_⟩
    · show (a.kys ++ ppl.filter fun n => !a.kys.contains n).length ≤ _
      have := List.length_filter_le (fun n => !a.kys.contains n) ppl
      rw [List.length_append]; omega
    · rcases List.mem_append.1 hc with h | h
      · exact h3 c h
      · exact i4 c (List.mem_filter.1 h).1
  have hset : ∀ (k : Nat) (b : Alt), ((0 ≤ b.ver ∧ b.ver ≤ ((m + 1 : Nat) : Int)) ∧ (KeysAre b.had b.kys ∧ b.kys.length ≤ 8 * (m + 1) ∧ ∀ c, c ∈ b.kys → c.length ≤ 12)) → Inv (m + 1) (ppl, al.set k b) := fun k b hb => by
    refine ⟨by show (al.set k b).length ≤ _; rw [List.length_set]; omega, i2, i3, i4, fun a ha => ?_, fun a ha => ?_⟩
    · rcases List.mem_or_eq_of_mem_set ha with h | rfl
      · exact i5' a h
      · exact hb.1
    · rcases List.mem_or_eq_of_mem_set ha with h | rfl
      · exact i6' a h
      · exact hb.2
  have hal : ∀ (h : 0 ≤ idxA al n), altA al n ∈ al := fun h => by
    rcases idxP_cases al.length (nmA al n) with ⟨e, _⟩ | ⟨k, hk2, _, _, e⟩
    · unfold idxA at h; omega
    · unfold altA idxA; rw [e, Int.toNat_natCast, getD_at hk2]; exact List.getElem_mem hk2
  rcases hr with ⟨rfl, hi, h8⟩ | ⟨rfl, hi⟩ | ⟨rfl, hi⟩ | ⟨rfl | rfl, hi, hg⟩
  · refine ⟨by show al.length ≤ _; omega, by show (ppl ++ [n]).length ≤ 8; simp; omega, ?_, fun c hc => ?_, i5', i6'⟩
    · show (ppl ++ [n]).Nodup
      refine List.nodup_append.2 ⟨i3, by simp, fun x hx y hy e => ?_⟩
      subst e
      rw [List.mem_singleton] at hy
      subst hy
      exact hasS_not hi hx
    · rcases List.mem_append.1 (show c ∈ ppl ++ [n] from hc) with h | h
      · exact i4 c h
      · rw [List.mem_singleton.1 h]; exact n12
  · have hsub := pplDel_sub ppl (idxN ppl n).toNat
    refine ⟨by show al.length ≤ _; omega, Nat.le_trans hsub.length_le i2, i3.sublist hsub, fun c hc => i4 c (hsub.subset hc), i5', i6'⟩
  · have hb := hs (newA n) ⟨by show (0 : Int) ≤ 0; omega, by show (0 : Int) ≤ m; omega⟩ ⟨⟨List.nodup_nil, fun c => by show c ∈ [] ↔ _; simp [newA]⟩, by show 0 ≤ _; omega, fun c hc => by simp [newA] at hc⟩
    refine ⟨by show (al ++ [_]).length ≤ _; simp; omega, i2, i3, i4, fun a ha => ?_, fun a ha => ?_⟩
    · rcases List.mem_append.1 (show a ∈ al ++ [sent (newA n) cl ppl] from ha) with h | h
      · exact i5' a h
      · rw [List.mem_singleton.1 h]; exact hb.1
    · rcases List.mem_append.1 (show a ∈ al ++ [sent (newA n) cl ppl] from ha) with h | h
      · exact i6' a h
      · rw [List.mem_singleton.1 h]; exact hb.2
  · have ha := hal hi
    exact hset _ _ (hs _ (i5 _ ha) (i6 _ ha))
  · have ha := hal hi
    have h5 := i5' _ ha
    have h6 := i6' _ ha
    exact hset (idxA al n).toNat (goneA (altA al n)) ⟨h5, h6⟩
def runS (l : List Act) : Nat → Lst
  | 0 => ([], [])
  | k + 1 => stpS (runS l k) (l.getD k default)
def runW (l : List Act) : Nat → List (List Nm)
  | 0 => []
  | k + 1 => runW l k ++ [stpW (runS l k) (l.getD k default)]
theorem runW_len (l : List Act) : ∀ k, (runW l k).length = k
  | 0 => rfl
  | k + 1 => by rw [runW, List.length_append, runW_len l k]; rfl
def runE (c : Int) (l : List Act) (i : Nat) : Int := stpE c (runS l i) (l.getD i default)
theorem inv_run {c : Int} {l : List Act} : ∀ {k : Nat}, (∀ i, i < k → runE c l i = 0) → Inv k (runS l k)
  | 0, _ => inv0
  | k + 1, h => inv_step (inv_run fun i hi => h i (by omega)) (h k (by omega))
end Go.Proofs.YtbkdjlahhcofmaaGreatDoor
namespace Go.Proofs.YtbkdjlahhcofmaaGreatDoor
open Go Go.RowKit Go.Proofs Go.Shelf Go.Ab
theorem killA_big {d : Nat} (al : List Alt) (hl : al.length ≤ 400) (hd : 1000 ≤ d) : (PT al 1000).map (killA d) = PT al 1000 := by
  refine (List.map_congr_left fun x hx => ?_).trans (List.map_id _)
  rcases PT_mem hx with ⟨_, h⟩ | ⟨j, hj, _, rfl⟩
  · omega
  · exact killA_bx (by omega)
theorem HX_killB {al : List Alt} {q i d : Nat} {B : Blk} (hl : al.length ≤ 400) (hd : 1000 ≤ d) (h : HX al q i = some B) : killB d B = B := by
  obtain ⟨j, a, ha, _, _, ⟨_, rfl⟩ | ⟨_, rfl⟩⟩ := HX_some h
  · rfl
  · have hj := (List.getElem?_eq_some_iff.1 ha).1
    show Blk.box ((bxC (2 * j + 5) a).map (killA d)) = _
    rw [bxC_kill (by omega)]
def lsC (cs : List Cel) (s : Lst) : List FV := [xF cs, .sl s.1.length (strsF s.1), .sl s.2.length (altsF s.2)]
theorem sees_ls {C : Ctx} {N : Nat} {st : St} {cs : List Cel} {s : Lst} (hl : s.2.length ≤ 400) (h0 : st.h 0 = some (.box [.f (xF cs), .ow 1, .ow 2])) (h1 : st.h 1 = some (.row 9 1 s.1.length (strsF s.1))) (h2 : st.h 2 = some (.rowA 241 1 s.2.length (PT s.2 1000))) (hx : ∀ i B, HX s.2 1000 i = some B → st.h i = some B) : Sees C N st (.bx 0 0) (.pt (lsC cs s) 0) :=
  sees_bx h0 ⟨sees_f _, sees_row h1, sees_rowA h2 (sees_alts hl hx), trivial⟩
theorem over_sub {cs : List Cel} {ppl : List Nm} {al : List Alt} (R B1 B2 : Option Blk) : ∀ i B, HB cs ppl al i = some B → Ab.upd (Ab.upd (Ab.upd (HB cs ppl al) 1000 R) 1001 B1) 1001 B2 i = some B := fun i B h => by
  have := HB_lt h
  rw [Ab.upd_other _ _ (by omega), Ab.upd_other _ _ (by omega), Ab.upd_other _ _ (by omega)]
  exact h
theorem over_new {cs : List Cel} {ppl ppl' : List Nm} {al al' : List Alt} (R B1 B2 : Option Blk) : ∀ i, HB cs ppl al i = none → (HB cs ppl' al' i).isSome = true → Ab.upd (Ab.upd (Ab.upd (HB cs ppl al) 1000 R) 1001 B1) 1001 B2 i = none := fun i h h2 => by
  obtain ⟨B, hB⟩ := Option.isSome_iff_exists.1 h2
  have := HB_lt hB
  rw [Ab.upd_other _ _ (by omega), Ab.upd_other _ _ (by omega), Ab.upd_other _ _ (by omega)]
  exact h
set_option maxRecDepth 100000 in
set_option maxHeartbeats 3200000 in
theorem replay_ok (rs : List Int) (o : SkyOk rs) (l : List Act) (hl : l.length ≤ 40) (hcl : ∀ i, i < l.length → (l.getD i default).cells.length ≤ 1000000) (hE : ∀ i, i < l.length → runE (skyC rs).length l i = 0) : Summ Tryz.prog GG 138 [skF rs, .sl l.length (actsF l)] (.tup [.pt (lsC (skyC rs) (runS l l.length)) 0, .sl l.length (listsF (runW l l.length)), iv 0, iv 0]) := by
  have HO := open_ok rs o
  have hbd := skyC_bd o
  have hall : (runS l 0).2.length ≤ 400 := by show 0 ≤ 400; omega
  refine summW Tryz.func138 rfl rfl 58 rfl (by simp) (fun M0 => ?_)
  repeat (first
    | (apply s_boxw (T := 240); exact rfl; exact rfl; exact rfl; exact rfl)
    | (apply s_a TY; exact rfl)
    | (apply s_t; exact rfl; (first | assumption | omega))
    | apply w_seq
    | apply w_region
    | apply s_nil
    | apply t_norm
    | apply w_block
    | apply w_skip
    | (apply w_condF; exact rfl; exact rfl)
    | (apply s_k (HO); exact rfl)
    | (apply s_k1 (first2_1 _ _); exact rfl; (first | assumption | omega | decide))
    | (apply s_k (unless_T _); exact rfl))
  apply w_gh (gh_trans (gh_ownB 0 1 9 1 rfl rfl rfl) (gh_trans (gh_ownB 0 2 241 1 rfl rfl rfl) (gh_trans (gh_rowA 2 (cs := []) rfl) (gh_trans (gh_nx 1000) (gh_own 11 86 1 rfl rfl)))))
  apply w_loop (fun k : Nat => ⟨(Ab.upd (Ab.upd (Ab.upd (Ab.upd (Ab.upd (fun _ => .bot) 10 (.bx 0 0)) 11 (.ow 1000)) 34 (.f (.sl l.length (actsF l)))) 35 (.f (iv l.length))) 36 (.f (iv ((k : Nat) : Int)))), Ab.upd (HB (skyC rs) (runS l k).1 (runS l k).2) 1000 (some (.row 86 1 k (listsF (runW l k)))), 1001⟩) (fun k => k ≤ l.length) (fun k => l.length - k) 0 (Nat.zero_le _) (gh_le ⟨le_upd rfl trivial (le_upd rfl trivial (le_upd rfl trivial (le_upd rfl rfl (le_upd rfl rfl (le_nil _))))), le_baseO rfl rfl trivial (le_HB hall rfl rfl rfl (fun i B h => by obtain ⟨j, a, ha, _⟩ := HX_some h; simp [runS] at ha))⟩)
  intro k hk
  have inv := inv_run (l := l) (k := k) (c := (skyC rs).length) (fun i hi => hE i (by omega))
  have hal := inv.al
  by_cases hc : k < l.length
  · have hx := getD_at hc
    have hcx := hcl k hc
    have hEk : stpE (skyC rs).length (runS l k) (l.getD k default) = 0 := hE k hc
    rw [hx] at hcx hEk
    have HACT := act_ok (skyC rs) (runS l k) k inv (by omega) (by omega) l[k] hcx hEk
    have hall := (inv_step inv hEk).al
    replace hall : (stpS (runS l k) l[k]).2.length ≤ 400 := by omega
    have hS : runS l (k + 1) = stpS (runS l k) l[k] := by rw [runS, hx]
    have hW : runW l (k + 1) = runW l k ++ [stpW (runS l k) l[k]] := by rw [runW, hx]
    repeat (first
    | (refine s_callH HACT (fun _ => rfl) (fun i q h => by cases h) rfl rfl rfl ⟨rfl, trivial, trivial⟩ (over_sub _ _ _) (over_new _ _ _) ?_)
    | (apply s_a TY; exact rfl)
    | (apply s_t; exact rfl; (first | assumption | omega))
    | apply w_seq
    | apply w_region
    | apply s_nil
    | apply t_norm
    | apply k_norm
    | apply w_block
    | apply w_skip
    | (apply w_condT; exact rfl; exact rfl)
    | (apply w_condF; exact rfl; exact rfl)
    | (apply s_c TY; exact rfl; (first | omega | exact ⟨by omega, by (first | with_reducible assumption | ((with_reducible apply actsF_ne); omega) | assumption)⟩))
    | (apply s_m TY; exact rfl; (first | with_reducible assumption | ((with_reducible apply actsF_sub); omega) | exact rfl); exact rfl)
    | (apply s_alloc TY; exact rfl; exact rfl; exact rfl)
    | (apply s_store TY; exact rfl; exact rfl; exact rfl; exact rfl; exact rfl; exact rfl)
    | (apply s_append TY; exact rfl; exact rfl; exact rfl; exact rfl; exact rfl; exact rfl; exact rfl; exact rfl; exact rfl; (unfold maxLen; omega); omega))
    refine ⟨k + 1, by omega, by omega, ?_⟩
    simp only [hS, hW, listsF_snoc]
    exact gh_le ⟨le_upd rfl trivial (le_upd rfl trivial (le_upd rfl trivial (le_upd rfl rfl (le_upd rfl rfl (le_nil _))))), le_baseO rfl rfl trivial (le_HB hall rfl rfl (congrArg (fun z => some (Blk.rowA 241 1 _ z)) (killA_big _ hall (by omega))) (fun i B h => by
      have hb := HX_bd h
      try simp only [St.put]
      repeat (first | exact HX_HB h | exact join_h (HX_HB h) | refine grow_h (by omega) ?_ (HX_killB (by omega) (by omega) h) | refine (Ab.upd_other _ _ (by omega)).trans ?_)))⟩
  · have hkl : k = l.length := by omega
    subst hkl
    repeat (first
    | (apply s_a TY; exact rfl)
    | (apply s_f; exact rfl; (first | assumption | omega))
    | apply w_seq
    | apply w_region
    | apply s_nil
    | apply t_norm
    | apply t_exit
    | apply k_hit
    | apply w_exit
    | apply w_ret
    | (apply w_condF; exact rfl; exact rfl))
    exact lv_ret (ret4 rfl (res_sees rfl (sees_ls (by omega) rfl rfl rfl (fun i B h => by
      have hb := HX_bd h
      try simp only [St.put]
      repeat (first | exact HX_HB h | exact join_h (HX_HB h) | refine grow_h (by omega) ?_ (HX_killB (by omega) (by omega) h) | refine (Ab.upd_other _ _ (by omega)).trans ?_)))) (res_sees rfl (sees_row rfl)) (res_tmp rfl) (res_tmp rfl))
end Go.Proofs.YtbkdjlahhcofmaaGreatDoor
namespace Go.Proofs.YtbkdjlahhcofmaaGreatDoor
open Go Go.RowKit Go.Proofs Go.Shelf Go.Ab
set_option maxRecDepth 100000 in
set_option maxHeartbeats 1600000 in
theorem RecipientsOf_ok (rs : List Int) (o : SkyOk rs) (l : List Act) (hl : l.length ≤ 40) (hcl : ∀ i, i < l.length → (l.getD i default).cells.length ≤ 1000000) (hE : ∀ i, i < l.length → runE (skyC rs).length l i = 0) (k : Nat) (hk : k < l.length) (h0 : l[k].kind ≠ 0) (h1 : l[k].kind ≠ 1) : Summ Tryz.prog GG 36 [skF rs, .sl l.length (actsF l), iv ((k : Nat) : Int)] (.tup [listF ((runW l l.length)[k]'(by rw [runW_len]; exact hk)), iv 0]) := by
  have HR := replay_ok rs o l hl hcl hE
  have hw : (listsF (runW l l.length))[((k : Nat) : Int).toNat * 1]? = some (listF ((runW l l.length)[k]'(by rw [runW_len]; exact hk))) := by rw [Int.toNat_natCast]; exact listsF_at (by rw [runW_len]; exact hk)
  have hw2 : (listsF (runW l l.length))[k * 1]? = some (listF ((runW l l.length)[k]'(by rw [runW_len]; exact hk))) := listsF_at (by rw [runW_len]; exact hk)
  have hne : listsF (runW l l.length) ≠ [] := listsF_ne (k := k) (by rw [runW_len]; exact hk)
  generalize (runW l l.length)[k]'(by rw [runW_len]; exact hk) = w at hw hw2 ⊢
  refine summW Tryz.func36 rfl rfl 50 rfl (by simp) (fun M0 => ?_)
  repeat (first
    | (apply s_a TY; exact rfl)
    | (apply s_t; exact rfl; (first | assumption | omega))
    | (apply s_f; exact rfl; (first | assumption | omega))
    | apply w_seq
    | apply w_region
    | apply s_nil
    | apply t_norm
    | apply w_ret
    | apply w_skip
    | (apply w_condF; exact rfl; exact rfl)
    | (apply s_k (HR); exact rfl)
    | (apply s_k1 (first2_1 _ _); exact rfl; (first | assumption | omega | decide))
    | (apply s_k (unless_T _); exact rfl)
    | (apply s_k1 (within_T _ _ _); exact rfl; (first | assumption | omega | decide))
    | (apply s_c TY; exact rfl; (first | omega | exact ⟨by omega, by (first | with_reducible assumption | ((with_reducible apply actsF_ne); omega) | ((with_reducible apply listsF_ne); omega) | assumption)⟩))
    | (apply s_l TY; exact rfl; (first | exact rfl | with_reducible assumption | ((with_reducible apply actsF_f0); omega) | ((with_reducible apply actsF_f1); omega) | ((with_reducible apply actsF_f2); omega) | ((with_reducible apply listsF_at); omega) | assumption)))
  exact lv_ret (ret2 rfl (res_tmp rfl) (res_tmp rfl))
end Go.Proofs.YtbkdjlahhcofmaaGreatDoor
namespace Go.Proofs.YtbkdjlahhcofmaaGreatDoor
open Go Go.RowKit Go.Proofs Go.Shelf Go.Ab
structure PtOk (p : Pt) : Prop where
  h : -1000000 ≤ p.height ∧ p.height ≤ 1000000
  t : 0 ≤ p.turn ∧ p.turn ≤ 999999
set_option maxRecDepth 100000 in
set_option maxHeartbeats 1600000 in
theorem turned_fix_ok (pt : Pt) (n : Int) (o : PtOk pt) (h : 0 ≤ n ∧ n ≤ 1000000000000) : Summ Tryz.prog GG 181 [ptF pt, iv n, iv 1] (.tup [ptF ⟨pt.height, turnedZ pt.turn n 1⟩, iv 0]) := by
  have HP := pointErr_s pt
  rw [ptE_0 ⟨o.h, o.t⟩] at HP
  have ho := o.t
  have hz := turnZ_bd n
  have HT := turnAt_s n (by omega)
  refine summW Tryz.func181 rfl rfl 30 rfl (by simp) (fun M0 => ?_)
  repeat (first
    | (apply s_boxw (T := 131); exact rfl; exact rfl; exact rfl; exact rfl)
    | (apply s_a TY; exact rfl)
    | (apply s_t; exact rfl; (first | assumption | omega))
    | apply w_seq
    | apply w_region
    | (apply w_draw (id := 4) 6 rfl (by kernel_rfl))
    | apply s_nil
    | apply t_norm
    | apply w_ret
    | apply w_skip
    | (apply w_condF; exact rfl; exact rfl)
    | (apply s_k (HP); exact rfl)
    | (apply s_k (HT); exact rfl)
    | (apply s_k1 (first2_1 _ _); exact rfl; (first | assumption | omega | decide))
    | (apply s_k1 (tickErr_T _); exact rfl; (first | assumption | omega | decide))
    | (apply s_c TY; exact rfl; omega)
    | (apply s_alloc TY; exact rfl; exact rfl; exact rfl)
    | (apply s_store TY; exact rfl; exact rfl; exact rfl; exact rfl; exact rfl; exact rfl))
  exact lv_ret (ret2 rfl (res_bxs TY rfl rfl rfl rfl rfl) (res_tmp rfl))
set_option maxRecDepth 100000 in
theorem FixedOf_ok (pt : Pt) (n : Int) (o : PtOk pt) (h : 0 ≤ n ∧ n ≤ 1000000000000) : Summ Tryz.prog GG 63 [ptF pt, iv n] (.tup [ptF ⟨pt.height, turnedZ pt.turn n 1⟩, iv 0]) := by
  have HT := turned_fix_ok pt n o h
  refine summW Tryz.func63 rfl rfl 11 rfl (by simp) (fun M0 => ?_)
  repeat (first
    | (apply s_a TY; exact rfl)
    | apply w_seq
    | apply w_region
    | apply s_nil
    | apply t_norm
    | apply w_ret
    | (apply s_k (HT); exact rfl)
    | (apply s_alloc TY; exact rfl; exact rfl; exact rfl)
    | (apply s_store TY; exact rfl; exact rfl; exact rfl; exact rfl; exact rfl; exact rfl))
  exact lv_ret (ret2 rfl (res_bxs TY rfl rfl rfl rfl rfl) (res_tmp rfl))
end Go.Proofs.YtbkdjlahhcofmaaGreatDoor
namespace Go.Proofs.YtbkdjlahhcofmaaGreatDoor
open Go Go.RowKit Go.Proofs Go.Shelf Go.Ab
theorem rep_slw {w : World} {M : Nat → Prop} {n : Nat} {v : Value} {cs cs' : List FV} (h : RepF w M v (.sl n cs)) (hl : cs.length = cs'.length) (hc : ∀ (k : Nat) (x x' : FV), cs[k]? = some x → cs'[k]? = some x' → ∀ u, RepF w M u x → RepF w M u x') : RepF w M v (.sl n cs') := by
  cases h with
  | sl a n c cs us h1 h2 h3 h4 h5 =>
    refine RepF.sl a n c cs' us h1 (h2.trans hl) h3 h4 (fun k u x hu hx => ?_)
    have hk : k < cs.length := by rw [hl]; exact (List.getElem?_eq_some_iff.1 hx).1
    exact hc k _ x (List.getElem?_eq_getElem hk) hx u (h5 k u _ hu (List.getElem?_eq_getElem hk))
def nilWL : List FV → List FV → Prop
  | [], [] => True
  | x :: xs, y :: ys => (x = y ∨ (x = .v (.slice none 0 0) ∧ y = .sl 0 [])) ∧ nilWL xs ys
  | _, _ => False
theorem nilWL_len : ∀ {xs ys : List FV}, nilWL xs ys → xs.length = ys.length
  | [], [], _ => rfl
  | _ :: _, _ :: _, h => by simp [nilWL_len h.2]
  | [], _ :: _, h => h.elim
  | _ :: _, [], h => h.elim
theorem nilWL_at {w : World} {M : Nat → Prop} : ∀ {xs ys : List FV}, nilWL xs ys → ∀ (k : Nat) (x x' : FV), xs[k]? = some x → ys[k]? = some x' → ∀ u, RepF w M u x → RepF w M u x'
  | [], [], _, k, x, x', h1, _, _, _ => by simp at h1
  | a :: xs, b :: ys, h, 0, x, x', h1, h2, u, r => by
    simp at h1 h2; subst h1; subst h2
    rcases h.1 with e | ⟨e1, e2⟩
    · rwa [← e]
    · rw [e1] at r; rw [e2]; exact rep_nilsl r
  | a :: xs, b :: ys, h, k + 1, x, x', h1, h2, u, r => nilWL_at h.2 k x x' (by simpa using h1) (by simpa using h2) u r
  | [], _ :: _, h, _, _, _, _, _, _, _ => h.elim
  | _ :: _, [], h, _, _, _, _, _, _, _ => h.elim
theorem summ_slw {g n : Nat} {args cs cs' : List FV} (S : Summ Tryz.prog GG g args (.sl n cs)) (h : nilWL cs cs') : Summ Tryz.prog GG g args (.sl n cs') :=
  ⟨S.enters, fun w M us h1 h2 h3 => (S.call w M us h1 h2 h3).mono fun _ _ ⟨v, q1, q2, q3⟩ => ⟨v, q1, rep_slw q2 (nilWL_len h) (nilWL_at h), q3⟩⟩
def exRs : List Int := [1, 4, 4, 1]
def exM : List Int := [0, 5, 3, 0, 0, 2, 0, 0, 0, 0]
def nAnn : Nm := [97, 110, 110]
def nBob : Nm := [98, 111, 98]
def nX : Nm := [120]
def exActs : List Act := [⟨0, nAnn, []⟩, ⟨2, nX, [1, 2]⟩, ⟨0, nBob, []⟩, ⟨3, nX, [1]⟩, ⟨1, nAnn, []⟩, ⟨4, nX, []⟩]
def exJobs : List Job := [⟨0, 5, 9, 1⟩, ⟨1, 2, 4, 5⟩, ⟨2, 1, 9, 3⟩]
theorem Sky_s : Summ Tryz.prog GG 133 [] (skF exRs) := by
  refine summW Tryz.func133 rfl rfl 3 rfl (by simp) (fun M0 => ?_)
  repeat (first
    | (apply s_a TY; exact rfl)
    | apply w_seq
    | apply w_region
    | apply s_nil
    | apply t_norm
    | apply w_ret
    | (apply s_alloc TY; exact rfl; exact rfl; exact rfl)
    | (apply s_store TY; exact rfl; exact rfl; exact rfl; exact rfl; exact rfl; exact rfl))
  exact lv_ret (ret1 rfl (res_bxs (sub := [.sl exRs.length (intsF exRs)]) TY rfl rfl rfl rfl rfl))
theorem Map_s : Summ Tryz.prog GG 134 [] (skF exM) := by
  refine summW Tryz.func134 rfl rfl 3 rfl (by simp) (fun M0 => ?_)
  repeat (first
    | (apply s_a TY; exact rfl)
    | apply w_seq
    | apply w_region
    | apply s_nil
    | apply t_norm
    | apply w_ret
    | (apply s_alloc TY; exact rfl; exact rfl; exact rfl)
    | (apply s_store TY; exact rfl; exact rfl; exact rfl; exact rfl; exact rfl; exact rfl))
  exact lv_ret (ret1 rfl (res_bxs (sub := [.sl exM.length (intsF exM)]) TY rfl rfl rfl rfl rfl))
theorem Jobs_s : Summ Tryz.prog GG 207 [] (.sl exJobs.length (jobsF exJobs)) := by
  refine summW Tryz.func207 rfl rfl 5 rfl (by simp) (fun M0 => ?_)
  repeat (first
    | (apply s_a TY; exact rfl)
    | apply w_seq
    | apply w_region
    | apply s_nil
    | apply t_norm
    | apply w_ret)
  exact lv_ret (ret1 rfl (res_tmp rfl))
def exActsN : List FV := [iv 0, sv nAnn, .v (.slice none 0 0), iv 2, sv nX, .sl 2 (intsF [1, 2]), iv 0, sv nBob, .v (.slice none 0 0), iv 3, sv nX, .sl 1 (intsF [1]), iv 1, sv nAnn, .v (.slice none 0 0), iv 4, sv nX, .v (.slice none 0 0)]
theorem Acts_n : Summ Tryz.prog GG 135 [] (.sl 6 exActsN) := by
  refine summW Tryz.func135 rfl rfl 10 rfl (by simp) (fun M0 => ?_)
  repeat (first
    | (apply s_a TY; exact rfl)
    | apply w_seq
    | apply w_region
    | apply s_nil
    | apply t_norm
    | apply w_ret)
  exact lv_ret (ret1 rfl (res_tmp rfl))
theorem exActs_w : nilWL exActsN (actsF exActs) := ⟨.inl rfl, .inl rfl, .inr ⟨rfl, rfl⟩, .inl rfl, .inl rfl, .inl rfl, .inl rfl, .inl rfl, .inr ⟨rfl, rfl⟩, .inl rfl, .inl rfl, .inl rfl, .inl rfl, .inl rfl, .inr ⟨rfl, rfl⟩, .inl rfl, .inl rfl, .inr ⟨rfl, rfl⟩, trivial⟩
theorem Acts_s : Summ Tryz.prog GG 135 [] (.sl exActs.length (actsF exActs)) := summ_slw Acts_n exActs_w
theorem exSky : SkyOk exRs := skyOk_of (by decide +kernel)
theorem exMap : MapOk (befK exRs exRs.length) exM := mapOk_of (by decide +kernel)
theorem exReg : regV exM 90 = [1, 2, 5] := by
  have h : (sortedW exM).take (regC (wI exM) (sortedW exM) (wantV exM 90)) = [1, 2, 5] := by decide +kernel
  unfold regV
  rw [h]
  unfold ascL
  refine List.mergeSort_of_pairwise ?_
  decide +kernel
theorem exCell : cellZ exRs 500000 250000 = 2 := by decide +kernel
theorem exTurn : turnedZ 700000 43082 1 = 200000 := by decide +kernel
theorem exJobsOk : JobsOk exJobs := jobsOk_of (by decide +kernel)
theorem exOrder : orderO exJobs = some [1, 0, 2] := by decide +kernel
theorem exRun : ∀ i, i < exActs.length → runE (skyC exRs).length exActs i = 0 := by decide +kernel
theorem runW_at (l : List Act) : ∀ (n i : Nat), i < n → (runW l n)[i]? = some (stpW (runS l i) (l.getD i default))
  | 0, i, h => absurd h (Nat.not_lt_zero i)
  | n + 1, i, h => by
    rw [runW]
    by_cases e : i = n
    · subst e
      rw [List.getElem?_append_right (by rw [runW_len]; exact Nat.le_refl _), runW_len, Nat.sub_self]; rfl
    · rw [List.getElem?_append_left (by rw [runW_len]; omega)]
      exact runW_at l n i (by omega)
theorem exWho : (altA (runS exActs 5).2 nX).kys = [nAnn, nBob] := by decide +kernel
theorem exAsc : ascN [nAnn, nBob] = [nAnn, nBob] := by
  unfold ascN
  refine List.mergeSort_of_pairwise ?_
  decide +kernel
theorem exRec : (runW exActs exActs.length)[5]? = some [nAnn, nBob] := by
  rw [runW_at exActs exActs.length 5 (by decide)]
  show some (ascN (altA (runS exActs 5).2 nX).kys) = _
  rw [exWho, exAsc]
end Go.Proofs.YtbkdjlahhcofmaaGreatDoor
namespace Go.Proofs.YtbkdjlahhcofmaaGreatDoor
open Go Go.RowKit Go.Proofs Go.Shelf Go.Ab
theorem stood_pt : Tryz.prog.stoodInHeld 131 = false := by kernel_rfl
theorem fields_pt : Tryz.prog.fieldsOf 131 = #[{ name := "Height", type := 3, offset := 0, embedded := false, tag := "", pkgPath := "", byteOffset := 0 }, { name := "Turn", type := 3, offset := 1, embedded := false, tag := "", pkgPath := "", byteOffset := 8 }] := by kernel_rfl
theorem equalIn_pt (d : Nat) (a b : Pt) (W : World) : (Op.equalIn (d + 2) 131 (.agg #[.int .i64 a.height, .int .i64 a.turn]) (.agg #[.int .i64 b.height, .int .i64 b.turn])).run Tryz.prog W = .ok (decide (a = b)) W := by
  rw [run_equalIn_agg W (d + 1) 131 _ _ (by rw [fields_pt]; exact Tryz.underlying131) stood_pt, fields_pt]
  have e : decide (a = b) = (a.height == b.height && a.turn == b.turn) := by
    cases a; cases b; simp [Pt.mk.injEq]
    try simp [Bool.and_assoc]
    try rfl
  rw [e]
  cases h0 : a.height == b.height <;> cases h1 : a.turn == b.turn <;> simp [Op.eqFields, part, run_equalIn_int W d 3 _ _ _ _ Tryz.underlying3, h0, h1]
theorem guard_pt : Tryz.prog.eqGuardType Tryz.prog.depth 131 = false := by kernel_rfl
theorem eq_pt {x y : Operand} {a b : Pt} {c : Bool} (h : decide (a = b) = c) : ∀ w, (do eqGuard .eql 131 x y (.agg #[.int .i64 a.height, .int .i64 a.turn]) (.agg #[.int .i64 b.height, .int .i64 b.turn]); binOp .eql 131 (.agg #[.int .i64 a.height, .int .i64 a.turn]) (.agg #[.int .i64 b.height, .int .i64 b.turn]) : Sem Value).run Tryz.prog w = .ok (.bool c) w := fun w => by
  have h1 := equalIn_pt 9998 a b w
  rw [h] at h1
  first
  | (simp [eqGuard, run_eql_struct, h1]; done)
  | simp [eqGuard, guard_pt, run_eql_struct, h1]
theorem eqI {x y : Operand} {h1 t1 h2 t2 : Int} {c : Bool} (h : decide ((⟨h1, t1⟩ : Pt) = ⟨h2, t2⟩) = c) : ∀ w, (do eqGuard .eql 131 x y (.agg #[.int .i64 h1, .int .i64 t1]) (.agg #[.int .i64 h2, .int .i64 t2]); binOp .eql 131 (.agg #[.int .i64 h1, .int .i64 t1]) (.agg #[.int .i64 h2, .int .i64 t2]) : Sem Value).run Tryz.prog w = .ok (.bool c) w := eq_pt (a := ⟨h1, t1⟩) (b := ⟨h2, t2⟩) h
set_option maxRecDepth 100000 in
set_option maxHeartbeats 1600000 in
theorem awake_s : Summ Tryz.prog GG 87 [] (.v (.bool true)) := by
  have H1 := Sky_s
  have H2 := CellOf_ok exRs ⟨500000, 250000⟩ exSky (by decide)
  rw [show cellZ exRs (Pt.height ⟨500000, 250000⟩) (Pt.turn ⟨500000, 250000⟩) = 2 from exCell] at H2
  have H3 := Map_s
  have H4 := RegionOf_of exRs exM 90 exSky exMap (by decide) (stab_few (by decide))
  rw [exReg] at H4
  have H5 := FixedOf_ok ⟨7, 700000⟩ 43082 ⟨by decide, by decide⟩ (by decide)
  rw [show turnedZ (Pt.turn ⟨7, 700000⟩) 43082 1 = 200000 from exTurn] at H5
  have H6 := Acts_s
  have H7 := RecipientsOf_ok exRs exSky exActs (by decide) (by decide) exRun 5 (by decide) (by decide) (by decide)
  have hw : (runW exActs exActs.length)[5]'(by rw [runW_len]; decide) = [nAnn, nBob] := by
    have := exRec
    rw [List.getElem?_eq_getElem (by rw [runW_len]; decide)] at this
    exact Option.some.inj this
  rw [hw] at H7
  have H8 := Jobs_s
  have H9 := OrderFor_ok exJobs exJobsOk
  rw [exOrder, show (if (some [(1 : Int), 0, 2]).isSome = true then (0 : Int) else 12) = 0 from rfl] at H9
  have HA := Ints_s [1, 2, 5] [1, 2, 5] (by decide) (by decide)
  rw [decide_eq_true rfl] at HA
  have HB := Ints_s [1, 0, 2] [1, 0, 2] (by decide) (by decide)
  rw [decide_eq_true rfl] at HB
  have HC := Texts_s [nAnn, nBob] [nAnn, nBob] (by decide) (by decide)
  rw [decide_eq_true rfl] at HC
  refine summW Tryz.func87 rfl rfl 81 rfl (by simp) (fun M0 => ?_)
  repeat (first
    | (apply s_bind; exact rfl; exact rfl; exact rfl; exact rfl; exact rfl; exact rfl; exact eqI rfl)
    | (apply s_a TY; exact rfl)
    | (apply s_t; exact rfl; (first | assumption | omega))
    | apply w_seq
    | apply w_region
    | apply s_nil
    | apply t_norm
    | apply w_ret
    | (apply s_k (H1); exact rfl)
    | (apply s_k (H2); exact rfl)
    | (apply s_k (H3); exact rfl)
    | (apply s_k (H4); exact rfl)
    | (apply s_k (H5); exact rfl)
    | (apply s_k (H6); exact rfl)
    | (apply s_k (H7); exact rfl)
    | (apply s_k (H8); exact rfl)
    | (apply s_k (H9); exact rfl)
    | (apply s_k (HA); exact rfl)
    | (apply s_k (HB); exact rfl)
    | (apply s_k (HC); exact rfl)
    | (apply s_alloc TY; exact rfl; exact rfl; exact rfl)
    | (apply s_store TY; exact rfl; exact rfl; exact rfl; exact rfl; exact rfl; exact rfl))
  exact lv_ret (ret1 rfl (res_tmp rfl))
end Go.Proofs.YtbkdjlahhcofmaaGreatDoor
namespace Go.Proofs.YtbkdjlahhcofmaaGreatDoor
open Go Go.RowKit Go.Proofs Go.Shelf Go.Ab
end Go.Proofs.YtbkdjlahhcofmaaGreatDoor
namespace Go.Proofs.YtbkdjlahhcofmaaGreatDoor
open Go Go.RowKit Go.Proofs Go.Shelf Go.Ab
set_option maxRecDepth 100000 in
theorem Size_s (n : Int) (h : -9000000000000000000 ≤ n ∧ n ≤ 9000000000000000000) : Summ Tryz.prog GG 275 [iv n] (iv (max n (-n))) := by
  refine summW Tryz.func275 rfl rfl 7 rfl (by simp) (fun M0 => ?_)
  repeat (first
    | (apply s_a TY; exact rfl)
    | apply w_seq
    | apply w_region
    | apply s_nil
    | apply t_norm
    | apply w_ret
    | (apply s_c TY; exact rfl; omega))
  exact lv_ret (ret1 rfl (res_tmp rfl))
end Go.Proofs.YtbkdjlahhcofmaaGreatDoor
namespace Go.Proofs.YtbkdjlahhcofmaaGreatDoor
open Go.Lib (itoa decDigits decFrom digitVal)
open Go Go.RowKit Go.Proofs Go.Shelf Go.Ab
theorem cat_run {x y : Operand} {T : TypeId} {a b : List UInt8} (hl : a.length + b.length ≤ 1000000000) (w : World) : (do eqGuard .add T x y (.string ⟨a.toArray⟩) (.string ⟨b.toArray⟩); binOp .add T (.string ⟨a.toArray⟩) (.string ⟨b.toArray⟩) : Sem Value).run Tryz.prog w = .ok (.string ⟨(a ++ b).toArray⟩) w := by
  have e : (⟨a.toArray⟩ : ByteArray) ++ ⟨b.toArray⟩ = ⟨(a ++ b).toArray⟩ := by
    apply ByteArray.ext
    simp [ByteArray.data_append]
  have h1 : ((⟨a.toArray⟩ : ByteArray).size : Int) + ((⟨b.toArray⟩ : ByteArray).size : Int) ≤ 9223372036854775807 := by simp [ByteArray.size]; omega
  simp [eqGuard, binOp, Op.stringOp, e, h1]
theorem conv8_run {d : Nat} (h : d < 10) (w : World) : (convert 3 5 (.int .i64 (48 + ((d : Nat) : Int)))).run Tryz.prog w = .ok (.int .u8 (48 + ((d : Nat) : Int))) w := by
  have e : IntKind.u8.wrap (48 + ((d : Nat) : Int)) = 48 + ((d : Nat) : Int) := by
    have hw : ∀ m : Nat, m < 256 → IntKind.u8.wrap ((m : Nat) : Int) = m := by decide +kernel
    have := hw (48 + d) (by omega)
    rw [Int.natCast_add] at this
    exact this
  simp [convert, run_underlying Tryz.underlying5, run_underlying Tryz.underlying3, Conv.intToInt, e]
theorem quo10_t {x y : Operand} {T : TypeId} {a : Int} (hr : -9223372036854775808 ≤ a ∧ a ≤ 9223372036854775807) : ∀ w, (do eqGuard .quo T x y (.int .i64 a) (.int .i64 10); binOp .quo T (.int .i64 a) (.int .i64 10) : Sem Value).run Tryz.prog w = .ok (.int .i64 (a.tdiv 10)) w := fun w => by
  have h1 : IntKind.i64.wrap (a.tdiv 10) = a.tdiv 10 := IntWalk.i64_quo' _ _ ⟨hr.1, hr.2, by omega⟩
  simp [eqGuard, binOp, Op.intDiv, h1]
def decP (m : Nat) : Nm := if m = 0 then [] else decDigits m
theorem decP_0 : decP 0 = [] := rfl
theorem decP_pos {m : Nat} (h : m ≠ 0) : decP m = decDigits m := if_neg h
theorem decP_step {m : Nat} (h : m ≠ 0) : decP m = decP (m / 10) ++ [UInt8.ofNat (48 + m % 10)] := by
  rw [decP_pos h, decDigits]
  split
  · rename_i h9
    rw [show m / 10 = 0 by omega, show m % 10 = m by omega]; rfl
  · rename_i h9
    rw [decP_pos (by omega)]
set_option maxRecDepth 100000 in
set_option maxHeartbeats 1600000 in
theorem Decimal_s (n : Int) (h : -9223372036854775808 ≤ n ∧ n ≤ 9223372036854775807) : Summ Tryz.prog GG 197 [iv n] (sv (itoa n)) := by
  by_cases h0 : n = 0
  · subst h0
    rw [show itoa 0 = [48] by unfold itoa; rw [if_neg (by decide)]; rw [decDigits]; rfl]
    refine summW Tryz.func197 rfl rfl 27 rfl (by simp) (fun M0 => ?_)
    repeat (first
    | (apply s_a TY; exact rfl)
    | (apply s_t; exact rfl; (first | assumption | omega))
    | apply w_seq
    | apply w_region
    | apply s_nil
    | apply t_norm
    | apply t_ret
    | apply w_ret
    | (apply w_condT; exact rfl; exact rfl))
    exact lv_ret (ret1 rfl (res_tmp rfl))
  have hdl : (decDigits n.natAbs).length ≤ 21 := by
    have e := Lib.itoa_length_le n h.1 h.2
    unfold itoa at e
    split at e
    · rw [List.length_cons] at e; omega
    · rw [show n.natAbs = n.toNat by omega]; exact e
  by_cases hneg : n < 0
  · have hne10 : (10 : Int) ≠ 0 := by decide
    refine summW Tryz.func197 rfl rfl 27 rfl (by simp) (fun M0 => ?_)
    repeat (first
    | (apply s_a TY; exact rfl)
    | (apply s_t; exact rfl; (first | assumption | omega))
    | (apply s_f; exact rfl; (first | assumption | omega))
    | apply w_seq
    | apply w_region
    | apply s_nil
    | apply t_norm
    | apply w_block
    | apply w_skip
    | (apply w_condT; exact rfl; exact rfl)
    | (apply w_condF; exact rfl; exact rfl))
    apply w_loop (fun q : Nat × Nm => ⟨(Ab.upd (Ab.upd (Ab.upd (fun _ => .bot) 0 (.f (iv (-((q.1 : Nat) : Int))))) 3 (.f (sv q.2))) 4 (.f (sv [45]))), (fun _ => none), 0⟩) (fun q => decP q.1 ++ q.2 = decDigits n.natAbs ∧ q.1 ≤ 9223372036854775808) (fun q => q.1) (n.natAbs, []) (⟨by rw [decP_pos (by omega)]; exact List.append_nil _, by show n.natAbs ≤ _; omega⟩) (gh_le ⟨le_upd rfl trivial (le_upd rfl trivial (le_upd (congrArg (fun z => AV.f (iv z)) (show (-((n.natAbs : Nat) : Int)) = n by omega)) trivial (le_nil _))), le_h0 _ _⟩)
    rintro ⟨m, s⟩ ⟨hs, hb⟩
    change decP m ++ s = decDigits n.natAbs at hs
    change m ≤ 9223372036854775808 at hb
    have hsl : s.length ≤ 30 := by
      have e := congrArg List.length hs
      rw [List.length_append] at e
      omega
    change W _ _ _ _ (⟨(Ab.upd (Ab.upd (Ab.upd (fun _ => .bot) 0 (.f (iv (-((m : Nat) : Int))))) 3 (.f (sv s))) 4 (.f (sv [45]))), (fun _ => none), 0⟩)
    by_cases hc : m = 0
    · subst hc
      rw [decP_0, List.nil_append] at hs
      repeat (first
    | (apply s_bind; exact rfl; exact rfl; exact rfl; exact rfl; exact rfl; exact rfl; exact cat_run (by (first | omega | (simp only [List.length_cons, List.length_nil]; omega))))
    | (apply s_a TY; exact rfl)
    | (apply s_t; exact rfl; (first | assumption | omega))
    | apply w_seq
    | apply w_region
    | apply s_nil
    | apply t_norm
    | apply t_exit
    | apply k_hit
    | apply w_exit
    | apply w_ret
    | (apply w_condF; exact rfl; exact rfl))
      rw [show itoa n = [45] ++ s by rw [hs]; unfold itoa; rw [if_pos hneg]; rfl]
      exact lv_ret (ret1 rfl (res_tmp rfl))
    · have hd10 : m % 10 < 10 := Nat.mod_lt m (by decide)
      have htm : ((-((m : Nat) : Int)).tmod 10) = -(((m % 10) : Nat) : Int) := by
        rw [Int.neg_tmod, Int.tmod_eq_emod_of_nonneg (by omega)]; omega
      have htd : (-(((m / 10) : Nat) : Int)) = (-((m : Nat) : Int)).tdiv 10 := by
        rw [Int.neg_tdiv, Int.tdiv_eq_ediv_of_nonneg (by omega)]; omega
      have HZ := Size_s ((-((m : Nat) : Int)).tmod 10) (by rw [htm]; omega)
      rw [show max ((-((m : Nat) : Int)).tmod 10) (-((-((m : Nat) : Int)).tmod 10)) = (((m % 10) : Nat) : Int) by rw [htm]; omega] at HZ
      repeat (first
    | (apply s_bslicew TY (len := 1); exact rfl; exact rfl; exact rfl; exact rfl; exact rfl; exact rfl; exact rfl; exact rfl; exact rfl)
    | (apply s_strOw Tryz.underlying362 Tryz.underlying9 Tryz.underlying5; exact rfl; exact rfl; exact rfl; exact rfl)
    | (apply s_convW; exact rfl; exact rfl; exact rfl; exact conv8_run hd10)
    | (apply s_bind; exact rfl; exact rfl; exact rfl; exact rfl; exact rfl; exact rfl; exact cat_run (by (first | omega | (simp only [List.length_cons, List.length_nil]; omega))))
    | (apply s_remT; exact rfl; exact rfl; exact rfl; exact hne10)
    | (apply s_bind; exact rfl; exact rfl; exact rfl; exact rfl; exact rfl; exact rfl; exact quo10_t ⟨by omega, by omega⟩)
    | (apply s_a TY; exact rfl)
    | (apply s_f; exact rfl; (first | assumption | omega))
    | apply w_seq
    | apply w_region
    | apply s_nil
    | apply t_norm
    | apply k_norm
    | apply w_block
    | apply w_skip
    | (apply w_condT; exact rfl; exact rfl)
    | (apply s_k (HZ); exact rfl)
    | (apply s_c TY; exact rfl; omega))
      exact ⟨(m / 10, [UInt8.ofNat (48 + (((m % 10) : Nat) : Int)).toNat] ++ s), ⟨by show decP (m / 10) ++ ([UInt8.ofNat (48 + (((m % 10) : Nat) : Int)).toNat] ++ s) = _; rw [← hs, decP_step hc, show (48 + (((m % 10) : Nat) : Int)).toNat = 48 + m % 10 by omega, List.append_assoc], by show m / 10 ≤ _; omega⟩, by show m / 10 < m; omega, gh_le ⟨le_upd rfl trivial (le_upd rfl trivial (le_upd (congrArg (fun z => AV.f (iv z)) htd) trivial (le_nil _))), le_h0 _ _⟩⟩
  · skip
    refine summW Tryz.func197 rfl rfl 27 rfl (by simp) (fun M0 => ?_)
    repeat (first
    | (apply s_a TY; exact rfl)
    | (apply s_f; exact rfl; (first | assumption | omega))
    | apply w_seq
    | apply w_region
    | apply s_nil
    | apply t_norm
    | apply w_block
    | apply w_skip
    | (apply w_condF; exact rfl; exact rfl))
    apply w_loop (fun q : Nat × Nm => ⟨(Ab.upd (Ab.upd (Ab.upd (fun _ => .bot) 0 (.f (iv ((q.1 : Nat) : Int)))) 3 (.f (sv q.2))) 4 (.f (sv []))), (fun _ => none), 0⟩) (fun q => decP q.1 ++ q.2 = decDigits n.natAbs ∧ q.1 ≤ 9223372036854775807) (fun q => q.1) (n.natAbs, []) (⟨by rw [decP_pos (by omega)]; exact List.append_nil _, by show n.natAbs ≤ _; omega⟩) (gh_le ⟨le_upd rfl trivial (le_upd rfl trivial (le_upd (congrArg (fun z => AV.f (iv z)) (show ((n.natAbs : Nat) : Int) = n by omega)) trivial (le_nil _))), le_h0 _ _⟩)
    rintro ⟨m, s⟩ ⟨hs, hb⟩
    change decP m ++ s = decDigits n.natAbs at hs
    change m ≤ 9223372036854775807 at hb
    have hsl : s.length ≤ 30 := by
      have e := congrArg List.length hs
      rw [List.length_append] at e
      omega
    change W _ _ _ _ (⟨(Ab.upd (Ab.upd (Ab.upd (fun _ => .bot) 0 (.f (iv ((m : Nat) : Int)))) 3 (.f (sv s))) 4 (.f (sv []))), (fun _ => none), 0⟩)
    by_cases hc : m = 0
    · subst hc
      rw [decP_0, List.nil_append] at hs
      repeat (first
    | (apply s_bind; exact rfl; exact rfl; exact rfl; exact rfl; exact rfl; exact rfl; exact cat_run (by (first | omega | (simp only [List.length_nil]; omega))))
    | (apply s_a TY; exact rfl)
    | (apply s_t; exact rfl; (first | assumption | omega))
    | apply w_seq
    | apply w_region
    | apply s_nil
    | apply t_norm
    | apply t_exit
    | apply k_hit
    | apply w_exit
    | apply w_ret
    | (apply w_condF; exact rfl; exact rfl))
      rw [show itoa n = [] ++ s by rw [hs]; unfold itoa; rw [if_neg hneg, show n.toNat = n.natAbs by omega]; rfl]
      exact lv_ret (ret1 rfl (res_tmp rfl))
    · have hd10 : m % 10 < 10 := Nat.mod_lt m (by decide)
      have htm : (((m : Nat) : Int).tmod 10) = (((m % 10) : Nat) : Int) := by
        rw [Int.tmod_eq_emod_of_nonneg (by omega)]; omega
      have htd : (((m / 10) : Nat) : Int) = ((m : Nat) : Int).tdiv 10 := by
        rw [Int.tdiv_eq_ediv_of_nonneg (by omega)]; omega
      have HZ := Size_s (((m : Nat) : Int).tmod 10) (by rw [htm]; omega)
      rw [show max (((m : Nat) : Int).tmod 10) (-(((m : Nat) : Int).tmod 10)) = (((m % 10) : Nat) : Int) by rw [htm]; omega] at HZ
      repeat (first
    | (apply s_bslicew TY (len := 1); exact rfl; exact rfl; exact rfl; exact rfl; exact rfl; exact rfl; exact rfl; exact rfl; exact rfl)
    | (apply s_strOw Tryz.underlying362 Tryz.underlying9 Tryz.underlying5; exact rfl; exact rfl; exact rfl; exact rfl)
    | (apply s_convW; exact rfl; exact rfl; exact rfl; exact conv8_run hd10)
    | (apply s_bind; exact rfl; exact rfl; exact rfl; exact rfl; exact rfl; exact rfl; exact cat_run (by (first | omega | (simp only [List.length_cons, List.length_nil]; omega))))
    | (apply s_a TY; exact rfl)
    | (apply s_f; exact rfl; (first | assumption | omega))
    | apply w_seq
    | apply w_region
    | apply s_nil
    | apply t_norm
    | apply k_norm
    | apply w_block
    | apply w_skip
    | (apply w_condT; exact rfl; exact rfl)
    | (apply s_k (HZ); exact rfl)
    | (apply s_c TY; exact rfl; omega))
      exact ⟨(m / 10, [UInt8.ofNat (48 + (((m % 10) : Nat) : Int)).toNat] ++ s), ⟨by show decP (m / 10) ++ ([UInt8.ofNat (48 + (((m % 10) : Nat) : Int)).toNat] ++ s) = _; rw [← hs, decP_step hc, show (48 + (((m % 10) : Nat) : Int)).toNat = 48 + m % 10 by omega, List.append_assoc], by show m / 10 ≤ _; omega⟩, by show m / 10 < m; omega, gh_le ⟨le_upd rfl trivial (le_upd rfl trivial (le_upd (congrArg (fun z => AV.f (iv z)) htd) trivial (le_nil _))), le_h0 _ _⟩⟩
structure CutK (c : UInt8) (s : Nm) (k fr : Nat) (ws : List Nm) : Prop where
  le : fr ≤ k
  no : c ∉ (s.drop fr).take (k - fr)
  all : ws ++ cutS c (s.drop fr) = cutS c s
theorem cutK_start (c : UInt8) (s : Nm) : CutK c s 0 0 [] := ⟨Nat.le_refl _, by simp, rfl⟩
theorem take_snoc {s : Nm} {k fr : Nat} (hk : k < s.length) (hf : fr ≤ k) : (s.drop fr).take (k + 1 - fr) = (s.drop fr).take (k - fr) ++ [s[k]] := by
  rw [show k + 1 - fr = (k - fr) + 1 by omega, List.take_succ_eq_append_getElem (by rw [List.length_drop]; omega)]
  congr 2
  rw [List.getElem_drop]
  congr 1; omega
theorem cutK_miss {c : UInt8} {s : Nm} {k fr : Nat} {ws : List Nm} (q : CutK c s k fr ws) (hk : k < s.length) (h : s[k] ≠ c) : CutK c s (k + 1) fr ws :=
  ⟨Nat.le_succ_of_le q.le, by
    rw [take_snoc hk q.le]
    simp only [List.mem_append, List.mem_singleton, not_or]
    exact ⟨q.no, fun e => h e.symm⟩, q.all⟩
theorem cutK_hit {c : UInt8} {s : Nm} {k fr : Nat} {ws : List Nm} (q : CutK c s k fr ws) (hk : k < s.length) (h : s[k] = c) : CutK c s (k + 1) (k + 1) (ws ++ [(s.drop fr).take (k - fr)]) :=
  ⟨Nat.le_refl _, by rw [Nat.sub_self, List.take_zero]; simp, by
    have e : s.drop fr = (s.drop fr).take (k - fr) ++ c :: s.drop (k + 1) := by
      have e1 := (List.take_append_drop (k - fr) (s.drop fr)).symm
      rw [List.drop_drop, show fr + (k - fr) = k by have := q.le; omega, List.drop_eq_getElem_cons hk, h] at e1
      exact e1
    have h2 := q.all
    rw [e, cutS_hit c _ _ q.no] at h2
    rw [List.append_assoc]
    exact h2⟩
theorem cutK_end {c : UInt8} {s : Nm} {fr : Nat} {ws : List Nm} (q : CutK c s s.length fr ws) : ws ++ [s.drop fr] = cutS c s := by
  have h := q.no
  rw [List.take_of_length_le (by rw [List.length_drop]; omega)] at h
  rw [← q.all, cutS_miss c _ h]
theorem cutK_len {c : UInt8} {s : Nm} {k fr : Nat} {ws : List Nm} (q : CutK c s k fr ws) : ws.length ≤ s.length := by
  have h1 := congrArg List.length q.all
  rw [List.length_append] at h1
  have h2 := cutS_len c s
  have h3 : 0 < (cutS c (s.drop fr)).length := List.length_pos_iff.2 (cutS_ne c _)
  omega
set_option maxRecDepth 100000 in
set_option maxHeartbeats 1600000 in
theorem Cut_s (s : Nm) (c : UInt8) (hs : s.length ≤ 1000000) : Summ Tryz.prog GG 195 [sv s, .v (.int .u8 (c.toNat : Int))] (.sl (cutS c s).length (strsF (cutS c s))) := by
  have hsz := strSz s
  refine summW Tryz.func195 rfl rfl 34 rfl (by simp) (fun M0 => ?_)
  repeat (first
    | (apply s_a TY; exact rfl)
    | apply w_seq
    | apply w_region
    | apply s_nil
    | apply t_norm
    | apply w_block)
  apply w_gh (gh_own 5 9 1 rfl rfl)
  apply w_loop (fun q : Nat × Nat × List Nm => ⟨(Ab.upd (Ab.upd (Ab.upd (Ab.upd (Ab.upd (fun _ => .bot) 0 (.f (sv s))) 1 (.f (.v (.int .u8 (c.toNat : Int))))) 5 (.ow 0)) 6 (.f (iv ((q.2.1 : Nat) : Int)))) 7 (.f (iv ((q.1 : Nat) : Int)))), (Ab.upd (fun _ => none) 0 (some (.row 9 1 q.2.2.length (strsF q.2.2)))), 1⟩) (fun q => CutK c s q.1 q.2.1 q.2.2 ∧ q.1 ≤ s.length) (fun q => s.length - q.1) (0, 0, []) (⟨cutK_start c s, Nat.zero_le _⟩) (gh_le ⟨le_upd rfl trivial (le_upd rfl trivial (le_upd rfl rfl (le_upd rfl trivial (le_upd rfl trivial (le_nil _))))), le_hupd rfl trivial (le_h0 _ _)⟩)
  rintro ⟨k, fr, ws⟩ ⟨q, hk⟩
  change CutK c s k fr ws at q
  change k ≤ s.length at hk
  change W _ _ _ _ (⟨(Ab.upd (Ab.upd (Ab.upd (Ab.upd (Ab.upd (fun _ => .bot) 0 (.f (sv s))) 1 (.f (.v (.int .u8 (c.toNat : Int))))) 5 (.ow 0)) 6 (.f (iv ((fr : Nat) : Int)))) 7 (.f (iv ((k : Nat) : Int)))), (Ab.upd (fun _ => none) 0 (some (.row 9 1 ws.length (strsF ws)))), 1⟩)
  have hwl := cutK_len q
  have hfr := q.le
  by_cases hc : k < s.length
  · have hby : s[((k : Nat) : Int).toNat]? = some s[k] := by rw [Int.toNat_natCast]; exact List.getElem?_eq_getElem hc
    by_cases he : s[k] = c
    · have hnc : (s[k].toNat : Int) = (c.toNat : Int) := by rw [he]
      have hrow : some (Blk.row 9 1 (ws.length + 1) (strsF ws ++ [sv ((s.drop fr).take (k - fr))])) = some (Blk.row 9 1 (ws ++ [(s.drop fr).take (k - fr)]).length (strsF (ws ++ [(s.drop fr).take (k - fr)]))) := by rw [strsF_snoc, List.length_append]; rfl
      repeat (first
    | (apply s_sliceStr TY; exact rfl; exact rfl; exact rfl; exact rfl; exact ⟨_, rfl⟩; exact ⟨_, rfl⟩; omega; omega; omega)
    | (apply s_idxS TY; exact rfl; exact rfl; exact rfl; exact rfl; exact rfl; omega; exact hby)
    | (apply s_append TY; exact rfl; exact rfl; exact rfl; exact rfl; exact rfl; exact rfl; exact rfl; exact rfl; exact rfl; (unfold maxLen; omega); omega)
    | (apply s_a TY; exact rfl)
    | (apply s_t; exact rfl; (first | assumption | omega))
    | apply w_seq
    | apply w_region
    | apply s_nil
    | apply t_norm
    | apply k_norm
    | apply w_block
    | apply w_skip
    | (apply w_condT; exact rfl; exact rfl)
    | (apply s_c TY; exact rfl; omega))
      exact ⟨(k + 1, k + 1, _), ⟨cutK_hit q hc he, by show k + 1 ≤ _; omega⟩, by show _ - (k + 1) < _ - k; omega, gh_le ⟨le_upd rfl trivial (le_upd rfl trivial (le_upd rfl rfl (le_upd rfl trivial (le_upd rfl trivial (le_nil _))))), le_hupd hrow trivial (le_h0 _ _)⟩⟩
    · have hnc : ¬ (s[k].toNat : Int) = (c.toNat : Int) := fun e => he (UInt8.toNat_inj.1 (by omega))
      repeat (first
    | (apply s_idxS TY; exact rfl; exact rfl; exact rfl; exact rfl; exact rfl; omega; exact hby)
    | (apply s_a TY; exact rfl)
    | (apply s_t; exact rfl; (first | assumption | omega))
    | (apply s_f; exact rfl; (first | assumption | omega))
    | apply w_seq
    | apply w_region
    | apply s_nil
    | apply t_norm
    | apply k_norm
    | apply w_block
    | apply w_skip
    | (apply w_condT; exact rfl; exact rfl)
    | (apply w_condF; exact rfl; exact rfl)
    | (apply s_c TY; exact rfl; omega))
      exact ⟨(k + 1, fr, ws), ⟨cutK_miss q hc he, by show k + 1 ≤ _; omega⟩, by show _ - (k + 1) < _ - k; omega, gh_le ⟨le_upd rfl trivial (le_upd rfl trivial (le_upd rfl rfl (le_upd rfl trivial (le_upd rfl trivial (le_nil _))))), le_hupd rfl trivial (le_h0 _ _)⟩⟩
  · have hke : k = s.length := by omega
    subst hke
    have hend := cutK_end q
    have htk : (s.drop fr).take (s.length - fr) = s.drop fr := List.take_of_length_le (by rw [List.length_drop]; omega)
    have hres : FV.sl (cutS c s).length (strsF (cutS c s)) = .sl (ws.length + 1) (strsF ws ++ [sv ((s.drop fr).take (s.length - fr))]) := by rw [htk, ← hend, strsF_snoc, List.length_append]; rfl
    rw [hres]
    repeat (first
    | (apply s_sliceStr TY; exact rfl; exact rfl; exact rfl; exact rfl; exact ⟨_, rfl⟩; exact rfl; omega; omega; omega)
    | (apply s_append TY; exact rfl; exact rfl; exact rfl; exact rfl; exact rfl; exact rfl; exact rfl; exact rfl; exact rfl; (unfold maxLen; omega); omega)
    | (apply s_a TY; exact rfl)
    | (apply s_f; exact rfl; (first | assumption | omega))
    | apply w_seq
    | apply w_region
    | apply s_nil
    | apply t_norm
    | apply t_exit
    | apply k_hit
    | apply w_exit
    | apply w_ret
    | (apply w_condF; exact rfl; exact rfl))
    exact lv_ret (ret1 rfl (res_sees rfl (sees_row rfl)))
end Go.Proofs.YtbkdjlahhcofmaaGreatDoor
namespace Go.Proofs.YtbkdjlahhcofmaaGreatDoor
open Go.Lib (itoa decDigits decFrom digitVal)
open Go Go.RowKit Go.Proofs Go.Shelf Go.Ab
theorem sub8_run {x y : Operand} {T : TypeId} {n : Nat} (h1 : 48 ≤ n) (h2 : n ≤ 57) (w : World) : (do eqGuard .sub T x y (.int .u8 (n : Int)) (.int .u8 48); binOp .sub T (.int .u8 (n : Int)) (.int .u8 48) : Sem Value).run Tryz.prog w = .ok (.int .u8 (((n - 48 : Nat) : Nat) : Int)) w := by
  have hw : ∀ m : Nat, m < 256 → IntKind.u8.wrap ((m : Nat) : Int) = m := by decide +kernel
  have e : IntKind.u8.wrap ((n : Int) - 48) = ((n - 48 : Nat) : Int) := by rw [show (n : Int) - 48 = ((n - 48 : Nat) : Int) by omega]; exact hw _ (by omega)
  simp [eqGuard, binOp, Op.intArith, e]
theorem numO_nil {w : Nm} {d : Nat} (h : w.drop (atS w) = []) : numO w d = none := if_pos (.inl h)
theorem numO_len {w : Nm} {d : Nat} (h : d < (w.drop (atS w)).length) : numO w d = none := if_pos (.inr (.inl h))
theorem numO_zero {w : Nm} {d : Nat} (h1 : (w.drop (atS w)).head? = some 48) (h2 : 1 < w.length) : numO w d = none := if_pos (.inr (.inr ⟨h1, h2⟩))
theorem decFrom_bad {b : UInt8} (hb : digitVal b = none) : ∀ (l r : List UInt8) (acc : Nat), decFrom acc (l ++ b :: r) = none
  | [], r, acc => by rw [List.nil_append, decFrom, hb]
  | c :: l, r, acc => by
    rw [List.cons_append, decFrom]
    cases digitVal c with
    | none => rfl
    | some d => exact decFrom_bad hb l r _
theorem numO_bad {w : Nm} {d a k : Nat} {b : UInt8} {n : Nat} (ha : atS w = a) (hk : a + k < w.length) (_hn : decFrom 0 ((w.drop a).take k) = some n) (hb : w[a + k]? = some b) (hd : ¬ (48 ≤ b.toNat ∧ b.toNat ≤ 57)) : numO w d = none := by
  unfold numO
  split
  · rfl
  · rw [ha]
    have e : w.drop a = (w.drop a).take k ++ b :: w.drop (a + k + 1) := by
      have e1 := (List.take_append_drop k (w.drop a)).symm
      rw [List.drop_drop, List.drop_eq_getElem_cons hk] at e1
      rw [List.getElem?_eq_getElem hk] at hb
      rw [Option.some.inj hb] at e1
      exact e1
    rw [e, decFrom_bad (if_neg hd)]; rfl
def numR (w : Nm) (d : Nat) : FV := match numO w d with
  | some v => .tup [iv v, .v (.bool true)]
  | none => .tup [iv 0, .v (.bool false)]
theorem numR_no {w : Nm} {d : Nat} (h : numO w d = none) : numR w d = .tup [iv 0, .v (.bool false)] := by unfold numR; rw [h]
theorem numR_ok {w : Nm} {d a n : Nat} (ha : atS w = a) (h3 : ¬ ((w.drop (atS w)).head? = some 48 ∧ 1 < w.length)) (h1 : a < w.length) (h2 : ¬ d < (w.drop (atS w)).length) (hn : decFrom 0 (w.drop a) = some n) : numR w d = .tup [iv (if a = 1 then -(n : Int) else n), .v (.bool true)] := by
  have e : numO w d = some (if a = 1 then -(n : Int) else n) := by
    unfold numO
    rw [if_neg (by
      rintro (e | e | e)
      · have := congrArg List.length e
        rw [ha, List.length_drop, List.length_nil] at this
        omega
      · exact h2 e
      · exact h3 e), ha, hn]
    rfl
  unfold numR
  rw [e]
set_option maxRecDepth 100000 in
set_option maxHeartbeats 3200000 in
theorem Number_s (w : Nm) (d : Nat) (hd : d ≤ 17) (hw : w.length ≤ 1000000) : Summ Tryz.prog GG 274 [sv w, iv ((d : Nat) : Int)] (numR w d) := by
  have hsz := strSz w
  by_cases h0 : w.length = 0
  · rw [numR_no (numO_nil (by rw [List.eq_nil_of_length_eq_zero h0]; rfl))]
    refine summW Tryz.func274 rfl rfl 70 rfl (by simp) (fun M0 => ?_)
    repeat (first
    | (apply s_a TY; exact rfl)
    | (apply s_t; exact rfl; (first | assumption | omega))
    | (apply s_f; exact rfl; (first | assumption | omega))
    | apply w_seq
    | apply w_region
    | apply s_nil
    | apply t_norm
    | apply t_ret
    | apply w_ret
    | apply w_skip
    | (apply w_condT; exact rfl; exact rfl)
    | (apply w_condF; exact rfl; exact rfl)
    | (apply s_s; exact rfl))
    exact lv_ret (ret2 rfl (res_tmp rfl) (res_tmp rfl))
  have hl0 : 0 < w.length := by omega
  have hb0 : w[(0 : Int).toNat]? = some w[0] := List.getElem?_eq_getElem hl0
  have hhead : w.head? = some w[0] := by rw [List.head?_eq_getElem?]; exact List.getElem?_eq_getElem hl0
  by_cases h45 : w[0] = 45
  · have ha : atS w = 1 := if_pos (by rw [hhead, h45])
    have h45n : (w[0].toNat : Int) = 45 := by rw [h45]; rfl
    by_cases h1 : w.length = 1
    · rw [numR_no (numO_nil (by rw [ha]; exact List.drop_eq_nil_of_le (by omega)))]
      refine summW Tryz.func274 rfl rfl 70 rfl (by simp) (fun M0 => ?_)
      repeat (first
    | (apply s_idxS TY; exact rfl; exact rfl; exact rfl; exact rfl; exact rfl; omega; exact hb0)
    | (apply s_a TY; exact rfl)
    | (apply s_t; exact rfl; (first | assumption | omega))
    | apply w_seq
    | apply w_region
    | apply s_nil
    | apply t_norm
    | apply t_ret
    | apply w_ret
    | (apply w_condT; exact rfl; exact rfl)
    | (apply s_s; exact rfl))
      exact lv_ret (ret2 rfl (res_tmp rfl) (res_tmp rfl))
    have hbl : (w.drop (atS w)).length = w.length - 1 := by rw [ha, List.length_drop]
    by_cases h2 : d < w.length - 1
    · rw [numR_no (numO_len (by rw [hbl]; exact h2))]
      refine summW Tryz.func274 rfl rfl 70 rfl (by simp) (fun M0 => ?_)
      repeat (first
    | (apply s_idxS TY; exact rfl; exact rfl; exact rfl; exact rfl; exact rfl; omega; exact hb0)
    | (apply s_a TY; exact rfl)
    | (apply s_t; exact rfl; (first | assumption | omega))
    | (apply s_f; exact rfl; (first | assumption | omega))
    | apply w_seq
    | apply w_region
    | apply s_nil
    | apply t_norm
    | apply t_ret
    | apply w_ret
    | (apply w_condT; exact rfl; exact rfl)
    | (apply s_s; exact rfl)
    | (apply s_c TY; exact rfl; omega))
      exact lv_ret (ret2 rfl (res_tmp rfl) (res_tmp rfl))
    have hla : 1 < w.length := by omega
    have hba : w[(1 : Int).toNat]? = some w[1] := List.getElem?_eq_getElem hla
    have hdh : (w.drop (atS w)).head? = some w[1] := by rw [ha, List.head?_drop]; exact List.getElem?_eq_getElem hla
    by_cases h3a : w[1] = 48
    · have h3n : (w[1].toNat : Int) = 48 := by rw [h3a]; rfl
      by_cases h3b : 1 < w.length
      · rw [numR_no (numO_zero (by rw [hdh, h3a]) h3b)]
        refine summW Tryz.func274 rfl rfl 70 rfl (by simp) (fun M0 => ?_)
        repeat (first
    | (apply s_idxS TY; exact rfl; exact rfl; exact rfl; exact rfl; exact rfl; omega; exact hb0)
    | (apply s_idxS TY; exact rfl; exact rfl; exact rfl; exact rfl; exact rfl; omega; exact hba)
    | (apply s_a TY; exact rfl)
    | (apply s_t; exact rfl; (first | assumption | omega))
    | (apply s_f; exact rfl; (first | assumption | omega))
    | apply w_seq
    | apply w_region
    | apply s_nil
    | apply t_norm
    | apply t_ret
    | apply w_ret
    | (apply w_condT; exact rfl; exact rfl)
    | (apply s_c TY; exact rfl; omega))
        exact lv_ret (ret2 rfl (res_tmp rfl) (res_tmp rfl))
      · exact absurd hla h3b
    · have h3n : ¬ (w[1].toNat : Int) = 48 := fun e => h3a (UInt8.toNat_inj.1 (by show w[1].toNat = 48; omega))
      have h3 : ¬ ((w.drop (atS w)).head? = some 48 ∧ 1 < w.length) := fun e => h3a (Option.some.inj (hdh.symm.trans e.1))
      refine summW Tryz.func274 rfl rfl 70 rfl (by simp) (fun M0 => ?_)
      repeat (first
    | (apply s_idxS TY; exact rfl; exact rfl; exact rfl; exact rfl; exact rfl; omega; exact hb0)
    | (apply s_idxS TY; exact rfl; exact rfl; exact rfl; exact rfl; exact rfl; omega; exact hba)
    | (apply s_a TY; exact rfl)
    | (apply s_t; exact rfl; (first | assumption | omega))
    | (apply s_f; exact rfl; (first | assumption | omega))
    | apply w_seq
    | apply w_region
    | apply s_nil
    | apply t_norm
    | apply w_block
    | apply w_skip
    | (apply w_condT; exact rfl; exact rfl)
    | (apply w_condF; exact rfl; exact rfl)
    | (apply s_s; exact rfl)
    | (apply s_c TY; exact rfl; omega))
      apply w_loop (fun q : Nat × Nat => ⟨(Ab.upd (Ab.upd (Ab.upd (Ab.upd (fun _ => .bot) 0 (.f (sv w))) 6 (.f (iv 1))) 7 (.f (iv ((q.1 : Nat) : Int)))) 8 (.f (iv ((q.2 : Nat) : Int)))), (fun _ => none), 0⟩) (fun q => (1 ≤ q.2 ∧ q.2 ≤ w.length) ∧ decFrom 0 ((w.drop 1).take (q.2 - 1)) = some q.1) (fun q => w.length - q.2) (0, 1) (⟨⟨Nat.le_refl _, by show 1 ≤ _; omega⟩, rfl⟩) (gh_le ⟨le_upd rfl trivial (le_upd rfl trivial (le_upd rfl trivial (le_upd rfl trivial (le_nil _)))), le_h0 _ _⟩)
      rintro ⟨n, i⟩ ⟨⟨hi1, hi2⟩, hn⟩
      change 1 ≤ i at hi1
      change i ≤ w.length at hi2
      change decFrom 0 ((w.drop 1).take (i - 1)) = some n at hn
      change W _ _ _ _ (⟨(Ab.upd (Ab.upd (Ab.upd (Ab.upd (fun _ => .bot) 0 (.f (sv w))) 6 (.f (iv 1))) 7 (.f (iv ((n : Nat) : Int)))) 8 (.f (iv ((i : Nat) : Int)))), (fun _ => none), 0⟩)
      have hnb : n < 100000000000000000 := by
        have e := decFrom_lt hn
        have e2 : ((w.drop 1).take (i - 1)).length ≤ 17 := by rw [List.length_take, List.length_drop]; omega
        have e3 : 10 ^ ((w.drop 1).take (i - 1)).length ≤ 10 ^ 17 := Nat.pow_le_pow_right (by decide) e2
        have e4 : (10 : Nat) ^ 17 = 100000000000000000 := by decide
        rw [Nat.zero_add, Nat.one_mul] at e
        omega
      by_cases hc : i < w.length
      · have hbi : w[((i : Nat) : Int).toNat]? = some w[i] := by rw [Int.toNat_natCast]; exact List.getElem?_eq_getElem hc
        have hcv : w[i].toNat - 48 < 256 := by have := w[i].toNat_lt; omega
        by_cases hlo : 48 ≤ w[i].toNat
        case neg =>
          rw [numR_no (numO_bad (k := i - 1) ha (by omega) hn (by rw [show 1 + (i - 1) = i by omega]; exact List.getElem?_eq_getElem hc) (by omega))]
          repeat (first
    | (apply s_idxS TY; exact rfl; exact rfl; exact rfl; exact rfl; exact rfl; omega; exact hbi)
    | (apply s_a TY; exact rfl)
    | (apply s_t; exact rfl; (first | assumption | omega))
    | apply w_seq
    | apply w_region
    | apply s_nil
    | apply t_norm
    | apply t_ret
    | apply k_ret
    | apply w_block
    | apply w_ret
    | apply w_skip
    | (apply w_condT; exact rfl; exact rfl)
    | (apply s_s; exact rfl))
          exact lv_ret (ret2 rfl (res_tmp rfl) (res_tmp rfl))
        by_cases hhi : w[i].toNat ≤ 57
        case neg =>
          rw [numR_no (numO_bad (k := i - 1) ha (by omega) hn (by rw [show 1 + (i - 1) = i by omega]; exact List.getElem?_eq_getElem hc) (by omega))]
          repeat (first
    | (apply s_idxS TY; exact rfl; exact rfl; exact rfl; exact rfl; exact rfl; omega; exact hbi)
    | (apply s_a TY; exact rfl)
    | (apply s_t; exact rfl; (first | assumption | omega))
    | (apply s_f; exact rfl; (first | assumption | omega))
    | apply w_seq
    | apply w_region
    | apply s_nil
    | apply t_norm
    | apply t_ret
    | apply k_ret
    | apply w_block
    | apply w_ret
    | apply w_skip
    | (apply w_condT; exact rfl; exact rfl))
          exact lv_ret (ret2 rfl (res_tmp rfl) (res_tmp rfl))
        have hsn : decFrom 0 ((w.drop 1).take (i + 1 - 1)) = some (n * 10 + (w[i].toNat - 48)) := by
          rw [take_snoc hc hi1, decFrom_snoc, hn]
          show (digitVal w[i]).map _ = _
          unfold digitVal
          rw [if_pos ⟨hlo, hhi⟩]; rfl
        repeat (first
    | (apply s_idxS TY; exact rfl; exact rfl; exact rfl; exact rfl; exact rfl; omega; exact hbi)
    | (apply s_bind; exact rfl; exact rfl; exact rfl; exact rfl; exact rfl; exact rfl; exact sub8_run hlo hhi)
    | (apply s_convW; exact rfl; exact rfl; exact rfl; exact conv_run hcv)
    | (apply s_a TY; exact rfl)
    | (apply s_t; exact rfl; (first | assumption | omega))
    | (apply s_f; exact rfl; (first | assumption | omega))
    | apply w_seq
    | apply w_region
    | apply s_nil
    | apply t_norm
    | apply k_norm
    | apply w_block
    | apply w_skip
    | (apply w_condT; exact rfl; exact rfl)
    | (apply w_condF; exact rfl; exact rfl)
    | (apply s_c TY; exact rfl; omega))
        exact ⟨(n * 10 + (w[i].toNat - 48), i + 1), ⟨⟨by show 1 ≤ i + 1; omega, by show i + 1 ≤ _; omega⟩, hsn⟩, by show _ - (i + 1) < _ - i; omega, gh_le ⟨le_upd rfl trivial (le_upd (congrArg (fun z => AV.f (iv z)) (show (((n * 10 + (w[i].toNat - 48)) : Nat) : Int) = 10 * ((n : Nat) : Int) + (((w[i].toNat - 48) : Nat) : Int) by omega)) trivial (le_upd rfl trivial (le_upd rfl trivial (le_nil _)))), le_h0 _ _⟩⟩
      · have hie : i = w.length := by omega
        subst hie
        rw [List.take_of_length_le (by rw [List.length_drop]; omega)] at hn
        rw [numR_ok ha h3 (by omega) (by rw [hbl]; omega) hn]
        repeat (first
    | (apply s_a TY; exact rfl)
    | (apply s_t; exact rfl; (first | assumption | omega))
    | (apply s_f; exact rfl; (first | assumption | omega))
    | apply w_seq
    | apply w_region
    | apply s_nil
    | apply t_norm
    | apply t_exit
    | apply k_hit
    | apply w_exit
    | apply w_ret
    | (apply w_condT; exact rfl; exact rfl)
    | (apply w_condF; exact rfl; exact rfl)
    | (apply s_c TY; exact rfl; omega))
        exact lv_ret (ret2 rfl (res_tmp rfl) (res_tmp rfl))
  · have ha : atS w = 0 := if_neg (by rw [hhead]; intro e; exact h45 (Option.some.inj e))
    have h45n : ¬ (w[0].toNat : Int) = 45 := fun e => h45 (UInt8.toNat_inj.1 (by show w[0].toNat = 45; omega))
    have hbl : (w.drop (atS w)).length = w.length - 0 := by rw [ha, List.length_drop]
    by_cases h2 : d < w.length - 0
    · rw [numR_no (numO_len (by rw [hbl]; exact h2))]
      refine summW Tryz.func274 rfl rfl 70 rfl (by simp) (fun M0 => ?_)
      repeat (first
    | (apply s_idxS TY; exact rfl; exact rfl; exact rfl; exact rfl; exact rfl; omega; exact hb0)
    | (apply s_a TY; exact rfl)
    | (apply s_t; exact rfl; (first | assumption | omega))
    | (apply s_f; exact rfl; (first | assumption | omega))
    | apply w_seq
    | apply w_region
    | apply s_nil
    | apply t_norm
    | apply t_ret
    | apply w_ret
    | apply w_skip
    | (apply w_condT; exact rfl; exact rfl)
    | (apply w_condF; exact rfl; exact rfl)
    | (apply s_s; exact rfl)
    | (apply s_c TY; exact rfl; omega))
      exact lv_ret (ret2 rfl (res_tmp rfl) (res_tmp rfl))
    have hla : 0 < w.length := by omega
    have hba : w[(0 : Int).toNat]? = some w[0] := List.getElem?_eq_getElem hla
    have hdh : (w.drop (atS w)).head? = some w[0] := by rw [ha, List.head?_drop]; exact List.getElem?_eq_getElem hla
    by_cases h3a : w[0] = 48
    · have h3n : (w[0].toNat : Int) = 48 := by rw [h3a]; rfl
      by_cases h3b : 1 < w.length
      · rw [numR_no (numO_zero (by rw [hdh, h3a]) h3b)]
        refine summW Tryz.func274 rfl rfl 70 rfl (by simp) (fun M0 => ?_)
        repeat (first
    | (apply s_idxS TY; exact rfl; exact rfl; exact rfl; exact rfl; exact rfl; omega; exact hb0)
    | (apply s_a TY; exact rfl)
    | (apply s_t; exact rfl; (first | assumption | omega))
    | (apply s_f; exact rfl; (first | assumption | omega))
    | apply w_seq
    | apply w_region
    | apply s_nil
    | apply t_norm
    | apply t_ret
    | apply w_ret
    | apply w_skip
    | (apply w_condT; exact rfl; exact rfl)
    | (apply w_condF; exact rfl; exact rfl)
    | (apply s_c TY; exact rfl; omega))
        exact lv_ret (ret2 rfl (res_tmp rfl) (res_tmp rfl))
      · have h3 : ¬ ((w.drop (atS w)).head? = some 48 ∧ 1 < w.length) := fun e => h3b e.2
        refine summW Tryz.func274 rfl rfl 70 rfl (by simp) (fun M0 => ?_)
        repeat (first
    | (apply s_idxS TY; exact rfl; exact rfl; exact rfl; exact rfl; exact rfl; omega; exact hb0)
    | (apply s_a TY; exact rfl)
    | (apply s_t; exact rfl; (first | assumption | omega))
    | (apply s_f; exact rfl; (first | assumption | omega))
    | apply w_seq
    | apply w_region
    | apply s_nil
    | apply t_norm
    | apply w_block
    | apply w_skip
    | (apply w_condF; exact rfl; exact rfl)
    | (apply s_c TY; exact rfl; omega))
        apply w_loop (fun q : Nat × Nat => ⟨(Ab.upd (Ab.upd (Ab.upd (Ab.upd (fun _ => .bot) 0 (.f (sv w))) 6 (.f (iv 0))) 7 (.f (iv ((q.1 : Nat) : Int)))) 8 (.f (iv ((q.2 : Nat) : Int)))), (fun _ => none), 0⟩) (fun q => (0 ≤ q.2 ∧ q.2 ≤ w.length) ∧ decFrom 0 ((w.drop 0).take (q.2 - 0)) = some q.1) (fun q => w.length - q.2) (0, 0) (⟨⟨Nat.le_refl _, by show 0 ≤ _; omega⟩, rfl⟩) (gh_le ⟨le_upd rfl trivial (le_upd rfl trivial (le_upd rfl trivial (le_upd rfl trivial (le_nil _)))), le_h0 _ _⟩)
        rintro ⟨n, i⟩ ⟨⟨hi1, hi2⟩, hn⟩
        change 0 ≤ i at hi1
        change i ≤ w.length at hi2
        change decFrom 0 ((w.drop 0).take (i - 0)) = some n at hn
        change W _ _ _ _ (⟨(Ab.upd (Ab.upd (Ab.upd (Ab.upd (fun _ => .bot) 0 (.f (sv w))) 6 (.f (iv 0))) 7 (.f (iv ((n : Nat) : Int)))) 8 (.f (iv ((i : Nat) : Int)))), (fun _ => none), 0⟩)
        have hnb : n < 100000000000000000 := by
          have e := decFrom_lt hn
          have e2 : ((w.drop 0).take (i - 0)).length ≤ 17 := by rw [List.length_take, List.length_drop]; omega
          have e3 : 10 ^ ((w.drop 0).take (i - 0)).length ≤ 10 ^ 17 := Nat.pow_le_pow_right (by decide) e2
          have e4 : (10 : Nat) ^ 17 = 100000000000000000 := by decide
          rw [Nat.zero_add, Nat.one_mul] at e
          omega
        by_cases hc : i < w.length
        · have hbi : w[((i : Nat) : Int).toNat]? = some w[i] := by rw [Int.toNat_natCast]; exact List.getElem?_eq_getElem hc
          have hcv : w[i].toNat - 48 < 256 := by have := w[i].toNat_lt; omega
          by_cases hlo : 48 ≤ w[i].toNat
          case neg =>
            rw [numR_no (numO_bad (k := i - 0) ha (by omega) hn (by rw [show 0 + (i - 0) = i by omega]; exact List.getElem?_eq_getElem hc) (by omega))]
            repeat (first
    | (apply s_idxS TY; exact rfl; exact rfl; exact rfl; exact rfl; exact rfl; omega; exact hbi)
    | (apply s_a TY; exact rfl)
    | (apply s_t; exact rfl; (first | assumption | omega))
    | apply w_seq
    | apply w_region
    | apply s_nil
    | apply t_norm
    | apply t_ret
    | apply k_ret
    | apply w_block
    | apply w_ret
    | apply w_skip
    | (apply w_condT; exact rfl; exact rfl)
    | (apply s_s; exact rfl))
            exact lv_ret (ret2 rfl (res_tmp rfl) (res_tmp rfl))
          by_cases hhi : w[i].toNat ≤ 57
          case neg =>
            rw [numR_no (numO_bad (k := i - 0) ha (by omega) hn (by rw [show 0 + (i - 0) = i by omega]; exact List.getElem?_eq_getElem hc) (by omega))]
            repeat (first
    | (apply s_idxS TY; exact rfl; exact rfl; exact rfl; exact rfl; exact rfl; omega; exact hbi)
    | (apply s_a TY; exact rfl)
    | (apply s_t; exact rfl; (first | assumption | omega))
    | (apply s_f; exact rfl; (first | assumption | omega))
    | apply w_seq
    | apply w_region
    | apply s_nil
    | apply t_norm
    | apply t_ret
    | apply k_ret
    | apply w_block
    | apply w_ret
    | apply w_skip
    | (apply w_condT; exact rfl; exact rfl))
            exact lv_ret (ret2 rfl (res_tmp rfl) (res_tmp rfl))
          have hsn : decFrom 0 ((w.drop 0).take (i + 1 - 0)) = some (n * 10 + (w[i].toNat - 48)) := by
            rw [take_snoc hc hi1, decFrom_snoc, hn]
            show (digitVal w[i]).map _ = _
            unfold digitVal
            rw [if_pos ⟨hlo, hhi⟩]; rfl
          repeat (first
    | (apply s_idxS TY; exact rfl; exact rfl; exact rfl; exact rfl; exact rfl; omega; exact hbi)
    | (apply s_bind; exact rfl; exact rfl; exact rfl; exact rfl; exact rfl; exact rfl; exact sub8_run hlo hhi)
    | (apply s_convW; exact rfl; exact rfl; exact rfl; exact conv_run hcv)
    | (apply s_a TY; exact rfl)
    | (apply s_t; exact rfl; (first | assumption | omega))
    | (apply s_f; exact rfl; (first | assumption | omega))
    | apply w_seq
    | apply w_region
    | apply s_nil
    | apply t_norm
    | apply k_norm
    | apply w_block
    | apply w_skip
    | (apply w_condT; exact rfl; exact rfl)
    | (apply w_condF; exact rfl; exact rfl)
    | (apply s_c TY; exact rfl; omega))
          exact ⟨(n * 10 + (w[i].toNat - 48), i + 1), ⟨⟨by show 0 ≤ i + 1; omega, by show i + 1 ≤ _; omega⟩, hsn⟩, by show _ - (i + 1) < _ - i; omega, gh_le ⟨le_upd rfl trivial (le_upd (congrArg (fun z => AV.f (iv z)) (show (((n * 10 + (w[i].toNat - 48)) : Nat) : Int) = 10 * ((n : Nat) : Int) + (((w[i].toNat - 48) : Nat) : Int) by omega)) trivial (le_upd rfl trivial (le_upd rfl trivial (le_nil _)))), le_h0 _ _⟩⟩
        · have hie : i = w.length := by omega
          subst hie
          rw [List.take_of_length_le (by rw [List.length_drop]; omega)] at hn
          rw [numR_ok ha h3 (by omega) (by rw [hbl]; omega) hn]
          repeat (first
    | (apply s_a TY; exact rfl)
    | (apply s_f; exact rfl; (first | assumption | omega))
    | apply w_seq
    | apply w_region
    | apply s_nil
    | apply t_norm
    | apply t_exit
    | apply k_hit
    | apply w_exit
    | apply w_ret
    | apply w_skip
    | (apply w_condF; exact rfl; exact rfl))
          exact lv_ret (ret2 rfl (res_tmp rfl) (res_tmp rfl))
    · have h3n : ¬ (w[0].toNat : Int) = 48 := fun e => h3a (UInt8.toNat_inj.1 (by show w[0].toNat = 48; omega))
      have h3 : ¬ ((w.drop (atS w)).head? = some 48 ∧ 1 < w.length) := fun e => h3a (Option.some.inj (hdh.symm.trans e.1))
      refine summW Tryz.func274 rfl rfl 70 rfl (by simp) (fun M0 => ?_)
      repeat (first
    | (apply s_idxS TY; exact rfl; exact rfl; exact rfl; exact rfl; exact rfl; omega; exact hb0)
    | (apply s_a TY; exact rfl)
    | (apply s_t; exact rfl; (first | assumption | omega))
    | (apply s_f; exact rfl; (first | assumption | omega))
    | apply w_seq
    | apply w_region
    | apply s_nil
    | apply t_norm
    | apply w_block
    | apply w_skip
    | (apply w_condF; exact rfl; exact rfl)
    | (apply s_s; exact rfl)
    | (apply s_c TY; exact rfl; omega))
      apply w_loop (fun q : Nat × Nat => ⟨(Ab.upd (Ab.upd (Ab.upd (Ab.upd (fun _ => .bot) 0 (.f (sv w))) 6 (.f (iv 0))) 7 (.f (iv ((q.1 : Nat) : Int)))) 8 (.f (iv ((q.2 : Nat) : Int)))), (fun _ => none), 0⟩) (fun q => (0 ≤ q.2 ∧ q.2 ≤ w.length) ∧ decFrom 0 ((w.drop 0).take (q.2 - 0)) = some q.1) (fun q => w.length - q.2) (0, 0) (⟨⟨Nat.le_refl _, by show 0 ≤ _; omega⟩, rfl⟩) (gh_le ⟨le_upd rfl trivial (le_upd rfl trivial (le_upd rfl trivial (le_upd rfl trivial (le_nil _)))), le_h0 _ _⟩)
      rintro ⟨n, i⟩ ⟨⟨hi1, hi2⟩, hn⟩
      change 0 ≤ i at hi1
      change i ≤ w.length at hi2
      change decFrom 0 ((w.drop 0).take (i - 0)) = some n at hn
      change W _ _ _ _ (⟨(Ab.upd (Ab.upd (Ab.upd (Ab.upd (fun _ => .bot) 0 (.f (sv w))) 6 (.f (iv 0))) 7 (.f (iv ((n : Nat) : Int)))) 8 (.f (iv ((i : Nat) : Int)))), (fun _ => none), 0⟩)
      have hnb : n < 100000000000000000 := by
        have e := decFrom_lt hn
        have e2 : ((w.drop 0).take (i - 0)).length ≤ 17 := by rw [List.length_take, List.length_drop]; omega
        have e3 : 10 ^ ((w.drop 0).take (i - 0)).length ≤ 10 ^ 17 := Nat.pow_le_pow_right (by decide) e2
        have e4 : (10 : Nat) ^ 17 = 100000000000000000 := by decide
        rw [Nat.zero_add, Nat.one_mul] at e
        omega
      by_cases hc : i < w.length
      · have hbi : w[((i : Nat) : Int).toNat]? = some w[i] := by rw [Int.toNat_natCast]; exact List.getElem?_eq_getElem hc
        have hcv : w[i].toNat - 48 < 256 := by have := w[i].toNat_lt; omega
        by_cases hlo : 48 ≤ w[i].toNat
        case neg =>
          rw [numR_no (numO_bad (k := i - 0) ha (by omega) hn (by rw [show 0 + (i - 0) = i by omega]; exact List.getElem?_eq_getElem hc) (by omega))]
          repeat (first
    | (apply s_idxS TY; exact rfl; exact rfl; exact rfl; exact rfl; exact rfl; omega; exact hbi)
    | (apply s_a TY; exact rfl)
    | (apply s_t; exact rfl; (first | assumption | omega))
    | apply w_seq
    | apply w_region
    | apply s_nil
    | apply t_norm
    | apply t_ret
    | apply k_ret
    | apply w_block
    | apply w_ret
    | apply w_skip
    | (apply w_condT; exact rfl; exact rfl)
    | (apply s_s; exact rfl))
          exact lv_ret (ret2 rfl (res_tmp rfl) (res_tmp rfl))
        by_cases hhi : w[i].toNat ≤ 57
        case neg =>
          rw [numR_no (numO_bad (k := i - 0) ha (by omega) hn (by rw [show 0 + (i - 0) = i by omega]; exact List.getElem?_eq_getElem hc) (by omega))]
          repeat (first
    | (apply s_idxS TY; exact rfl; exact rfl; exact rfl; exact rfl; exact rfl; omega; exact hbi)
    | (apply s_a TY; exact rfl)
    | (apply s_t; exact rfl; (first | assumption | omega))
    | (apply s_f; exact rfl; (first | assumption | omega))
    | apply w_seq
    | apply w_region
    | apply s_nil
    | apply t_norm
    | apply t_ret
    | apply k_ret
    | apply w_block
    | apply w_ret
    | apply w_skip
    | (apply w_condT; exact rfl; exact rfl))
          exact lv_ret (ret2 rfl (res_tmp rfl) (res_tmp rfl))
        have hsn : decFrom 0 ((w.drop 0).take (i + 1 - 0)) = some (n * 10 + (w[i].toNat - 48)) := by
          rw [take_snoc hc hi1, decFrom_snoc, hn]
          show (digitVal w[i]).map _ = _
          unfold digitVal
          rw [if_pos ⟨hlo, hhi⟩]; rfl
        repeat (first
    | (apply s_idxS TY; exact rfl; exact rfl; exact rfl; exact rfl; exact rfl; omega; exact hbi)
    | (apply s_bind; exact rfl; exact rfl; exact rfl; exact rfl; exact rfl; exact rfl; exact sub8_run hlo hhi)
    | (apply s_convW; exact rfl; exact rfl; exact rfl; exact conv_run hcv)
    | (apply s_a TY; exact rfl)
    | (apply s_t; exact rfl; (first | assumption | omega))
    | (apply s_f; exact rfl; (first | assumption | omega))
    | apply w_seq
    | apply w_region
    | apply s_nil
    | apply t_norm
    | apply k_norm
    | apply w_block
    | apply w_skip
    | (apply w_condT; exact rfl; exact rfl)
    | (apply w_condF; exact rfl; exact rfl)
    | (apply s_c TY; exact rfl; omega))
        exact ⟨(n * 10 + (w[i].toNat - 48), i + 1), ⟨⟨by show 0 ≤ i + 1; omega, by show i + 1 ≤ _; omega⟩, hsn⟩, by show _ - (i + 1) < _ - i; omega, gh_le ⟨le_upd rfl trivial (le_upd (congrArg (fun z => AV.f (iv z)) (show (((n * 10 + (w[i].toNat - 48)) : Nat) : Int) = 10 * ((n : Nat) : Int) + (((w[i].toNat - 48) : Nat) : Int) by omega)) trivial (le_upd rfl trivial (le_upd rfl trivial (le_nil _)))), le_h0 _ _⟩⟩
      · have hie : i = w.length := by omega
        subst hie
        rw [List.take_of_length_le (by rw [List.length_drop]; omega)] at hn
        rw [numR_ok ha h3 (by omega) (by rw [hbl]; omega) hn]
        repeat (first
    | (apply s_a TY; exact rfl)
    | (apply s_f; exact rfl; (first | assumption | omega))
    | apply w_seq
    | apply w_region
    | apply s_nil
    | apply t_norm
    | apply t_exit
    | apply k_hit
    | apply w_exit
    | apply w_ret
    | apply w_skip
    | (apply w_condF; exact rfl; exact rfl))
        exact lv_ret (ret2 rfl (res_tmp rfl) (res_tmp rfl))
end Go.Proofs.YtbkdjlahhcofmaaGreatDoor
namespace Go.Proofs.YtbkdjlahhcofmaaGreatDoor
open Go.Lib (itoa decDigits decFrom digitVal join atoiAll)
open Go Go.RowKit Go.Proofs Go.Shelf Go.Ab
def I64 (l : List Int) : Prop := ∀ z ∈ l, -9223372036854775808 ≤ z ∧ z ≤ 9223372036854775807
def wordsS (l : List Int) : Nm := join (l.map itoa) [32]
theorem join_len : ∀ (l : List Nm) (B : Nat), (∀ s ∈ l, s.length ≤ B) → (join l [32]).length ≤ (B + 1) * l.length
  | [], B, _ => by rw [Lib.join_nil]; simp
  | [x], B, h => by rw [Lib.join_one]; have := h x (by simp); simp; omega
  | x :: y :: r, B, h => by
    have ih := join_len (y :: r) B (fun s hs => h s (by simp [List.mem_cons.1 hs]))
    have e : join (x :: y :: r) [32] = x ++ 32 :: join (y :: r) [32] := by
      rw [Lib.join_cons, Lib.join_cons]
      unfold Lib.joinTail
      simp
    have hx := h x (by simp)
    rw [e, List.length_append, List.length_cons, List.length_cons, Nat.mul_succ]
    omega
theorem itoa_len {z : Int} (h : -9223372036854775808 ≤ z ∧ z ≤ 9223372036854775807) : (itoa z).length ≤ 21 := Lib.itoa_length_le z h.1 h.2
theorem itoas_len {l : List Int} (h : I64 l) (k : Nat) : (join ((l.map itoa).take k) [32]).length ≤ 22 * l.length := by
  have h1 := join_len ((l.map itoa).take k) 21 (fun s hs => by
    obtain ⟨z, hz, rfl⟩ := List.mem_map.1 (List.mem_of_mem_take hs)
    exact itoa_len (h z hz))
  have h2 : ((l.map itoa).take k).length ≤ l.length := by rw [List.length_take, List.length_map]; omega
  have := Nat.mul_le_mul_left 22 h2
  omega
theorem wordsS_len {l : List Int} (h : I64 l) : (wordsS l).length ≤ 22 * l.length := by
  have := itoas_len h l.length
  rw [List.take_of_length_le (by simp)] at this
  exact this
set_option maxRecDepth 100000 in
set_option maxHeartbeats 1600000 in
theorem words_s (l : List Int) (hl : l.length ≤ 1000) (hr : I64 l) : Summ Tryz.prog GS 145 [.sl l.length (intsF l)] (sv (wordsS l)) := by
  refine summW Tryz.func145 rfl rfl 20 rfl (by simp) (fun M0 => ?_)
  repeat (first
    | (apply s_a TY; exact rfl)
    | apply w_seq
    | apply w_region
    | apply s_nil
    | apply t_norm
    | apply w_block)
  apply w_gh (gh_own 3 9 1 rfl rfl)
  apply w_loop (fun k : Nat => ⟨(Ab.upd (Ab.upd (Ab.upd (Ab.upd (fun _ => .bot) 3 (.ow 0)) 6 (.f (.sl l.length (intsF l)))) 7 (.f (iv l.length))) 8 (.f (iv ((k : Nat) : Int)))), (Ab.upd (fun _ => none) 0 (some (.row 9 1 ((l.take k).map itoa).length (strsF ((l.take k).map itoa))))), 1⟩) (fun k => k ≤ l.length) (fun k => l.length - k) 0 (Nat.zero_le _) (gh_le ⟨le_upd rfl trivial (le_upd rfl trivial (le_upd rfl trivial (le_upd rfl rfl (le_nil _)))), le_hupd rfl trivial (le_h0 _ _)⟩)
  intro k hk
  have hrl : ((l.take k).map itoa).length = k := by rw [List.length_map, List.length_take]; omega
  by_cases hc : k < l.length
  · have hat : (intsF l)[k * 1]? = some (iv l[k]) := intsF_at hc
    have hne : intsF l ≠ [] := intsF_ne (k := k) hc
    have HI := Itoa_s l[k] (hr _ (List.getElem_mem hc))
    have hrow : some (Blk.row 9 1 (((l.take k).map itoa).length + 1) (strsF ((l.take k).map itoa) ++ [sv (itoa l[k])])) = some (Blk.row 9 1 ((l.take (k + 1)).map itoa).length (strsF ((l.take (k + 1)).map itoa))) := by
      rw [List.take_succ_eq_append_getElem hc, List.map_append, List.map_cons, List.map_nil, strsF_snoc, List.length_append]; rfl
    repeat (first
    | (apply s_append TY; exact rfl; exact rfl; exact rfl; exact rfl; exact rfl; exact rfl; exact rfl; exact rfl; exact rfl; (unfold maxLen; omega); omega)
    | (apply s_a TY; exact rfl)
    | (apply s_t; exact rfl; (first | assumption | omega))
    | apply w_seq
    | apply w_region
    | apply s_nil
    | apply t_norm
    | apply k_norm
    | apply w_block
    | apply w_skip
    | (apply w_condT; exact rfl; exact rfl)
    | (apply s_k (HI); exact rfl)
    | (apply s_c TY; exact rfl; (first | omega | exact ⟨by omega, by (first | with_reducible assumption | ((with_reducible apply intsF_ne); omega) | assumption)⟩))
    | (apply s_l TY; exact rfl; (first | exact rfl | with_reducible assumption | ((with_reducible apply intsF_at); omega) | assumption)))
    exact ⟨k + 1, by omega, by omega, gh_le ⟨le_upd rfl trivial (le_upd rfl trivial (le_upd rfl trivial (le_upd rfl rfl (le_nil _)))), le_hupd hrow trivial (le_h0 _ _)⟩⟩
  · have hke : k = l.length := by omega
    subst hke
    have hjl := wordsS_len hr
    have HJ := Join_s (l.map itoa) [32] (by rw [List.length_map]; omega) (by show (wordsS l).length ≤ _; omega)
    rw [List.take_length] at hrl
    have hrn : some (Blk.row 9 1 ((l.take l.length).map itoa).length (strsF ((l.take l.length).map itoa))) = some (Blk.row 9 1 (l.map itoa).length (strsF (l.map itoa))) := by rw [List.take_length]
    apply w_gh (gh_row 0 hrn)
    repeat (first
    | (apply s_a TY; exact rfl)
    | (apply s_f; exact rfl; (first | assumption | omega))
    | apply w_seq
    | apply w_region
    | apply s_nil
    | apply t_norm
    | apply t_exit
    | apply k_hit
    | apply w_exit
    | apply w_ret
    | (apply w_condF; exact rfl; exact rfl)
    | (apply s_k (HJ); exact rfl))
    exact lv_ret (ret1 rfl (res_tmp rfl))
set_option maxRecDepth 100000 in
set_option maxHeartbeats 1600000 in
theorem text_s (l : List Int) (hl : l.length ≤ 1000) (hr : I64 l) : Summ Tryz.prog GG 210 [.sl l.length (intsF l)] (sv (wordsS l)) := by
  refine summW Tryz.func210 rfl rfl 23 rfl (by simp) (fun M0 => ?_)
  repeat (first
    | (apply s_a TY; exact rfl)
    | apply w_seq
    | apply w_region
    | apply s_nil
    | apply t_norm
    | apply w_block)
  apply w_loop (fun k : Nat => ⟨(Ab.upd (Ab.upd (Ab.upd (fun _ => .bot) 0 (.f (.sl l.length (intsF l)))) 3 (.f (sv (textS [32] (l.map itoa) k)))) 4 (.f (iv ((k : Nat) : Int)))), (fun _ => none), 0⟩) (fun k => k ≤ l.length) (fun k => l.length - k) 0 (Nat.zero_le _) (gh_le ⟨le_upd rfl trivial (le_upd rfl trivial (le_upd rfl trivial (le_nil _))), le_h0 _ _⟩)
  intro k hk
  by_cases hc : k < l.length
  · have hat : (intsF l)[k * 1]? = some (iv l[k]) := intsF_at hc
    have hne : intsF l ≠ [] := intsF_ne (k := k) hc
    have HI := Decimal_s l[k] (hr _ (List.getElem_mem hc))
    have hil := itoa_len (hr _ (List.getElem_mem hc))
    have hkl : (textS [32] (l.map itoa) k).length ≤ 22 * l.length := by rw [textS_join _ _ k (by rw [List.length_map]; omega)]; exact itoas_len hr k
    have hgd : (l.map itoa).getD k [] = itoa l[k] := by rw [List.getD_eq_getElem?_getD, List.getElem?_map, List.getElem?_eq_getElem hc]; rfl
    by_cases h0 : 0 < k
    · have hs : (textS [32] (l.map itoa) (k + 1)) = (textS [32] (l.map itoa) k) ++ [32] ++ itoa l[k] := by rw [textS, if_pos h0, hgd]
      repeat (first
    | (apply s_bind; exact rfl; exact rfl; exact rfl; exact rfl; exact rfl; exact rfl; exact cat_run (by (first | omega | (simp only [List.length_cons, List.length_nil, List.length_append]; omega))))
    | (apply s_a TY; exact rfl)
    | (apply s_t; exact rfl; (first | assumption | omega))
    | apply w_seq
    | apply w_region
    | apply s_nil
    | apply t_norm
    | apply k_norm
    | apply w_block
    | apply w_skip
    | (apply w_condT; exact rfl; exact rfl)
    | (apply s_k (HI); exact rfl)
    | (apply s_c TY; exact rfl; (first | omega | exact ⟨by omega, by (first | with_reducible assumption | ((with_reducible apply intsF_ne); omega) | assumption)⟩))
    | (apply s_l TY; exact rfl; (first | exact rfl | with_reducible assumption | ((with_reducible apply intsF_at); omega) | assumption)))
      exact ⟨k + 1, by omega, by omega, gh_le ⟨le_upd rfl trivial (le_upd (congrArg (fun z => AV.f (sv z)) hs) trivial (le_upd rfl trivial (le_nil _))), le_h0 _ _⟩⟩
    · have hs : (textS [32] (l.map itoa) (k + 1)) = (textS [32] (l.map itoa) k) ++ itoa l[k] := by rw [textS, if_neg h0, hgd]
      repeat (first
    | (apply s_bind; exact rfl; exact rfl; exact rfl; exact rfl; exact rfl; exact rfl; exact cat_run (by (first | omega | (simp only [List.length_cons, List.length_nil, List.length_append]; omega))))
    | (apply s_a TY; exact rfl)
    | (apply s_t; exact rfl; (first | assumption | omega))
    | (apply s_f; exact rfl; (first | assumption | omega))
    | apply w_seq
    | apply w_region
    | apply s_nil
    | apply t_norm
    | apply k_norm
    | apply w_block
    | apply w_skip
    | (apply w_condT; exact rfl; exact rfl)
    | (apply w_condF; exact rfl; exact rfl)
    | (apply s_k (HI); exact rfl)
    | (apply s_c TY; exact rfl; (first | omega | exact ⟨by omega, by (first | with_reducible assumption | ((with_reducible apply intsF_ne); omega) | assumption)⟩))
    | (apply s_l TY; exact rfl; (first | exact rfl | with_reducible assumption | ((with_reducible apply intsF_at); omega) | assumption)))
      exact ⟨k + 1, by omega, by omega, gh_le ⟨le_upd rfl trivial (le_upd (congrArg (fun z => AV.f (sv z)) hs) trivial (le_upd rfl trivial (le_nil _))), le_h0 _ _⟩⟩
  · have hke : k = l.length := by omega
    subst hke
    rw [show wordsS l = (textS [32] (l.map itoa) l.length) by rw [textS_join _ _ _ (by rw [List.length_map]; omega), List.take_of_length_le (by rw [List.length_map]; omega)]; rfl]
    repeat (first
    | (apply s_a TY; exact rfl)
    | (apply s_f; exact rfl; (first | assumption | omega))
    | apply w_seq
    | apply w_region
    | apply s_nil
    | apply t_norm
    | apply t_exit
    | apply k_hit
    | apply w_exit
    | apply w_ret
    | (apply w_condF; exact rfl; exact rfl))
    exact lv_ret (ret1 rfl (res_tmp rfl))
def numP (d : Nat) (w : Nm) : Option Int := match numO w d with
  | some v => if 0 ≤ v then some v else none
  | none => none
def numsO (d : Nat) (ws : List Nm) : Option (List Int) := ws.foldl (fun o w => o.bind fun l => (numP d w).map fun v => l ++ [v]) (some [])
theorem numsO_snoc (d : Nat) (ws : List Nm) (w : Nm) : numsO d (ws ++ [w]) = (numsO d ws).bind fun l => (numP d w).map fun v => l ++ [v] := by
  unfold numsO
  rw [List.foldl_append]; rfl
theorem fold_none (d : Nat) : ∀ ws : List Nm, ws.foldl (fun (o : Option (List Int)) w => o.bind fun l => (numP d w).map fun v => l ++ [v]) none = none
  | [] => rfl
  | _ :: ws => fold_none d ws
theorem numsO_bad {d : Nat} {ws : List Nm} {k : Nat} (hk : k < ws.length) (h : numP d ws[k] = none) : numsO d ws = none := by
  have e : ws = (ws.take k ++ [ws[k]]) ++ ws.drop (k + 1) := by
    rw [← List.take_succ_eq_append_getElem hk, List.take_append_drop]
  unfold numsO
  rw [e, List.foldl_append, List.foldl_append]
  generalize (ws.take k).foldl _ _ = o
  have e2 : List.foldl (fun (o : Option (List Int)) w => o.bind fun l => (numP d w).map fun v => l ++ [v]) o [ws[k]] = none := by
    show (o.bind fun l => (numP d ws[k]).map fun v => l ++ [v]) = none
    rw [h]
    cases o <;> rfl
  rw [e2]
  exact fold_none d _
theorem numsO_next {d : Nat} {ws : List Nm} {k : Nat} {l : List Int} {v : Int} (hk : k < ws.length) (hl : numsO d (ws.take k) = some l) (h : numP d ws[k] = some v) : numsO d (ws.take (k + 1)) = some (l ++ [v]) := by
  rw [List.take_succ_eq_append_getElem hk, numsO_snoc, hl, h]; rfl
theorem fold_len (d : Nat) : ∀ (ws : List Nm) (l0 l : List Int), ws.foldl (fun (o : Option (List Int)) w => o.bind fun l => (numP d w).map fun v => l ++ [v]) (some l0) = some l → l.length = l0.length + ws.length
  | [], l0, l, h => by rw [← Option.some.inj h]; simp
  | w :: ws, l0, l, h => by
    rw [List.foldl_cons] at h
    cases hw : numP d w with
    | none =>
      have e : ((some l0).bind fun l => (numP d w).map fun v => l ++ [v]) = none := by rw [hw]; rfl
      rw [e, fold_none] at h; cases h
    | some v =>
      have e : ((some l0).bind fun l => (numP d w).map fun v => l ++ [v]) = some (l0 ++ [v]) := by rw [hw]; rfl
      rw [e] at h
      have := fold_len d ws (l0 ++ [v]) l h
      rw [this, List.length_append, List.length_singleton, List.length_cons]; omega
theorem numsO_len {d : Nat} {ws : List Nm} {l : List Int} (h : numsO d ws = some l) : l.length = ws.length := by
  have := fold_len d ws [] l h
  rw [this]; simp
def numsR (d : Nat) (ws : List Nm) : FV := match numsO d ws with
  | some l => .tup [.sl l.length (intsF l), .v (.bool true)]
  | none => .tup [.sl 0 [], .v (.bool false)]
theorem numsR_no {d : Nat} {ws : List Nm} (h : numsO d ws = none) : numsR d ws = .tup [.sl 0 [], .v (.bool false)] := by unfold numsR; rw [h]
theorem numsR_ok {d : Nat} {ws : List Nm} {l : List Int} (h : numsO d ws = some l) : numsR d ws = .tup [.sl l.length (intsF l), .v (.bool true)] := by unfold numsR; rw [h]
theorem res_nil {C : Ctx} {n : Nat} {st : St} {t : Nat} (h : st.s t = .f (.v (.slice none 0 0))) : ResOk C n st (.tmp t) (.sl 0 []) := fun w0 a w S =>
  let ⟨v, h1, h2⟩ := res_tmp h w0 a w S
  ⟨v, h1, rep_nilsl h2⟩
theorem atoi_rng {l : Nm} {v : Int} (h : atoiAll l = .ok v) : -9223372036854775808 ≤ v ∧ v ≤ 9223372036854775807 := by
  unfold atoiAll at h
  cases l with
  | nil => cases h
  | cons c r =>
    simp only at h
    split at h
    · cases h
    · cases h
    · rename_i u hu
      split at h
      · cases h
      · split at h
        · cases h
        · injection h with h
          by_cases hn : c.toNat = 45
          · rw [if_pos hn] at h; omega
          · rw [if_neg hn] at h; omega
theorem atS_pos {v : Int} (h : 0 ≤ v) : atS (itoa v) = 0 := by
  unfold itoa
  rw [if_neg (by omega)]
  exact atS_dec _
set_option maxRecDepth 100000 in
set_option maxHeartbeats 3200000 in
theorem numbers_s (ws : List Nm) (d : Nat) (hd : d ≤ 17) (hl : ws.length ≤ 1000000) (hw : ∀ w ∈ ws, w.length ≤ 1000000) : Summ Tryz.prog GS 147 [.sl ws.length (strsF ws), iv ((d : Nat) : Int)] (numsR d ws) := by
  refine summW Tryz.func147 rfl rfl 46 rfl (by simp) (fun M0 => ?_)
  repeat (first
    | (apply s_a TY; exact rfl)
    | apply w_seq
    | apply w_region
    | apply s_nil
    | apply t_norm
    | apply w_block)
  apply w_gh (gh_own 6 3 1 rfl rfl)
  apply w_loop (fun q : Nat × List Int => ⟨(Ab.upd (Ab.upd (Ab.upd (Ab.upd (Ab.upd (fun _ => .bot) 1 (.f (iv ((d : Nat) : Int)))) 6 (.ow 0)) 11 (.f (.sl ws.length (strsF ws)))) 12 (.f (iv ws.length))) 13 (.f (iv ((q.1 : Nat) : Int)))), (Ab.upd (fun _ => none) 0 (some (.row 3 1 q.2.length (intsF q.2)))), 1⟩) (fun q => numsO d (ws.take q.1) = some q.2 ∧ q.1 ≤ ws.length) (fun q => ws.length - q.1) (0, []) (⟨rfl, Nat.zero_le _⟩) (gh_le ⟨le_upd rfl trivial (le_upd rfl trivial (le_upd rfl trivial (le_upd rfl rfl (le_upd rfl trivial (le_nil _))))), le_hupd rfl trivial (le_h0 _ _)⟩)
  rintro ⟨k, l⟩ ⟨hn, hk⟩
  change numsO d (ws.take k) = some l at hn
  change k ≤ ws.length at hk
  change W _ _ _ _ (⟨(Ab.upd (Ab.upd (Ab.upd (Ab.upd (Ab.upd (fun _ => .bot) 1 (.f (iv ((d : Nat) : Int)))) 6 (.ow 0)) 11 (.f (.sl ws.length (strsF ws)))) 12 (.f (iv ws.length))) 13 (.f (iv ((k : Nat) : Int)))), (Ab.upd (fun _ => none) 0 (some (.row 3 1 l.length (intsF l)))), 1⟩)
  have hll := numsO_len hn
  rw [List.length_take] at hll
  by_cases hc : k < ws.length
  · have hat : (strsF ws)[k * 1]? = some (sv ws[k]) := strsF_at hc
    have hne : strsF ws ≠ [] := strsF_ne (k := k) hc
    have hwk := hw _ (List.getElem_mem hc)
    have hsz := strSz ws[k]
    have LIB := @num_lib ws[k] d hd
    by_cases hok : ∃ v, atoiAll ws[k] = .ok v
    case neg =>
      obtain ⟨m, HA⟩ := Atoi_err ws[k] hwk (fun v e => hok ⟨v, e⟩)
      have hno : numO ws[k] d = none := by
        cases e : numO ws[k] d with
        | none => rfl
        | some v => exact absurd ⟨v, (LIB.1 e).1⟩ hok
      rw [numsR_no (numsO_bad hc (by unfold numP; rw [hno]))]
      repeat (first
    | (apply s_ifcNe Tryz.underlying338; exact rfl; exact rfl; exact rfl)
    | (apply s_a TY; exact rfl)
    | (apply s_t; exact rfl; (first | assumption | omega))
    | apply w_seq
    | apply w_region
    | apply s_nil
    | apply t_norm
    | apply t_ret
    | apply k_ret
    | apply w_block
    | apply w_ret
    | apply w_skip
    | (apply w_condT; exact rfl; exact rfl)
    | (apply s_k (HA); exact rfl)
    | (apply s_s; exact rfl)
    | (apply s_c TY; exact rfl; (first | omega | exact ⟨by omega, by (first | with_reducible assumption | ((with_reducible apply strsF_ne); omega) | assumption)⟩))
    | (apply s_l TY; exact rfl; (first | exact rfl | with_reducible assumption | ((with_reducible apply strsF_at); omega) | assumption)))
      exact lv_ret (ret2 rfl (res_nil rfl) (res_tmp rfl))
    obtain ⟨v, hv⟩ := hok
    have HA := Atoi_ok ws[k] hwk hv
    have HI := Itoa_s v (atoi_rng hv)
    by_cases hneg : v < 0
    · have hno : numP d ws[k] = none := by
        unfold numP
        cases e : numO ws[k] d with
        | none => rfl
        | some u =>
          have e1 := (LIB.1 e).1
          rw [hv] at e1
          injection e1 with e1
          show (if 0 ≤ u then some u else none) = none
          rw [if_neg (by omega)]
      rw [numsR_no (numsO_bad hc hno)]
      repeat (first
    | (apply s_ifcNil Tryz.underlying338; exact rfl; exact rfl; exact rfl)
    | (apply s_a TY; exact rfl)
    | (apply s_t; exact rfl; (first | assumption | omega))
    | apply w_seq
    | apply w_region
    | apply s_nil
    | apply t_norm
    | apply t_ret
    | apply k_ret
    | apply w_block
    | apply w_ret
    | apply w_skip
    | (apply w_condT; exact rfl; exact rfl)
    | (apply s_k (HA); exact rfl)
    | (apply s_s; exact rfl)
    | (apply s_c TY; exact rfl; (first | omega | exact ⟨by omega, by (first | with_reducible assumption | ((with_reducible apply strsF_ne); omega) | assumption)⟩))
    | (apply s_l TY; exact rfl; (first | exact rfl | with_reducible assumption | ((with_reducible apply strsF_at); omega) | assumption)))
      exact lv_ret (ret2 rfl (res_nil rfl) (res_tmp rfl))
    by_cases hew : itoa v = ws[k]
    case neg =>
      have hnw : ¬ itoa v = ws[k] := hew
      have hno : numP d ws[k] = none := by
        unfold numP
        cases e : numO ws[k] d with
        | none => rfl
        | some u =>
          have e1 := LIB.1 e
          rw [hv] at e1
          injection e1.1 with e2
          rw [← e2] at e1
          exact absurd e1.2.1 hew
      rw [numsR_no (numsO_bad hc hno)]
      repeat (first
    | (apply s_bind; exact rfl; exact rfl; exact rfl; exact rfl; exact rfl; exact rfl; exact nes_t hnw)
    | (apply s_ifcNil Tryz.underlying338; exact rfl; exact rfl; exact rfl)
    | (apply s_a TY; exact rfl)
    | (apply s_t; exact rfl; (first | assumption | omega))
    | (apply s_f; exact rfl; (first | assumption | omega))
    | apply w_seq
    | apply w_region
    | apply s_nil
    | apply t_norm
    | apply t_ret
    | apply k_ret
    | apply w_block
    | apply w_ret
    | apply w_skip
    | (apply w_condT; exact rfl; exact rfl)
    | (apply s_k (HA); exact rfl)
    | (apply s_k (HI); exact rfl)
    | (apply s_s; exact rfl)
    | (apply s_c TY; exact rfl; (first | omega | exact ⟨by omega, by (first | with_reducible assumption | ((with_reducible apply strsF_ne); omega) | assumption)⟩))
    | (apply s_l TY; exact rfl; (first | exact rfl | with_reducible assumption | ((with_reducible apply strsF_at); omega) | assumption)))
      exact lv_ret (ret2 rfl (res_nil rfl) (res_tmp rfl))
    have hat0 : atS ws[k] = 0 := by rw [← hew]; exact atS_pos (by omega)
    by_cases hdl : ws[k].length ≤ d
    · have hso : numP d ws[k] = some v := by
        unfold numP
        rw [LIB.2 ⟨hv, hew, by rw [hat0]; exact hdl⟩]
        show (if 0 ≤ v then some v else none) = some v
        rw [if_pos (by omega)]
      have hrow : some (Blk.row 3 1 (l.length + 1) (intsF l ++ [iv v])) = some (Blk.row 3 1 (l ++ [v]).length (intsF (l ++ [v]))) := by rw [intsF_snoc, List.length_append]; rfl
      repeat (first
    | (apply s_append TY; exact rfl; exact rfl; exact rfl; exact rfl; exact rfl; exact rfl; exact rfl; exact rfl; exact rfl; (unfold maxLen; omega); omega)
    | (apply s_bind; exact rfl; exact rfl; exact rfl; exact rfl; exact rfl; exact rfl; exact nes_f hew)
    | (apply s_ifcNil Tryz.underlying338; exact rfl; exact rfl; exact rfl)
    | (apply s_a TY; exact rfl)
    | (apply s_t; exact rfl; (first | assumption | omega))
    | (apply s_f; exact rfl; (first | assumption | omega))
    | apply w_seq
    | apply w_region
    | apply s_nil
    | apply t_norm
    | apply k_norm
    | apply w_block
    | apply w_skip
    | (apply w_condT; exact rfl; exact rfl)
    | (apply w_condF; exact rfl; exact rfl)
    | (apply s_k (HA); exact rfl)
    | (apply s_k (HI); exact rfl)
    | (apply s_c TY; exact rfl; (first | omega | exact ⟨by omega, by (first | with_reducible assumption | ((with_reducible apply strsF_ne); omega) | assumption)⟩))
    | (apply s_l TY; exact rfl; (first | exact rfl | with_reducible assumption | ((with_reducible apply strsF_at); omega) | assumption)))
      exact ⟨(k + 1, l ++ [v]), ⟨numsO_next hc hn hso, by show k + 1 ≤ _; omega⟩, by show _ - (k + 1) < _ - k; omega, gh_le ⟨le_upd rfl trivial (le_upd rfl trivial (le_upd rfl trivial (le_upd rfl rfl (le_upd rfl trivial (le_nil _))))), le_hupd hrow trivial (le_h0 _ _)⟩⟩
    · have hno : numP d ws[k] = none := by
        unfold numP
        cases e : numO ws[k] d with
        | none => rfl
        | some u =>
          have e1 := (LIB.1 e).2.2
          rw [hat0] at e1
          exact absurd e1 hdl
      rw [numsR_no (numsO_bad hc hno)]
      repeat (first
    | (apply s_bind; exact rfl; exact rfl; exact rfl; exact rfl; exact rfl; exact rfl; exact nes_f hew)
    | (apply s_ifcNil Tryz.underlying338; exact rfl; exact rfl; exact rfl)
    | (apply s_a TY; exact rfl)
    | (apply s_t; exact rfl; (first | assumption | omega))
    | (apply s_f; exact rfl; (first | assumption | omega))
    | apply w_seq
    | apply w_region
    | apply s_nil
    | apply t_norm
    | apply t_ret
    | apply k_ret
    | apply w_block
    | apply w_ret
    | apply w_skip
    | (apply w_condT; exact rfl; exact rfl)
    | (apply s_k (HA); exact rfl)
    | (apply s_k (HI); exact rfl)
    | (apply s_c TY; exact rfl; (first | omega | exact ⟨by omega, by (first | with_reducible assumption | ((with_reducible apply strsF_ne); omega) | assumption)⟩))
    | (apply s_l TY; exact rfl; (first | exact rfl | with_reducible assumption | ((with_reducible apply strsF_at); omega) | assumption)))
      exact lv_ret (ret2 rfl (res_nil rfl) (res_tmp rfl))
  · have hke : k = ws.length := by omega
    subst hke
    rw [List.take_length] at hn
    rw [numsR_ok hn]
    repeat (first
    | (apply s_a TY; exact rfl)
    | (apply s_f; exact rfl; (first | assumption | omega))
    | apply w_seq
    | apply w_region
    | apply s_nil
    | apply t_norm
    | apply t_exit
    | apply k_hit
    | apply w_exit
    | apply w_ret
    | (apply w_condF; exact rfl; exact rfl))
    exact lv_ret (ret2 rfl (res_sees rfl (sees_row rfl)) (res_tmp rfl))
set_option maxRecDepth 100000 in
set_option maxHeartbeats 3200000 in
theorem rnumbers_s (ws : List Nm) (d : Nat) (hd : d ≤ 17) (hl : ws.length ≤ 1000000) (hw : ∀ w ∈ ws, w.length ≤ 1000000) : Summ Tryz.prog GG 208 [.sl ws.length (strsF ws), iv ((d : Nat) : Int)] (numsR d ws) := by
  refine summW Tryz.func208 rfl rfl 36 rfl (by simp) (fun M0 => ?_)
  repeat (first
    | (apply s_a TY; exact rfl)
    | apply w_seq
    | apply w_region
    | apply s_nil
    | apply t_norm
    | apply w_block)
  apply w_gh (gh_own 6 3 1 rfl rfl)
  apply w_loop (fun q : Nat × List Int => ⟨(Ab.upd (Ab.upd (Ab.upd (Ab.upd (fun _ => .bot) 0 (.f (.sl ws.length (strsF ws)))) 1 (.f (iv ((d : Nat) : Int)))) 6 (.ow 0)) 7 (.f (iv ((q.1 : Nat) : Int)))), (Ab.upd (fun _ => none) 0 (some (.row 3 1 q.2.length (intsF q.2)))), 1⟩) (fun q => numsO d (ws.take q.1) = some q.2 ∧ q.1 ≤ ws.length) (fun q => ws.length - q.1) (0, []) (⟨rfl, Nat.zero_le _⟩) (gh_le ⟨le_upd rfl trivial (le_upd rfl rfl (le_upd rfl trivial (le_upd rfl trivial (le_nil _)))), le_hupd rfl trivial (le_h0 _ _)⟩)
  rintro ⟨k, l⟩ ⟨hn, hk⟩
  change numsO d (ws.take k) = some l at hn
  change k ≤ ws.length at hk
  change W _ _ _ _ (⟨(Ab.upd (Ab.upd (Ab.upd (Ab.upd (fun _ => .bot) 0 (.f (.sl ws.length (strsF ws)))) 1 (.f (iv ((d : Nat) : Int)))) 6 (.ow 0)) 7 (.f (iv ((k : Nat) : Int)))), (Ab.upd (fun _ => none) 0 (some (.row 3 1 l.length (intsF l)))), 1⟩)
  have hll := numsO_len hn
  rw [List.length_take] at hll
  by_cases hc : k < ws.length
  · have hat : (strsF ws)[k * 1]? = some (sv ws[k]) := strsF_at hc
    have hne : strsF ws ≠ [] := strsF_ne (k := k) hc
    have HN := Number_s ws[k] d hd (hw _ (List.getElem_mem hc))
    cases e : numO ws[k] d with
    | none =>
      rw [numR_no e] at HN
      rw [numsR_no (numsO_bad hc (by unfold numP; rw [e]))]
      repeat (first
    | (apply s_a TY; exact rfl)
    | (apply s_t; exact rfl; (first | assumption | omega))
    | apply w_seq
    | apply w_region
    | apply s_nil
    | apply t_norm
    | apply t_ret
    | apply k_ret
    | apply w_block
    | apply w_ret
    | apply w_skip
    | (apply w_condT; exact rfl; exact rfl)
    | (apply s_k (HN); exact rfl)
    | (apply s_s; exact rfl)
    | (apply s_c TY; exact rfl; (first | omega | exact ⟨by omega, by (first | with_reducible assumption | ((with_reducible apply strsF_ne); omega) | assumption)⟩))
    | (apply s_l TY; exact rfl; (first | exact rfl | with_reducible assumption | ((with_reducible apply strsF_at); omega) | assumption)))
      exact lv_ret (ret2 rfl (res_nil rfl) (res_tmp rfl))
    | some v =>
      rw [show numR ws[k] d = .tup [iv v, .v (.bool true)] by unfold numR; rw [e]] at HN
      by_cases hneg : v < 0
      · rw [numsR_no (numsO_bad hc (by unfold numP; rw [e]; exact if_neg (by omega)))]
        repeat (first
    | (apply s_a TY; exact rfl)
    | (apply s_t; exact rfl; (first | assumption | omega))
    | apply w_seq
    | apply w_region
    | apply s_nil
    | apply t_norm
    | apply t_ret
    | apply k_ret
    | apply w_block
    | apply w_ret
    | apply w_skip
    | (apply w_condT; exact rfl; exact rfl)
    | (apply s_k (HN); exact rfl)
    | (apply s_c TY; exact rfl; (first | omega | exact ⟨by omega, by (first | with_reducible assumption | ((with_reducible apply strsF_ne); omega) | assumption)⟩))
    | (apply s_l TY; exact rfl; (first | exact rfl | with_reducible assumption | ((with_reducible apply strsF_at); omega) | assumption)))
        exact lv_ret (ret2 rfl (res_nil rfl) (res_tmp rfl))
      · have hso : numP d ws[k] = some v := by unfold numP; rw [e]; exact if_pos (by omega)
        have hrow : some (Blk.row 3 1 (l.length + 1) (intsF l ++ [iv v])) = some (Blk.row 3 1 (l ++ [v]).length (intsF (l ++ [v]))) := by rw [intsF_snoc, List.length_append]; rfl
        repeat (first
    | (apply s_append TY; exact rfl; exact rfl; exact rfl; exact rfl; exact rfl; exact rfl; exact rfl; exact rfl; exact rfl; (unfold maxLen; omega); omega)
    | (apply s_a TY; exact rfl)
    | (apply s_t; exact rfl; (first | assumption | omega))
    | (apply s_f; exact rfl; (first | assumption | omega))
    | apply w_seq
    | apply w_region
    | apply s_nil
    | apply t_norm
    | apply k_norm
    | apply w_block
    | apply w_skip
    | (apply w_condT; exact rfl; exact rfl)
    | (apply w_condF; exact rfl; exact rfl)
    | (apply s_k (HN); exact rfl)
    | (apply s_c TY; exact rfl; (first | omega | exact ⟨by omega, by (first | with_reducible assumption | ((with_reducible apply strsF_ne); omega) | assumption)⟩))
    | (apply s_l TY; exact rfl; (first | exact rfl | with_reducible assumption | ((with_reducible apply strsF_at); omega) | assumption)))
        exact ⟨(k + 1, l ++ [v]), ⟨numsO_next hc hn hso, by show k + 1 ≤ _; omega⟩, by show _ - (k + 1) < _ - k; omega, gh_le ⟨le_upd rfl trivial (le_upd rfl rfl (le_upd rfl trivial (le_upd rfl trivial (le_nil _)))), le_hupd hrow trivial (le_h0 _ _)⟩⟩
  · have hke : k = ws.length := by omega
    subst hke
    rw [List.take_length] at hn
    rw [numsR_ok hn]
    repeat (first
    | (apply s_a TY; exact rfl)
    | (apply s_f; exact rfl; (first | assumption | omega))
    | apply w_seq
    | apply w_region
    | apply s_nil
    | apply t_norm
    | apply t_exit
    | apply k_hit
    | apply w_exit
    | apply w_ret
    | (apply w_condF; exact rfl; exact rfl))
    exact lv_ret (ret2 rfl (res_sees rfl (sees_row rfl)) (res_tmp rfl))
end Go.Proofs.YtbkdjlahhcofmaaGreatDoor
namespace Go.Proofs.YtbkdjlahhcofmaaGreatDoor
open Go.Lib (itoa)
open Go Go.RowKit Go.Proofs Go.Shelf Go.Ab
theorem rep_nilE {w : World} {M : Nat → Prop} {v : Value} {cs : List FV} (h : RepF w M v (.agg (cs ++ [.v (.slice none 0 0)]))) : RepF w M v (.agg (cs ++ [.sl 0 []])) := by
  cases h with
  | agg _ us hl ho hr =>
    refine RepF.agg _ us (by simpa using hl) ho (fun k u x a b => ?_)
    by_cases hk : k < cs.length
    · rw [List.getElem?_append_left hk] at b
      exact hr k u x a (by rw [List.getElem?_append_left hk]; exact b)
    · rw [List.getElem?_append_right (by omega)] at b
      have hk0 : k - cs.length = 0 := by
        have := (List.getElem?_eq_some_iff.1 b).1
        simp at this; omega
      rw [hk0] at b
      cases b
      exact rep_nilsl (hr k u _ a (by rw [List.getElem?_append_right (by omega), hk0]; rfl))
theorem summ_nilE {P : Program} {G : Nat → Option FV} {g : Nat} {args cs : List FV} {y : FV} (S : Summ P G g args (.tup [.agg (cs ++ [.v (.slice none 0 0)]), y])) : Summ P G g args (.tup [.agg (cs ++ [.sl 0 []]), y]) :=
  ⟨S.enters, fun w M us h1 h2 h3 => (S.call w M us h1 h2 h3).mono fun _ _ ⟨v, q1, q2, q3⟩ => ⟨v, q1, by
    cases q2 with
    | tup cs us hl hr =>
      refine RepF.tup _ us (by simpa using hl) (fun k u x a b => ?_)
      match k with
      | 0 => simp at b; subst b; exact rep_nilE (hr 0 u _ a rfl)
      | 1 => simp at b; subst b; exact hr 1 u _ a rfl
      | k + 2 => simp at b, q3⟩⟩
def mapR (s : Nm) : FV := match numsO 7 (cutS 32 s) with
  | some l => .tup [skF l, iv 0]
  | none => .tup [skF [], iv 7]
theorem FormatMap_s (l : List Int) (hl : l.length ≤ 1000) (hr : I64 l) : Summ Tryz.prog GS 67 [skF l] (sv (wordsS l)) := by
  have HW := words_s l hl hr
  refine summW Tryz.func67 rfl rfl 6 rfl (by simp) (fun M0 => ?_)
  repeat (first
    | (apply s_a TY; exact rfl)
    | apply w_seq
    | apply w_region
    | apply s_nil
    | apply t_norm
    | apply w_ret
    | (apply s_k (HW); exact rfl))
  exact lv_ret (ret1 rfl (res_tmp rfl))
theorem rFormatMap_s (l : List Int) (hl : l.length ≤ 1000) (hr : I64 l) : Summ Tryz.prog GG 92 [skF l] (sv (wordsS l)) := by
  have HW := text_s l hl hr
  refine summW Tryz.func92 rfl rfl 6 rfl (by simp) (fun M0 => ?_)
  repeat (first
    | (apply s_a TY; exact rfl)
    | apply w_seq
    | apply w_region
    | apply s_nil
    | apply t_norm
    | apply w_ret
    | (apply s_k (HW); exact rfl))
  exact lv_ret (ret1 rfl (res_tmp rfl))
set_option maxRecDepth 100000 in
theorem ParseMap_s (s : Nm) (hs : s.length ≤ 10000) : Summ Tryz.prog GS 66 [sv s] (mapR s) := by
  have hsz := strSz s
  have HC := Split_s s 32 (by omega)
  have hcl := cutS_len 32 s
  have HN := numbers_s (cutS 32 s) 7 (by decide) (by omega) (fun w hw => by have := cutS_mem_len 32 s w hw; omega)
  unfold mapR
  cases e : numsO 7 (cutS 32 s) with
  | some l =>
    rw [numsR_ok e] at HN
    refine summW Tryz.func66 rfl rfl 21 rfl (by simp) (fun M0 => ?_)
    repeat (first
    | (apply s_a TY; exact rfl)
    | (apply s_f; exact rfl; (first | assumption | omega))
    | apply w_seq
    | apply w_region
    | apply s_nil
    | apply t_norm
    | apply w_ret
    | apply w_skip
    | (apply w_condF; exact rfl; exact rfl)
    | (apply s_k (HC); exact rfl)
    | (apply s_k (HN); exact rfl)
    | (apply s_alloc TY; exact rfl; exact rfl; exact rfl)
    | (apply s_store TY; exact rfl; exact rfl; exact rfl; exact rfl; exact rfl; exact rfl))
    exact lv_ret (ret2 rfl (res_bxs (sub := [.sl l.length (intsF l)]) TY rfl rfl rfl rfl rfl) (res_tmp rfl))
  | none =>
    rw [numsR_no e] at HN
    refine summ_nilE (cs := []) ?_
    refine summW Tryz.func66 rfl rfl 21 rfl (by simp) (fun M0 => ?_)
    repeat (first
    | (apply s_a TY; exact rfl)
    | (apply s_f; exact rfl; (first | assumption | omega))
    | apply w_seq
    | apply w_region
    | apply s_nil
    | apply t_norm
    | apply t_ret
    | apply w_ret
    | apply w_skip
    | (apply w_condT; exact rfl; exact rfl)
    | (apply w_condF; exact rfl; exact rfl)
    | (apply s_k (HC); exact rfl)
    | (apply s_k (HN); exact rfl)
    | (apply s_alloc TY; exact rfl; exact rfl; exact rfl)
    | (apply s_store TY; exact rfl; exact rfl; exact rfl; exact rfl; exact rfl; exact rfl))
    exact lv_ret (ret2 rfl (res_bxs (sub := [.v (.slice none 0 0)]) TY rfl rfl rfl rfl rfl) (res_tmp rfl))
set_option maxRecDepth 100000 in
theorem rParseMap_s (s : Nm) (hs : s.length ≤ 10000) : Summ Tryz.prog GG 90 [sv s] (mapR s) := by
  have hsz := strSz s
  have HC := Cut_s s 32 (by omega)
  have hcl := cutS_len 32 s
  have HN := rnumbers_s (cutS 32 s) 7 (by decide) (by omega) (fun w hw => by have := cutS_mem_len 32 s w hw; omega)
  unfold mapR
  cases e : numsO 7 (cutS 32 s) with
  | some l =>
    rw [numsR_ok e] at HN
    refine summW Tryz.func90 rfl rfl 21 rfl (by simp) (fun M0 => ?_)
    repeat (first
    | (apply s_a TY; exact rfl)
    | (apply s_f; exact rfl; (first | assumption | omega))
    | apply w_seq
    | apply w_region
    | apply s_nil
    | apply t_norm
    | apply w_ret
    | apply w_skip
    | (apply w_condF; exact rfl; exact rfl)
    | (apply s_k (HC); exact rfl)
    | (apply s_k (HN); exact rfl)
    | (apply s_alloc TY; exact rfl; exact rfl; exact rfl)
    | (apply s_store TY; exact rfl; exact rfl; exact rfl; exact rfl; exact rfl; exact rfl))
    exact lv_ret (ret2 rfl (res_bxs (sub := [.sl l.length (intsF l)]) TY rfl rfl rfl rfl rfl) (res_tmp rfl))
  | none =>
    rw [numsR_no e] at HN
    refine summ_nilE (cs := []) ?_
    refine summW Tryz.func90 rfl rfl 21 rfl (by simp) (fun M0 => ?_)
    repeat (first
    | (apply s_a TY; exact rfl)
    | (apply s_f; exact rfl; (first | assumption | omega))
    | apply w_seq
    | apply w_region
    | apply s_nil
    | apply t_norm
    | apply t_ret
    | apply w_ret
    | apply w_skip
    | (apply w_condT; exact rfl; exact rfl)
    | (apply w_condF; exact rfl; exact rfl)
    | (apply s_k (HC); exact rfl)
    | (apply s_k (HN); exact rfl)
    | (apply s_alloc TY; exact rfl; exact rfl; exact rfl)
    | (apply s_store TY; exact rfl; exact rfl; exact rfl; exact rfl; exact rfl; exact rfl))
    exact lv_ret (ret2 rfl (res_bxs (sub := [.v (.slice none 0 0)]) TY rfl rfl rfl rfl rfl) (res_tmp rfl))
structure Ntc where
  name : Nm
  version : Int
  tick : Int
  cells : List Int
def ntcF (x : Ntc) : List FV := [sv x.name, iv x.version, iv x.tick] ++ [.sl x.cells.length (intsF x.cells)]
def ntcS (x : Ntc) : Nm := x.name ++ [32] ++ wordsS ([x.version, x.tick] ++ x.cells)
theorem intsF_two (a b : Int) (l : List Int) : intsF ([a, b] ++ l) = [iv a, iv b] ++ intsF l := rfl
theorem len_two (a b : Int) (l : List Int) : ([a, b] ++ l).length = 2 + l.length := by rw [List.length_append]; rfl
set_option maxRecDepth 100000 in
theorem FormatNotice_s (x : Ntc) (hn : x.name.length ≤ 1000) (hl : x.cells.length ≤ 900) (hr : I64 ([x.version, x.tick] ++ x.cells)) : Summ Tryz.prog GS 42 [.agg (ntcF x)] (sv (ntcS x)) := by
  have HW := words_s ([x.version, x.tick] ++ x.cells) (by rw [len_two]; omega) hr
  have hwl := wordsS_len hr
  rw [len_two] at HW hwl
  rw [intsF_two] at HW
  unfold ntcS ntcF
  generalize wordsS ([x.version, x.tick] ++ x.cells) = ww at *
  refine summW Tryz.func42 rfl rfl 16 rfl (by simp) (fun M0 => ?_)
  repeat (first
    | (apply s_bslice_clip TY; exact rfl; exact rfl; exact rfl; exact rfl; exact rfl; exact rfl)
    | (apply s_append_cl TY; exact rfl; exact rfl; exact rfl; exact rfl; exact rfl; exact rfl; exact rfl; exact rfl; exact intsF_len _; (unfold maxLen; omega); omega)
    | (apply s_bind; exact rfl; exact rfl; exact rfl; exact rfl; exact rfl; exact rfl; exact cat_run (by (first | omega | (simp only [List.length_cons, List.length_nil, List.length_append]; omega))))
    | (apply s_a TY; exact rfl)
    | apply w_seq
    | apply w_region
    | (apply w_draw (id := 1) 12 rfl (by kernel_rfl))
    | apply s_nil
    | apply t_norm
    | apply w_ret
    | (apply s_k (HW); exact rfl))
  exact lv_ret (ret1 rfl (res_tmp rfl))
set_option maxRecDepth 100000 in
theorem rFormatNotice_s (x : Ntc) (hn : x.name.length ≤ 1000) (hl : x.cells.length ≤ 900) (hr : I64 ([x.version, x.tick] ++ x.cells)) : Summ Tryz.prog GG 93 [.agg (ntcF x)] (sv (ntcS x)) := by
  have HW := text_s ([x.version, x.tick] ++ x.cells) (by rw [len_two]; omega) hr
  have hwl := wordsS_len hr
  rw [len_two] at HW hwl
  rw [intsF_two] at HW
  unfold ntcS ntcF
  generalize wordsS ([x.version, x.tick] ++ x.cells) = ww at *
  refine summW Tryz.func93 rfl rfl 16 rfl (by simp) (fun M0 => ?_)
  repeat (first
    | (apply s_bslice_clip TY; exact rfl; exact rfl; exact rfl; exact rfl; exact rfl; exact rfl)
    | (apply s_append_cl TY; exact rfl; exact rfl; exact rfl; exact rfl; exact rfl; exact rfl; exact rfl; exact rfl; exact intsF_len _; (unfold maxLen; omega); omega)
    | (apply s_bind; exact rfl; exact rfl; exact rfl; exact rfl; exact rfl; exact rfl; exact cat_run (by (first | omega | (simp only [List.length_cons, List.length_nil, List.length_append]; omega))))
    | (apply s_a TY; exact rfl)
    | apply w_seq
    | apply w_region
    | (apply w_draw (id := 1) 12 rfl (by kernel_rfl))
    | apply s_nil
    | apply t_norm
    | apply w_ret
    | (apply s_k (HW); exact rfl))
  exact lv_ret (ret1 rfl (res_tmp rfl))
def ascK (l : List Int) : Nat → Bool
  | 0 => true
  | k + 1 => ascK l k && (decide (k = 0) || decide (l.getD (k - 1) default < l.getD k default))
def ntcP (s : Nm) : Ntc × Int := match numsO 13 ((cutS 32 s).drop 1) with
  | none => (⟨[], 0, 0, []⟩, 7)
  | some l =>
    if l.length < 2 ∨ (cutS 32 s).getD 0 [] = [] then (⟨[], 0, 0, []⟩, 7)
    else if nameB ((cutS 32 s).getD 0 []) = false then (⟨[], 0, 0, []⟩, 4)
    else if ¬ ((1 ≤ l.getD 0 default ∧ l.getD 0 default ≤ 1000) ∧ l.getD 1 default ≤ 1000000000000) then (⟨[], 0, 0, []⟩, 2)
    else if ascK (l.drop 2) (l.drop 2).length = false then (⟨[], 0, 0, []⟩, 9)
    else (⟨(cutS 32 s).getD 0 [], l.getD 0 default, l.getD 1 default, l.drop 2⟩, 0)
theorem res_nilE {C : Ctx} {n : Nat} {st : St} {rv : ResultVar} {cs : List FV} (h : ResOk C n st rv (.agg (cs ++ [.v (.slice none 0 0)]))) : ResOk C n st rv (.agg (cs ++ [.sl 0 []])) := fun w0 a w S =>
  let ⟨v, h1, h2⟩ := h w0 a w S
  ⟨v, h1, rep_nilE h2⟩
theorem ascK_mono {l : List Int} {j k : Nat} (h : j ≤ k) (hk : ascK l k = true) : ascK l j = true := by
  induction k with
  | zero => have : j = 0 := by omega
            subst this; exact hk
  | succ k ih =>
    by_cases e : j = k + 1
    · subst e; exact hk
    · rw [ascK, Bool.and_eq_true] at hk
      exact ih (by omega) hk.1
def ntcR (s : Nm) : FV := .tup [.agg (ntcF (ntcP s).1), iv (ntcP s).2]
def zeroN (e : Int) : FV := .tup [.agg ([sv [], iv 0, iv 0] ++ [.sl 0 []]), iv e]
section
variable {s : Nm}
theorem ntcR_7 (h : numsO 13 ((cutS 32 s).drop 1) = none) : ntcR s = zeroN 7 := by unfold ntcR ntcP; rw [h]; rfl
theorem ntcR_7l {l : List Int} (h : numsO 13 ((cutS 32 s).drop 1) = some l) (h2 : l.length < 2 ∨ (cutS 32 s).getD 0 [] = []) : ntcR s = zeroN 7 := by unfold ntcR ntcP; rw [h]; simp only [if_pos h2]; rfl
theorem ntcR_4 {l : List Int} (h : numsO 13 ((cutS 32 s).drop 1) = some l) (h2 : ¬ (l.length < 2 ∨ (cutS 32 s).getD 0 [] = [])) (h3 : nameB ((cutS 32 s).getD 0 []) = false) : ntcR s = zeroN 4 := by unfold ntcR ntcP; rw [h]; simp only [if_neg h2, if_pos h3]; rfl
theorem ntcR_2 {l : List Int} (h : numsO 13 ((cutS 32 s).drop 1) = some l) (h2 : ¬ (l.length < 2 ∨ (cutS 32 s).getD 0 [] = [])) (h3 : nameB ((cutS 32 s).getD 0 []) = true) (h4 : ¬ ((1 ≤ l.getD 0 default ∧ l.getD 0 default ≤ 1000) ∧ l.getD 1 default ≤ 1000000000000)) : ntcR s = zeroN 2 := by
  unfold ntcR ntcP; rw [h]; simp only [if_neg h2, if_neg (show ¬ nameB ((cutS 32 s).getD 0 []) = false by rw [h3]; decide), if_pos h4]; rfl
theorem ntcR_9 {l : List Int} (h : numsO 13 ((cutS 32 s).drop 1) = some l) (h2 : ¬ (l.length < 2 ∨ (cutS 32 s).getD 0 [] = [])) (h3 : nameB ((cutS 32 s).getD 0 []) = true) (h4 : (1 ≤ l.getD 0 default ∧ l.getD 0 default ≤ 1000) ∧ l.getD 1 default ≤ 1000000000000) (h5 : ascK (l.drop 2) (l.drop 2).length = false) : ntcR s = zeroN 9 := by
  unfold ntcR ntcP; rw [h]; simp only [if_neg h2, if_neg (show ¬ nameB ((cutS 32 s).getD 0 []) = false by rw [h3]; decide), if_neg (show ¬ ¬ ((1 ≤ l.getD 0 default ∧ l.getD 0 default ≤ 1000) ∧ l.getD 1 default ≤ 1000000000000) from fun q => q h4), if_pos h5]; rfl
theorem ntcR_0 {l : List Int} (h : numsO 13 ((cutS 32 s).drop 1) = some l) (h2 : ¬ (l.length < 2 ∨ (cutS 32 s).getD 0 [] = [])) (h3 : nameB ((cutS 32 s).getD 0 []) = true) (h4 : (1 ≤ l.getD 0 default ∧ l.getD 0 default ≤ 1000) ∧ l.getD 1 default ≤ 1000000000000) (h5 : ascK (l.drop 2) (l.drop 2).length = true) : ntcR s = .tup [.agg ([sv ((cutS 32 s).getD 0 []), iv (l.getD 0 default), iv (l.getD 1 default)] ++ [.sl (l.drop 2).length (intsF (l.drop 2))]), iv 0] := by
  unfold ntcR ntcP; rw [h]; simp only [if_neg h2, if_neg (show ¬ nameB ((cutS 32 s).getD 0 []) = false by rw [h3]; decide), if_neg (show ¬ ¬ ((1 ≤ l.getD 0 default ∧ l.getD 0 default ≤ 1000) ∧ l.getD 1 default ≤ 1000000000000) from fun q => q h4), if_neg (show ¬ ascK (l.drop 2) (l.drop 2).length = false by rw [h5]; decide)]; rfl
end
theorem getL {l : List Int} {i : Nat} (h : i < l.length) : (intsF l)[i * 1]? = some (iv (l.getD i default)) := by rw [intsF_at h, getD_at h]
theorem getS {l : List Nm} {i : Nat} (h : i < l.length) : (strsF l)[i * 1]? = some (sv (l.getD i [])) := by rw [strsF_at h, List.getD_eq_getElem?_getD, List.getElem?_eq_getElem h]; rfl
theorem drop_ints (l : List Int) (m : Nat) : (intsF l).drop (m * 1) = intsF (l.drop m) := by unfold intsF; rw [Nat.mul_one, List.map_drop]
theorem drop_strs (l : List Nm) (m : Nat) : (strsF l).drop (m * 1) = strsF (l.drop m) := by unfold strsF; rw [Nat.mul_one, List.map_drop]
set_option maxRecDepth 100000 in
set_option maxHeartbeats 6400000 in
theorem ParseNotice_s (s : Nm) (hs : s.length ≤ 10000) : Summ Tryz.prog GS 44 [sv s] (ntcR s) := by
  have hsz := strSz s
  have HC := Split_s s 32 (by omega)
  have hcl := cutS_len 32 s
  have hml := fun w hw => cutS_mem_len 32 s w hw
  have hcne := cutS_ne 32 s
  have HN := numbers_s ((cutS 32 s).drop 1) 13 (by decide) (by rw [List.length_drop]; omega) (fun w hw => by have := hml w (List.mem_of_mem_drop hw); omega)
  have E7 := @ntcR_7 s
  have E7l := @ntcR_7l s
  have E4 := @ntcR_4 s
  have E2 := @ntcR_2 s
  have E9 := @ntcR_9 s
  have E0 := @ntcR_0 s
  generalize cutS 32 s = ws at *
  have hpos : 0 < ws.length := List.length_pos_iff.2 hcne
  have hdw := drop_strs ws 1
  have hw0 := getS hpos
  have hwn : strsF ws ≠ [] := strsF_ne hpos
  have hnl : (ws.getD 0 []).length ≤ 1000000 := by
    rw [List.getD_eq_getElem?_getD, List.getElem?_eq_getElem hpos]
    have := hml _ (List.getElem_mem hpos)
    show ws[0].length ≤ _
    omega
  rw [List.length_drop] at HN
  cases hn : numsO 13 (ws.drop 1) with
  | none =>
    rw [numsR_no hn] at HN
    rw [E7 hn]
    refine summW Tryz.func44 rfl rfl 97 rfl (by simp) (fun M0 => ?_)
    repeat (first
    | (apply s_sliceFrom TY (m := 1); exact rfl; exact rfl; exact rfl; exact rfl; exact rfl; omega; exact strsF_len _; exact hdw)
    | (apply s_a TY; exact rfl)
    | (apply s_f; exact rfl; (first | assumption | omega))
    | apply w_seq
    | apply w_region
    | apply s_nil
    | apply t_norm
    | apply t_ret
    | apply w_ret
    | apply w_skip
    | (apply w_condT; exact rfl; exact rfl)
    | (apply w_condF; exact rfl; exact rfl)
    | (apply s_k (HC); exact rfl)
    | (apply s_k (HN); exact rfl)
    | (apply s_s; exact rfl)
    | (apply s_alloc TY; exact rfl; exact rfl; exact rfl)
    | (apply s_store TY; exact rfl; exact rfl; exact rfl; exact rfl; exact rfl; exact rfl))
    exact lv_ret (ret2 rfl (res_nilE (cs := [sv [], iv 0, iv 0]) (res_bxs (sub := [sv [], iv 0, iv 0] ++ [.v (.slice none 0 0)]) TY rfl rfl rfl rfl rfl)) (res_tmp rfl))
  | some l =>
    have hll := numsO_len hn
    rw [List.length_drop] at hll
    rw [numsR_ok hn] at HN
    by_cases h2 : l.length < 2
    · rw [E7l hn (.inl h2)]
      refine summW Tryz.func44 rfl rfl 97 rfl (by simp) (fun M0 => ?_)
      repeat (first
    | (apply s_sliceFrom TY (m := 1); exact rfl; exact rfl; exact rfl; exact rfl; exact rfl; omega; exact strsF_len _; exact hdw)
    | (apply s_a TY; exact rfl)
    | (apply s_t; exact rfl; (first | assumption | omega))
    | (apply s_f; exact rfl; (first | assumption | omega))
    | apply w_seq
    | apply w_region
    | apply s_nil
    | apply t_norm
    | apply t_ret
    | apply w_ret
    | apply w_skip
    | (apply w_condT; exact rfl; exact rfl)
    | (apply w_condF; exact rfl; exact rfl)
    | (apply s_k (HC); exact rfl)
    | (apply s_k (HN); exact rfl)
    | (apply s_s; exact rfl)
    | (apply s_alloc TY; exact rfl; exact rfl; exact rfl)
    | (apply s_store TY; exact rfl; exact rfl; exact rfl; exact rfl; exact rfl; exact rfl))
      exact lv_ret (ret2 rfl (res_nilE (cs := [sv [], iv 0, iv 0]) (res_bxs (sub := [sv [], iv 0, iv 0] ++ [.v (.slice none 0 0)]) TY rfl rfl rfl rfl rfl)) (res_tmp rfl))
    by_cases he : ws.getD 0 [] = []
    · have hen : sv (ws.getD 0 []) = sv [] := by rw [he]
      rw [E7l hn (.inr he)]
      refine summW Tryz.func44 rfl rfl 97 rfl (by simp) (fun M0 => ?_)
      repeat (first
    | (apply s_sliceFrom TY (m := 1); exact rfl; exact rfl; exact rfl; exact rfl; exact rfl; omega; exact strsF_len _; exact hdw)
    | (apply s_bind; exact rfl; exact rfl; exact rfl; exact rfl; exact rfl; exact rfl; exact eqs_t (by assumption))
    | (apply s_l TY; exact rfl; first | exact hw0 | exact hl0 | exact hl1)
    | (apply s_c TY; exact rfl; first | exact ⟨by omega, hwn⟩ | exact ⟨by omega, hln⟩)
    | (apply s_a TY; exact rfl)
    | (apply s_f; exact rfl; (first | assumption | omega))
    | apply w_seq
    | apply w_region
    | apply s_nil
    | apply t_norm
    | apply t_ret
    | apply w_ret
    | apply w_skip
    | (apply w_condT; exact rfl; exact rfl)
    | (apply w_condF; exact rfl; exact rfl)
    | (apply s_k (HC); exact rfl)
    | (apply s_k (HN); exact rfl)
    | (apply s_alloc TY; exact rfl; exact rfl; exact rfl)
    | (apply s_store TY; exact rfl; exact rfl; exact rfl; exact rfl; exact rfl; exact rfl))
      exact lv_ret (ret2 rfl (res_nilE (cs := [sv [], iv 0, iv 0]) (res_bxs (sub := [sv [], iv 0, iv 0] ++ [.v (.slice none 0 0)]) TY rfl rfl rfl rfl rfl)) (res_tmp rfl))
    have h7 : ¬ (l.length < 2 ∨ ws.getD 0 [] = []) := fun q => q.elim h2 he
    have E4' := E4 hn h7
    have E2' := E2 hn h7
    have E9' := E9 hn h7
    have E0' := E0 hn h7
    have hdl := drop_ints l 2
    have hl0 := getL (show 0 < l.length by omega)
    have hl1 := getL (show 1 < l.length by omega)
    have hln : intsF l ≠ [] := intsF_ne (k := 0) (by omega)
    have hLl : (l.drop 2).length = l.length - 2 := List.length_drop
    generalize l.drop 2 = L at *
    generalize l.getD 0 default = v0 at *
    generalize l.getD 1 default = v1 at *
    generalize ws.getD 0 [] = nm at *
    have HNM := up (isName_s nm hnl)
    refine summW Tryz.func44 rfl rfl 97 rfl (by simp) (fun M0 => ?_)
    repeat (first
    | (apply s_sliceFrom TY (m := 1); exact rfl; exact rfl; exact rfl; exact rfl; exact rfl; omega; exact strsF_len _; exact hdw)
    | (apply s_sliceFrom TY (m := 2); exact rfl; exact rfl; exact rfl; exact rfl; exact rfl; omega; exact intsF_len _; exact hdl)
    | (apply s_bind; exact rfl; exact rfl; exact rfl; exact rfl; exact rfl; exact rfl; exact eqs_f (by assumption))
    | (apply s_l TY; exact rfl; first | exact hw0 | exact hl0 | exact hl1)
    | (apply s_c TY; exact rfl; first | exact ⟨by omega, hwn⟩ | exact ⟨by omega, hln⟩)
    | (apply s_a TY; exact rfl)
    | (apply s_f; exact rfl; (first | assumption | omega))
    | apply w_seq
    | apply w_region
    | (apply w_draw (id := 7) 13 rfl (by kernel_rfl))
    | apply s_nil
    | apply t_norm
    | apply w_block
    | apply w_skip
    | (apply w_condF; exact rfl; exact rfl)
    | (apply s_k (HC); exact rfl)
    | (apply s_k (HN); exact rfl)
    | (apply s_z TY; exact rfl; (first | omega | exact ⟨by omega, by (first | with_reducible assumption | ((with_reducible apply intsF_ne); omega) | ((with_reducible apply strsF_ne); omega) | assumption)⟩))
    | (apply s_alloc TY; exact rfl; exact rfl; exact rfl)
    | (apply s_store TY; exact rfl; exact rfl; exact rfl; exact rfl; exact rfl; exact rfl))
    apply w_loop (fun q : Nat × Bool => ⟨(Ab.upd (Ab.upd (Ab.upd (Ab.upd (Ab.upd (Ab.upd (fun _ => .bot) 2 (.bx 0 0)) 7 (.bx 1 0)) 8 (.f (.v (.bool q.2)))) 51 (.f (.sl (l.length - 2) (intsF L)))) 52 (.f (iv ((l.length - 2 : Nat) : Int)))) 53 (.f (iv ((q.1 : Nat) : Int)))), (Ab.upd (Ab.upd (fun _ => none) 0 (some (.box [.f (sv []), .f (iv 0), .f (iv 0), .f (.v (.slice none 0 0))]))) 1 (some (.box [.f (sv nm), .f (iv v0), .f (iv v1), .f (.sl (l.length - 2) (intsF L))]))), 2⟩) (fun q => ascK L q.1 = q.2 ∧ q.1 ≤ L.length) (fun q => L.length - q.1) (0, true) (⟨rfl, Nat.zero_le _⟩) (gh_le ⟨le_upd rfl trivial (le_upd rfl trivial (le_upd rfl trivial (le_upd rfl trivial (le_upd rfl rfl (le_upd rfl rfl (le_nil _)))))), le_hupd rfl (fun y hy => by simp at hy; rcases hy with rfl | rfl | rfl | rfl <;> trivial) (le_hupd rfl (fun y hy => by simp at hy; rcases hy with rfl | rfl | rfl | rfl <;> trivial) (le_h0 _ _))⟩)
    rintro ⟨k, b⟩ ⟨hb, hk⟩
    change ascK L k = b at hb
    change k ≤ L.length at hk
    change W _ _ _ _ (⟨(Ab.upd (Ab.upd (Ab.upd (Ab.upd (Ab.upd (Ab.upd (fun _ => .bot) 2 (.bx 0 0)) 7 (.bx 1 0)) 8 (.f (.v (.bool b)))) 51 (.f (.sl (l.length - 2) (intsF L)))) 52 (.f (iv ((l.length - 2 : Nat) : Int)))) 53 (.f (iv ((k : Nat) : Int)))), (Ab.upd (Ab.upd (fun _ => none) 0 (some (.box [.f (sv []), .f (iv 0), .f (iv 0), .f (.v (.slice none 0 0))]))) 1 (some (.box [.f (sv nm), .f (iv v0), .f (iv v1), .f (.sl (l.length - 2) (intsF L))]))), 2⟩)
    rcases Bool.eq_false_or_eq_true b with hbb | hbb
    · subst hbb
      by_cases hc : k < L.length
      · have hLn : intsF L ≠ [] := intsF_ne (k := k) hc
        have hk0 := getL hc
        have hk1 : (intsF L)[(max (0 : Int) (((k : Nat) : Int) - 1)).toNat * 1]? = some (iv (L.getD (k - 1) default)) := by
          rw [show (max (0 : Int) (((k : Nat) : Int) - 1)).toNat = k - 1 by omega]; exact getL (by omega)
        by_cases h0 : k = 0
        · repeat (first
    | (apply s_l TY; exact rfl; first | exact hk0 | exact hk1)
    | (apply s_c TY; exact rfl; first | omega | exact ⟨by omega, hLn⟩)
    | (apply s_a TY; exact rfl)
    | (apply s_t; exact rfl; (first | assumption | omega))
    | apply w_seq
    | apply w_region
    | apply s_nil
    | apply t_norm
    | apply k_norm
    | apply w_block
    | apply w_skip
    | (apply w_condT; exact rfl; exact rfl)
    | (apply s_s; exact rfl))
          exact ⟨(k + 1, true), ⟨by show ascK L (k + 1) = true; rw [ascK, hb, h0]; rfl, by show k + 1 ≤ _; omega⟩, by show _ - (k + 1) < _ - k; omega, gh_le ⟨le_upd rfl trivial (le_upd rfl trivial (le_upd rfl trivial (le_upd rfl trivial (le_upd rfl rfl (le_upd rfl rfl (le_nil _)))))), le_hupd rfl (fun y hy => by simp at hy; rcases hy with rfl | rfl | rfl | rfl <;> trivial) (le_hupd rfl (fun y hy => by simp at hy; rcases hy with rfl | rfl | rfl | rfl <;> trivial) (le_h0 _ _))⟩⟩
        · by_cases hlt : L.getD (k - 1) default < L.getD k default
          · repeat (first
    | (apply s_l TY; exact rfl; first | exact hk0 | exact hk1)
    | (apply s_c TY; exact rfl; first | omega | exact ⟨by omega, hLn⟩)
    | (apply s_z TY; exact rfl; first | omega | exact ⟨by omega, hLn⟩)
    | (apply s_a TY; exact rfl)
    | (apply s_t; exact rfl; (first | assumption | omega))
    | (apply s_f; exact rfl; (first | assumption | omega))
    | apply w_seq
    | apply w_region
    | apply s_nil
    | apply t_norm
    | apply k_norm
    | apply w_block
    | apply w_skip
    | (apply w_condT; exact rfl; exact rfl))
            exact ⟨(k + 1, true), ⟨by show ascK L (k + 1) = true; rw [ascK, hb, decide_eq_true hlt, Bool.or_true]; rfl, by show k + 1 ≤ _; omega⟩, by show _ - (k + 1) < _ - k; omega, gh_le ⟨le_upd rfl trivial (le_upd rfl trivial (le_upd rfl trivial (le_upd rfl trivial (le_upd rfl rfl (le_upd rfl rfl (le_nil _)))))), le_hupd rfl (fun y hy => by simp at hy; rcases hy with rfl | rfl | rfl | rfl <;> trivial) (le_hupd rfl (fun y hy => by simp at hy; rcases hy with rfl | rfl | rfl | rfl <;> trivial) (le_h0 _ _))⟩⟩
          · repeat (first
    | (apply s_l TY; exact rfl; first | exact hk0 | exact hk1)
    | (apply s_c TY; exact rfl; first | omega | exact ⟨by omega, hLn⟩)
    | (apply s_z TY; exact rfl; first | omega | exact ⟨by omega, hLn⟩)
    | (apply s_a TY; exact rfl)
    | (apply s_t; exact rfl; (first | assumption | omega))
    | (apply s_f; exact rfl; (first | assumption | omega))
    | apply w_seq
    | apply w_region
    | apply s_nil
    | apply t_norm
    | apply k_norm
    | apply w_block
    | apply w_skip
    | (apply w_condT; exact rfl; exact rfl))
            exact ⟨(k + 1, false), ⟨by show ascK L (k + 1) = false; rw [ascK, hb, decide_eq_false hlt, decide_eq_false h0]; rfl, by show k + 1 ≤ _; omega⟩, by show _ - (k + 1) < _ - k; omega, gh_le ⟨le_upd rfl trivial (le_upd rfl trivial (le_upd rfl trivial (le_upd rfl trivial (le_upd rfl rfl (le_upd rfl rfl (le_nil _)))))), le_hupd rfl (fun y hy => by simp at hy; rcases hy with rfl | rfl | rfl | rfl <;> trivial) (le_hupd rfl (fun y hy => by simp at hy; rcases hy with rfl | rfl | rfl | rfl <;> trivial) (le_h0 _ _))⟩⟩
      · have hke : k = L.length := by omega
        have hfin : ascK L L.length = true := by rw [← hke]; exact hb
        repeat (first
    | (apply s_a TY; exact rfl)
    | (apply s_f; exact rfl; (first | assumption | omega))
    | apply w_seq
    | apply w_region
    | (apply w_draw (id := 14) 14 rfl (by kernel_rfl))
    | apply s_nil
    | apply t_norm
    | apply t_exit
    | apply k_hit
    | apply w_exit
    | (apply w_condF; exact rfl; exact rfl))
        rcases Bool.eq_false_or_eq_true (nameB nm) with hnm | hnm
        · rw [hnm] at HNM
          by_cases hv : 1 ≤ v0 ∧ v0 ≤ 1000
          · by_cases ht : v1 ≤ 1000000000000
            · have HFI := up (first3_2 0 0 0 ⟨rfl, rfl⟩)
              have HWI := up (within_T v0 1 1000 hv)
              rw [E0' hnm ⟨hv, ht⟩ hfin]
              rw [hLl]
              repeat (first
    | (apply s_a TY; exact rfl)
    | (apply s_t; exact rfl; (first | assumption | omega))
    | apply w_seq
    | apply w_region
    | apply s_nil
    | apply t_norm
    | apply w_ret
    | apply w_skip
    | (apply w_condF; exact rfl; exact rfl)
    | (apply s_k (HNM); exact rfl)
    | (apply s_k (HWI); exact rfl)
    | (apply s_k (HFI); exact rfl)
    | (apply s_k (up (unless_T _)); exact rfl)
    | (apply s_store TY; exact rfl; exact rfl; exact rfl; exact rfl; exact rfl; exact rfl))
              exact lv_ret (ret2 rfl (res_bxs (sub := [sv nm, iv v0, iv v1] ++ [.sl (l.length - 2) (intsF L)]) TY rfl rfl rfl rfl rfl) (res_tmp rfl))
            · have HFI := up (first3_1 0 2 0 ⟨rfl, by decide⟩)
              have HWI := up (within_T v0 1 1000 hv)
              rw [E2' hnm (fun q => ht q.2)]
              repeat (first
    | (apply s_a TY; exact rfl)
    | (apply s_f; exact rfl; (first | assumption | omega))
    | apply w_seq
    | apply w_region
    | apply s_nil
    | apply t_norm
    | apply t_ret
    | apply w_ret
    | (apply w_condT; exact rfl; exact rfl)
    | (apply s_k (HNM); exact rfl)
    | (apply s_k (HWI); exact rfl)
    | (apply s_k (HFI); exact rfl)
    | (apply s_k (up (unless_T _)); exact rfl)
    | (apply s_k (up (unless_F _)); exact rfl)
    | (apply s_store TY; exact rfl; exact rfl; exact rfl; exact rfl; exact rfl; exact rfl))
              exact lv_ret (ret2 rfl (res_nilE (cs := [sv [], iv 0, iv 0]) (res_bxs (sub := [sv [], iv 0, iv 0] ++ [.v (.slice none 0 0)]) TY rfl rfl rfl rfl rfl)) (res_tmp rfl))
          · have HFI := up (first3_1 0 2 0 ⟨rfl, by decide⟩)
            have HWI := up (within_F v0 1 1000 hv)
            rw [E2' hnm (fun q => hv q.1)]
            repeat (first
    | (apply s_a TY; exact rfl)
    | (apply s_f; exact rfl; (first | assumption | omega))
    | apply w_seq
    | apply w_region
    | apply s_nil
    | apply t_norm
    | apply t_ret
    | apply w_ret
    | (apply w_condT; exact rfl; exact rfl)
    | (apply s_k (HNM); exact rfl)
    | (apply s_k (HWI); exact rfl)
    | (apply s_k (HFI); exact rfl)
    | (apply s_k (up (unless_T _)); exact rfl)
    | (apply s_k (up (unless_F _)); exact rfl)
    | (apply s_s; exact rfl)
    | (apply s_store TY; exact rfl; exact rfl; exact rfl; exact rfl; exact rfl; exact rfl))
            exact lv_ret (ret2 rfl (res_nilE (cs := [sv [], iv 0, iv 0]) (res_bxs (sub := [sv [], iv 0, iv 0] ++ [.v (.slice none 0 0)]) TY rfl rfl rfl rfl rfl)) (res_tmp rfl))
        · rw [hnm] at HNM
          by_cases hv : 1 ≤ v0 ∧ v0 ≤ 1000
          · by_cases ht : v1 ≤ 1000000000000
            · have HFI := up (first3_0 4 0 0 (by decide))
              have HWI := up (within_T v0 1 1000 hv)
              rw [E4' hnm]
              repeat (first
    | (apply s_a TY; exact rfl)
    | (apply s_t; exact rfl; (first | assumption | omega))
    | (apply s_f; exact rfl; (first | assumption | omega))
    | apply w_seq
    | apply w_region
    | apply s_nil
    | apply t_norm
    | apply t_ret
    | apply w_ret
    | (apply w_condT; exact rfl; exact rfl)
    | (apply s_k (HNM); exact rfl)
    | (apply s_k (HWI); exact rfl)
    | (apply s_k (HFI); exact rfl)
    | (apply s_k (up (unless_T _)); exact rfl)
    | (apply s_k (up (unless_F _)); exact rfl)
    | (apply s_store TY; exact rfl; exact rfl; exact rfl; exact rfl; exact rfl; exact rfl))
              exact lv_ret (ret2 rfl (res_nilE (cs := [sv [], iv 0, iv 0]) (res_bxs (sub := [sv [], iv 0, iv 0] ++ [.v (.slice none 0 0)]) TY rfl rfl rfl rfl rfl)) (res_tmp rfl))
            · have HFI := up (first3_0 4 2 0 (by decide))
              have HWI := up (within_T v0 1 1000 hv)
              rw [E4' hnm]
              repeat (first
    | (apply s_a TY; exact rfl)
    | (apply s_f; exact rfl; (first | assumption | omega))
    | apply w_seq
    | apply w_region
    | apply s_nil
    | apply t_norm
    | apply t_ret
    | apply w_ret
    | (apply w_condT; exact rfl; exact rfl)
    | (apply s_k (HNM); exact rfl)
    | (apply s_k (HWI); exact rfl)
    | (apply s_k (HFI); exact rfl)
    | (apply s_k (up (unless_T _)); exact rfl)
    | (apply s_k (up (unless_F _)); exact rfl)
    | (apply s_store TY; exact rfl; exact rfl; exact rfl; exact rfl; exact rfl; exact rfl))
              exact lv_ret (ret2 rfl (res_nilE (cs := [sv [], iv 0, iv 0]) (res_bxs (sub := [sv [], iv 0, iv 0] ++ [.v (.slice none 0 0)]) TY rfl rfl rfl rfl rfl)) (res_tmp rfl))
          · have HFI := up (first3_0 4 2 0 (by decide))
            have HWI := up (within_F v0 1 1000 hv)
            rw [E4' hnm]
            repeat (first
    | (apply s_a TY; exact rfl)
    | (apply s_f; exact rfl; (first | assumption | omega))
    | apply w_seq
    | apply w_region
    | apply s_nil
    | apply t_norm
    | apply t_ret
    | apply w_ret
    | (apply w_condT; exact rfl; exact rfl)
    | (apply s_k (HNM); exact rfl)
    | (apply s_k (HWI); exact rfl)
    | (apply s_k (HFI); exact rfl)
    | (apply s_k (up (unless_T _)); exact rfl)
    | (apply s_k (up (unless_F _)); exact rfl)
    | (apply s_s; exact rfl)
    | (apply s_store TY; exact rfl; exact rfl; exact rfl; exact rfl; exact rfl; exact rfl))
            exact lv_ret (ret2 rfl (res_nilE (cs := [sv [], iv 0, iv 0]) (res_bxs (sub := [sv [], iv 0, iv 0] ++ [.v (.slice none 0 0)]) TY rfl rfl rfl rfl rfl)) (res_tmp rfl))
    · subst hbb
      by_cases hc : k < L.length
      · have hLn : intsF L ≠ [] := intsF_ne (k := k) hc
        have hk0 := getL hc
        have hk1 : (intsF L)[(max (0 : Int) (((k : Nat) : Int) - 1)).toNat * 1]? = some (iv (L.getD (k - 1) default)) := by
          rw [show (max (0 : Int) (((k : Nat) : Int) - 1)).toNat = k - 1 by omega]; exact getL (by omega)
        repeat (first
    | (apply s_l TY; exact rfl; first | exact hk0 | exact hk1)
    | (apply s_c TY; exact rfl; first | omega | exact ⟨by omega, hLn⟩)
    | (apply s_a TY; exact rfl)
    | (apply s_t; exact rfl; (first | assumption | omega))
    | apply w_seq
    | apply w_region
    | apply s_nil
    | apply t_norm
    | apply k_norm
    | apply w_block
    | apply w_skip
    | (apply w_condT; exact rfl; exact rfl)
    | (apply s_s; exact rfl))
        exact ⟨(k + 1, false), ⟨by show ascK L (k + 1) = false; rw [ascK, hb]; rfl, by show k + 1 ≤ _; omega⟩, by show _ - (k + 1) < _ - k; omega, gh_le ⟨le_upd rfl trivial (le_upd rfl trivial (le_upd rfl trivial (le_upd rfl trivial (le_upd rfl rfl (le_upd rfl rfl (le_nil _)))))), le_hupd rfl (fun y hy => by simp at hy; rcases hy with rfl | rfl | rfl | rfl <;> trivial) (le_hupd rfl (fun y hy => by simp at hy; rcases hy with rfl | rfl | rfl | rfl <;> trivial) (le_h0 _ _))⟩⟩
      · have hke : k = L.length := by omega
        have hfin : ascK L L.length = false := by rw [← hke]; exact hb
        repeat (first
    | (apply s_a TY; exact rfl)
    | (apply s_f; exact rfl; (first | assumption | omega))
    | apply w_seq
    | apply w_region
    | (apply w_draw (id := 14) 14 rfl (by kernel_rfl))
    | apply s_nil
    | apply t_norm
    | apply t_exit
    | apply k_hit
    | apply w_exit
    | (apply w_condF; exact rfl; exact rfl))
        rcases Bool.eq_false_or_eq_true (nameB nm) with hnm | hnm
        · rw [hnm] at HNM
          by_cases hv : 1 ≤ v0 ∧ v0 ≤ 1000
          · by_cases ht : v1 ≤ 1000000000000
            · have HFI := up (first3_2 0 0 9 ⟨rfl, rfl⟩)
              have HWI := up (within_T v0 1 1000 hv)
              rw [E9' hnm ⟨hv, ht⟩ hfin]
              repeat (first
    | (apply s_a TY; exact rfl)
    | (apply s_t; exact rfl; (first | assumption | omega))
    | (apply s_f; exact rfl; (first | assumption | omega))
    | apply w_seq
    | apply w_region
    | apply s_nil
    | apply t_norm
    | apply t_ret
    | apply w_ret
    | (apply w_condT; exact rfl; exact rfl)
    | (apply s_k (HNM); exact rfl)
    | (apply s_k (HWI); exact rfl)
    | (apply s_k (HFI); exact rfl)
    | (apply s_k (up (unless_T _)); exact rfl)
    | (apply s_k (up (unless_F _)); exact rfl)
    | (apply s_store TY; exact rfl; exact rfl; exact rfl; exact rfl; exact rfl; exact rfl))
              exact lv_ret (ret2 rfl (res_nilE (cs := [sv [], iv 0, iv 0]) (res_bxs (sub := [sv [], iv 0, iv 0] ++ [.v (.slice none 0 0)]) TY rfl rfl rfl rfl rfl)) (res_tmp rfl))
            · have HFI := up (first3_1 0 2 9 ⟨rfl, by decide⟩)
              have HWI := up (within_T v0 1 1000 hv)
              rw [E2' hnm (fun q => ht q.2)]
              repeat (first
    | (apply s_a TY; exact rfl)
    | (apply s_f; exact rfl; (first | assumption | omega))
    | apply w_seq
    | apply w_region
    | apply s_nil
    | apply t_norm
    | apply t_ret
    | apply w_ret
    | (apply w_condT; exact rfl; exact rfl)
    | (apply s_k (HNM); exact rfl)
    | (apply s_k (HWI); exact rfl)
    | (apply s_k (HFI); exact rfl)
    | (apply s_k (up (unless_T _)); exact rfl)
    | (apply s_k (up (unless_F _)); exact rfl)
    | (apply s_store TY; exact rfl; exact rfl; exact rfl; exact rfl; exact rfl; exact rfl))
              exact lv_ret (ret2 rfl (res_nilE (cs := [sv [], iv 0, iv 0]) (res_bxs (sub := [sv [], iv 0, iv 0] ++ [.v (.slice none 0 0)]) TY rfl rfl rfl rfl rfl)) (res_tmp rfl))
          · have HFI := up (first3_1 0 2 9 ⟨rfl, by decide⟩)
            have HWI := up (within_F v0 1 1000 hv)
            rw [E2' hnm (fun q => hv q.1)]
            repeat (first
    | (apply s_a TY; exact rfl)
    | (apply s_f; exact rfl; (first | assumption | omega))
    | apply w_seq
    | apply w_region
    | apply s_nil
    | apply t_norm
    | apply t_ret
    | apply w_ret
    | (apply w_condT; exact rfl; exact rfl)
    | (apply s_k (HNM); exact rfl)
    | (apply s_k (HWI); exact rfl)
    | (apply s_k (HFI); exact rfl)
    | (apply s_k (up (unless_T _)); exact rfl)
    | (apply s_k (up (unless_F _)); exact rfl)
    | (apply s_s; exact rfl)
    | (apply s_store TY; exact rfl; exact rfl; exact rfl; exact rfl; exact rfl; exact rfl))
            exact lv_ret (ret2 rfl (res_nilE (cs := [sv [], iv 0, iv 0]) (res_bxs (sub := [sv [], iv 0, iv 0] ++ [.v (.slice none 0 0)]) TY rfl rfl rfl rfl rfl)) (res_tmp rfl))
        · rw [hnm] at HNM
          by_cases hv : 1 ≤ v0 ∧ v0 ≤ 1000
          · by_cases ht : v1 ≤ 1000000000000
            · have HFI := up (first3_0 4 0 9 (by decide))
              have HWI := up (within_T v0 1 1000 hv)
              rw [E4' hnm]
              repeat (first
    | (apply s_a TY; exact rfl)
    | (apply s_t; exact rfl; (first | assumption | omega))
    | (apply s_f; exact rfl; (first | assumption | omega))
    | apply w_seq
    | apply w_region
    | apply s_nil
    | apply t_norm
    | apply t_ret
    | apply w_ret
    | (apply w_condT; exact rfl; exact rfl)
    | (apply s_k (HNM); exact rfl)
    | (apply s_k (HWI); exact rfl)
    | (apply s_k (HFI); exact rfl)
    | (apply s_k (up (unless_T _)); exact rfl)
    | (apply s_k (up (unless_F _)); exact rfl)
    | (apply s_store TY; exact rfl; exact rfl; exact rfl; exact rfl; exact rfl; exact rfl))
              exact lv_ret (ret2 rfl (res_nilE (cs := [sv [], iv 0, iv 0]) (res_bxs (sub := [sv [], iv 0, iv 0] ++ [.v (.slice none 0 0)]) TY rfl rfl rfl rfl rfl)) (res_tmp rfl))
            · have HFI := up (first3_0 4 2 9 (by decide))
              have HWI := up (within_T v0 1 1000 hv)
              rw [E4' hnm]
              repeat (first
    | (apply s_a TY; exact rfl)
    | (apply s_f; exact rfl; (first | assumption | omega))
    | apply w_seq
    | apply w_region
    | apply s_nil
    | apply t_norm
    | apply t_ret
    | apply w_ret
    | (apply w_condT; exact rfl; exact rfl)
    | (apply s_k (HNM); exact rfl)
    | (apply s_k (HWI); exact rfl)
    | (apply s_k (HFI); exact rfl)
    | (apply s_k (up (unless_F _)); exact rfl)
    | (apply s_store TY; exact rfl; exact rfl; exact rfl; exact rfl; exact rfl; exact rfl))
              exact lv_ret (ret2 rfl (res_nilE (cs := [sv [], iv 0, iv 0]) (res_bxs (sub := [sv [], iv 0, iv 0] ++ [.v (.slice none 0 0)]) TY rfl rfl rfl rfl rfl)) (res_tmp rfl))
          · have HFI := up (first3_0 4 2 9 (by decide))
            have HWI := up (within_F v0 1 1000 hv)
            rw [E4' hnm]
            repeat (first
    | (apply s_a TY; exact rfl)
    | (apply s_f; exact rfl; (first | assumption | omega))
    | apply w_seq
    | apply w_region
    | apply s_nil
    | apply t_norm
    | apply t_ret
    | apply w_ret
    | (apply w_condT; exact rfl; exact rfl)
    | (apply s_k (HNM); exact rfl)
    | (apply s_k (HWI); exact rfl)
    | (apply s_k (HFI); exact rfl)
    | (apply s_k (up (unless_F _)); exact rfl)
    | (apply s_s; exact rfl)
    | (apply s_store TY; exact rfl; exact rfl; exact rfl; exact rfl; exact rfl; exact rfl))
            exact lv_ret (ret2 rfl (res_nilE (cs := [sv [], iv 0, iv 0]) (res_bxs (sub := [sv [], iv 0, iv 0] ++ [.v (.slice none 0 0)]) TY rfl rfl rfl rfl rfl)) (res_tmp rfl))
end Go.Proofs.YtbkdjlahhcofmaaGreatDoor
namespace Go.Proofs.YtbkdjlahhcofmaaGreatDoor
open Go.Lib (itoa)
open Go Go.RowKit Go.Proofs Go.Shelf Go.Ab
set_option maxRecDepth 100000 in
set_option maxHeartbeats 6400000 in
theorem rParseNotice_s (s : Nm) (hs : s.length ≤ 10000) : Summ Tryz.prog GG 91 [sv s] (ntcR s) := by
  have hsz := strSz s
  have HC := Cut_s s 32 (by omega)
  have hcl := cutS_len 32 s
  have hml := fun w hw => cutS_mem_len 32 s w hw
  have hcne := cutS_ne 32 s
  have HN := rnumbers_s ((cutS 32 s).drop 1) 13 (by decide) (by rw [List.length_drop]; omega) (fun w hw => by have := hml w (List.mem_of_mem_drop hw); omega)
  have E7 := @ntcR_7 s
  have E7l := @ntcR_7l s
  have E4 := @ntcR_4 s
  have E2 := @ntcR_2 s
  have E9 := @ntcR_9 s
  have E0 := @ntcR_0 s
  generalize cutS 32 s = ws at *
  have hpos : 0 < ws.length := List.length_pos_iff.2 hcne
  have hdw := drop_strs ws 1
  have hw0 := getS hpos
  have hwn : strsF ws ≠ [] := strsF_ne hpos
  have hnl : (ws.getD 0 []).length ≤ 1000000 := by
    rw [List.getD_eq_getElem?_getD, List.getElem?_eq_getElem hpos]
    have := hml _ (List.getElem_mem hpos)
    show ws[0].length ≤ _
    omega
  rw [List.length_drop] at HN
  cases hn : numsO 13 (ws.drop 1) with
  | none =>
    rw [numsR_no hn] at HN
    rw [E7 hn]
    refine summW Tryz.func91 rfl rfl 88 rfl (by simp) (fun M0 => ?_)
    repeat (first
    | (apply s_sliceFrom TY (m := 1); exact rfl; exact rfl; exact rfl; exact rfl; exact rfl; omega; exact strsF_len _; exact hdw)
    | (apply s_a TY; exact rfl)
    | (apply s_f; exact rfl; (first | assumption | omega))
    | apply w_seq
    | apply w_region
    | apply s_nil
    | apply t_norm
    | apply t_ret
    | apply w_ret
    | apply w_skip
    | (apply w_condT; exact rfl; exact rfl)
    | (apply w_condF; exact rfl; exact rfl)
    | (apply s_k (HC); exact rfl)
    | (apply s_k (HN); exact rfl)
    | (apply s_s; exact rfl)
    | (apply s_alloc TY; exact rfl; exact rfl; exact rfl)
    | (apply s_store TY; exact rfl; exact rfl; exact rfl; exact rfl; exact rfl; exact rfl))
    exact lv_ret (ret2 rfl (res_nilE (cs := [sv [], iv 0, iv 0]) (res_bxs (sub := [sv [], iv 0, iv 0] ++ [.v (.slice none 0 0)]) TY rfl rfl rfl rfl rfl)) (res_tmp rfl))
  | some l =>
    have hll := numsO_len hn
    rw [List.length_drop] at hll
    rw [numsR_ok hn] at HN
    by_cases h2 : l.length < 2
    · rw [E7l hn (.inl h2)]
      refine summW Tryz.func91 rfl rfl 88 rfl (by simp) (fun M0 => ?_)
      repeat (first
    | (apply s_sliceFrom TY (m := 1); exact rfl; exact rfl; exact rfl; exact rfl; exact rfl; omega; exact strsF_len _; exact hdw)
    | (apply s_a TY; exact rfl)
    | (apply s_t; exact rfl; (first | assumption | omega))
    | (apply s_f; exact rfl; (first | assumption | omega))
    | apply w_seq
    | apply w_region
    | apply s_nil
    | apply t_norm
    | apply t_ret
    | apply w_ret
    | apply w_skip
    | (apply w_condT; exact rfl; exact rfl)
    | (apply w_condF; exact rfl; exact rfl)
    | (apply s_k (HC); exact rfl)
    | (apply s_k (HN); exact rfl)
    | (apply s_s; exact rfl)
    | (apply s_alloc TY; exact rfl; exact rfl; exact rfl)
    | (apply s_store TY; exact rfl; exact rfl; exact rfl; exact rfl; exact rfl; exact rfl))
      exact lv_ret (ret2 rfl (res_nilE (cs := [sv [], iv 0, iv 0]) (res_bxs (sub := [sv [], iv 0, iv 0] ++ [.v (.slice none 0 0)]) TY rfl rfl rfl rfl rfl)) (res_tmp rfl))
    by_cases he : ws.getD 0 [] = []
    · have hen : sv (ws.getD 0 []) = sv [] := by rw [he]
      rw [E7l hn (.inr he)]
      refine summW Tryz.func91 rfl rfl 88 rfl (by simp) (fun M0 => ?_)
      repeat (first
    | (apply s_sliceFrom TY (m := 1); exact rfl; exact rfl; exact rfl; exact rfl; exact rfl; omega; exact strsF_len _; exact hdw)
    | (apply s_bind; exact rfl; exact rfl; exact rfl; exact rfl; exact rfl; exact rfl; exact eqs_t (by assumption))
    | (apply s_l TY; exact rfl; first | exact hw0 | exact hl0 | exact hl1)
    | (apply s_c TY; exact rfl; first | exact ⟨by omega, hwn⟩ | exact ⟨by omega, hln⟩)
    | (apply s_a TY; exact rfl)
    | (apply s_f; exact rfl; (first | assumption | omega))
    | apply w_seq
    | apply w_region
    | apply s_nil
    | apply t_norm
    | apply t_ret
    | apply w_ret
    | apply w_skip
    | (apply w_condT; exact rfl; exact rfl)
    | (apply w_condF; exact rfl; exact rfl)
    | (apply s_k (HC); exact rfl)
    | (apply s_k (HN); exact rfl)
    | (apply s_alloc TY; exact rfl; exact rfl; exact rfl)
    | (apply s_store TY; exact rfl; exact rfl; exact rfl; exact rfl; exact rfl; exact rfl))
      exact lv_ret (ret2 rfl (res_nilE (cs := [sv [], iv 0, iv 0]) (res_bxs (sub := [sv [], iv 0, iv 0] ++ [.v (.slice none 0 0)]) TY rfl rfl rfl rfl rfl)) (res_tmp rfl))
    have h7 : ¬ (l.length < 2 ∨ ws.getD 0 [] = []) := fun q => q.elim h2 he
    have E4' := E4 hn h7
    have E2' := E2 hn h7
    have E9' := E9 hn h7
    have E0' := E0 hn h7
    have hdl := drop_ints l 2
    have hl0 := getL (show 0 < l.length by omega)
    have hl1 := getL (show 1 < l.length by omega)
    have hln : intsF l ≠ [] := intsF_ne (k := 0) (by omega)
    have hLl : (l.drop 2).length = l.length - 2 := List.length_drop
    generalize l.drop 2 = L at *
    generalize l.getD 0 default = v0 at *
    generalize l.getD 1 default = v1 at *
    generalize ws.getD 0 [] = nm at *
    have HNM := IsName_s nm
    rcases Bool.eq_false_or_eq_true (nameB nm) with hnm | hnm
    case inr =>
      rw [hnm] at HNM
      rw [E4' hnm]
      refine summW Tryz.func91 rfl rfl 88 rfl (by simp) (fun M0 => ?_)
      repeat (first
    | (apply s_sliceFrom TY (m := 1); exact rfl; exact rfl; exact rfl; exact rfl; exact rfl; omega; exact strsF_len _; exact hdw)
    | (apply s_bind; exact rfl; exact rfl; exact rfl; exact rfl; exact rfl; exact rfl; exact eqs_f (by assumption))
    | (apply s_l TY; exact rfl; first | exact hw0 | exact hl0 | exact hl1)
    | (apply s_c TY; exact rfl; first | exact ⟨by omega, hwn⟩ | exact ⟨by omega, hln⟩)
    | (apply s_a TY; exact rfl)
    | (apply s_f; exact rfl; (first | assumption | omega))
    | apply w_seq
    | apply w_region
    | apply s_nil
    | apply t_norm
    | apply t_ret
    | apply w_ret
    | apply w_skip
    | (apply w_condT; exact rfl; exact rfl)
    | (apply w_condF; exact rfl; exact rfl)
    | (apply s_k (HC); exact rfl)
    | (apply s_k (HN); exact rfl)
    | (apply s_k (HNM); exact rfl)
    | (apply s_alloc TY; exact rfl; exact rfl; exact rfl)
    | (apply s_store TY; exact rfl; exact rfl; exact rfl; exact rfl; exact rfl; exact rfl))
      exact lv_ret (ret2 rfl (res_nilE (cs := [sv [], iv 0, iv 0]) (res_bxs (sub := [sv [], iv 0, iv 0] ++ [.v (.slice none 0 0)]) TY rfl rfl rfl rfl rfl)) (res_tmp rfl))
    rw [hnm] at HNM
    by_cases hv : 1 ≤ v0 ∧ v0 ≤ 1000
    case neg =>
      rw [E2' hnm (fun q => hv q.1)]
      refine summW Tryz.func91 rfl rfl 88 rfl (by simp) (fun M0 => ?_)
      repeat (first
    | (apply s_sliceFrom TY (m := 1); exact rfl; exact rfl; exact rfl; exact rfl; exact rfl; omega; exact strsF_len _; exact hdw)
    | (apply s_bind; exact rfl; exact rfl; exact rfl; exact rfl; exact rfl; exact rfl; exact eqs_f (by assumption))
    | (apply s_l TY; exact rfl; first | exact hw0 | exact hl0 | exact hl1)
    | (apply s_c TY; exact rfl; first | exact ⟨by omega, hwn⟩ | exact ⟨by omega, hln⟩)
    | (apply s_a TY; exact rfl)
    | (apply s_f; exact rfl; (first | assumption | omega))
    | apply w_seq
    | apply w_region
    | apply s_nil
    | apply t_norm
    | apply t_ret
    | apply w_ret
    | apply w_skip
    | (apply w_condT; exact rfl; exact rfl)
    | (apply w_condF; exact rfl; exact rfl)
    | (apply s_k (HC); exact rfl)
    | (apply s_k (HN); exact rfl)
    | (apply s_k (HNM); exact rfl)
    | (apply s_k (bwithin_F v0 1 1000 hv); exact rfl)
    | (apply s_s; exact rfl)
    | (apply s_z TY; exact rfl; (first | omega | exact ⟨by omega, by (first | with_reducible assumption | ((with_reducible apply intsF_ne); omega) | ((with_reducible apply strsF_ne); omega) | assumption)⟩))
    | (apply s_alloc TY; exact rfl; exact rfl; exact rfl)
    | (apply s_store TY; exact rfl; exact rfl; exact rfl; exact rfl; exact rfl; exact rfl))
      exact lv_ret (ret2 rfl (res_nilE (cs := [sv [], iv 0, iv 0]) (res_bxs (sub := [sv [], iv 0, iv 0] ++ [.v (.slice none 0 0)]) TY rfl rfl rfl rfl rfl)) (res_tmp rfl))
    by_cases ht : v1 ≤ 1000000000000
    case neg =>
      rw [E2' hnm (fun q => ht q.2)]
      refine summW Tryz.func91 rfl rfl 88 rfl (by simp) (fun M0 => ?_)
      repeat (first
    | (apply s_sliceFrom TY (m := 1); exact rfl; exact rfl; exact rfl; exact rfl; exact rfl; omega; exact strsF_len _; exact hdw)
    | (apply s_bind; exact rfl; exact rfl; exact rfl; exact rfl; exact rfl; exact rfl; exact eqs_f (by assumption))
    | (apply s_l TY; exact rfl; first | exact hw0 | exact hl0 | exact hl1)
    | (apply s_c TY; exact rfl; first | exact ⟨by omega, hwn⟩ | exact ⟨by omega, hln⟩)
    | (apply s_a TY; exact rfl)
    | (apply s_t; exact rfl; (first | assumption | omega))
    | (apply s_f; exact rfl; (first | assumption | omega))
    | apply w_seq
    | apply w_region
    | apply s_nil
    | apply t_norm
    | apply t_ret
    | apply w_ret
    | apply w_skip
    | (apply w_condT; exact rfl; exact rfl)
    | (apply w_condF; exact rfl; exact rfl)
    | (apply s_k (HC); exact rfl)
    | (apply s_k (HN); exact rfl)
    | (apply s_k (HNM); exact rfl)
    | (apply s_k (bwithin_T v0 1 1000 hv); exact rfl)
    | (apply s_z TY; exact rfl; (first | omega | exact ⟨by omega, by (first | with_reducible assumption | ((with_reducible apply intsF_ne); omega) | ((with_reducible apply strsF_ne); omega) | assumption)⟩))
    | (apply s_alloc TY; exact rfl; exact rfl; exact rfl)
    | (apply s_store TY; exact rfl; exact rfl; exact rfl; exact rfl; exact rfl; exact rfl))
      exact lv_ret (ret2 rfl (res_nilE (cs := [sv [], iv 0, iv 0]) (res_bxs (sub := [sv [], iv 0, iv 0] ++ [.v (.slice none 0 0)]) TY rfl rfl rfl rfl rfl)) (res_tmp rfl))
    refine summW Tryz.func91 rfl rfl 88 rfl (by simp) (fun M0 => ?_)
    repeat (first
    | (apply s_sliceFrom TY (m := 1); exact rfl; exact rfl; exact rfl; exact rfl; exact rfl; omega; exact strsF_len _; exact hdw)
    | (apply s_sliceFrom TY (m := 2); exact rfl; exact rfl; exact rfl; exact rfl; exact rfl; omega; exact intsF_len _; exact hdl)
    | (apply s_bind; exact rfl; exact rfl; exact rfl; exact rfl; exact rfl; exact rfl; exact eqs_f (by assumption))
    | (apply s_l TY; exact rfl; first | exact hw0 | exact hl0 | exact hl1)
    | (apply s_c TY; exact rfl; first | exact ⟨by omega, hwn⟩ | exact ⟨by omega, hln⟩)
    | (apply s_a TY; exact rfl)
    | (apply s_f; exact rfl; (first | assumption | omega))
    | apply w_seq
    | apply w_region
    | (apply w_draw (id := 12) 13 rfl (by kernel_rfl))
    | apply s_nil
    | apply t_norm
    | apply w_block
    | apply w_skip
    | (apply w_condF; exact rfl; exact rfl)
    | (apply s_k (HC); exact rfl)
    | (apply s_k (HN); exact rfl)
    | (apply s_k (HNM); exact rfl)
    | (apply s_k (bwithin_T v0 1 1000 hv); exact rfl)
    | (apply s_z TY; exact rfl; (first | omega | exact ⟨by omega, by (first | with_reducible assumption | ((with_reducible apply intsF_ne); omega) | ((with_reducible apply strsF_ne); omega) | assumption)⟩))
    | (apply s_alloc TY; exact rfl; exact rfl; exact rfl)
    | (apply s_store TY; exact rfl; exact rfl; exact rfl; exact rfl; exact rfl; exact rfl))
    apply w_loop (fun k : Nat => ⟨(Ab.upd (Ab.upd (Ab.upd (Ab.upd (fun _ => .bot) 2 (.bx 0 0)) 4 (.bx 1 0)) 8 (.bx 2 0)) 9 (.f (iv ((k : Nat) : Int)))), (Ab.upd (Ab.upd (Ab.upd (fun _ => none) 0 (some (.box [.f (sv []), .f (iv 0), .f (iv 0), .f (.v (.slice none 0 0))]))) 1 (some (.box [.f (sv []), .f (iv 0), .f (iv 0), .f (.v (.slice none 0 0))]))) 2 (some (.box [.f (sv nm), .f (iv v0), .f (iv v1), .f (.sl (l.length - 2) (intsF L))]))), 3⟩) (fun k => (ascK L k = true ∧ 1 ≤ k) ∧ (k ≤ L.length ∨ k = 1)) (fun k => L.length + 1 - k) 1 (⟨⟨rfl, Nat.le_refl _⟩, .inr rfl⟩) (gh_le ⟨le_upd rfl trivial (le_upd rfl rfl (le_upd rfl rfl (le_upd rfl rfl (le_nil _)))), le_hupd rfl (fun y hy => by simp at hy; rcases hy with rfl | rfl | rfl | rfl <;> trivial) (le_hupd rfl (fun y hy => by simp at hy; rcases hy with rfl | rfl | rfl | rfl <;> trivial) (le_hupd rfl (fun y hy => by simp at hy; rcases hy with rfl | rfl | rfl | rfl <;> trivial) (le_h0 _ _)))⟩)
    rintro k ⟨⟨hb, hk1⟩, hk⟩
    by_cases hc : k < L.length
    · have hLn : intsF L ≠ [] := intsF_ne (k := k) hc
      have hk0 := getL hc
      have hk1 : (intsF L)[(((k : Nat) : Int) - 1).toNat * 1]? = some (iv (L.getD (k - 1) default)) := by
        rw [show (((k : Nat) : Int) - 1).toNat = k - 1 by omega]; exact getL (by omega)
      by_cases hlt : L.getD (k - 1) default < L.getD k default
      · repeat (first
    | (apply s_l TY; exact rfl; first | exact hk0 | exact hk1)
    | (apply s_c TY; exact rfl; first | omega | exact ⟨by omega, hLn⟩)
    | (apply s_z TY; exact rfl; first | omega | exact ⟨by omega, hLn⟩)
    | (apply s_a TY; exact rfl)
    | (apply s_t; exact rfl; (first | assumption | omega))
    | (apply s_f; exact rfl; (first | assumption | omega))
    | apply w_seq
    | apply w_region
    | (apply w_draw (id := 16) 11 rfl (by kernel_rfl))
    | apply s_nil
    | apply t_norm
    | apply k_norm
    | apply w_block
    | apply w_skip
    | (apply w_condT; exact rfl; exact rfl)
    | (apply w_condF; exact rfl; exact rfl))
        exact ⟨k + 1, ⟨⟨by rw [ascK, hb, decide_eq_true hlt, Bool.or_true]; rfl, by omega⟩, .inl (by omega)⟩, by omega, gh_le ⟨le_upd rfl trivial (le_upd rfl rfl (le_upd rfl rfl (le_upd rfl rfl (le_nil _)))), le_hupd rfl (fun y hy => by simp at hy; rcases hy with rfl | rfl | rfl | rfl <;> trivial) (le_hupd rfl (fun y hy => by simp at hy; rcases hy with rfl | rfl | rfl | rfl <;> trivial) (le_hupd rfl (fun y hy => by simp at hy; rcases hy with rfl | rfl | rfl | rfl <;> trivial) (le_h0 _ _)))⟩⟩
      · have hno : ascK L (k + 1) = false := by rw [ascK, hb, decide_eq_false hlt, decide_eq_false (by omega)]; rfl
        have hfin : ascK L L.length = false := by
          rcases Bool.eq_false_or_eq_true (ascK L L.length) with q | q
          · rw [ascK_mono (show k + 1 ≤ L.length by omega) q] at hno; cases hno
          · exact q
        rw [E9' hnm ⟨hv, ht⟩ hfin]
        repeat (first
    | (apply s_l TY; exact rfl; first | exact hk0 | exact hk1)
    | (apply s_c TY; exact rfl; first | omega | exact ⟨by omega, hLn⟩)
    | (apply s_z TY; exact rfl; first | omega | exact ⟨by omega, hLn⟩)
    | (apply s_a TY; exact rfl)
    | (apply s_t; exact rfl; (first | assumption | omega))
    | apply w_seq
    | apply w_region
    | (apply w_draw (id := 16) 11 rfl (by kernel_rfl))
    | apply s_nil
    | apply t_norm
    | apply t_ret
    | apply k_ret
    | apply w_block
    | apply w_ret
    | apply w_skip
    | (apply w_condT; exact rfl; exact rfl)
    | (apply s_store TY; exact rfl; exact rfl; exact rfl; exact rfl; exact rfl; exact rfl))
        exact lv_ret (ret2 rfl (res_nilE (cs := [sv [], iv 0, iv 0]) (res_bxs (sub := [sv [], iv 0, iv 0] ++ [.v (.slice none 0 0)]) TY rfl rfl rfl rfl rfl)) (res_tmp rfl))
    · have hfin : ascK L L.length = true := ascK_mono (show L.length ≤ k by omega) hb
      rw [E0' hnm ⟨hv, ht⟩ hfin, hLl]
      repeat (first
    | (apply s_a TY; exact rfl)
    | (apply s_f; exact rfl; (first | assumption | omega))
    | apply w_seq
    | apply w_region
    | apply s_nil
    | apply t_norm
    | apply t_exit
    | apply k_hit
    | apply w_exit
    | apply w_ret
    | (apply w_condF; exact rfl; exact rfl)
    | (apply s_store TY; exact rfl; exact rfl; exact rfl; exact rfl; exact rfl; exact rfl))
      exact lv_ret (ret2 rfl (res_bxs (sub := [sv nm, iv v0, iv v1] ++ [.sl (l.length - 2) (intsF L)]) TY rfl rfl rfl rfl rfl) (res_tmp rfl))
theorem CopyNotice_s (x : Ntc) (hl : x.cells.length ≤ 1000000) : Summ Tryz.prog GG 89 [.agg (ntcF x)] (.agg (ntcF x)) := by
  have HC := CopyInts_s x.cells hl
  unfold ntcF
  refine summW Tryz.func89 rfl rfl 8 rfl (by simp) (fun M0 => ?_)
  repeat (first
    | (apply s_boxw; exact rfl; exact rfl; exact rfl; exact rfl)
    | (apply s_a TY; exact rfl)
    | apply w_seq
    | apply w_region
    | apply s_nil
    | apply t_norm
    | apply w_ret
    | (apply s_k (HC); exact rfl)
    | (apply s_alloc TY; exact rfl; exact rfl; exact rfl)
    | (apply s_store TY; exact rfl; exact rfl; exact rfl; exact rfl; exact rfl; exact rfl))
  exact lv_ret (ret1 rfl (res_bxs (sub := [sv x.name, iv x.version, iv x.tick] ++ [.sl x.cells.length (intsF x.cells)]) TY rfl rfl rfl rfl rfl))
theorem SameNotice_T (x : Ntc) (hl : x.cells.length ≤ 1000000) : Summ Tryz.prog GG 94 [.agg (ntcF x), .agg (ntcF x)] (.v (.bool true)) := by
  have HC := Ints_s x.cells x.cells hl hl
  rw [decide_eq_true rfl] at HC
  unfold ntcF
  refine summW Tryz.func94 rfl rfl 31 rfl (by simp) (fun M0 => ?_)
  repeat (first
    | (apply s_bind; exact rfl; exact rfl; exact rfl; exact rfl; exact rfl; exact rfl; exact eqs_t rfl)
    | (apply s_a TY; exact rfl)
    | (apply s_t; exact rfl; (first | assumption | omega))
    | apply w_seq
    | apply w_region
    | apply s_nil
    | apply t_norm
    | apply w_ret
    | (apply s_k (HC); exact rfl))
  exact lv_ret (ret1 rfl (res_tmp rfl))
set_option maxRecDepth 100000 in
theorem SameNotice_F (x y : Ntc) (hx : x.cells.length ≤ 1000000) (hy : y.cells.length ≤ 1000000) (h : x ≠ y) : Summ Tryz.prog GG 94 [.agg (ntcF x), .agg (ntcF y)] (.v (.bool false)) := by
  have HC := Ints_s x.cells y.cells hx hy
  obtain ⟨n1, a1, b1, c1⟩ := x
  obtain ⟨n2, a2, b2, c2⟩ := y
  change Summ _ _ _ [.sl c1.length (intsF c1), .sl c2.length (intsF c2)] (bv (decide (c1 = c2))) at HC
  show Summ Tryz.prog GG 94 [.agg ([sv n1, iv a1, iv b1] ++ [.sl c1.length (intsF c1)]), .agg ([sv n2, iv a2, iv b2] ++ [.sl c2.length (intsF c2)])] (.v (.bool false))
  by_cases hnm : n1 = n2
  case neg =>
    refine summW Tryz.func94 rfl rfl 31 rfl (by simp) (fun M0 => ?_)
    repeat (first
    | (apply s_bind; exact rfl; exact rfl; exact rfl; exact rfl; exact rfl; exact rfl; exact eqs_f hnm)
    | (apply s_a TY; exact rfl)
    | apply w_seq
    | apply w_region
    | apply s_nil
    | apply t_norm
    | apply w_ret
    | (apply s_s; exact rfl))
    exact lv_ret (ret1 rfl (res_tmp rfl))
  subst hnm
  by_cases hv : a1 = a2
  case neg =>
    refine summW Tryz.func94 rfl rfl 31 rfl (by simp) (fun M0 => ?_)
    repeat (first
    | (apply s_bind; exact rfl; exact rfl; exact rfl; exact rfl; exact rfl; exact rfl; exact eqs_t rfl)
    | (apply s_a TY; exact rfl)
    | (apply s_f; exact rfl; (first | assumption | omega))
    | apply w_seq
    | apply w_region
    | apply s_nil
    | apply t_norm
    | apply w_ret
    | (apply s_s; exact rfl))
    exact lv_ret (ret1 rfl (res_tmp rfl))
  subst hv
  by_cases ht : b1 = b2
  case neg =>
    refine summW Tryz.func94 rfl rfl 31 rfl (by simp) (fun M0 => ?_)
    repeat (first
    | (apply s_bind; exact rfl; exact rfl; exact rfl; exact rfl; exact rfl; exact rfl; exact eqs_t rfl)
    | (apply s_a TY; exact rfl)
    | (apply s_t; exact rfl; (first | assumption | omega))
    | (apply s_f; exact rfl; (first | assumption | omega))
    | apply w_seq
    | apply w_region
    | apply s_nil
    | apply t_norm
    | apply w_ret
    | (apply s_s; exact rfl))
    exact lv_ret (ret1 rfl (res_tmp rfl))
  subst ht
  rw [decide_eq_false (fun e => h (by rw [show c1 = c2 from e]))] at HC
  refine summW Tryz.func94 rfl rfl 31 rfl (by simp) (fun M0 => ?_)
  repeat (first
    | (apply s_bind; exact rfl; exact rfl; exact rfl; exact rfl; exact rfl; exact rfl; exact eqs_t rfl)
    | (apply s_a TY; exact rfl)
    | (apply s_t; exact rfl; (first | assumption | omega))
    | apply w_seq
    | apply w_region
    | apply s_nil
    | apply t_norm
    | apply w_ret
    | (apply s_k (HC); exact rfl))
  exact lv_ret (ret1 rfl (res_tmp rfl))
theorem fewCells_T (l : List Int) (h : l.length ≤ 120) : Summ Tryz.prog GG 88 [.sl l.length (intsF l)] (.v (.bool true)) := by
  refine summW Tryz.func88 rfl rfl 6 rfl (by simp) (fun M0 => ?_)
  repeat (first
    | (apply s_a TY; exact rfl)
    | (apply s_t; exact rfl; (first | assumption | omega))
    | apply w_seq
    | apply w_region
    | apply s_nil
    | apply t_norm
    | apply w_ret)
  exact lv_ret (ret1 rfl (res_tmp rfl))
theorem fewCells_F (l : List Int) (h : 120 < l.length) : Summ Tryz.prog GG 88 [.sl l.length (intsF l)] (.v (.bool false)) := by
  refine summW Tryz.func88 rfl rfl 6 rfl (by simp) (fun M0 => ?_)
  repeat (first
    | (apply s_a TY; exact rfl)
    | (apply s_f; exact rfl; (first | assumption | omega))
    | apply w_seq
    | apply w_region
    | apply s_nil
    | apply t_norm
    | apply w_ret)
  exact lv_ret (ret1 rfl (res_tmp rfl))
def mapP (s : Nm) : List Int × Int := match numsO 7 (cutS 32 s) with
  | some l => (l, 0)
  | none => ([], 7)
theorem mapR_eq (s : Nm) : mapR s = .tup [skF (mapP s).1, iv (mapP s).2] := by
  unfold mapR mapP
  cases numsO 7 (cutS 32 s) <;> rfl
theorem mapP_len (s : Nm) : (mapP s).1.length ≤ s.length + 1 := by
  unfold mapP
  cases h : numsO 7 (cutS 32 s) with
  | none => exact Nat.zero_le _
  | some l =>
    have h1 := numsO_len h
    have h2 := cutS_len 32 s
    show l.length ≤ _
    omega
theorem ntcP_len (s : Nm) : (ntcP s).1.cells.length ≤ s.length + 1 := by
  unfold ntcP
  cases h : numsO 13 ((cutS 32 s).drop 1) with
  | none => exact Nat.zero_le _
  | some l =>
    have h1 := numsO_len h
    have h2 := cutS_len 32 s
    rw [List.length_drop] at h1
    simp only
    split
    · exact Nat.zero_le _
    · split
      · exact Nat.zero_le _
      · split
        · exact Nat.zero_le _
        · split
          · exact Nat.zero_le _
          · show (l.drop 2).length ≤ _
            rw [List.length_drop]; omega
end Go.Proofs.YtbkdjlahhcofmaaGreatDoor
namespace Go.Proofs.YtbkdjlahhcofmaaGreatDoor
open Go.Lib (itoa)
open Go Go.RowKit Go.Proofs Go.Shelf Go.Ab
set_option maxRecDepth 100000 in
set_option maxHeartbeats 6400000 in
theorem AlertStrings_s (m : List Int) (x : Ntc) (s : Nm) (hm : I64 m) (hx : I64 ([x.version, x.tick] ++ x.cells)) : Summ Tryz.prog GS 9 [skF m, .agg (ntcF x), sv s] (.v (.bool true)) := by
  have hsz := strSz s
  have hszn := strSz x.name
  by_cases h1 : m.length ≤ 120
  case neg =>
    have HF1 := up (fewCells_F m (by omega))
    refine summW Tryz.func9 rfl rfl 162 rfl (by simp) (fun M0 => ?_)
    repeat (first
    | (apply s_a TY; exact rfl)
    | apply w_seq
    | apply w_region
    | apply s_nil
    | apply t_norm
    | apply t_ret
    | apply w_ret
    | apply w_skip
    | (apply w_condT; exact rfl; exact rfl)
    | (apply w_condF; exact rfl; exact rfl)
    | (apply s_k (up awake_s); exact rfl)
    | (apply s_k (HF1); exact rfl)
    | (apply s_s; exact rfl))
    exact lv_ret (ret1 rfl (res_tmp rfl))
  have HF1 := up (fewCells_T m h1)
  by_cases h2 : x.cells.length ≤ 120
  case neg =>
    have HF2 := up (fewCells_F x.cells (by omega))
    refine summW Tryz.func9 rfl rfl 162 rfl (by simp) (fun M0 => ?_)
    repeat (first
    | (apply s_a TY; exact rfl)
    | apply w_seq
    | apply w_region
    | apply s_nil
    | apply t_norm
    | apply t_ret
    | apply w_ret
    | apply w_skip
    | (apply w_condT; exact rfl; exact rfl)
    | (apply w_condF; exact rfl; exact rfl)
    | (apply s_k (up awake_s); exact rfl)
    | (apply s_k (HF1); exact rfl)
    | (apply s_k (HF2); exact rfl)
    | (apply s_s; exact rfl))
    exact lv_ret (ret1 rfl (res_tmp rfl))
  have HF2 := up (fewCells_T x.cells h2)
  by_cases h3 : x.name.length ≤ 20
  case neg =>
    refine summW Tryz.func9 rfl rfl 162 rfl (by simp) (fun M0 => ?_)
    repeat (first
    | (apply s_a TY; exact rfl)
    | (apply s_t; exact rfl; (first | assumption | omega))
    | apply w_seq
    | apply w_region
    | apply s_nil
    | apply t_norm
    | apply t_ret
    | apply w_ret
    | apply w_skip
    | (apply w_condT; exact rfl; exact rfl)
    | (apply w_condF; exact rfl; exact rfl)
    | (apply s_k (up awake_s); exact rfl)
    | (apply s_k (HF1); exact rfl)
    | (apply s_k (HF2); exact rfl)
    | (apply s_s; exact rfl))
    exact lv_ret (ret1 rfl (res_tmp rfl))
  by_cases h4 : s.length ≤ 200
  case neg =>
    refine summW Tryz.func9 rfl rfl 162 rfl (by simp) (fun M0 => ?_)
    repeat (first
    | (apply s_a TY; exact rfl)
    | (apply s_t; exact rfl; (first | assumption | omega))
    | (apply s_f; exact rfl; (first | assumption | omega))
    | apply w_seq
    | apply w_region
    | apply s_nil
    | apply t_norm
    | apply t_ret
    | apply w_ret
    | apply w_skip
    | (apply w_condT; exact rfl; exact rfl)
    | (apply w_condF; exact rfl; exact rfl)
    | (apply s_k (up awake_s); exact rfl)
    | (apply s_k (HF1); exact rfl)
    | (apply s_k (HF2); exact rfl))
    exact lv_ret (ret1 rfl (res_tmp rfl))
  have hwl := wordsS_len hm
  have hnl : (ntcS x).length ≤ 4000 := by
    have := wordsS_len hx
    rw [len_two] at this
    unfold ntcS
    rw [List.length_append, List.length_append]
    show _ + 1 + _ ≤ _
    omega
  have HCM := up (CopyMap_s m (by omega))
  have HFM := FormatMap_s m (by omega) hm
  have HCN := up (CopyNotice_s x (by omega))
  have HFN := FormatNotice_s x (by omega) (by omega) hx
  have HPM := ParseMap_s s (by omega)
  have HPN := ParseNotice_s s (by omega)
  have HRM := up (rParseMap_s s (by omega))
  have HRN := up (rParseNotice_s s (by omega))
  have HRF := up (rFormatMap_s m (by omega) hm)
  have HRG := up (rFormatNotice_s x (by omega) (by omega) hx)
  have HPA := ParseMap_s (wordsS m) (by omega)
  have HPB := ParseNotice_s (ntcS x) (by omega)
  have HA1 := up (rParseMap_s (wordsS m) (by omega))
  have HB1 := up (rParseNotice_s (ntcS x) (by omega))
  have l1 := mapP_len s
  have l2 := mapP_len (wordsS m)
  have l3 := ntcP_len s
  have l4 := ntcP_len (ntcS x)
  rw [mapR_eq] at HPM HRM HPA HA1
  unfold ntcR at HPN HRN HPB HB1
  generalize (mapP s).1 = L at *
  generalize (mapP s).2 = e at *
  generalize (mapP (wordsS m)).1 = R at *
  generalize (mapP (wordsS m)).2 = g at *
  generalize (ntcP s).1 = z at *
  generalize (ntcP s).2 = d at *
  generalize (ntcP (ntcS x)).1 = y at *
  generalize (ntcP (ntcS x)).2 = h at *
  generalize wordsS m = ws at *
  generalize ntcS x = ns at *
  have HI1 := up (Ints_s L L (by omega) (by omega))
  rw [decide_eq_true rfl] at HI1
  have HS1 := up (SameNotice_T z (by omega))
  have HI2 := up (Ints_s R m (by omega) (by omega))
  by_cases hg : g = 0
  · subst hg
    by_cases hR : R = m
    · subst hR
      rw [decide_eq_true rfl] at HI2
      by_cases hh : h = 0
      · subst hh
        by_cases hy : y = x
        · subst hy
          have HS2 := up (SameNotice_T y (by omega))
          refine summW Tryz.func9 rfl rfl 162 rfl (by simp) (fun M0 => ?_)
          repeat (first
    | (apply s_bind; exact rfl; exact rfl; exact rfl; exact rfl; exact rfl; exact rfl; exact nes_f rfl)
    | (apply s_a TY; exact rfl)
    | (apply s_t; exact rfl; (first | assumption | omega))
    | (apply s_f; exact rfl; (first | assumption | omega))
    | apply w_seq
    | apply w_region
    | (apply w_draw (id := 5) 4 rfl (by kernel_rfl))
    | apply s_nil
    | apply t_norm
    | apply w_ret
    | apply w_skip
    | (apply w_condT; exact rfl; exact rfl)
    | (apply w_condF; exact rfl; exact rfl)
    | (apply s_k (up awake_s); exact rfl)
    | (apply s_k (HF1); exact rfl)
    | (apply s_k (HF2); exact rfl)
    | (apply s_k (HCM); exact rfl)
    | (apply s_k (HFM); exact rfl)
    | (apply s_k (HCN); exact rfl)
    | (apply s_k (HFN); exact rfl)
    | (apply s_k (HPM); exact rfl)
    | (apply s_k (HPN); exact rfl)
    | (apply s_k (HRM); exact rfl)
    | (apply s_k (HRN); exact rfl)
    | (apply s_k (HRF); exact rfl)
    | (apply s_k (HRG); exact rfl)
    | (apply s_k (HI1); exact rfl)
    | (apply s_k (HS1); exact rfl)
    | (apply s_k (HA1); exact rfl)
    | (apply s_k (HB1); exact rfl)
    | (apply s_k (HI2); exact rfl)
    | (apply s_k (HPA); exact rfl)
    | (apply s_k (HPB); exact rfl)
    | (apply s_k (HS2); exact rfl)
    | (apply s_alloc TY; exact rfl; exact rfl; exact rfl)
    | (apply s_store TY; exact rfl; exact rfl; exact rfl; exact rfl; exact rfl; exact rfl))
          exact lv_ret (ret1 rfl (res_tmp rfl))
        · have HS2 := up (SameNotice_F y x (by omega) (by omega) hy)
          refine summW Tryz.func9 rfl rfl 162 rfl (by simp) (fun M0 => ?_)
          repeat (first
    | (apply s_bind; exact rfl; exact rfl; exact rfl; exact rfl; exact rfl; exact rfl; exact nes_f rfl)
    | (apply s_a TY; exact rfl)
    | (apply s_t; exact rfl; (first | assumption | omega))
    | (apply s_f; exact rfl; (first | assumption | omega))
    | apply w_seq
    | apply w_region
    | (apply w_draw (id := 5) 4 rfl (by kernel_rfl))
    | apply s_nil
    | apply t_norm
    | apply t_ret
    | apply w_ret
    | apply w_skip
    | (apply w_condT; exact rfl; exact rfl)
    | (apply w_condF; exact rfl; exact rfl)
    | (apply s_k (up awake_s); exact rfl)
    | (apply s_k (HF1); exact rfl)
    | (apply s_k (HF2); exact rfl)
    | (apply s_k (HCM); exact rfl)
    | (apply s_k (HFM); exact rfl)
    | (apply s_k (HCN); exact rfl)
    | (apply s_k (HFN); exact rfl)
    | (apply s_k (HPM); exact rfl)
    | (apply s_k (HPN); exact rfl)
    | (apply s_k (HRM); exact rfl)
    | (apply s_k (HRN); exact rfl)
    | (apply s_k (HRF); exact rfl)
    | (apply s_k (HRG); exact rfl)
    | (apply s_k (HI1); exact rfl)
    | (apply s_k (HS1); exact rfl)
    | (apply s_k (HA1); exact rfl)
    | (apply s_k (HB1); exact rfl)
    | (apply s_k (HI2); exact rfl)
    | (apply s_k (HPA); exact rfl)
    | (apply s_k (HS2); exact rfl)
    | (apply s_alloc TY; exact rfl; exact rfl; exact rfl)
    | (apply s_store TY; exact rfl; exact rfl; exact rfl; exact rfl; exact rfl; exact rfl))
          exact lv_ret (ret1 rfl (res_tmp rfl))
      · refine summW Tryz.func9 rfl rfl 162 rfl (by simp) (fun M0 => ?_)
        repeat (first
    | (apply s_bind; exact rfl; exact rfl; exact rfl; exact rfl; exact rfl; exact rfl; exact nes_f rfl)
    | (apply s_a TY; exact rfl)
    | (apply s_t; exact rfl; (first | assumption | omega))
    | (apply s_f; exact rfl; (first | assumption | omega))
    | apply w_seq
    | apply w_region
    | (apply w_draw (id := 5) 4 rfl (by kernel_rfl))
    | apply s_nil
    | apply t_norm
    | apply t_ret
    | apply w_ret
    | apply w_skip
    | (apply w_condT; exact rfl; exact rfl)
    | (apply w_condF; exact rfl; exact rfl)
    | (apply s_k (up awake_s); exact rfl)
    | (apply s_k (HF1); exact rfl)
    | (apply s_k (HF2); exact rfl)
    | (apply s_k (HCM); exact rfl)
    | (apply s_k (HFM); exact rfl)
    | (apply s_k (HCN); exact rfl)
    | (apply s_k (HFN); exact rfl)
    | (apply s_k (HPM); exact rfl)
    | (apply s_k (HPN); exact rfl)
    | (apply s_k (HRM); exact rfl)
    | (apply s_k (HRN); exact rfl)
    | (apply s_k (HRF); exact rfl)
    | (apply s_k (HRG); exact rfl)
    | (apply s_k (HI1); exact rfl)
    | (apply s_k (HS1); exact rfl)
    | (apply s_k (HA1); exact rfl)
    | (apply s_k (HB1); exact rfl)
    | (apply s_k (HI2); exact rfl)
    | (apply s_k (HPA); exact rfl)
    | (apply s_s; exact rfl)
    | (apply s_alloc TY; exact rfl; exact rfl; exact rfl)
    | (apply s_store TY; exact rfl; exact rfl; exact rfl; exact rfl; exact rfl; exact rfl))
        exact lv_ret (ret1 rfl (res_tmp rfl))
    · rw [decide_eq_false hR] at HI2
      by_cases hh : h = 0
      · subst hh
        by_cases hy : y = x
        · subst hy
          have HS2 := up (SameNotice_T y (by omega))
          refine summW Tryz.func9 rfl rfl 162 rfl (by simp) (fun M0 => ?_)
          repeat (first
    | (apply s_bind; exact rfl; exact rfl; exact rfl; exact rfl; exact rfl; exact rfl; exact nes_f rfl)
    | (apply s_a TY; exact rfl)
    | (apply s_t; exact rfl; (first | assumption | omega))
    | (apply s_f; exact rfl; (first | assumption | omega))
    | apply w_seq
    | apply w_region
    | (apply w_draw (id := 5) 4 rfl (by kernel_rfl))
    | apply s_nil
    | apply t_norm
    | apply w_ret
    | apply w_skip
    | (apply w_condF; exact rfl; exact rfl)
    | (apply s_k (up awake_s); exact rfl)
    | (apply s_k (HF1); exact rfl)
    | (apply s_k (HF2); exact rfl)
    | (apply s_k (HCM); exact rfl)
    | (apply s_k (HFM); exact rfl)
    | (apply s_k (HCN); exact rfl)
    | (apply s_k (HFN); exact rfl)
    | (apply s_k (HPM); exact rfl)
    | (apply s_k (HPN); exact rfl)
    | (apply s_k (HRM); exact rfl)
    | (apply s_k (HRN); exact rfl)
    | (apply s_k (HRF); exact rfl)
    | (apply s_k (HRG); exact rfl)
    | (apply s_k (HI1); exact rfl)
    | (apply s_k (HS1); exact rfl)
    | (apply s_k (HA1); exact rfl)
    | (apply s_k (HB1); exact rfl)
    | (apply s_k (HI2); exact rfl)
    | (apply s_k (HPB); exact rfl)
    | (apply s_k (HS2); exact rfl)
    | (apply s_alloc TY; exact rfl; exact rfl; exact rfl)
    | (apply s_store TY; exact rfl; exact rfl; exact rfl; exact rfl; exact rfl; exact rfl))
          exact lv_ret (ret1 rfl (res_tmp rfl))
        · have HS2 := up (SameNotice_F y x (by omega) (by omega) hy)
          refine summW Tryz.func9 rfl rfl 162 rfl (by simp) (fun M0 => ?_)
          repeat (first
    | (apply s_bind; exact rfl; exact rfl; exact rfl; exact rfl; exact rfl; exact rfl; exact nes_f rfl)
    | (apply s_a TY; exact rfl)
    | (apply s_t; exact rfl; (first | assumption | omega))
    | (apply s_f; exact rfl; (first | assumption | omega))
    | apply w_seq
    | apply w_region
    | (apply w_draw (id := 5) 4 rfl (by kernel_rfl))
    | apply s_nil
    | apply t_norm
    | apply t_ret
    | apply w_ret
    | apply w_skip
    | (apply w_condT; exact rfl; exact rfl)
    | (apply w_condF; exact rfl; exact rfl)
    | (apply s_k (up awake_s); exact rfl)
    | (apply s_k (HF1); exact rfl)
    | (apply s_k (HF2); exact rfl)
    | (apply s_k (HCM); exact rfl)
    | (apply s_k (HFM); exact rfl)
    | (apply s_k (HCN); exact rfl)
    | (apply s_k (HFN); exact rfl)
    | (apply s_k (HPM); exact rfl)
    | (apply s_k (HPN); exact rfl)
    | (apply s_k (HRM); exact rfl)
    | (apply s_k (HRN); exact rfl)
    | (apply s_k (HRF); exact rfl)
    | (apply s_k (HRG); exact rfl)
    | (apply s_k (HI1); exact rfl)
    | (apply s_k (HS1); exact rfl)
    | (apply s_k (HA1); exact rfl)
    | (apply s_k (HB1); exact rfl)
    | (apply s_k (HI2); exact rfl)
    | (apply s_k (HS2); exact rfl)
    | (apply s_alloc TY; exact rfl; exact rfl; exact rfl)
    | (apply s_store TY; exact rfl; exact rfl; exact rfl; exact rfl; exact rfl; exact rfl))
          exact lv_ret (ret1 rfl (res_tmp rfl))
      · refine summW Tryz.func9 rfl rfl 162 rfl (by simp) (fun M0 => ?_)
        repeat (first
    | (apply s_bind; exact rfl; exact rfl; exact rfl; exact rfl; exact rfl; exact rfl; exact nes_f rfl)
    | (apply s_a TY; exact rfl)
    | (apply s_t; exact rfl; (first | assumption | omega))
    | (apply s_f; exact rfl; (first | assumption | omega))
    | apply w_seq
    | apply w_region
    | (apply w_draw (id := 5) 4 rfl (by kernel_rfl))
    | apply s_nil
    | apply t_norm
    | apply t_ret
    | apply w_ret
    | apply w_skip
    | (apply w_condT; exact rfl; exact rfl)
    | (apply w_condF; exact rfl; exact rfl)
    | (apply s_k (up awake_s); exact rfl)
    | (apply s_k (HF1); exact rfl)
    | (apply s_k (HF2); exact rfl)
    | (apply s_k (HCM); exact rfl)
    | (apply s_k (HFM); exact rfl)
    | (apply s_k (HCN); exact rfl)
    | (apply s_k (HFN); exact rfl)
    | (apply s_k (HPM); exact rfl)
    | (apply s_k (HPN); exact rfl)
    | (apply s_k (HRM); exact rfl)
    | (apply s_k (HRN); exact rfl)
    | (apply s_k (HRF); exact rfl)
    | (apply s_k (HRG); exact rfl)
    | (apply s_k (HI1); exact rfl)
    | (apply s_k (HS1); exact rfl)
    | (apply s_k (HA1); exact rfl)
    | (apply s_k (HB1); exact rfl)
    | (apply s_k (HI2); exact rfl)
    | (apply s_s; exact rfl)
    | (apply s_alloc TY; exact rfl; exact rfl; exact rfl)
    | (apply s_store TY; exact rfl; exact rfl; exact rfl; exact rfl; exact rfl; exact rfl))
        exact lv_ret (ret1 rfl (res_tmp rfl))
  · by_cases hh : h = 0
    · subst hh
      by_cases hy : y = x
      · subst hy
        have HS2 := up (SameNotice_T y (by omega))
        refine summW Tryz.func9 rfl rfl 162 rfl (by simp) (fun M0 => ?_)
        repeat (first
    | (apply s_bind; exact rfl; exact rfl; exact rfl; exact rfl; exact rfl; exact rfl; exact nes_f rfl)
    | (apply s_a TY; exact rfl)
    | (apply s_t; exact rfl; (first | assumption | omega))
    | (apply s_f; exact rfl; (first | assumption | omega))
    | apply w_seq
    | apply w_region
    | (apply w_draw (id := 5) 4 rfl (by kernel_rfl))
    | apply s_nil
    | apply t_norm
    | apply w_ret
    | apply w_skip
    | (apply w_condF; exact rfl; exact rfl)
    | (apply s_k (up awake_s); exact rfl)
    | (apply s_k (HF1); exact rfl)
    | (apply s_k (HF2); exact rfl)
    | (apply s_k (HCM); exact rfl)
    | (apply s_k (HFM); exact rfl)
    | (apply s_k (HCN); exact rfl)
    | (apply s_k (HFN); exact rfl)
    | (apply s_k (HPM); exact rfl)
    | (apply s_k (HPN); exact rfl)
    | (apply s_k (HRM); exact rfl)
    | (apply s_k (HRN); exact rfl)
    | (apply s_k (HRF); exact rfl)
    | (apply s_k (HRG); exact rfl)
    | (apply s_k (HI1); exact rfl)
    | (apply s_k (HS1); exact rfl)
    | (apply s_k (HA1); exact rfl)
    | (apply s_k (HB1); exact rfl)
    | (apply s_k (HPB); exact rfl)
    | (apply s_k (HS2); exact rfl)
    | (apply s_s; exact rfl)
    | (apply s_alloc TY; exact rfl; exact rfl; exact rfl)
    | (apply s_store TY; exact rfl; exact rfl; exact rfl; exact rfl; exact rfl; exact rfl))
        exact lv_ret (ret1 rfl (res_tmp rfl))
      · have HS2 := up (SameNotice_F y x (by omega) (by omega) hy)
        refine summW Tryz.func9 rfl rfl 162 rfl (by simp) (fun M0 => ?_)
        repeat (first
    | (apply s_bind; exact rfl; exact rfl; exact rfl; exact rfl; exact rfl; exact rfl; exact nes_f rfl)
    | (apply s_a TY; exact rfl)
    | (apply s_t; exact rfl; (first | assumption | omega))
    | (apply s_f; exact rfl; (first | assumption | omega))
    | apply w_seq
    | apply w_region
    | (apply w_draw (id := 5) 4 rfl (by kernel_rfl))
    | apply s_nil
    | apply t_norm
    | apply t_ret
    | apply w_ret
    | apply w_skip
    | (apply w_condT; exact rfl; exact rfl)
    | (apply w_condF; exact rfl; exact rfl)
    | (apply s_k (up awake_s); exact rfl)
    | (apply s_k (HF1); exact rfl)
    | (apply s_k (HF2); exact rfl)
    | (apply s_k (HCM); exact rfl)
    | (apply s_k (HFM); exact rfl)
    | (apply s_k (HCN); exact rfl)
    | (apply s_k (HFN); exact rfl)
    | (apply s_k (HPM); exact rfl)
    | (apply s_k (HPN); exact rfl)
    | (apply s_k (HRM); exact rfl)
    | (apply s_k (HRN); exact rfl)
    | (apply s_k (HRF); exact rfl)
    | (apply s_k (HRG); exact rfl)
    | (apply s_k (HI1); exact rfl)
    | (apply s_k (HS1); exact rfl)
    | (apply s_k (HA1); exact rfl)
    | (apply s_k (HB1); exact rfl)
    | (apply s_k (HS2); exact rfl)
    | (apply s_s; exact rfl)
    | (apply s_alloc TY; exact rfl; exact rfl; exact rfl)
    | (apply s_store TY; exact rfl; exact rfl; exact rfl; exact rfl; exact rfl; exact rfl))
        exact lv_ret (ret1 rfl (res_tmp rfl))
    · refine summW Tryz.func9 rfl rfl 162 rfl (by simp) (fun M0 => ?_)
      repeat (first
    | (apply s_bind; exact rfl; exact rfl; exact rfl; exact rfl; exact rfl; exact rfl; exact nes_f rfl)
    | (apply s_a TY; exact rfl)
    | (apply s_t; exact rfl; (first | assumption | omega))
    | (apply s_f; exact rfl; (first | assumption | omega))
    | apply w_seq
    | apply w_region
    | (apply w_draw (id := 5) 4 rfl (by kernel_rfl))
    | apply s_nil
    | apply t_norm
    | apply t_ret
    | apply w_ret
    | apply w_skip
    | (apply w_condT; exact rfl; exact rfl)
    | (apply w_condF; exact rfl; exact rfl)
    | (apply s_k (up awake_s); exact rfl)
    | (apply s_k (HF1); exact rfl)
    | (apply s_k (HF2); exact rfl)
    | (apply s_k (HCM); exact rfl)
    | (apply s_k (HFM); exact rfl)
    | (apply s_k (HCN); exact rfl)
    | (apply s_k (HFN); exact rfl)
    | (apply s_k (HPM); exact rfl)
    | (apply s_k (HPN); exact rfl)
    | (apply s_k (HRM); exact rfl)
    | (apply s_k (HRN); exact rfl)
    | (apply s_k (HRF); exact rfl)
    | (apply s_k (HRG); exact rfl)
    | (apply s_k (HI1); exact rfl)
    | (apply s_k (HS1); exact rfl)
    | (apply s_k (HA1); exact rfl)
    | (apply s_k (HB1); exact rfl)
    | (apply s_s; exact rfl)
    | (apply s_alloc TY; exact rfl; exact rfl; exact rfl)
    | (apply s_store TY; exact rfl; exact rfl; exact rfl; exact rfl; exact rfl; exact rfl))
      exact lv_ret (ret1 rfl (res_tmp rfl))
end Go.Proofs.YtbkdjlahhcofmaaGreatDoor
namespace Go.Ab
open Go Go.RowKit
section
variable {P : Program} {w : World}
def InW (z : Int) : Prop := -9223372036854775808 ≤ z ∧ z < 9223372036854775808
theorem wf_inW {z : Int} (h : (Lit.int .i64 z).wf = true) : InW z := by
  have h2 := (Lit.wf_int_iff .i64 z).1 h
  have a : IntKind.i64.min = -9223372036854775808 := rfl
  have b : IntKind.i64.max = 9223372036854775807 := rfl
  rw [a, b] at h2
  unfold InW; omega
theorem opens_intw {T : TypeId} (ht : P.underlying T = some (.int .i64)) : Opens P w T (fun z : { z : Int // InW z } => [.v (.int .i64 z.1)]) := fun H enc base sp hd fuel cs x h => by
  obtain ⟨n, rfl, _, hw⟩ := DataW.trod_int ht h
  exact ⟨⟨n, wf_inW hw⟩, repL_one (RepF.v _), by simp [Value.oneCell']⟩
end
end Go.Ab
namespace Go.Proofs.YtbkdjlahhcofmaaGreatDoor
open Go Go.Ab Go.ChangeShapes Go.WideShapes Go.ChangeAt Go.RowKit
theorem ownKnobT : ownKnob Tryz.prog.godebug = none := by kernel_rfl
theorem laidOutT : laidOutB Tryz.prog = true := by kernel_rfl
theorem trodAll_stays {H : Type} {enc : TypeId × Value → H} {W W' : World} {sp : Nat → Bool} (hb : Below W.heap.size W W') : ∀ {ts : List TypeId} {vs : List Value} {ds : List (DataW H)} {ps : List MemPlace}, (∀ t ∈ ts, Tryz.prog.readableRec t = true ∧ t < Tryz.prog.types.size) → DataW.TrodAll enc Tryz.prog W 0 (fun _ => true) true ts vs ds ps → (∀ p ∈ ps, p.block < W.heap.size) → (∀ p ∈ ps, sp p.block = true) → DataW.TrodAll enc Tryz.prog W' 0 sp true ts vs ds ps
  | [], [], [], _, _, h, _, _ => h
  | t :: ts, v :: vs, d :: ds, ps, ht, ⟨p, q, h1, h2, e⟩, hlt, hsp => by
    have hp : ∀ x ∈ p, x ∈ ps := fun x hx => by rw [e]; exact List.mem_append_left _ hx
    have hq : ∀ x ∈ q, x ∈ ps := fun x hx => by rw [e]; exact List.mem_append_right _ hx
    exact ⟨p, q, WideElems.Trod_stays laidOutT (ht t (by simp)).1 (ht t (by simp)).2 h1 (fun x hx => hb.same (hlt x (hp x hx))) (fun x hx => hsp x (hp x hx)),
      trodAll_stays hb (fun u hu => ht u (by simp [hu])) h2 (fun x hx => hlt x (hq x hx)) (fun x hx => hsp x (hq x hx)), e⟩
theorem post_law {H : Type} {enc : TypeId × Value → H} {f : Func} {s : ChangeSpec} {W W' : World} {args : Array Value} {ds gs : List (DataW H)} {before : List MemPlace}
    (hW : DataW.Whole enc Tryz.prog f.params.toList s.vars false W args.toList ds gs before) (hv : s.vars = []) (hr : f.resultTypes = #[4])
    (ht : ∀ t ∈ f.params.toList, Tryz.prog.readableRec t = true ∧ t < Tryz.prog.types.size)
    (hres : (s.fn H (ds ++ gs)).results = [.lit (.bool true)]) (hargs : (s.fn H (ds ++ gs)).args = ds) (hvs : (s.fn H (ds ++ gs)).vars = [])
    (hb : Below W.heap.size W W') : s.post enc Tryz.prog f false true false false W args (.bool true) W' := by
  have hlt := hW.lt
  have hW0 := hW
  obtain ⟨p, q, h1, h2, e, hz, hn⟩ := hW
  have h2' := h2
  rw [hv] at h2'
  have hq : gs = [] ∧ q = [] := by
    cases gs with
    | nil => exact ⟨rfl, h2'⟩
    | cons g r => exact absurd h2' (by intro h; cases h)
  obtain ⟨rfl, rfl⟩ := hq
  rw [List.append_nil] at e
  subst e
  refine ⟨ds, [], before, [], before, [], hW0, ?_, ?_, ?_, Below.frame hb _, fun h => by cases h⟩
  · rw [hr, hres]; exact trodAll_mk1 (shut_bool Tryz.underlying4 true)
  · rw [hargs]
    exact trodAll_stays hb ht h1 hlt (fun x hx => by simpa using hlt x hx)
  · rw [hv, hvs]; rfl
theorem sq_map {α : Type} (f : α → FV) : ∀ l : List α, l.flatMap (fun x => [f x]) = l.map f
  | [] => rfl
  | x :: l => by rw [List.flatMap_cons, sq_map f l]; rfl
section
variable {W : World}
theorem opens_w : Opens Tryz.prog W 3 (fun z : { z : Int // InW z } => [iv z.1]) := opens_intw Tryz.underlying3
theorem opens_intsw : Opens Tryz.prog W 29 (fun l : { l : List Int // ∀ z, z ∈ l → InW z } => [.sl l.1.length (intsF l.1)]) := (opens_sl (s := 1) Tryz.underlying29 (by kernel_rfl) (by decide) opens_w).map (fun l => ⟨l.map (·.1), fun z hz => by obtain ⟨x, _, rfl⟩ := List.mem_map.1 hz; exact x.2⟩) fun l => by rw [sq_map]; simp [intsF]
theorem opens_nm : Opens Tryz.prog W 9 (fun s : Nm => [sv s]) := (opens_str Tryz.underlying9).map (fun s => s.data.toList) fun s => by obtain ⟨⟨l⟩⟩ := s; rfl
theorem opens_mapw : Opens Tryz.prog W 137 (fun l : { l : List Int // ∀ z, z ∈ l → InW z } => [.sl l.1.length (intsF l.1)]) := (opens_st Tryz.underlying137 (by kernel_rfl) (ofs_cons (s := 1) (by kernel_rfl) rfl opens_intsw ofs_nil)).map (fun p => p.1) fun _ => rfl
theorem opens_ntcw : Opens Tryz.prog W 101 (fun p : Nm × { z : Int // InW z } × { z : Int // InW z } × { l : List Int // ∀ z, z ∈ l → InW z } => [sv p.1, iv p.2.1.1, iv p.2.2.1.1, .sl p.2.2.2.1.length (intsF p.2.2.2.1)]) := (opens_st Tryz.underlying101 (by kernel_rfl) (ofs_cons (s := 1) (by kernel_rfl) rfl opens_nm (ofs_cons (s := 1) (by kernel_rfl) rfl opens_w (ofs_cons (s := 1) (by kernel_rfl) rfl opens_w (ofs_cons (s := 1) (by kernel_rfl) rfl opens_intsw ofs_nil))))).map (fun p => ⟨p.1, p.2.1, p.2.2.1, p.2.2.2.1⟩) fun _ => rfl
end
set_option maxRecDepth 100000 in
theorem arg_st {H : Type} {enc : TypeId × Value → H} {W : World} {base : Nat} {T : TypeId} {fs : Array Field} {α : Type} {f : α → List FV} {v : Value} {d : DataW H} {ps : List MemPlace} (h : Opens Tryz.prog W T f) (ht : Tryz.prog.underlying T = some (.struct fs)) (hv : Value.okWide Tryz.prog W .any base T v) (hd : DataW.Trod enc Tryz.prog W 0 (fun _ => true) true T v d ps) : ∃ a, RepF W (fun _ => False) v (.agg (f a)) := by
  obtain ⟨cs, e, _⟩ := okWide_struct ht hv
  exact arg_agg h e hd
end Go.Proofs.YtbkdjlahhcofmaaGreatDoor
