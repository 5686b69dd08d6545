/- Laws on which the proofs of this seat stand. No condition. -/
import Derived.Test.YtenkgipcblfocaaGreatAllWhoHad4
import Derived.ChangeKeysEq
import Derived.DataShut
import Derived.Test.YtenkgipcblfocaaGreatRows
import Derived.WalkKit
import Derived.ProofKit
import Derived.OpenShut
import Derived.Stop.Joined
namespace Go.Proofs.YtenkgipcblfocaaGreat
open Go Go.RowKit Go.Proofs Go.Shelf Go.Ab
theorem killA_big {d : Nat} (al : List Alt) (hl : al.length ≤ 400) (hd : 1000 ≤ d) : (PT al 1000).map (killA d) = PT al 1000 := by
  refine (List.map_congr_left fun x hx => ?_).trans (List.map_id _)
  rcases PT_mem hx with ⟨_, h⟩ | ⟨j, hj, _, rfl⟩
  · omega
  · exact killA_bx (by omega)
theorem HX_killB {al : List Alt} {q i d : Nat} {B : Blk} (hl : al.length ≤ 400) (hd : 1000 ≤ d) (h : HX al q i = some B) : killB d B = B := by
  obtain ⟨j, a, ha, _, _, ⟨_, rfl⟩ | ⟨_, rfl⟩⟩ := HX_some h
  · rfl
  · have hj := (List.getElem?_eq_some_iff.1 ha).1
    show Blk.box ((bxC (2 * j + 5) a).map (killA d)) = _
    rw [bxC_kill (by omega)]
def lsC (cs : List Cel) (s : Lst) : List FV := [xF cs, .sl s.1.length (strsF s.1), .sl s.2.length (altsF s.2)]
theorem sees_ls {C : Ctx} {N : Nat} {st : St} {cs : List Cel} {s : Lst} (hl : s.2.length ≤ 400) (h0 : st.h 0 = some (.box [.f (xF cs), .ow 1, .ow 2])) (h1 : st.h 1 = some (.row 9 1 s.1.length (strsF s.1))) (h2 : st.h 2 = some (.rowA 166 1 s.2.length (PT s.2 1000))) (hx : ∀ i B, HX s.2 1000 i = some B → st.h i = some B) : Sees C N st (.bx 0 0) (.pt (lsC cs s) 0) :=
  sees_bx h0 ⟨sees_f _, sees_row h1, sees_rowA h2 (sees_alts hl hx), trivial⟩
theorem over_sub {cs : List Cel} {ppl : List Nm} {al : List Alt} (R B1 B2 : Option Blk) : ∀ i B, HB cs ppl al i = some B → Ab.upd (Ab.upd (Ab.upd (HB cs ppl al) 1000 R) 1001 B1) 1001 B2 i = some B := fun i B h => by
  have := HB_lt h
  rw [Ab.upd_other _ _ (by omega), Ab.upd_other _ _ (by omega), Ab.upd_other _ _ (by omega)]
  exact h
theorem over_new {cs : List Cel} {ppl ppl' : List Nm} {al al' : List Alt} (R B1 B2 : Option Blk) : ∀ i, HB cs ppl al i = none → (HB cs ppl' al' i).isSome = true → Ab.upd (Ab.upd (Ab.upd (HB cs ppl al) 1000 R) 1001 B1) 1001 B2 i = none := fun i h h2 => by
  obtain ⟨B, hB⟩ := Option.isSome_iff_exists.1 h2
  have := HB_lt hB
  rw [Ab.upd_other _ _ (by omega), Ab.upd_other _ _ (by omega), Ab.upd_other _ _ (by omega)]
  exact h
set_option maxRecDepth 100000 in
set_option maxHeartbeats 3200000 in
theorem replay_ok (rs : List Int) (o : SkyOk rs) (l : List Act) (hl : l.length ≤ 40) (hcl : ∀ i, i < l.length → (l.getD i default).cells.length ≤ 1000000) (hE : ∀ i, i < l.length → runE (skyC rs).length l i = 0) : Summ Tryz.prog GG 102 [skF rs, .sl l.length (actsF l)] (.tup [.pt (lsC (skyC rs) (runS l l.length)) 0, .sl l.length (listsF (runW l l.length)), iv 0, iv 0]) := by
  have HO := open_ok rs o
  have hbd := skyC_bd o
  have hall : (runS l 0).2.length ≤ 400 := by show 0 ≤ 400; omega
  refine summW Tryz.func102 rfl rfl 58 rfl (by simp) (fun M0 => ?_)
  repeat (first
    | (apply s_boxw (T := 176); exact rfl; exact rfl; exact rfl; exact rfl)
    | (apply s_a TY; exact rfl)
    | (apply s_t; exact rfl; (first | assumption | omega))
    | apply w_seq
    | apply w_region
    | apply s_nil
    | apply t_norm
    | apply w_block
    | apply w_skip
    | (apply w_condF; exact rfl; exact rfl)
    | (apply s_k (HO); exact rfl)
    | (apply s_k1 (first2_1 _ _); exact rfl; (first | assumption | omega | decide))
    | (apply s_k (unless_T _); exact rfl))
  apply w_gh (gh_trans (gh_ownB 0 1 9 1 rfl rfl rfl) (gh_trans (gh_ownB 0 2 166 1 rfl rfl rfl) (gh_trans (gh_rowA 2 (cs := []) rfl) (gh_trans (gh_nx 1000) (gh_own 11 47 1 rfl rfl)))))
  apply w_loop (fun k : Nat => ⟨(Ab.upd (Ab.upd (Ab.upd (Ab.upd (Ab.upd (fun _ => .bot) 10 (.bx 0 0)) 11 (.ow 1000)) 34 (.f (.sl l.length (actsF l)))) 35 (.f (iv l.length))) 36 (.f (iv ((k : Nat) : Int)))), Ab.upd (HB (skyC rs) (runS l k).1 (runS l k).2) 1000 (some (.row 47 1 k (listsF (runW l k)))), 1001⟩) (fun k => k ≤ l.length) (fun k => l.length - k) 0 (Nat.zero_le _) (gh_le ⟨le_upd rfl trivial (le_upd rfl trivial (le_upd rfl trivial (le_upd rfl rfl (le_upd rfl rfl (le_nil _))))), le_baseO rfl rfl trivial (le_HB hall rfl rfl rfl (fun i B h => by obtain ⟨j, a, ha, _⟩ := HX_some h; simp [runS] at ha))⟩)
  intro k hk
  have inv := inv_run (l := l) (k := k) (c := (skyC rs).length) (fun i hi => hE i (by omega))
  have hal := inv.al
  by_cases hc : k < l.length
  · have hx := getD_at hc
    have hcx := hcl k hc
    have hEk : stpE (skyC rs).length (runS l k) (l.getD k default) = 0 := hE k hc
    rw [hx] at hcx hEk
    have HACT := act_ok (skyC rs) (runS l k) k inv (by omega) (by omega) l[k] hcx hEk
    have hall := (inv_step inv hEk).al
    replace hall : (stpS (runS l k) l[k]).2.length ≤ 400 := by omega
    have hS : runS l (k + 1) = stpS (runS l k) l[k] := by rw [runS, hx]
    have hW : runW l (k + 1) = runW l k ++ [stpW (runS l k) l[k]] := by rw [runW, hx]
    repeat (first
    | (refine s_callH HACT (fun _ => rfl) (fun i q h => by cases h) rfl rfl rfl ⟨rfl, trivial, trivial⟩ (over_sub _ _ _) (over_new _ _ _) ?_)
    | (apply s_a TY; exact rfl)
    | (apply s_t; exact rfl; (first | assumption | omega))
    | apply w_seq
    | apply w_region
    | apply s_nil
    | apply t_norm
    | apply k_norm
    | apply w_block
    | apply w_skip
    | (apply w_condT; exact rfl; exact rfl)
    | (apply w_condF; exact rfl; exact rfl)
    | (apply s_c TY; exact rfl; (first | omega | exact ⟨by omega, by (first | with_reducible assumption | ((with_reducible apply actsF_ne); omega) | assumption)⟩))
    | (apply s_m TY; exact rfl; (first | with_reducible assumption | ((with_reducible apply actsF_sub); omega) | exact rfl); exact rfl)
    | (apply s_alloc TY; exact rfl; exact rfl; exact rfl)
    | (apply s_store TY; exact rfl; exact rfl; exact rfl; exact rfl; exact rfl; exact rfl)
    | (apply s_append TY; exact rfl; exact rfl; exact rfl; exact rfl; exact rfl; exact rfl; exact rfl; exact rfl; exact rfl; (unfold maxLen; omega); omega))
    refine ⟨k + 1, by omega, by omega, ?_⟩
    simp only [hS, hW, listsF_snoc]
    exact gh_le ⟨le_upd rfl trivial (le_upd rfl trivial (le_upd rfl trivial (le_upd rfl rfl (le_upd rfl rfl (le_nil _))))), le_baseO rfl rfl trivial (le_HB hall rfl rfl (congrArg (fun z => some (Blk.rowA 166 1 _ z)) (killA_big _ hall (by omega))) (fun i B h => by
      have hb := HX_bd h
      try simp only [St.put]
      repeat (first | exact HX_HB h | exact join_h (HX_HB h) | refine grow_h (by omega) ?_ (HX_killB (by omega) (by omega) h) | refine (Ab.upd_other _ _ (by omega)).trans ?_)))⟩
  · have hkl : k = l.length := by omega
    subst hkl
    repeat (first
    | (apply s_a TY; exact rfl)
    | (apply s_f; exact rfl; (first | assumption | omega))
    | apply w_seq
    | apply w_region
    | apply s_nil
    | apply t_norm
    | apply t_exit
    | apply k_hit
    | apply w_exit
    | apply w_ret
    | (apply w_condF; exact rfl; exact rfl))
    exact lv_ret (ret4 rfl (res_sees rfl (sees_ls (by omega) rfl rfl rfl (fun i B h => by
      have hb := HX_bd h
      try simp only [St.put]
      repeat (first | exact HX_HB h | exact join_h (HX_HB h) | refine grow_h (by omega) ?_ (HX_killB (by omega) (by omega) h) | refine (Ab.upd_other _ _ (by omega)).trans ?_)))) (res_sees rfl (sees_row rfl)) (res_tmp rfl) (res_tmp rfl))
end Go.Proofs.YtenkgipcblfocaaGreat
namespace Go.Proofs.YtenkgipcblfocaaGreat
open Go Go.RowKit Go.Proofs Go.Shelf Go.Ab
set_option maxRecDepth 100000 in
set_option maxHeartbeats 1600000 in
theorem RecipientsOf_ok (rs : List Int) (o : SkyOk rs) (l : List Act) (hl : l.length ≤ 40) (hcl : ∀ i, i < l.length → (l.getD i default).cells.length ≤ 1000000) (hE : ∀ i, i < l.length → runE (skyC rs).length l i = 0) (k : Nat) (hk : k < l.length) (h0 : l[k].kind ≠ 0) (h1 : l[k].kind ≠ 1) : Summ Tryz.prog GG 34 [skF rs, .sl l.length (actsF l), iv ((k : Nat) : Int)] (.tup [listF ((runW l l.length)[k]'(by rw [runW_len]; exact hk)), iv 0]) := by
  have HR := replay_ok rs o l hl hcl hE
  have hw : (listsF (runW l l.length))[((k : Nat) : Int).toNat * 1]? = some (listF ((runW l l.length)[k]'(by rw [runW_len]; exact hk))) := by rw [Int.toNat_natCast]; exact listsF_at (by rw [runW_len]; exact hk)
  have hw2 : (listsF (runW l l.length))[k * 1]? = some (listF ((runW l l.length)[k]'(by rw [runW_len]; exact hk))) := listsF_at (by rw [runW_len]; exact hk)
  have hne : listsF (runW l l.length) ≠ [] := listsF_ne (k := k) (by rw [runW_len]; exact hk)
  generalize (runW l l.length)[k]'(by rw [runW_len]; exact hk) = w at hw hw2 ⊢
  refine summW Tryz.func34 rfl rfl 50 rfl (by simp) (fun M0 => ?_)
  repeat (first
    | (apply s_a TY; exact rfl)
    | (apply s_t; exact rfl; (first | assumption | omega))
    | (apply s_f; exact rfl; (first | assumption | omega))
    | apply w_seq
    | apply w_region
    | apply s_nil
    | apply t_norm
    | apply w_ret
    | apply w_skip
    | (apply w_condF; exact rfl; exact rfl)
    | (apply s_k (HR); exact rfl)
    | (apply s_k1 (first2_1 _ _); exact rfl; (first | assumption | omega | decide))
    | (apply s_k (unless_T _); exact rfl)
    | (apply s_k1 (within_T _ _ _); exact rfl; (first | assumption | omega | decide))
    | (apply s_c TY; exact rfl; (first | omega | exact ⟨by omega, by (first | with_reducible assumption | ((with_reducible apply actsF_ne); omega) | ((with_reducible apply listsF_ne); omega) | assumption)⟩))
    | (apply s_l TY; exact rfl; (first | exact rfl | with_reducible assumption | ((with_reducible apply actsF_f0); omega) | ((with_reducible apply actsF_f1); omega) | ((with_reducible apply actsF_f2); omega) | ((with_reducible apply listsF_at); omega) | assumption)))
  exact lv_ret (ret2 rfl (res_tmp rfl) (res_tmp rfl))
end Go.Proofs.YtenkgipcblfocaaGreat
namespace Go.Proofs.YtenkgipcblfocaaGreat
open Go Go.RowKit Go.Proofs Go.Shelf Go.Ab
structure PtOk (p : Pt) : Prop where
  h : -1000000 ≤ p.height ∧ p.height ≤ 1000000
  t : 0 ≤ p.turn ∧ p.turn ≤ 999999
set_option maxRecDepth 100000 in
set_option maxHeartbeats 1600000 in
theorem turned_fix_ok (pt : Pt) (n : Int) (o : PtOk pt) (h : 0 ≤ n ∧ n ≤ 1000000000000) : Summ Tryz.prog GG 100 [ptF pt, iv n, iv 1] (.tup [ptF ⟨pt.height, turnedZ pt.turn n 1⟩, iv 0]) := by
  have HP := pointErr_s pt
  rw [ptE_0 ⟨o.h, o.t⟩] at HP
  have ho := o.t
  have hz := turnZ_bd n
  have HT := turnAt_s n (by omega)
  refine summW Tryz.func100 rfl rfl 30 rfl (by simp) (fun M0 => ?_)
  repeat (first
    | (apply s_boxw (T := 23); exact rfl; exact rfl; exact rfl; exact rfl)
    | (apply s_a TY; exact rfl)
    | (apply s_t; exact rfl; (first | assumption | omega))
    | apply w_seq
    | apply w_region
    | (apply w_draw (id := 4) 6 rfl (by kernel_rfl))
    | apply s_nil
    | apply t_norm
    | apply w_ret
    | apply w_skip
    | (apply w_condF; exact rfl; exact rfl)
    | (apply s_k (HP); exact rfl)
    | (apply s_k (HT); exact rfl)
    | (apply s_k1 (tickErr_T _); exact rfl; (first | assumption | omega | decide))
    | (apply s_k1 (first2_1 _ _); exact rfl; (first | assumption | omega | decide))
    | (apply s_c TY; exact rfl; omega)
    | (apply s_alloc TY; exact rfl; exact rfl; exact rfl)
    | (apply s_store TY; exact rfl; exact rfl; exact rfl; exact rfl; exact rfl; exact rfl))
  exact lv_ret (ret2 rfl (res_bxs TY rfl rfl rfl rfl rfl) (res_tmp rfl))
set_option maxRecDepth 100000 in
theorem FixedOf_ok (pt : Pt) (n : Int) (o : PtOk pt) (h : 0 ≤ n ∧ n ≤ 1000000000000) : Summ Tryz.prog GG 17 [ptF pt, iv n] (.tup [ptF ⟨pt.height, turnedZ pt.turn n 1⟩, iv 0]) := by
  have HT := turned_fix_ok pt n o h
  refine summW Tryz.func17 rfl rfl 11 rfl (by simp) (fun M0 => ?_)
  repeat (first
    | (apply s_a TY; exact rfl)
    | apply w_seq
    | apply w_region
    | apply s_nil
    | apply t_norm
    | apply w_ret
    | (apply s_k (HT); exact rfl)
    | (apply s_alloc TY; exact rfl; exact rfl; exact rfl)
    | (apply s_store TY; exact rfl; exact rfl; exact rfl; exact rfl; exact rfl; exact rfl))
  exact lv_ret (ret2 rfl (res_bxs TY rfl rfl rfl rfl rfl) (res_tmp rfl))
end Go.Proofs.YtenkgipcblfocaaGreat
namespace Go.Proofs.YtenkgipcblfocaaGreat
open Go Go.RowKit Go.Proofs Go.Shelf Go.Ab
theorem rep_slw {w : World} {M : Nat → Prop} {n : Nat} {v : Value} {cs cs' : List FV} (h : RepF w M v (.sl n cs)) (hl : cs.length = cs'.length) (hc : ∀ (k : Nat) (x x' : FV), cs[k]? = some x → cs'[k]? = some x' → ∀ u, RepF w M u x → RepF w M u x') : RepF w M v (.sl n cs') := by
  cases h with
  | sl a n c cs us h1 h2 h3 h4 h5 =>
    refine RepF.sl a n c cs' us h1 (h2.trans hl) h3 h4 (fun k u x hu hx => ?_)
    have hk : k < cs.length := by rw [hl]; exact (List.getElem?_eq_some_iff.1 hx).1
    exact hc k _ x (List.getElem?_eq_getElem hk) hx u (h5 k u _ hu (List.getElem?_eq_getElem hk))
def nilWL : List FV → List FV → Prop
  | [], [] => True
  | x :: xs, y :: ys => (x = y ∨ (x = .v (.slice none 0 0) ∧ y = .sl 0 [])) ∧ nilWL xs ys
  | _, _ => False
theorem nilWL_len : ∀ {xs ys : List FV}, nilWL xs ys → xs.length = ys.length
  | [], [], _ => rfl
  | _ :: _, _ :: _, h => by simp [nilWL_len h.2]
  | [], _ :: _, h => h.elim
  | _ :: _, [], h => h.elim
theorem nilWL_at {w : World} {M : Nat → Prop} : ∀ {xs ys : List FV}, nilWL xs ys → ∀ (k : Nat) (x x' : FV), xs[k]? = some x → ys[k]? = some x' → ∀ u, RepF w M u x → RepF w M u x'
  | [], [], _, k, x, x', h1, _, _, _ => by simp at h1
  | a :: xs, b :: ys, h, 0, x, x', h1, h2, u, r => by
    simp at h1 h2; subst h1; subst h2
    rcases h.1 with e | ⟨e1, e2⟩
    · rwa [← e]
    · rw [e1] at r; rw [e2]; exact rep_nilsl r
  | a :: xs, b :: ys, h, k + 1, x, x', h1, h2, u, r => nilWL_at h.2 k x x' (by simpa using h1) (by simpa using h2) u r
  | [], _ :: _, h, _, _, _, _, _, _, _ => h.elim
  | _ :: _, [], h, _, _, _, _, _, _, _ => h.elim
theorem summ_slw {g n : Nat} {args cs cs' : List FV} (S : Summ Tryz.prog GG g args (.sl n cs)) (h : nilWL cs cs') : Summ Tryz.prog GG g args (.sl n cs') :=
  ⟨S.enters, fun w M us h1 h2 h3 => (S.call w M us h1 h2 h3).mono fun _ _ ⟨v, q1, q2, q3⟩ => ⟨v, q1, rep_slw q2 (nilWL_len h) (nilWL_at h), q3⟩⟩
def exRs : List Int := [1, 4, 4, 1]
def exM : List Int := [0, 5, 3, 0, 0, 2, 0, 0, 0, 0]
def nAnn : Nm := [97, 110, 110]
def nBob : Nm := [98, 111, 98]
def nX : Nm := [120]
def exActs : List Act := [⟨0, nAnn, []⟩, ⟨2, nX, [1, 2]⟩, ⟨0, nBob, []⟩, ⟨3, nX, [1]⟩, ⟨1, nAnn, []⟩, ⟨4, nX, []⟩]
def exJobs : List Job := [⟨0, 5, 9, 1⟩, ⟨1, 2, 4, 5⟩, ⟨2, 1, 9, 3⟩]
theorem Sky_s : Summ Tryz.prog GG 94 [] (skF exRs) := by
  refine summW Tryz.func94 rfl rfl 3 rfl (by simp) (fun M0 => ?_)
  repeat (first
    | (apply s_a TY; exact rfl)
    | apply w_seq
    | apply w_region
    | apply s_nil
    | apply t_norm
    | apply w_ret
    | (apply s_alloc TY; exact rfl; exact rfl; exact rfl)
    | (apply s_store TY; exact rfl; exact rfl; exact rfl; exact rfl; exact rfl; exact rfl))
  exact lv_ret (ret1 rfl (res_bxs (sub := [.sl exRs.length (intsF exRs)]) TY rfl rfl rfl rfl rfl))
theorem Map_s : Summ Tryz.prog GG 95 [] (skF exM) := by
  refine summW Tryz.func95 rfl rfl 3 rfl (by simp) (fun M0 => ?_)
  repeat (first
    | (apply s_a TY; exact rfl)
    | apply w_seq
    | apply w_region
    | apply s_nil
    | apply t_norm
    | apply w_ret
    | (apply s_alloc TY; exact rfl; exact rfl; exact rfl)
    | (apply s_store TY; exact rfl; exact rfl; exact rfl; exact rfl; exact rfl; exact rfl))
  exact lv_ret (ret1 rfl (res_bxs (sub := [.sl exM.length (intsF exM)]) TY rfl rfl rfl rfl rfl))
theorem Jobs_s : Summ Tryz.prog GG 97 [] (.sl exJobs.length (jobsF exJobs)) := by
  refine summW Tryz.func97 rfl rfl 5 rfl (by simp) (fun M0 => ?_)
  repeat (first
    | (apply s_a TY; exact rfl)
    | apply w_seq
    | apply w_region
    | apply s_nil
    | apply t_norm
    | apply w_ret)
  exact lv_ret (ret1 rfl (res_tmp rfl))
def exActsN : List FV := [iv 0, sv nAnn, .v (.slice none 0 0), iv 2, sv nX, .sl 2 (intsF [1, 2]), iv 0, sv nBob, .v (.slice none 0 0), iv 3, sv nX, .sl 1 (intsF [1]), iv 1, sv nAnn, .v (.slice none 0 0), iv 4, sv nX, .v (.slice none 0 0)]
theorem Acts_n : Summ Tryz.prog GG 96 [] (.sl 6 exActsN) := by
  refine summW Tryz.func96 rfl rfl 10 rfl (by simp) (fun M0 => ?_)
  repeat (first
    | (apply s_a TY; exact rfl)
    | apply w_seq
    | apply w_region
    | apply s_nil
    | apply t_norm
    | apply w_ret)
  exact lv_ret (ret1 rfl (res_tmp rfl))
theorem exActs_w : nilWL exActsN (actsF exActs) := ⟨.inl rfl, .inl rfl, .inr ⟨rfl, rfl⟩, .inl rfl, .inl rfl, .inl rfl, .inl rfl, .inl rfl, .inr ⟨rfl, rfl⟩, .inl rfl, .inl rfl, .inl rfl, .inl rfl, .inl rfl, .inr ⟨rfl, rfl⟩, .inl rfl, .inl rfl, .inr ⟨rfl, rfl⟩, trivial⟩
theorem Acts_s : Summ Tryz.prog GG 96 [] (.sl exActs.length (actsF exActs)) := summ_slw Acts_n exActs_w
theorem exSky : SkyOk exRs := skyOk_of (by decide +kernel)
theorem exMap : MapOk (befK exRs exRs.length) exM := mapOk_of (by decide +kernel)
theorem exReg : regV exM 90 = [1, 2, 5] := by
  have h : (sortedW exM).take (regC (wI exM) (sortedW exM) (wantV exM 90)) = [1, 2, 5] := by decide +kernel
  unfold regV
  rw [h]
  unfold ascL
  refine List.mergeSort_of_pairwise ?_
  decide +kernel
theorem exCell : cellZ exRs 500000 250000 = 2 := by decide +kernel
theorem exTurn : turnedZ 700000 43082 1 = 200000 := by decide +kernel
theorem exJobsOk : JobsOk exJobs := jobsOk_of (by decide +kernel)
theorem exOrder : orderO exJobs = some [1, 0, 2] := by decide +kernel
theorem exRun : ∀ i, i < exActs.length → runE (skyC exRs).length exActs i = 0 := by decide +kernel
theorem runW_at (l : List Act) : ∀ (n i : Nat), i < n → (runW l n)[i]? = some (stpW (runS l i) (l.getD i default))
  | 0, i, h => absurd h (Nat.not_lt_zero i)
  | n + 1, i, h => by
    rw [runW]
    by_cases e : i = n
    · subst e
      rw [List.getElem?_append_right (by rw [runW_len]; exact Nat.le_refl _), runW_len, Nat.sub_self]; rfl
    · rw [List.getElem?_append_left (by rw [runW_len]; omega)]
      exact runW_at l n i (by omega)
theorem exWho : (altA (runS exActs 5).2 nX).kys = [nAnn, nBob] := by decide +kernel
theorem exAsc : ascN [nAnn, nBob] = [nAnn, nBob] := by
  unfold ascN
  refine List.mergeSort_of_pairwise ?_
  decide +kernel
theorem exRec : (runW exActs exActs.length)[5]? = some [nAnn, nBob] := by
  rw [runW_at exActs exActs.length 5 (by decide)]
  show some (ascN (altA (runS exActs 5).2 nX).kys) = _
  rw [exWho, exAsc]
end Go.Proofs.YtenkgipcblfocaaGreat
namespace Go.Proofs.YtenkgipcblfocaaGreat
open Go Go.RowKit Go.Proofs Go.Shelf Go.Ab
theorem stood_pt : Tryz.prog.stoodInHeld 23 = false := by kernel_rfl
theorem fields_pt : Tryz.prog.fieldsOf 23 = #[{ name := "Height", type := 3, offset := 0, embedded := false, tag := "", pkgPath := "", byteOffset := 0 }, { name := "Turn", type := 3, offset := 1, embedded := false, tag := "", pkgPath := "", byteOffset := 8 }] := by kernel_rfl
theorem equalIn_pt (d : Nat) (a b : Pt) (W : World) : (Op.equalIn (d + 2) 23 (.agg #[.int .i64 a.height, .int .i64 a.turn]) (.agg #[.int .i64 b.height, .int .i64 b.turn])).run Tryz.prog W = .ok (decide (a = b)) W := by
  rw [run_equalIn_agg W (d + 1) 23 _ _ (by rw [fields_pt]; exact Tryz.underlying23) stood_pt, fields_pt]
  have e : decide (a = b) = (a.height == b.height && a.turn == b.turn) := by
    cases a; cases b; simp [Pt.mk.injEq]
    try simp [Bool.and_assoc]
    try rfl
  rw [e]
  cases h0 : a.height == b.height <;> cases h1 : a.turn == b.turn <;> simp [Op.eqFields, part, run_equalIn_int W d 3 _ _ _ _ Tryz.underlying3, h0, h1]
theorem guard_pt : Tryz.prog.eqGuardType Tryz.prog.depth 23 = false := by kernel_rfl
theorem eq_pt {x y : Operand} {a b : Pt} {c : Bool} (h : decide (a = b) = c) : ∀ w, (do eqGuard .eql 23 x y (.agg #[.int .i64 a.height, .int .i64 a.turn]) (.agg #[.int .i64 b.height, .int .i64 b.turn]); binOp .eql 23 (.agg #[.int .i64 a.height, .int .i64 a.turn]) (.agg #[.int .i64 b.height, .int .i64 b.turn]) : Sem Value).run Tryz.prog w = .ok (.bool c) w := fun w => by
  have h1 := equalIn_pt 9998 a b w
  rw [h] at h1
  first
  | (simp [eqGuard, run_eql_struct, h1]; done)
  | simp [eqGuard, guard_pt, run_eql_struct, h1]
theorem eqI {x y : Operand} {h1 t1 h2 t2 : Int} {c : Bool} (h : decide ((⟨h1, t1⟩ : Pt) = ⟨h2, t2⟩) = c) : ∀ w, (do eqGuard .eql 23 x y (.agg #[.int .i64 h1, .int .i64 t1]) (.agg #[.int .i64 h2, .int .i64 t2]); binOp .eql 23 (.agg #[.int .i64 h1, .int .i64 t1]) (.agg #[.int .i64 h2, .int .i64 t2]) : Sem Value).run Tryz.prog w = .ok (.bool c) w := eq_pt (a := ⟨h1, t1⟩) (b := ⟨h2, t2⟩) h
set_option maxRecDepth 100000 in
set_option maxHeartbeats 1600000 in
theorem awake_s : Summ Tryz.prog GG 15 [] (.v (.bool true)) := by
  have H1 := Sky_s
  have H2 := CellOf_ok exRs ⟨500000, 250000⟩ exSky (by decide)
  rw [show cellZ exRs (Pt.height ⟨500000, 250000⟩) (Pt.turn ⟨500000, 250000⟩) = 2 from exCell] at H2
  have H3 := Map_s
  have H4 := RegionOf_of exRs exM 90 exSky exMap (by decide) (stab_few (by decide))
  rw [exReg] at H4
  have H5 := FixedOf_ok ⟨7, 700000⟩ 43082 ⟨by decide, by decide⟩ (by decide)
  rw [show turnedZ (Pt.turn ⟨7, 700000⟩) 43082 1 = 200000 from exTurn] at H5
  have H6 := Acts_s
  have H7 := RecipientsOf_ok exRs exSky exActs (by decide) (by decide) exRun 5 (by decide) (by decide) (by decide)
  have hw : (runW exActs exActs.length)[5]'(by rw [runW_len]; decide) = [nAnn, nBob] := by
    have := exRec
    rw [List.getElem?_eq_getElem (by rw [runW_len]; decide)] at this
    exact Option.some.inj this
  rw [hw] at H7
  have H8 := Jobs_s
  have H9 := OrderFor_ok exJobs exJobsOk
  rw [exOrder, show (if (some [(1 : Int), 0, 2]).isSome = true then (0 : Int) else 12) = 0 from rfl] at H9
  have HA := Ints_s [1, 2, 5] [1, 2, 5] (by decide) (by decide)
  rw [decide_eq_true rfl] at HA
  have HB := Ints_s [1, 0, 2] [1, 0, 2] (by decide) (by decide)
  rw [decide_eq_true rfl] at HB
  have HC := Texts_s [nAnn, nBob] [nAnn, nBob] (by decide) (by decide)
  rw [decide_eq_true rfl] at HC
  refine summW Tryz.func15 rfl rfl 81 rfl (by simp) (fun M0 => ?_)
  repeat (first
    | (apply s_bind; exact rfl; exact rfl; exact rfl; exact rfl; exact rfl; exact rfl; exact eqI rfl)
    | (apply s_a TY; exact rfl)
    | (apply s_t; exact rfl; (first | assumption | omega))
    | apply w_seq
    | apply w_region
    | apply s_nil
    | apply t_norm
    | apply w_ret
    | (apply s_k (H1); exact rfl)
    | (apply s_k (H2); exact rfl)
    | (apply s_k (H3); exact rfl)
    | (apply s_k (H4); exact rfl)
    | (apply s_k (H5); exact rfl)
    | (apply s_k (H6); exact rfl)
    | (apply s_k (H7); exact rfl)
    | (apply s_k (H8); exact rfl)
    | (apply s_k (H9); exact rfl)
    | (apply s_k (HA); exact rfl)
    | (apply s_k (HB); exact rfl)
    | (apply s_k (HC); exact rfl)
    | (apply s_alloc TY; exact rfl; exact rfl; exact rfl)
    | (apply s_store TY; exact rfl; exact rfl; exact rfl; exact rfl; exact rfl; exact rfl))
  exact lv_ret (ret1 rfl (res_tmp rfl))
end Go.Proofs.YtenkgipcblfocaaGreat
namespace Go.Ab
open Go Go.RowKit Go.Shelf Go.Proofs
section
variable {C : Ctx} {N : Nat} {st : St}
variable {ops : Array Oper} {pr : Bool} {K : St → Prop} {rest : List Oper} {d : Option Tmp} {T0 : TypeId} {pos : String} {af : Array Edge} {g : Option (Nat × Bool)}
end
end Go.Ab
namespace Go.Ab
open Go Go.RowKit Go.Shelf Go.Proofs
section
variable {C : Ctx} {N : Nat}
variable {ops : Array Oper} {pr : Bool} {K : St → Prop} {rest : List Oper} {d : Option Tmp} {T0 : TypeId} {pos : String} {af : Array Edge} {gd : Option (Nat × Bool)} {st : St}
end
end Go.Ab
namespace Go.Ab
open Go Go.RowKit Go.Shelf Go.Proofs
section
variable {C : Ctx} {N : Nat}
theorem v_sliceTo {o : Oper} {st : St} {T E s bs : Nat} {x y : Operand} {cs cs' : List FV} {n m : Nat} {k : IntKind} (ty : Ty C.P) (ho : o.op = .slice T x none (some y) none) (hd : dstB N o.dst = true) (hT : (ty.ty T).sl = some (E, s, bs)) (hx : st.ev C x = .f (.sl n cs)) (hy : st.ev C y = .f (.v (.int k ((m : Nat) : Int)))) (hm : m ≤ n) (hc : cs.take (m * s) = cs') : ValOp C N o st (.f (.sl m cs')) := by
  have h := v_slice (l := 0) (h := ((m : Nat) : Int)) (lo := none) (hi := some y) ty ho hd hT hx rfl ⟨_, hy⟩ (by omega) (by omega) (by omega)
  have e : FV.sl (((m : Nat) : Int).toNat - (0 : Int).toNat) ((cs.drop ((0 : Int).toNat * s)).take ((((m : Nat) : Int).toNat - (0 : Int).toNat) * s)) = .sl m cs' := by
    rw [← hc]; simp
  rwa [e] at h
variable {ops : Array Oper} {pr : Bool} {K : St → Prop} {rest : List Oper} {d : Option Tmp} {T0 : TypeId} {pos : String} {af : Array Edge} {gd : Option (Nat × Bool)} {st : St}
theorem s_sliceTo (ty : Ty C.P) {T E s bs : Nat} {x y : Operand} {cs cs' : List FV} {n m : Nat} {k : IntKind} (hw : wantB st ops ⟨d, .slice T x none (some y) none, T0, pos, af, gd⟩ = some true) (hd : dstB N d = true) (hT : (ty.ty T).sl = some (E, s, bs)) (hx : st.ev C x = .f (.sl n cs)) (hy : st.ev C y = .f (.v (.int k ((m : Nat) : Int)))) (hm : m ≤ n) (hc : cs.take (m * s) = cs')
    (h : R C N ops pr K rest (st.put d (.f (.sl m cs')))) : R C N ops pr K (⟨d, .slice T x none (some y) none, T0, pos, af, gd⟩ :: rest) st := ⟨r_val hw (v_sliceTo ty rfl hd hT hx hy hm hc) h.out⟩
end
end Go.Ab
namespace Go.Proofs.YtenkgipcblfocaaGreat
open Go Go.RowKit Go.Proofs Go.Shelf Go.Ab
def ltS (a b : Nm) : Bool := Op.bytesLess a b
theorem ltS_cons (a b : UInt8) (x y : Nm) : ltS (a :: x) (b :: y) = true ↔ a.toNat < b.toNat ∨ (a = b ∧ ltS x y = true) := by
  unfold ltS
  rw [Op.bytesLess]
  simp [UInt8.lt_iff_toNat_lt]
theorem ltS_nil_r : ∀ a : Nm, ltS a [] = false
  | [] => rfl
  | _ :: _ => rfl
theorem ltS_nil_l (b : UInt8) (y : Nm) : ltS [] (b :: y) = true := rfl
theorem ltS_irr : ∀ a : Nm, ltS a a = false
  | [] => rfl
  | a :: x => by
    have ih := ltS_irr x
    refine Bool.eq_false_iff.2 fun h => ?_
    rcases (ltS_cons a a x x).1 h with h | ⟨_, h⟩
    · omega
    · rw [ih] at h; cases h
theorem ltS_trans : ∀ a b c : Nm, ltS a b = true → ltS b c = true → ltS a c = true
  | _, [], _, h, _ => by rw [ltS_nil_r] at h; cases h
  | _, _ :: _, [], _, h => by rw [ltS_nil_r] at h; cases h
  | [], _ :: _, c :: z, _, _ => ltS_nil_l c z
  | a :: x, b :: y, c :: z, h1, h2 => by
    rw [ltS_cons] at h1 h2 ⊢
    rcases h1 with h1 | ⟨rfl, h1⟩
    · rcases h2 with h2 | ⟨rfl, h2⟩
      · exact .inl (by omega)
      · exact .inl h1
    · rcases h2 with h2 | ⟨rfl, h2⟩
      · exact .inl h2
      · exact .inr ⟨rfl, ltS_trans x y z h1 h2⟩
theorem ltS_tot : ∀ a b : Nm, a ≠ b → ltS a b = true ∨ ltS b a = true
  | [], [], h => absurd rfl h
  | [], b :: y, _ => .inl (ltS_nil_l b y)
  | a :: x, [], _ => .inr (ltS_nil_l a x)
  | a :: x, b :: y, h => by
    rw [ltS_cons, ltS_cons]
    by_cases e : a = b
    · subst e
      rcases ltS_tot x y (fun e => h (by rw [e])) with h1 | h1
      · exact .inl (.inr ⟨rfl, h1⟩)
      · exact .inr (.inr ⟨rfl, h1⟩)
    · have : a.toNat ≠ b.toNat := fun h => e (UInt8.toNat_inj.1 h)
      by_cases h2 : a.toNat < b.toNat
      · exact .inl (.inl h2)
      · exact .inr (.inl (by omega))
theorem ltSOk : LtOk ltS := ⟨ltS_irr, ltS_trans, ltS_tot⟩
theorem leS_eq (a b : Nm) : decide (a ≤ b) = !ltS b a := by
  unfold ltS
  rw [bytesLess_eq, ← decide_not]
  exact decide_eq_decide.2 Iff.rfl
theorem ascN_asc {L : List Nm} (h : L.Nodup) : AscN ltS (ascN L) := by
  have hp : (ascN L).Pairwise fun a b => decide (a ≤ b) = true := List.pairwise_mergeSort (fun a b c h1 h2 => by
    rw [leS_eq, Bool.not_eq_true'] at h1 h2 ⊢
    refine Bool.eq_false_iff.2 fun h3 => ?_
    by_cases e : a = b
    · subst e; rw [h3] at h2; cases h2
    · rcases ltS_tot a b e with h4 | h4
      · have := ltS_trans c a b h3 h4
        rw [this] at h2; cases h2
      · rw [h4] at h1; cases h1) (fun a b => by
    rw [leS_eq, leS_eq]
    by_cases e : ltS b a = true
    · rw [e, ltSOk.asym e]; rfl
    · rw [Bool.not_eq_true] at e; rw [e]; rfl) L
  have hn : (ascN L).Pairwise fun a b => a ≠ b := (List.mergeSort_perm L _).nodup_iff.2 h
  refine (hp.and hn).imp fun {a b} ⟨h1, h2⟩ => ?_
  rw [leS_eq, Bool.not_eq_true'] at h1
  rcases ltS_tot a b h2 with h3 | h3
  · exact h3
  · rw [h3] at h1; cases h1
theorem ascN_mem {L : List Nm} {x : Nm} : x ∈ ascN L ↔ x ∈ L := (List.mergeSort_perm L _).mem_iff
theorem ascN_sorted {L : List Nm} (h : L.Nodup) : ascN L = sortedN ltS L := sortedN_eq ltSOk (ascN_asc h) fun _ => ascN_mem
theorem sortedN_len (L : List Nm) : (sortedN ltS L).length ≤ L.length := by
  obtain ⟨h1, h2⟩ := sortedN_spec ltSOk L
  exact sub_len (h1.nodup ltSOk) fun x hx => (h2 x).1 hx
theorem lts_run (x y : Operand) (a b : Nm) (w : World) : (do eqGuard .lss 9 x y (.string ⟨a.toArray⟩) (.string ⟨b.toArray⟩); binOp .lss 9 (.string ⟨a.toArray⟩) (.string ⟨b.toArray⟩) : Sem Value).run Tryz.prog w = .ok (.bool (ltS a b)) w := by
  simp [eqGuard, binOp, Op.stringOp, ltS]
theorem gts_run (x y : Operand) (a b : Nm) (w : World) : (do eqGuard .gtr 9 x y (.string ⟨a.toArray⟩) (.string ⟨b.toArray⟩); binOp .gtr 9 (.string ⟨a.toArray⟩) (.string ⟨b.toArray⟩) : Sem Value).run Tryz.prog w = .ok (.bool (ltS b a)) w := by
  have e : (!(ltS a b || a == b)) = ltS b a := by
    by_cases h : a = b
    · subst h; rw [ltS_irr]; simp
    · have hb : (a == b) = false := by simpa using h
      rw [hb, Bool.or_false]
      rcases ltS_tot a b h with h1 | h1
      · rw [h1, ltSOk.asym h1]; rfl
      · rw [h1, ltSOk.asym h1]; rfl
  rw [← e]
  simp [eqGuard, binOp, Op.stringOp, ltS]
theorem lts_t {x y : Operand} {a b : Nm} {c : Bool} (h : ltS a b = c) (w : World) : (do eqGuard .lss 9 x y (.string ⟨a.toArray⟩) (.string ⟨b.toArray⟩); binOp .lss 9 (.string ⟨a.toArray⟩) (.string ⟨b.toArray⟩) : Sem Value).run Tryz.prog w = .ok (.bool c) w := by rw [lts_run, h]
theorem gts_t {x y : Operand} {a b : Nm} {c : Bool} (h : ltS b a = c) (w : World) : (do eqGuard .gtr 9 x y (.string ⟨a.toArray⟩) (.string ⟨b.toArray⟩); binOp .gtr 9 (.string ⟨a.toArray⟩) (.string ⟨b.toArray⟩) : Sem Value).run Tryz.prog w = .ok (.bool c) w := by rw [gts_run, h]
theorem gtLast_ne {out : List Nm} (h : ¬ out.length = 0) (x : Nm) : gtLast ltS out x = ltS (out.getD (out.length - 1) default) x := by
  unfold gtLast
  rw [List.getLast?_eq_getElem?, List.getElem?_eq_getElem (by omega), getD_at (show out.length - 1 < out.length by omega)]
theorem rowS_eq {a b : List Nm} (h : a = b) : some (Blk.row 9 1 a.length (strsF a)) = some (Blk.row 9 1 b.length (strsF b)) := by rw [h]
theorem rowS_snoc {a b : List Nm} {x : Nm} (h : b = a ++ [x]) : some (Blk.row 9 1 (a.length + 1) (strsF a ++ [sv x])) = some (Blk.row 9 1 b.length (strsF b)) := by rw [h, strsF_snoc, List.length_append]; rfl
set_option maxRecDepth 100000 in
set_option maxHeartbeats 3200000 in
theorem sorted_s (l : List Nm) (hl : l.length ≤ 1000000) : Summ Tryz.prog GG 155 [.sl l.length (strsF l)] (.sl (sortedN ltS l).length (strsF (sortedN ltS l))) := by
  refine summW Tryz.func155 rfl rfl 54 rfl (by simp) (fun M0 => ?_)
  repeat (first
    | (apply s_a TY; exact rfl)
    | apply w_seq
    | apply w_region
    | apply s_nil
    | apply t_norm
    | apply w_block)
  apply w_gh (gh_own 3 9 1 rfl rfl)
  apply w_loop (fun out : List Nm => ⟨(Ab.upd (Ab.upd (fun _ => .bot) 0 (.f (.sl l.length (strsF l)))) 3 (.ow 0)), (Ab.upd (fun _ => none) 0 (some (.row 9 1 out.length (strsF out)))), 1⟩) (fun out => AscN ltS out ∧ (∀ x, x ∈ out → x ∈ l) ∧ ∃ f, sortN ltS l f out = sortedN ltS l ∧ l.length + 1 = out.length + f) (fun out => l.length + 1 - out.length) [] (⟨List.Pairwise.nil, fun _ h => (nomatch h), l.length + 1, rfl, by simp⟩) (gh_le ⟨le_upd rfl rfl (le_upd rfl trivial (le_nil _)), le_hupd rfl trivial (le_h0 _ _)⟩)
  intro out ⟨ha, hm, f, hf, hlf⟩
  have hol := sub_len (ha.nodup ltSOk) hm
  obtain ⟨f, rfl⟩ : ∃ g, f = g + 1 := ⟨f - 1, by omega⟩
  rw [sortN] at hf
  repeat (first
    | (apply s_a TY; exact rfl)
    | apply w_seq
    | apply w_region
    | apply s_nil
    | apply t_norm
    | apply w_block)
  apply w_loop (fun k : Nat => ⟨(Ab.upd (Ab.upd (Ab.upd (Ab.upd (fun _ => .bot) 0 (.f (.sl l.length (strsF l)))) 3 (.ow 0)) 4 (.f (iv (nextN ltS l out k)))) 5 (.f (iv ((k : Nat) : Int)))), (Ab.upd (fun _ => none) 0 (some (.row 9 1 out.length (strsF out)))), 1⟩) (fun k => k ≤ l.length) (fun k => l.length - k) 0 (Nat.zero_le _) (gh_le ⟨le_upd rfl trivial (le_upd rfl trivial (le_upd rfl rfl (le_upd rfl trivial (le_nil _)))), le_hupd rfl trivial (le_h0 _ _)⟩)
  intro k hk
  have hbd := nextN_bd (lt := ltS) (l := l) (out := out) k
  by_cases hk1 : k < l.length
  · skip
    by_cases ho : out.length = 0
    · by_cases hn : nextN ltS l out k < 0
      · have hgt : gtLast ltS out l[k] = true := by rw [List.eq_nil_of_length_eq_zero ho]; rfl
        have hs : nextN ltS l out (k + 1) = ((k : Nat) : Int) := by rw [nextN, getD_at hk1, if_pos ⟨hgt, .inl hn⟩]
        repeat (first
    | (apply s_a TY; exact rfl)
    | (apply s_t; exact rfl; (first | assumption | omega))
    | apply w_seq
    | apply w_region
    | (apply w_draw (id := 6) 28 rfl (by kernel_rfl))
    | apply s_nil
    | apply t_norm
    | apply k_norm
    | apply w_block
    | apply w_skip
    | (apply w_condT; exact rfl; exact rfl)
    | (apply s_s; exact rfl)
    | (apply s_c TY; exact rfl; (first | omega | exact ⟨by omega, by (first | with_reducible assumption | ((with_reducible apply strsF_ne); omega) | assumption)⟩)))
        exact ⟨k + 1, by omega, by omega, gh_le ⟨le_upd rfl trivial (le_upd (congrArg (fun z => AV.f (iv z)) hs) trivial (le_upd rfl rfl (le_upd rfl trivial (le_nil _)))), le_hupd rfl trivial (le_h0 _ _)⟩⟩
      · by_cases hl0 : ltS l[k] (l.getD (nextN ltS l out k).toNat default) = true
        · have hgt : gtLast ltS out l[k] = true := by rw [List.eq_nil_of_length_eq_zero ho]; rfl
          have hl := hl0
          have hX : (strsF l)[(nextN ltS l out k).toNat * 1]? = some (sv (l.getD (nextN ltS l out k).toNat default)) := by
            rw [getD_at (show (nextN ltS l out k).toNat < l.length by omega)]; exact strsF_at (by omega)
          have hs : nextN ltS l out (k + 1) = ((k : Nat) : Int) := by rw [nextN, getD_at hk1, if_pos ⟨hgt, .inr hl0⟩]
          repeat (first
    | (apply s_bind; exact rfl; exact rfl; exact rfl; exact rfl; exact rfl; exact rfl; exact lts_t hl)
    | (apply s_a TY; exact rfl)
    | (apply s_t; exact rfl; (first | assumption | omega))
    | (apply s_f; exact rfl; (first | assumption | omega))
    | apply w_seq
    | apply w_region
    | (apply w_draw (id := 6) 28 rfl (by kernel_rfl))
    | apply s_nil
    | apply t_norm
    | apply k_norm
    | apply w_block
    | apply w_skip
    | (apply w_condT; exact rfl; exact rfl)
    | (apply s_s; exact rfl)
    | (apply s_c TY; exact rfl; (first | omega | exact ⟨by omega, by (first | with_reducible assumption | ((with_reducible apply strsF_ne); omega) | assumption)⟩))
    | (apply s_z TY; exact rfl; (first | omega | exact ⟨by omega, by (first | with_reducible assumption | ((with_reducible apply strsF_ne); omega) | assumption)⟩))
    | (apply s_l TY; exact rfl; (first | exact rfl | with_reducible assumption | ((with_reducible apply strsF_at); omega) | assumption)))
          exact ⟨k + 1, by omega, by omega, gh_le ⟨le_upd rfl trivial (le_upd (congrArg (fun z => AV.f (iv z)) hs) trivial (le_upd rfl rfl (le_upd rfl trivial (le_nil _)))), le_hupd rfl trivial (le_h0 _ _)⟩⟩
        · have hgt : gtLast ltS out l[k] = true := by rw [List.eq_nil_of_length_eq_zero ho]; rfl
          have hl : ltS l[k] (l.getD (nextN ltS l out k).toNat default) = false := by simpa using hl0
          have hX : (strsF l)[(nextN ltS l out k).toNat * 1]? = some (sv (l.getD (nextN ltS l out k).toNat default)) := by
            rw [getD_at (show (nextN ltS l out k).toNat < l.length by omega)]; exact strsF_at (by omega)
          have hs : nextN ltS l out (k + 1) = nextN ltS l out k := by rw [nextN, getD_at hk1, if_neg (fun h => h.2.elim hn hl0)]
          repeat (first
    | (apply s_bind; exact rfl; exact rfl; exact rfl; exact rfl; exact rfl; exact rfl; exact lts_t hl)
    | (apply s_a TY; exact rfl)
    | (apply s_t; exact rfl; (first | assumption | omega))
    | (apply s_f; exact rfl; (first | assumption | omega))
    | apply w_seq
    | apply w_region
    | (apply w_draw (id := 6) 28 rfl (by kernel_rfl))
    | apply s_nil
    | apply t_norm
    | apply k_norm
    | apply w_block
    | apply w_skip
    | (apply w_condT; exact rfl; exact rfl)
    | (apply w_condF; exact rfl; exact rfl)
    | (apply s_s; exact rfl)
    | (apply s_c TY; exact rfl; (first | omega | exact ⟨by omega, by (first | with_reducible assumption | ((with_reducible apply strsF_ne); omega) | assumption)⟩))
    | (apply s_z TY; exact rfl; (first | omega | exact ⟨by omega, by (first | with_reducible assumption | ((with_reducible apply strsF_ne); omega) | assumption)⟩))
    | (apply s_l TY; exact rfl; (first | exact rfl | with_reducible assumption | ((with_reducible apply strsF_at); omega) | assumption)))
          exact ⟨k + 1, by omega, by omega, gh_le ⟨le_upd rfl trivial (le_upd (congrArg (fun z => AV.f (iv z)) hs) trivial (le_upd rfl rfl (le_upd rfl trivial (le_nil _)))), le_hupd rfl trivial (le_h0 _ _)⟩⟩
    · by_cases hg0 : ltS (out.getD (out.length - 1) default) l[k] = true
      · by_cases hn : nextN ltS l out k < 0
        · have hg := hg0
          have hgt : gtLast ltS out l[k] = true := by rw [gtLast_ne ho]; exact hg0
          have hW : (strsF out)[(((out.length : Nat) : Int) - 1).toNat * 1]? = some (sv (out.getD (out.length - 1) default)) := by
            rw [show (((out.length : Nat) : Int) - 1).toNat = out.length - 1 by omega, getD_at (show out.length - 1 < out.length by omega)]; exact strsF_at (by omega)
          have hWn : strsF out ≠ [] := strsF_ne (k := 0) (by omega)
          have hs : nextN ltS l out (k + 1) = ((k : Nat) : Int) := by rw [nextN, getD_at hk1, if_pos ⟨hgt, .inl hn⟩]
          repeat (first
    | (apply s_bind; exact rfl; exact rfl; exact rfl; exact rfl; exact rfl; exact rfl; exact gts_t hg)
    | (apply s_a TY; exact rfl)
    | (apply s_t; exact rfl; (first | assumption | omega))
    | (apply s_f; exact rfl; (first | assumption | omega))
    | apply w_seq
    | apply w_region
    | (apply w_draw (id := 6) 28 rfl (by kernel_rfl))
    | apply s_nil
    | apply t_norm
    | apply k_norm
    | apply w_block
    | apply w_skip
    | (apply w_condT; exact rfl; exact rfl)
    | (apply s_s; exact rfl)
    | (apply s_c TY; exact rfl; (first | omega | exact ⟨by omega, by (first | with_reducible assumption | ((with_reducible apply strsF_ne); omega) | assumption)⟩))
    | (apply s_z TY; exact rfl; (first | omega | exact ⟨by omega, by (first | with_reducible assumption | ((with_reducible apply strsF_ne); omega) | assumption)⟩))
    | (apply s_l TY; exact rfl; (first | exact rfl | with_reducible assumption | ((with_reducible apply strsF_at); omega) | assumption))
    | (apply s_r TY; exact rfl; (first | exact rfl | with_reducible assumption | ((with_reducible apply strsF_at); omega) | assumption)))
          exact ⟨k + 1, by omega, by omega, gh_le ⟨le_upd rfl trivial (le_upd (congrArg (fun z => AV.f (iv z)) hs) trivial (le_upd rfl rfl (le_upd rfl trivial (le_nil _)))), le_hupd rfl trivial (le_h0 _ _)⟩⟩
        · by_cases hl0 : ltS l[k] (l.getD (nextN ltS l out k).toNat default) = true
          · have hg := hg0
            have hgt : gtLast ltS out l[k] = true := by rw [gtLast_ne ho]; exact hg0
            have hl := hl0
            have hW : (strsF out)[(((out.length : Nat) : Int) - 1).toNat * 1]? = some (sv (out.getD (out.length - 1) default)) := by
              rw [show (((out.length : Nat) : Int) - 1).toNat = out.length - 1 by omega, getD_at (show out.length - 1 < out.length by omega)]; exact strsF_at (by omega)
            have hWn : strsF out ≠ [] := strsF_ne (k := 0) (by omega)
            have hX : (strsF l)[(nextN ltS l out k).toNat * 1]? = some (sv (l.getD (nextN ltS l out k).toNat default)) := by
              rw [getD_at (show (nextN ltS l out k).toNat < l.length by omega)]; exact strsF_at (by omega)
            have hs : nextN ltS l out (k + 1) = ((k : Nat) : Int) := by rw [nextN, getD_at hk1, if_pos ⟨hgt, .inr hl0⟩]
            repeat (first
    | (apply s_bind; exact rfl; exact rfl; exact rfl; exact rfl; exact rfl; exact rfl; exact gts_t hg)
    | (apply s_bind; exact rfl; exact rfl; exact rfl; exact rfl; exact rfl; exact rfl; exact lts_t hl)
    | (apply s_a TY; exact rfl)
    | (apply s_t; exact rfl; (first | assumption | omega))
    | (apply s_f; exact rfl; (first | assumption | omega))
    | apply w_seq
    | apply w_region
    | (apply w_draw (id := 6) 28 rfl (by kernel_rfl))
    | apply s_nil
    | apply t_norm
    | apply k_norm
    | apply w_block
    | apply w_skip
    | (apply w_condT; exact rfl; exact rfl)
    | (apply s_c TY; exact rfl; (first | omega | exact ⟨by omega, by (first | with_reducible assumption | ((with_reducible apply strsF_ne); omega) | assumption)⟩))
    | (apply s_z TY; exact rfl; (first | omega | exact ⟨by omega, by (first | with_reducible assumption | ((with_reducible apply strsF_ne); omega) | assumption)⟩))
    | (apply s_l TY; exact rfl; (first | exact rfl | with_reducible assumption | ((with_reducible apply strsF_at); omega) | assumption))
    | (apply s_r TY; exact rfl; (first | exact rfl | with_reducible assumption | ((with_reducible apply strsF_at); omega) | assumption)))
            exact ⟨k + 1, by omega, by omega, gh_le ⟨le_upd rfl trivial (le_upd (congrArg (fun z => AV.f (iv z)) hs) trivial (le_upd rfl rfl (le_upd rfl trivial (le_nil _)))), le_hupd rfl trivial (le_h0 _ _)⟩⟩
          · have hg := hg0
            have hgt : gtLast ltS out l[k] = true := by rw [gtLast_ne ho]; exact hg0
            have hl : ltS l[k] (l.getD (nextN ltS l out k).toNat default) = false := by simpa using hl0
            have hW : (strsF out)[(((out.length : Nat) : Int) - 1).toNat * 1]? = some (sv (out.getD (out.length - 1) default)) := by
              rw [show (((out.length : Nat) : Int) - 1).toNat = out.length - 1 by omega, getD_at (show out.length - 1 < out.length by omega)]; exact strsF_at (by omega)
            have hWn : strsF out ≠ [] := strsF_ne (k := 0) (by omega)
            have hX : (strsF l)[(nextN ltS l out k).toNat * 1]? = some (sv (l.getD (nextN ltS l out k).toNat default)) := by
              rw [getD_at (show (nextN ltS l out k).toNat < l.length by omega)]; exact strsF_at (by omega)
            have hs : nextN ltS l out (k + 1) = nextN ltS l out k := by rw [nextN, getD_at hk1, if_neg (fun h => h.2.elim hn hl0)]
            repeat (first
    | (apply s_bind; exact rfl; exact rfl; exact rfl; exact rfl; exact rfl; exact rfl; exact gts_t hg)
    | (apply s_bind; exact rfl; exact rfl; exact rfl; exact rfl; exact rfl; exact rfl; exact lts_t hl)
    | (apply s_a TY; exact rfl)
    | (apply s_t; exact rfl; (first | assumption | omega))
    | (apply s_f; exact rfl; (first | assumption | omega))
    | apply w_seq
    | apply w_region
    | (apply w_draw (id := 6) 28 rfl (by kernel_rfl))
    | apply s_nil
    | apply t_norm
    | apply k_norm
    | apply w_block
    | apply w_skip
    | (apply w_condT; exact rfl; exact rfl)
    | (apply w_condF; exact rfl; exact rfl)
    | (apply s_c TY; exact rfl; (first | omega | exact ⟨by omega, by (first | with_reducible assumption | ((with_reducible apply strsF_ne); omega) | assumption)⟩))
    | (apply s_z TY; exact rfl; (first | omega | exact ⟨by omega, by (first | with_reducible assumption | ((with_reducible apply strsF_ne); omega) | assumption)⟩))
    | (apply s_l TY; exact rfl; (first | exact rfl | with_reducible assumption | ((with_reducible apply strsF_at); omega) | assumption))
    | (apply s_r TY; exact rfl; (first | exact rfl | with_reducible assumption | ((with_reducible apply strsF_at); omega) | assumption)))
            exact ⟨k + 1, by omega, by omega, gh_le ⟨le_upd rfl trivial (le_upd (congrArg (fun z => AV.f (iv z)) hs) trivial (le_upd rfl rfl (le_upd rfl trivial (le_nil _)))), le_hupd rfl trivial (le_h0 _ _)⟩⟩
      · have hg : ltS (out.getD (out.length - 1) default) l[k] = false := by simpa using hg0
        have hgt : gtLast ltS out l[k] = false := by rw [gtLast_ne ho]; exact hg
        have hW : (strsF out)[(((out.length : Nat) : Int) - 1).toNat * 1]? = some (sv (out.getD (out.length - 1) default)) := by
          rw [show (((out.length : Nat) : Int) - 1).toNat = out.length - 1 by omega, getD_at (show out.length - 1 < out.length by omega)]; exact strsF_at (by omega)
        have hWn : strsF out ≠ [] := strsF_ne (k := 0) (by omega)
        have hs : nextN ltS l out (k + 1) = nextN ltS l out k := by rw [nextN, getD_at hk1, if_neg (fun h => by rw [hgt] at h; cases h.1)]
        repeat (first
    | (apply s_bind; exact rfl; exact rfl; exact rfl; exact rfl; exact rfl; exact rfl; exact gts_t hg)
    | (apply s_a TY; exact rfl)
    | (apply s_t; exact rfl; (first | assumption | omega))
    | (apply s_f; exact rfl; (first | assumption | omega))
    | apply w_seq
    | apply w_region
    | (apply w_draw (id := 6) 28 rfl (by kernel_rfl))
    | apply s_nil
    | apply t_norm
    | apply k_norm
    | apply w_block
    | apply w_skip
    | (apply w_condT; exact rfl; exact rfl)
    | (apply w_condF; exact rfl; exact rfl)
    | (apply s_s; exact rfl)
    | (apply s_c TY; exact rfl; (first | omega | exact ⟨by omega, by (first | with_reducible assumption | ((with_reducible apply strsF_ne); omega) | assumption)⟩))
    | (apply s_z TY; exact rfl; (first | omega | exact ⟨by omega, by (first | with_reducible assumption | ((with_reducible apply strsF_ne); omega) | assumption)⟩))
    | (apply s_l TY; exact rfl; (first | exact rfl | with_reducible assumption | ((with_reducible apply strsF_at); omega) | assumption))
    | (apply s_r TY; exact rfl; (first | exact rfl | with_reducible assumption | ((with_reducible apply strsF_at); omega) | assumption)))
        exact ⟨k + 1, by omega, by omega, gh_le ⟨le_upd rfl trivial (le_upd (congrArg (fun z => AV.f (iv z)) hs) trivial (le_upd rfl rfl (le_upd rfl trivial (le_nil _)))), le_hupd rfl trivial (le_h0 _ _)⟩⟩
  · have hkl : k = l.length := by omega
    subst hkl
    by_cases hn : nextN ltS l out l.length < 0
    · rw [if_pos hn] at hf
      rw [← hf]
      repeat (first
    | (apply s_a TY; exact rfl)
    | (apply s_t; exact rfl; (first | assumption | omega))
    | (apply s_f; exact rfl; (first | assumption | omega))
    | apply w_seq
    | apply w_region
    | apply s_nil
    | apply t_norm
    | apply t_exit
    | apply t_ret
    | apply k_hit
    | apply k_ret
    | apply w_exit
    | apply w_ret
    | (apply w_condT; exact rfl; exact rfl)
    | (apply w_condF; exact rfl; exact rfl))
      exact lv_ret (ret1 rfl (res_sees rfl (sees_row rfl)))
    · rw [if_neg hn] at hf
      have hX : (strsF l)[(nextN ltS l out l.length).toNat * 1]? = some (sv (l.getD (nextN ltS l out l.length).toNat default)) := by
        rw [getD_at (show (nextN ltS l out l.length).toNat < l.length by omega)]; exact strsF_at (by omega)
      have hlne : strsF l ≠ [] := strsF_ne (k := 0) (by omega)
      obtain ⟨p1, -⟩ := (nextN_spec ltSOk (l := l) (out := out) l.length).2 (by omega)
      have hmem : l.getD (nextN ltS l out l.length).toNat default ∈ l := by
        rw [getD_at (show (nextN ltS l out l.length).toNat < l.length by omega)]; exact List.getElem_mem _
      have hall := (gtLast_all ltSOk ha).1 p1
      have hrow := rowS_snoc (a := out) (b := out ++ [l.getD (nextN ltS l out l.length).toNat default]) (x := l.getD (nextN ltS l out l.length).toNat default) rfl
      repeat (first
    | (apply s_append TY; exact rfl; exact rfl; exact rfl; exact rfl; exact rfl; exact rfl; exact rfl; exact rfl; exact rfl; (unfold maxLen; omega); omega)
    | (apply s_a TY; exact rfl)
    | (apply s_f; exact rfl; (first | assumption | omega))
    | apply w_seq
    | apply w_region
    | apply s_nil
    | apply t_norm
    | apply t_exit
    | apply k_hit
    | apply k_norm
    | apply w_exit
    | apply w_skip
    | (apply w_condF; exact rfl; exact rfl)
    | (apply s_z TY; exact rfl; (first | omega | exact ⟨by omega, by (first | with_reducible assumption | ((with_reducible apply strsF_ne); omega) | assumption)⟩))
    | (apply s_l TY; exact rfl; (first | exact rfl | with_reducible assumption | ((with_reducible apply strsF_at); omega) | assumption)))
      refine ⟨out ++ [l.getD (nextN ltS l out l.length).toNat default], ⟨List.pairwise_append.2 ⟨ha, by simp, fun y hy z hz => by rw [List.mem_singleton] at hz; subst hz; exact hall y hy⟩, fun x hx => ?_, f, hf, by rw [List.length_append, List.length_singleton]; omega⟩, by rw [List.length_append, List.length_singleton]; omega, gh_le ⟨le_upd rfl rfl (le_upd rfl trivial (le_nil _)), le_hupd hrow trivial (le_h0 _ _)⟩⟩
      rcases List.mem_append.1 hx with h | h
      · exact hm x h
      · rw [List.mem_singleton.1 h]; exact hmem
end Go.Proofs.YtenkgipcblfocaaGreat
namespace Go.Proofs.YtenkgipcblfocaaGreat
open Go Go.RowKit Go.Proofs Go.Shelf Go.Ab
theorem pplK_at {l : List Act} {i : Nat} (h : i < l.length) : pplK l (i + 1) = if l[i].kind = 0 then pplK l i ++ [l[i].name] else if l[i].kind = 1 then (pplK l i).filter (fun x => !decide (x = l[i].name)) else pplK l i := by rw [pplK, List.getElem?_eq_getElem h]
theorem pplK_len (l : List Act) : ∀ k, (pplK l k).length ≤ k
  | 0 => Nat.le_refl _
  | k + 1 => by
    have ih := pplK_len l k
    by_cases h : k < l.length
    · rw [pplK_at h]
      split
      · rw [List.length_append]; show _ + 1 ≤ _; omega
      · split
        · have := List.length_filter_le (fun x => !decide (x = l[k].name)) (pplK l k); omega
        · omega
    · rw [pplK, List.getElem?_eq_none (by omega)]
      show (pplK l k).length ≤ _
      omega
theorem take_at {l : List Act} {k j : Nat} (h : j < k) : (l.take k)[j]? = l[j]? := by rw [List.getElem?_take, if_pos h]
theorem pplK_take (l : List Act) (k : Nat) : ∀ j, j ≤ k → pplK (l.take k) j = pplK l j
  | 0, _ => rfl
  | j + 1, h => by rw [pplK, pplK, take_at (by omega), pplK_take l k j (by omega)]
set_option maxRecDepth 100000 in
set_option maxHeartbeats 3200000 in
theorem People_s (l : List Act) (hl : l.length ≤ 1000) : Summ Tryz.prog GG 111 [.sl l.length (actsF l)] (.sl (sortedN ltS (pplK l l.length)).length (strsF (sortedN ltS (pplK l l.length)))) := by
  refine summW Tryz.func111 rfl rfl 59 rfl (by simp) (fun M0 => ?_)
  repeat (first
    | (apply s_a TY; exact rfl)
    | apply w_seq
    | apply w_region
    | apply s_nil
    | apply t_norm
    | apply w_block)
  apply w_gh (gh_own 3 9 1 rfl rfl)
  apply w_loop (fun i : Nat => ⟨(Ab.upd (Ab.upd (Ab.upd (fun _ => .bot) 0 (.f (.sl l.length (actsF l)))) 3 (.ow 0)) 4 (.f (iv ((i : Nat) : Int)))), (Ab.upd (fun _ => none) 0 (some (.row 9 1 (pplK l i).length (strsF (pplK l i))))), 1⟩) (fun i => i ≤ l.length) (fun i => l.length - i) 0 (Nat.zero_le _) (gh_le ⟨le_upd rfl trivial (le_upd rfl rfl (le_upd rfl trivial (le_nil _))), le_hupd rfl trivial (le_h0 _ _)⟩)
  intro i hi
  have hpl := pplK_len l i
  by_cases hil : i < l.length
  · have hs := pplK_at hil
    by_cases h0 : l[i].kind = 0
    · rw [if_pos h0] at hs
      have hrow := rowS_snoc hs
      repeat (first
    | (apply s_append TY; exact rfl; exact rfl; exact rfl; exact rfl; exact rfl; exact rfl; exact rfl; exact rfl; exact rfl; (unfold maxLen; omega); omega)
    | (apply s_a TY; exact rfl)
    | (apply s_t; exact rfl; (first | assumption | omega))
    | (apply s_f; exact rfl; (first | assumption | omega))
    | apply w_seq
    | apply w_region
    | apply s_nil
    | apply t_norm
    | apply k_norm
    | apply w_block
    | apply w_skip
    | (apply w_condT; exact rfl; exact rfl)
    | (apply w_condF; exact rfl; exact rfl)
    | (apply s_c TY; exact rfl; (first | omega | exact ⟨by omega, by (first | with_reducible assumption | ((with_reducible apply actsF_ne); omega) | ((with_reducible apply strsF_ne); omega) | assumption)⟩))
    | (apply s_l TY; exact rfl; (first | exact rfl | with_reducible assumption | ((with_reducible apply actsF_f0); omega) | ((with_reducible apply actsF_f1); omega) | ((with_reducible apply actsF_f2); omega) | ((with_reducible apply strsF_at); omega) | assumption)))
      exact ⟨i + 1, by omega, by omega, gh_le ⟨le_upd rfl trivial (le_upd rfl rfl (le_upd rfl trivial (le_nil _))), le_hupd hrow trivial (le_h0 _ _)⟩⟩
    · rw [if_neg h0] at hs
      by_cases h1 : l[i].kind = 1
      · rw [if_pos h1] at hs
        repeat (first
    | (apply s_a TY; exact rfl)
    | (apply s_t; exact rfl; (first | assumption | omega))
    | (apply s_f; exact rfl; (first | assumption | omega))
    | apply w_seq
    | apply w_region
    | apply s_nil
    | apply t_norm
    | apply w_block
    | apply w_skip
    | (apply w_condT; exact rfl; exact rfl)
    | (apply w_condF; exact rfl; exact rfl)
    | (apply s_c TY; exact rfl; (first | omega | exact ⟨by omega, by (first | with_reducible assumption | ((with_reducible apply actsF_ne); omega) | ((with_reducible apply strsF_ne); omega) | assumption)⟩))
    | (apply s_l TY; exact rfl; (first | exact rfl | with_reducible assumption | ((with_reducible apply actsF_f0); omega) | ((with_reducible apply actsF_f1); omega) | ((with_reducible apply actsF_f2); omega) | ((with_reducible apply strsF_at); omega) | assumption)))
        apply w_gh (gh_own 5 9 1 rfl rfl)
        apply w_loop (fun k : Nat => ⟨(Ab.upd (Ab.upd (Ab.upd (Ab.upd (Ab.upd (fun _ => .bot) 0 (.f (.sl l.length (actsF l)))) 3 (.ow 0)) 4 (.f (iv ((i : Nat) : Int)))) 5 (.ow 1)) 6 (.f (iv ((k : Nat) : Int)))), (Ab.upd (Ab.upd (fun _ => none) 0 (some (.row 9 1 (pplK l i).length (strsF (pplK l i))))) 1 (some (.row 9 1 (((pplK l i).take k).filter (fun x => !decide (x = l[i].name))).length (strsF (((pplK l i).take k).filter (fun x => !decide (x = l[i].name))))))), 2⟩) (fun k => k ≤ (pplK l i).length) (fun k => (pplK l i).length - k) 0 (Nat.zero_le _) (gh_le ⟨le_upd rfl trivial (le_upd rfl rfl (le_upd rfl trivial (le_upd rfl rfl (le_upd rfl trivial (le_nil _))))), le_hupd rfl trivial (le_hupd rfl trivial (le_h0 _ _))⟩)
        intro k hk
        have hfl := List.length_filter_le (fun x => !decide (x = l[i].name)) ((pplK l i).take k)
        have htk : ((pplK l i).take k).length = k := by rw [List.length_take]; omega
        by_cases hkp : k < (pplK l i).length
        · have hpn : strsF (pplK l i) ≠ [] := strsF_ne hkp
          have hpat := strsF_at hkp
          by_cases hne : (pplK l i)[k] = l[i].name
          · have hs2 : (((pplK l i).take (k + 1)).filter (fun x => !decide (x = l[i].name))) = (((pplK l i).take k).filter (fun x => !decide (x = l[i].name))) := by rw [List.take_succ_eq_append_getElem hkp, List.filter_append, List.filter_cons_of_neg (by simp [hne])]; simp
            have hrow := rowS_eq hs2.symm
            repeat (first
    | (apply s_bind; exact rfl; exact rfl; exact rfl; exact rfl; exact rfl; exact rfl; exact nes_f (by assumption))
    | (apply s_a TY; exact rfl)
    | (apply s_t; exact rfl; (first | assumption | omega))
    | apply w_seq
    | apply w_region
    | (apply w_draw (id := 12) 9 rfl (by kernel_rfl))
    | apply s_nil
    | apply t_norm
    | apply k_norm
    | apply w_block
    | apply w_skip
    | (apply w_condT; exact rfl; exact rfl)
    | (apply w_condF; exact rfl; exact rfl)
    | (apply s_c TY; exact rfl; (first | omega | exact ⟨by omega, by (first | with_reducible assumption | ((with_reducible apply actsF_ne); omega) | ((with_reducible apply strsF_ne); omega) | assumption)⟩))
    | (apply s_l TY; exact rfl; (first | exact rfl | with_reducible assumption | ((with_reducible apply actsF_f0); omega) | ((with_reducible apply actsF_f1); omega) | ((with_reducible apply actsF_f2); omega) | ((with_reducible apply strsF_at); omega) | assumption))
    | (apply s_r TY; exact rfl; (first | exact rfl | with_reducible assumption | ((with_reducible apply actsF_f0); omega) | ((with_reducible apply actsF_f1); omega) | ((with_reducible apply actsF_f2); omega) | ((with_reducible apply strsF_at); omega) | assumption)))
            exact ⟨k + 1, by omega, by omega, gh_le ⟨le_upd rfl trivial (le_upd rfl rfl (le_upd rfl trivial (le_upd rfl rfl (le_upd rfl trivial (le_nil _))))), le_hupd hrow trivial (le_hupd rfl trivial (le_h0 _ _))⟩⟩
          · have hs2 : (((pplK l i).take (k + 1)).filter (fun x => !decide (x = l[i].name))) = (((pplK l i).take k).filter (fun x => !decide (x = l[i].name))) ++ [(pplK l i)[k]] := by rw [List.take_succ_eq_append_getElem hkp, List.filter_append, List.filter_cons_of_pos (by simp [hne])]; simp
            have hrow := rowS_snoc hs2
            repeat (first
    | (apply s_append TY; exact rfl; exact rfl; exact rfl; exact rfl; exact rfl; exact rfl; exact rfl; exact rfl; exact rfl; (unfold maxLen; omega); omega)
    | (apply s_bind; exact rfl; exact rfl; exact rfl; exact rfl; exact rfl; exact rfl; exact nes_t (by assumption))
    | (apply s_a TY; exact rfl)
    | (apply s_t; exact rfl; (first | assumption | omega))
    | apply w_seq
    | apply w_region
    | (apply w_draw (id := 12) 9 rfl (by kernel_rfl))
    | apply s_nil
    | apply t_norm
    | apply k_norm
    | apply w_block
    | apply w_skip
    | (apply w_condT; exact rfl; exact rfl)
    | (apply s_c TY; exact rfl; (first | omega | exact ⟨by omega, by (first | with_reducible assumption | ((with_reducible apply actsF_ne); omega) | ((with_reducible apply strsF_ne); omega) | assumption)⟩))
    | (apply s_l TY; exact rfl; (first | exact rfl | with_reducible assumption | ((with_reducible apply actsF_f0); omega) | ((with_reducible apply actsF_f1); omega) | ((with_reducible apply actsF_f2); omega) | ((with_reducible apply strsF_at); omega) | assumption))
    | (apply s_r TY; exact rfl; (first | exact rfl | with_reducible assumption | ((with_reducible apply actsF_f0); omega) | ((with_reducible apply actsF_f1); omega) | ((with_reducible apply actsF_f2); omega) | ((with_reducible apply strsF_at); omega) | assumption)))
            exact ⟨k + 1, by omega, by omega, gh_le ⟨le_upd rfl trivial (le_upd rfl rfl (le_upd rfl trivial (le_upd rfl rfl (le_upd rfl trivial (le_nil _))))), le_hupd hrow trivial (le_hupd rfl trivial (le_h0 _ _))⟩⟩
        · have hke : k = (pplK l i).length := by omega
          subst hke
          have hrow : some (Blk.row 9 1 (((pplK l i).take (pplK l i).length).filter (fun x => !decide (x = l[i].name))).length (strsF (((pplK l i).take (pplK l i).length).filter (fun x => !decide (x = l[i].name))))) = some (Blk.row 9 1 (pplK l (i + 1)).length (strsF (pplK l (i + 1)))) := rowS_eq (by rw [List.take_length]; exact hs.symm)
          repeat (first
    | (apply s_a TY; exact rfl)
    | (apply s_f; exact rfl; (first | assumption | omega))
    | apply w_seq
    | apply w_region
    | apply s_nil
    | apply t_norm
    | apply t_exit
    | apply k_hit
    | apply k_norm
    | apply w_exit
    | (apply w_condF; exact rfl; exact rfl)
    | (apply s_c TY; exact rfl; (first | omega | exact ⟨by omega, by (first | with_reducible assumption | ((with_reducible apply actsF_ne); omega) | ((with_reducible apply strsF_ne); omega) | assumption)⟩)))
          exact ⟨i + 1, by omega, by omega, gh_trans (b := ⟨(Ab.upd (Ab.upd (Ab.upd (fun _ => .bot) 0 (.f (.sl l.length (actsF l)))) 3 (.ow 1)) 4 (.f (iv (((i + 1) : Nat) : Int)))), (Ab.upd (fun _ => none) 1 (some (.row 9 1 (((pplK l i).take (pplK l i).length).filter (fun x => !decide (x = l[i].name))).length (strsF (((pplK l i).take (pplK l i).length).filter (fun x => !decide (x = l[i].name))))))), 2⟩) (gh_le ⟨le_upd rfl trivial (le_upd rfl rfl (le_upd rfl trivial (le_nil _))), le_hupd rfl trivial (le_h0 _ _)⟩) (gh_trans (gh_mvU 1 0 (by decide) rfl rfl rfl rfl) (gh_le ⟨le_upd rfl trivial (le_upd rfl rfl (le_upd rfl trivial (le_nil _))), le_hupd hrow trivial (le_h0 _ _)⟩))⟩
      · rw [if_neg h1] at hs
        have hrow := rowS_eq hs.symm
        repeat (first
    | (apply s_a TY; exact rfl)
    | (apply s_t; exact rfl; (first | assumption | omega))
    | (apply s_f; exact rfl; (first | assumption | omega))
    | apply w_seq
    | apply w_region
    | apply s_nil
    | apply t_norm
    | apply k_norm
    | apply w_block
    | apply w_skip
    | (apply w_condT; exact rfl; exact rfl)
    | (apply w_condF; exact rfl; exact rfl)
    | (apply s_c TY; exact rfl; (first | omega | exact ⟨by omega, by (first | with_reducible assumption | ((with_reducible apply actsF_ne); omega) | ((with_reducible apply strsF_ne); omega) | assumption)⟩))
    | (apply s_l TY; exact rfl; (first | exact rfl | with_reducible assumption | ((with_reducible apply actsF_f0); omega) | ((with_reducible apply actsF_f1); omega) | ((with_reducible apply actsF_f2); omega) | ((with_reducible apply strsF_at); omega) | assumption)))
        exact ⟨i + 1, by omega, by omega, gh_le ⟨le_upd rfl trivial (le_upd rfl rfl (le_upd rfl trivial (le_nil _))), le_hupd hrow trivial (le_h0 _ _)⟩⟩
  · have hil2 : i = l.length := by omega
    subst hil2
    have HS := sorted_s (pplK l l.length) (by omega)
    repeat (first
    | (refine s_ghost rfl (gh_row 0 (e := 9) (sz := 1) (n := (pplK l l.length).length) (cs := strsF (pplK l l.length)) rfl) ?_)
    | (apply s_a TY; exact rfl)
    | (apply s_f; exact rfl; (first | assumption | omega))
    | apply w_seq
    | apply w_region
    | apply s_nil
    | apply t_norm
    | apply t_exit
    | apply k_hit
    | apply w_exit
    | apply w_ret
    | (apply w_condF; exact rfl; exact rfl)
    | (apply s_k (HS); exact rfl))
    exact lv_ret (ret1 rfl (res_tmp rfl))
theorem PeopleK_s (l : List Act) (k : Nat) (hk : k ≤ l.length) (hl : l.length ≤ 1000) : Summ Tryz.prog GG 111 [.sl k (actsF (l.take k))] (.sl (sortedN ltS (pplK l k)).length (strsF (sortedN ltS (pplK l k)))) := by
  have h := People_s (l.take k) (by rw [List.length_take]; omega)
  have hlk : (l.take k).length = k := by rw [List.length_take]; omega
  rw [hlk, pplK_take l k k (Nat.le_refl _)] at h
  exact h
theorem toldS_at {l : List Act} {k : Nat} (h : k < l.length) : toldS ltS l k = if l[k].kind = 4 then hadS ltS l l[k].name k else sortedN ltS (pplK l k) := by unfold toldS; rw [List.getElem?_eq_getElem h]
theorem hadL_at {l : List Act} {name : Nm} {k : Nat} (h : k < l.length) : hadL ltS l name (k + 1) = if newV name l[k] then hadL ltS l name k ++ sortedN ltS (pplK l k) else hadL ltS l name k := by rw [hadL, List.getElem?_eq_getElem h]
theorem hadL_len (l : List Act) (name : Nm) : ∀ k, k ≤ l.length → (hadL ltS l name k).length ≤ k * l.length
  | 0, _ => by simp [hadL]
  | k + 1, h => by
    have ih := hadL_len l name k (by omega)
    have h1 := pplK_len l k
    have h2 := sortedN_len (pplK l k)
    rw [hadL_at (by omega), Nat.succ_mul]
    split
    · rw [List.length_append]; omega
    · omega
theorem newV_iff {name : Nm} {a : Act} : newV name a = true ↔ a.name = name ∧ (a.kind = 2 ∨ a.kind = 3) := by
  unfold newV; simp
set_option maxRecDepth 100000 in
theorem Told_p (l : List Act) (k : Nat) (hk : k < l.length) (hl : l.length ≤ 1000) (h4 : l[k].kind ≠ 4) : Summ Tryz.prog GG 40 [.sl l.length (actsF l), iv ((k : Nat) : Int)] (.sl (sortedN ltS (pplK l k)).length (strsF (sortedN ltS (pplK l k)))) := by
  have HP := PeopleK_s l k (by omega) hl
  have htk : (actsF l).take (k * 3) = actsF (l.take k) := actsF_take l k
  refine summW Tryz.func40 rfl rfl 24 rfl (by simp) (fun M0 => ?_)
  repeat (first
    | (apply s_sliceTo TY; exact rfl; exact rfl; exact rfl; exact rfl; exact rfl; omega; exact htk)
    | (apply s_a TY; exact rfl)
    | (apply s_f; exact rfl; (first | assumption | omega))
    | apply w_seq
    | apply w_region
    | apply s_nil
    | apply t_norm
    | apply t_ret
    | apply w_ret
    | (apply w_condT; exact rfl; exact rfl)
    | (apply s_k (HP); exact rfl)
    | (apply s_c TY; exact rfl; (first | omega | exact ⟨by omega, by (first | with_reducible assumption | ((with_reducible apply actsF_ne); omega) | assumption)⟩))
    | (apply s_l TY; exact rfl; (first | exact rfl | with_reducible assumption | ((with_reducible apply actsF_f0); omega) | ((with_reducible apply actsF_f1); omega) | ((with_reducible apply actsF_f2); omega) | assumption)))
  exact lv_ret (ret1 rfl (res_tmp rfl))
set_option maxRecDepth 100000 in
set_option maxHeartbeats 3200000 in
theorem Had_s (l : List Act) (name : Nm) (hl : l.length ≤ 1000) : Summ Tryz.prog GG 104 [.sl l.length (actsF l), sv name] (.sl (hadS ltS l name l.length).length (strsF (hadS ltS l name l.length))) := by
  refine summW Tryz.func104 rfl rfl 43 rfl (by simp) (fun M0 => ?_)
  repeat (first
    | (apply s_a TY; exact rfl)
    | apply w_seq
    | apply w_region
    | apply s_nil
    | apply t_norm
    | apply w_block)
  apply w_gh (gh_own 5 9 1 rfl rfl)
  apply w_loop (fun k : Nat => ⟨(Ab.upd (Ab.upd (Ab.upd (Ab.upd (fun _ => .bot) 0 (.f (.sl l.length (actsF l)))) 1 (.f (sv name))) 5 (.ow 0)) 6 (.f (iv ((k : Nat) : Int)))), (Ab.upd (fun _ => none) 0 (some (.row 9 1 (hadL ltS l name k).length (strsF (hadL ltS l name k))))), 1⟩) (fun k => k ≤ l.length) (fun k => l.length - k) 0 (Nat.zero_le _) (gh_le ⟨le_upd rfl trivial (le_upd rfl rfl (le_upd rfl trivial (le_upd rfl trivial (le_nil _)))), le_hupd rfl trivial (le_h0 _ _)⟩)
  intro k hk
  have hhl := hadL_len l name k hk
  have hmm : k * l.length ≤ 1000 * 1000 := Nat.mul_le_mul (by omega) hl
  by_cases hkl : k < l.length
  · have hpl := pplK_len l k
    have hsl := sortedN_len (pplK l k)
    by_cases hn : l[k].name = name
    · by_cases h2 : l[k].kind = 2
      · have hyes : l[k].name = name ∧ (l[k].kind = 2 ∨ l[k].kind = 3) := ⟨hn, .inl h2⟩
        have hs : hadL ltS l name (k + 1) = hadL ltS l name k ++ sortedN ltS (pplK l k) := by rw [hadL_at hkl, if_pos (newV_iff.2 hyes)]
        have hrow : some (Blk.row 9 1 ((hadL ltS l name k).length + (sortedN ltS (pplK l k)).length) (strsF (hadL ltS l name k) ++ strsF (sortedN ltS (pplK l k)))) = some (Blk.row 9 1 (hadL ltS l name (k + 1)).length (strsF (hadL ltS l name (k + 1)))) := by rw [hs, List.length_append]; simp [strsF]
        have HT := Told_p l k hkl hl (by omega)
        have hlen : (strsF (sortedN ltS (pplK l k))).length = (sortedN ltS (pplK l k)).length * 1 := strsF_len _
        repeat (first
    | (apply s_append TY; (first | exact rfl | exact hlen); (first | exact rfl | exact hlen); (first | exact rfl | exact hlen); (first | exact rfl | exact hlen); (first | exact rfl | exact hlen); (first | exact rfl | exact hlen); (first | exact rfl | exact hlen); (first | exact rfl | exact hlen); (first | exact rfl | exact hlen); (unfold maxLen; omega); omega)
    | (apply s_bind; exact rfl; exact rfl; exact rfl; exact rfl; exact rfl; exact rfl; exact eqs_t (by assumption))
    | (apply s_a TY; exact rfl)
    | (apply s_t; exact rfl; (first | assumption | omega))
    | apply w_seq
    | apply w_region
    | apply s_nil
    | apply t_norm
    | apply k_norm
    | apply w_block
    | apply w_skip
    | (apply w_condT; exact rfl; exact rfl)
    | (apply s_k (HT); exact rfl)
    | (apply s_s; exact rfl)
    | (apply s_c TY; exact rfl; (first | omega | exact ⟨by omega, by (first | with_reducible assumption | ((with_reducible apply actsF_ne); omega) | assumption)⟩))
    | (apply s_l TY; exact rfl; (first | exact rfl | with_reducible assumption | ((with_reducible apply actsF_f0); omega) | ((with_reducible apply actsF_f1); omega) | ((with_reducible apply actsF_f2); omega) | assumption)))
        exact ⟨k + 1, by omega, by omega, gh_le ⟨le_upd rfl trivial (le_upd rfl rfl (le_upd rfl trivial (le_upd rfl trivial (le_nil _)))), le_hupd hrow trivial (le_h0 _ _)⟩⟩
      · by_cases h3 : l[k].kind = 3
        · have hyes : l[k].name = name ∧ (l[k].kind = 2 ∨ l[k].kind = 3) := ⟨hn, .inr h3⟩
          have hs : hadL ltS l name (k + 1) = hadL ltS l name k ++ sortedN ltS (pplK l k) := by rw [hadL_at hkl, if_pos (newV_iff.2 hyes)]
          have hrow : some (Blk.row 9 1 ((hadL ltS l name k).length + (sortedN ltS (pplK l k)).length) (strsF (hadL ltS l name k) ++ strsF (sortedN ltS (pplK l k)))) = some (Blk.row 9 1 (hadL ltS l name (k + 1)).length (strsF (hadL ltS l name (k + 1)))) := by rw [hs, List.length_append]; simp [strsF]
          have HT := Told_p l k hkl hl (by omega)
          have hlen : (strsF (sortedN ltS (pplK l k))).length = (sortedN ltS (pplK l k)).length * 1 := strsF_len _
          repeat (first
    | (apply s_append TY; (first | exact rfl | exact hlen); (first | exact rfl | exact hlen); (first | exact rfl | exact hlen); (first | exact rfl | exact hlen); (first | exact rfl | exact hlen); (first | exact rfl | exact hlen); (first | exact rfl | exact hlen); (first | exact rfl | exact hlen); (first | exact rfl | exact hlen); (unfold maxLen; omega); omega)
    | (apply s_bind; exact rfl; exact rfl; exact rfl; exact rfl; exact rfl; exact rfl; exact eqs_t (by assumption))
    | (apply s_a TY; exact rfl)
    | (apply s_t; exact rfl; (first | assumption | omega))
    | (apply s_f; exact rfl; (first | assumption | omega))
    | apply w_seq
    | apply w_region
    | apply s_nil
    | apply t_norm
    | apply k_norm
    | apply w_block
    | apply w_skip
    | (apply w_condT; exact rfl; exact rfl)
    | (apply s_k (HT); exact rfl)
    | (apply s_c TY; exact rfl; (first | omega | exact ⟨by omega, by (first | with_reducible assumption | ((with_reducible apply actsF_ne); omega) | assumption)⟩))
    | (apply s_l TY; exact rfl; (first | exact rfl | with_reducible assumption | ((with_reducible apply actsF_f0); omega) | ((with_reducible apply actsF_f1); omega) | ((with_reducible apply actsF_f2); omega) | assumption)))
          exact ⟨k + 1, by omega, by omega, gh_le ⟨le_upd rfl trivial (le_upd rfl rfl (le_upd rfl trivial (le_upd rfl trivial (le_nil _)))), le_hupd hrow trivial (le_h0 _ _)⟩⟩
        · have hno : ¬ (l[k].name = name ∧ (l[k].kind = 2 ∨ l[k].kind = 3)) := fun h => h.2.elim h2 h3
          have hs : hadL ltS l name (k + 1) = hadL ltS l name k := by rw [hadL_at hkl, if_neg (fun h => hno (newV_iff.1 h))]
          have hrow := rowS_eq hs.symm
          repeat (first
    | (apply s_bind; exact rfl; exact rfl; exact rfl; exact rfl; exact rfl; exact rfl; exact eqs_t (by assumption))
    | (apply s_a TY; exact rfl)
    | (apply s_t; exact rfl; (first | assumption | omega))
    | (apply s_f; exact rfl; (first | assumption | omega))
    | apply w_seq
    | apply w_region
    | apply s_nil
    | apply t_norm
    | apply k_norm
    | apply w_block
    | apply w_skip
    | (apply w_condT; exact rfl; exact rfl)
    | (apply w_condF; exact rfl; exact rfl)
    | (apply s_c TY; exact rfl; (first | omega | exact ⟨by omega, by (first | with_reducible assumption | ((with_reducible apply actsF_ne); omega) | assumption)⟩))
    | (apply s_l TY; exact rfl; (first | exact rfl | with_reducible assumption | ((with_reducible apply actsF_f0); omega) | ((with_reducible apply actsF_f1); omega) | ((with_reducible apply actsF_f2); omega) | assumption)))
          exact ⟨k + 1, by omega, by omega, gh_le ⟨le_upd rfl trivial (le_upd rfl rfl (le_upd rfl trivial (le_upd rfl trivial (le_nil _)))), le_hupd hrow trivial (le_h0 _ _)⟩⟩
    · have hno : ¬ (l[k].name = name ∧ (l[k].kind = 2 ∨ l[k].kind = 3)) := fun h => hn h.1
      have hs : hadL ltS l name (k + 1) = hadL ltS l name k := by rw [hadL_at hkl, if_neg (fun h => hno (newV_iff.1 h))]
      have hrow := rowS_eq hs.symm
      repeat (first
    | (apply s_bind; exact rfl; exact rfl; exact rfl; exact rfl; exact rfl; exact rfl; exact eqs_f (by assumption))
    | (apply s_a TY; exact rfl)
    | (apply s_t; exact rfl; (first | assumption | omega))
    | apply w_seq
    | apply w_region
    | apply s_nil
    | apply t_norm
    | apply k_norm
    | apply w_block
    | apply w_skip
    | (apply w_condT; exact rfl; exact rfl)
    | (apply w_condF; exact rfl; exact rfl)
    | (apply s_s; exact rfl)
    | (apply s_c TY; exact rfl; (first | omega | exact ⟨by omega, by (first | with_reducible assumption | ((with_reducible apply actsF_ne); omega) | assumption)⟩))
    | (apply s_l TY; exact rfl; (first | exact rfl | with_reducible assumption | ((with_reducible apply actsF_f0); omega) | ((with_reducible apply actsF_f1); omega) | ((with_reducible apply actsF_f2); omega) | assumption)))
      exact ⟨k + 1, by omega, by omega, gh_le ⟨le_upd rfl trivial (le_upd rfl rfl (le_upd rfl trivial (le_upd rfl trivial (le_nil _)))), le_hupd hrow trivial (le_h0 _ _)⟩⟩
  · have hke : k = l.length := by omega
    subst hke
    have HS := sorted_s (hadL ltS l name l.length) (by omega)
    repeat (first
    | (refine s_ghost rfl (gh_row 0 (e := 9) (sz := 1) (n := (hadL ltS l name l.length).length) (cs := strsF (hadL ltS l name l.length)) rfl) ?_)
    | (apply s_a TY; exact rfl)
    | (apply s_f; exact rfl; (first | assumption | omega))
    | apply w_seq
    | apply w_region
    | apply s_nil
    | apply t_norm
    | apply t_exit
    | apply k_hit
    | apply w_exit
    | apply w_ret
    | (apply w_condF; exact rfl; exact rfl)
    | (apply s_k (HS); exact rfl))
    exact lv_ret (ret1 rfl (res_tmp rfl))
end Go.Proofs.YtenkgipcblfocaaGreat
namespace Go.Proofs.YtenkgipcblfocaaGreat
open Go Go.RowKit Go.Proofs Go.Shelf Go.Ab
theorem verK_take (l : List Act) (name : Nm) (k : Nat) : ∀ j, j ≤ k → verK (l.take k) name j = verK l name j
  | 0, _ => rfl
  | j + 1, h => by rw [verK, verK, take_at (by omega), verK_take l name k j (by omega)]
theorem wdrK_take (l : List Act) (name : Nm) (k : Nat) : ∀ j, j ≤ k → wdrK (l.take k) name j = wdrK l name j
  | 0, _ => rfl
  | j + 1, h => by rw [wdrK, wdrK, take_at (by omega), wdrK_take l name k j (by omega)]
theorem verK_at {l : List Act} {name : Nm} {k : Nat} (h : k < l.length) : verK l name (k + 1) = if newV name l[k] then verK l name k + 1 else verK l name k := by rw [verK, List.getElem?_eq_getElem h]
theorem celK_at {l : List Act} {name : Nm} {k : Nat} (h : k < l.length) : celK l name (k + 1) = if newV name l[k] then l[k].cells else celK l name k := by rw [celK, List.getElem?_eq_getElem h]
theorem wdrK_at {l : List Act} {name : Nm} {k : Nat} (h : k < l.length) : wdrK l name (k + 1) = if l[k].name = name ∧ l[k].kind = 4 then true else wdrK l name k := by rw [wdrK, List.getElem?_eq_getElem h]
def stA (l : List Act) (name : Nm) (k : Nat) : Ast := ⟨name, verK l name k, celK l name k, wdrK l name k, hadS ltS l name k⟩
theorem CLZ {h : Nat → Option Blk} : closedB h (.box [.bot, .bot, .bot, .bot, .bot]) := (fun y hy => by
  simp only [List.mem_cons, List.not_mem_nil, or_false] at hy
  rcases hy with rfl | rfl | rfl | rfl | rfl <;> trivial)
theorem CLS {h : Nat → Option Blk} (a b c d e : FV) : closedB h (.box [.f a, .f b, .f c, .f d, .f e]) := (fun y hy => by
  simp only [List.mem_cons, List.not_mem_nil, or_false] at hy
  rcases hy with rfl | rfl | rfl | rfl | rfl <;> trivial)
set_option maxRecDepth 100000 in
set_option maxHeartbeats 6400000 in
theorem State_s (l : List Act) (name : Nm) (hl : l.length ≤ 1000) (hcl : ∀ i (hi : i < l.length), l[i].cells.length ≤ 1000000) : Summ Tryz.prog GG 30 [.sl l.length (actsF l), sv name] (.tup [.agg [sv name, iv (verK l name l.length), .sl (celK l name l.length).length (intsF (celK l name l.length)), bv (wdrK l name l.length), .sl (hadS ltS l name l.length).length (strsF (hadS ltS l name l.length))], bv (decide (0 < verK l name l.length))]) := by
  refine summW Tryz.func30 rfl rfl 53 rfl (by simp) (fun M0 => ?_)
  repeat (first
    | (apply s_a TY; exact rfl)
    | apply w_seq
    | apply w_region
    | (apply s_allocB TY (d := some 4); exact rfl; exact rfl; exact rfl)
    | apply s_nil
    | apply t_norm
    | apply w_block
    | (apply s_alloc TY; exact rfl; exact rfl; exact rfl)
    | (apply s_store TY; exact rfl; exact rfl; exact rfl; exact rfl; exact rfl; exact rfl))
  apply w_gh (gh_boxW 1 (cs := [.f (sv name), .f (iv 0), .f (.v (.slice none 0 0)), .f (bv false), .f (.v (.slice none 0 0))]) (cs' := [.f (sv name), .f (iv 0), .f (.sl 0 []), .f (bv false), .f (.v (.slice none 0 0))]) rfl rfl (fun k x x' h1 h2 w J v q => by
    match k, h1, h2 with
    | 0, h1, h2 => cases h1; cases h2; exact q
    | 1, h1, h2 => cases h1; cases h2; exact q
    | 2, h1, h2 => cases h1; cases h2; exact nil_cell q
    | 3, h1, h2 => cases h1; cases h2; exact q
    | 4, h1, h2 => cases h1; cases h2; exact q
    | _ + 5, h1, h2 => cases h1))
  apply w_loop (fun k : Nat => ⟨(Ab.upd (Ab.upd (Ab.upd (Ab.upd (Ab.upd (fun _ => .bot) 0 (.f (.sl l.length (actsF l)))) 1 (.f (sv name))) 4 (.bx 0 0)) 6 (.bx 1 0)) 7 (.f (iv ((k : Nat) : Int)))), (Ab.upd (Ab.upd (fun _ => none) 0 (some (.box [.bot, .bot, .bot, .bot, .bot]))) 1 (some (.box [.f (sv name), .f (iv (verK l name k)), .f (.sl (celK l name k).length (intsF (celK l name k))), .f (bv (wdrK l name k)), .f (.v (.slice none 0 0))]))), 2⟩) (fun k => k ≤ l.length) (fun k => l.length - k) 0 (Nat.zero_le _) (gh_le ⟨le_upd rfl trivial (le_upd rfl rfl (le_upd rfl rfl (le_upd rfl trivial (le_upd rfl trivial (le_nil _))))), le_hupd rfl (CLS _ _ _ _ _) (le_hupd rfl (CLZ) (le_h0 _ _))⟩)
  intro k hk
  have hvb := verK_nn l name k
  by_cases hkl : k < l.length
  · by_cases hn : l[k].name = name
    · by_cases h2 : l[k].kind = 2
      · have hyes : newV name l[k] = true := newV_iff.2 ⟨hn, .inl h2⟩
        have hno4 : ¬ (l[k].name = name ∧ l[k].kind = 4) := fun h => by omega
        have hb : some (Blk.box [.f (sv name), .f (iv (verK l name k + 1)), .f (.sl l[k].cells.length (intsF l[k].cells)), .f (bv (wdrK l name k)), .f (.v (.slice none 0 0))]) = some (Blk.box [.f (sv name), .f (iv (verK l name (k + 1))), .f (.sl (celK l name (k + 1)).length (intsF (celK l name (k + 1)))), .f (bv (wdrK l name (k + 1))), .f (.v (.slice none 0 0))]) := by rw [verK_at hkl, celK_at hkl, wdrK_at hkl, if_pos hyes, if_pos hyes, if_neg hno4]
        have HC := CopyInts_s l[k].cells (hcl k hkl)
        repeat (first
    | (apply s_bind; exact rfl; exact rfl; exact rfl; exact rfl; exact rfl; exact rfl; exact nes_f (by assumption))
    | (apply s_a TY; exact rfl)
    | (apply s_t; exact rfl; (first | assumption | omega))
    | apply w_seq
    | apply w_region
    | (apply w_draw (id := 9) 10 rfl (by kernel_rfl))
    | apply s_nil
    | apply t_norm
    | apply k_norm
    | apply w_block
    | apply w_skip
    | (apply w_condT; exact rfl; exact rfl)
    | (apply w_condF; exact rfl; exact rfl)
    | (apply s_k (HC); exact rfl)
    | (apply s_c TY; exact rfl; (first | omega | exact ⟨by omega, by (first | with_reducible assumption | ((with_reducible apply actsF_ne); omega) | assumption)⟩))
    | (apply s_l TY; exact rfl; (first | exact rfl | with_reducible assumption | ((with_reducible apply actsF_f0); omega) | ((with_reducible apply actsF_f1); omega) | ((with_reducible apply actsF_f2); omega) | assumption))
    | (apply s_store TY; exact rfl; exact rfl; exact rfl; exact rfl; exact rfl; exact rfl))
        exact ⟨k + 1, by omega, by omega, gh_le ⟨le_upd rfl trivial (le_upd rfl rfl (le_upd rfl rfl (le_upd rfl trivial (le_upd rfl trivial (le_nil _))))), le_hupd hb (CLS _ _ _ _ _) (le_hupd rfl (CLZ) (le_h0 _ _))⟩⟩
      · by_cases h3 : l[k].kind = 3
        · have hyes : newV name l[k] = true := newV_iff.2 ⟨hn, .inr h3⟩
          have hno4 : ¬ (l[k].name = name ∧ l[k].kind = 4) := fun h => by omega
          have hb : some (Blk.box [.f (sv name), .f (iv (verK l name k + 1)), .f (.sl l[k].cells.length (intsF l[k].cells)), .f (bv (wdrK l name k)), .f (.v (.slice none 0 0))]) = some (Blk.box [.f (sv name), .f (iv (verK l name (k + 1))), .f (.sl (celK l name (k + 1)).length (intsF (celK l name (k + 1)))), .f (bv (wdrK l name (k + 1))), .f (.v (.slice none 0 0))]) := by rw [verK_at hkl, celK_at hkl, wdrK_at hkl, if_pos hyes, if_pos hyes, if_neg hno4]
          have HC := CopyInts_s l[k].cells (hcl k hkl)
          repeat (first
    | (apply s_bind; exact rfl; exact rfl; exact rfl; exact rfl; exact rfl; exact rfl; exact nes_f (by assumption))
    | (apply s_a TY; exact rfl)
    | (apply s_t; exact rfl; (first | assumption | omega))
    | (apply s_f; exact rfl; (first | assumption | omega))
    | apply w_seq
    | apply w_region
    | (apply w_draw (id := 9) 10 rfl (by kernel_rfl))
    | apply s_nil
    | apply t_norm
    | apply k_norm
    | apply w_block
    | apply w_skip
    | (apply w_condT; exact rfl; exact rfl)
    | (apply w_condF; exact rfl; exact rfl)
    | (apply s_k (HC); exact rfl)
    | (apply s_c TY; exact rfl; (first | omega | exact ⟨by omega, by (first | with_reducible assumption | ((with_reducible apply actsF_ne); omega) | assumption)⟩))
    | (apply s_l TY; exact rfl; (first | exact rfl | with_reducible assumption | ((with_reducible apply actsF_f0); omega) | ((with_reducible apply actsF_f1); omega) | ((with_reducible apply actsF_f2); omega) | assumption))
    | (apply s_store TY; exact rfl; exact rfl; exact rfl; exact rfl; exact rfl; exact rfl))
          exact ⟨k + 1, by omega, by omega, gh_le ⟨le_upd rfl trivial (le_upd rfl rfl (le_upd rfl rfl (le_upd rfl trivial (le_upd rfl trivial (le_nil _))))), le_hupd hb (CLS _ _ _ _ _) (le_hupd rfl (CLZ) (le_h0 _ _))⟩⟩
        · have hno : ¬ newV name l[k] = true := fun h => (newV_iff.1 h).2.elim h2 h3
          by_cases h4 : l[k].kind = 4
          · have hb : some (Blk.box [.f (sv name), .f (iv (verK l name k)), .f (.sl (celK l name k).length (intsF (celK l name k))), .f (bv true), .f (.v (.slice none 0 0))]) = some (Blk.box [.f (sv name), .f (iv (verK l name (k + 1))), .f (.sl (celK l name (k + 1)).length (intsF (celK l name (k + 1)))), .f (bv (wdrK l name (k + 1))), .f (.v (.slice none 0 0))]) := by rw [verK_at hkl, celK_at hkl, wdrK_at hkl, if_neg hno, if_neg hno, if_pos ⟨hn, h4⟩]
            repeat (first
    | (apply s_bind; exact rfl; exact rfl; exact rfl; exact rfl; exact rfl; exact rfl; exact nes_f (by assumption))
    | (apply s_a TY; exact rfl)
    | (apply s_t; exact rfl; (first | assumption | omega))
    | (apply s_f; exact rfl; (first | assumption | omega))
    | apply w_seq
    | apply w_region
    | apply s_nil
    | apply t_norm
    | apply k_norm
    | apply w_block
    | apply w_skip
    | (apply w_condT; exact rfl; exact rfl)
    | (apply w_condF; exact rfl; exact rfl)
    | (apply s_c TY; exact rfl; (first | omega | exact ⟨by omega, by (first | with_reducible assumption | ((with_reducible apply actsF_ne); omega) | assumption)⟩))
    | (apply s_l TY; exact rfl; (first | exact rfl | with_reducible assumption | ((with_reducible apply actsF_f0); omega) | ((with_reducible apply actsF_f1); omega) | ((with_reducible apply actsF_f2); omega) | assumption))
    | (apply s_store TY; exact rfl; exact rfl; exact rfl; exact rfl; exact rfl; exact rfl))
            exact ⟨k + 1, by omega, by omega, gh_le ⟨le_upd rfl trivial (le_upd rfl rfl (le_upd rfl rfl (le_upd rfl trivial (le_upd rfl trivial (le_nil _))))), le_hupd hb (CLS _ _ _ _ _) (le_hupd rfl (CLZ) (le_h0 _ _))⟩⟩
          · have hno4 : ¬ (l[k].name = name ∧ l[k].kind = 4) := fun h => h4 h.2
            have hb : some (Blk.box [.f (sv name), .f (iv (verK l name k)), .f (.sl (celK l name k).length (intsF (celK l name k))), .f (bv (wdrK l name k)), .f (.v (.slice none 0 0))]) = some (Blk.box [.f (sv name), .f (iv (verK l name (k + 1))), .f (.sl (celK l name (k + 1)).length (intsF (celK l name (k + 1)))), .f (bv (wdrK l name (k + 1))), .f (.v (.slice none 0 0))]) := by rw [verK_at hkl, celK_at hkl, wdrK_at hkl, if_neg hno, if_neg hno, if_neg hno4]
            repeat (first
    | (apply s_bind; exact rfl; exact rfl; exact rfl; exact rfl; exact rfl; exact rfl; exact nes_f (by assumption))
    | (apply s_a TY; exact rfl)
    | (apply s_t; exact rfl; (first | assumption | omega))
    | (apply s_f; exact rfl; (first | assumption | omega))
    | apply w_seq
    | apply w_region
    | apply s_nil
    | apply t_norm
    | apply k_norm
    | apply w_block
    | apply w_skip
    | (apply w_condT; exact rfl; exact rfl)
    | (apply w_condF; exact rfl; exact rfl)
    | (apply s_c TY; exact rfl; (first | omega | exact ⟨by omega, by (first | with_reducible assumption | ((with_reducible apply actsF_ne); omega) | assumption)⟩))
    | (apply s_l TY; exact rfl; (first | exact rfl | with_reducible assumption | ((with_reducible apply actsF_f0); omega) | ((with_reducible apply actsF_f1); omega) | ((with_reducible apply actsF_f2); omega) | assumption)))
            exact ⟨k + 1, by omega, by omega, gh_le ⟨le_upd rfl trivial (le_upd rfl rfl (le_upd rfl rfl (le_upd rfl trivial (le_upd rfl trivial (le_nil _))))), le_hupd hb (CLS _ _ _ _ _) (le_hupd rfl (CLZ) (le_h0 _ _))⟩⟩
    · have hno : ¬ newV name l[k] = true := fun h => hn (newV_iff.1 h).1
      have hno4 : ¬ (l[k].name = name ∧ l[k].kind = 4) := fun h => hn h.1
      have hb : some (Blk.box [.f (sv name), .f (iv (verK l name k)), .f (.sl (celK l name k).length (intsF (celK l name k))), .f (bv (wdrK l name k)), .f (.v (.slice none 0 0))]) = some (Blk.box [.f (sv name), .f (iv (verK l name (k + 1))), .f (.sl (celK l name (k + 1)).length (intsF (celK l name (k + 1)))), .f (bv (wdrK l name (k + 1))), .f (.v (.slice none 0 0))]) := by rw [verK_at hkl, celK_at hkl, wdrK_at hkl, if_neg hno, if_neg hno, if_neg hno4]
      repeat (first
    | (apply s_bind; exact rfl; exact rfl; exact rfl; exact rfl; exact rfl; exact rfl; exact nes_t (by assumption))
    | (apply s_a TY; exact rfl)
    | (apply s_t; exact rfl; (first | assumption | omega))
    | apply w_seq
    | apply w_region
    | apply s_nil
    | apply t_norm
    | apply t_exit
    | apply k_hit
    | apply w_block
    | apply w_exit
    | apply w_skip
    | (apply w_condT; exact rfl; exact rfl)
    | (apply s_c TY; exact rfl; (first | omega | exact ⟨by omega, by (first | with_reducible assumption | ((with_reducible apply actsF_ne); omega) | assumption)⟩))
    | (apply s_l TY; exact rfl; (first | exact rfl | with_reducible assumption | ((with_reducible apply actsF_f0); omega) | ((with_reducible apply actsF_f1); omega) | ((with_reducible apply actsF_f2); omega) | assumption)))
      exact ⟨k + 1, by omega, by omega, gh_le ⟨le_upd rfl trivial (le_upd rfl rfl (le_upd rfl rfl (le_upd rfl trivial (le_upd rfl trivial (le_nil _))))), le_hupd hb (CLS _ _ _ _ _) (le_hupd rfl (CLZ) (le_h0 _ _))⟩⟩
  · have hke : k = l.length := by omega
    subst hke
    have HH := Had_s l name hl
    by_cases hv : 0 < verK l name l.length
    · rw [decide_eq_true hv]
      repeat (first
    | (apply s_a TY; exact rfl)
    | (apply s_f; exact rfl; (first | assumption | omega))
    | apply w_seq
    | apply w_region
    | apply s_nil
    | apply t_norm
    | apply t_exit
    | apply k_hit
    | apply w_exit
    | (apply w_condF; exact rfl; exact rfl)
    | (apply s_k (HH); exact rfl)
    | (apply s_store TY; exact rfl; exact rfl; exact rfl; exact rfl; exact rfl; exact rfl))
      apply w_gh (gh_box 1 (cs := [sv name, iv (verK l name l.length), .sl (celK l name l.length).length (intsF (celK l name l.length)), bv (wdrK l name l.length), .sl (hadS ltS l name l.length).length (strsF (hadS ltS l name l.length))]) rfl rfl)
      repeat (first
    | (apply s_a TY; exact rfl)
    | (apply s_t; exact rfl; (first | assumption | omega))
    | (apply w_draw1 (id := 13) 4 rfl (by kernel_rfl); exact rfl; kernel_rfl)
    | (apply s_sto TY; exact rfl; exact rfl; exact rfl; exact rfl; exact rfl; exact rfl; exact rfl)
    | apply s_nil
    | apply t_norm
    | apply w_ret)
      exact lv_ret (ret2 rfl (res_bxs (sub := [sv name, iv (verK l name l.length), .sl (celK l name l.length).length (intsF (celK l name l.length)), bv (wdrK l name l.length), .sl (hadS ltS l name l.length).length (strsF (hadS ltS l name l.length))]) TY rfl rfl rfl rfl rfl) (res_tmp rfl))
    · rw [decide_eq_false hv]
      repeat (first
    | (apply s_a TY; exact rfl)
    | (apply s_f; exact rfl; (first | assumption | omega))
    | apply w_seq
    | apply w_region
    | apply s_nil
    | apply t_norm
    | apply t_exit
    | apply k_hit
    | apply w_exit
    | (apply w_condF; exact rfl; exact rfl)
    | (apply s_k (HH); exact rfl)
    | (apply s_store TY; exact rfl; exact rfl; exact rfl; exact rfl; exact rfl; exact rfl))
      apply w_gh (gh_box 1 (cs := [sv name, iv (verK l name l.length), .sl (celK l name l.length).length (intsF (celK l name l.length)), bv (wdrK l name l.length), .sl (hadS ltS l name l.length).length (strsF (hadS ltS l name l.length))]) rfl rfl)
      repeat (first
    | (apply s_a TY; exact rfl)
    | (apply s_f; exact rfl; (first | assumption | omega))
    | (apply w_draw1 (id := 13) 4 rfl (by kernel_rfl); exact rfl; kernel_rfl)
    | (apply s_sto TY; exact rfl; exact rfl; exact rfl; exact rfl; exact rfl; exact rfl; exact rfl)
    | apply s_nil
    | apply t_norm
    | apply w_ret)
      exact lv_ret (ret2 rfl (res_bxs (sub := [sv name, iv (verK l name l.length), .sl (celK l name l.length).length (intsF (celK l name l.length)), bv (wdrK l name l.length), .sl (hadS ltS l name l.length).length (strsF (hadS ltS l name l.length))]) TY rfl rfl rfl rfl rfl) (res_tmp rfl))
theorem hadS_len (l : List Act) (name : Nm) {k : Nat} (hk : k ≤ l.length) : (hadS ltS l name k).length ≤ k * l.length := Nat.le_trans (sortedN_len _) (hadL_len l name k hk)
end Go.Proofs.YtenkgipcblfocaaGreat
namespace Go.Proofs.YtenkgipcblfocaaGreat
open Go Go.RowKit Go.Proofs Go.Shelf Go.Ab
def refE (c : Int) (l : List Act) (k : Nat) (x : Act) : Int := if chkE c x ≠ 0 then chkE c x else
  if (x.kind = 0 ∧ x.name ∈ sortedN ltS (pplK l k)) ∨ (x.kind = 2 ∧ 0 < verK l x.name k) then 5
  else if x.kind = 0 ∧ (sortedN ltS (pplK l k)).length = 8 then 16
  else if (x.kind = 1 ∧ x.name ∉ sortedN ltS (pplK l k)) ∨ (3 ≤ x.kind ∧ ¬ 0 < verK l x.name k) then 6
  else if 3 ≤ x.kind ∧ wdrK l x.name k = true then 20 else 0
theorem chkE_kind {c : Int} {x : Act} (h : ¬ (0 ≤ x.kind ∧ x.kind ≤ 4)) : chkE c x = 15 := if_pos h
theorem chkE_name {c : Int} {x : Act} (hk : 0 ≤ x.kind ∧ x.kind ≤ 4) (h : ¬ nameB x.name = true) : chkE c x = 4 := by
  unfold chkE; rw [if_neg (fun h => h hk), if_pos h]
theorem chkE_cel {c : Int} {x : Act} (hk : 0 ≤ x.kind ∧ x.kind ≤ 4) (hn : nameB x.name = true) (h : celsE c x.cells ≠ 0) : chkE c x = celsE c x.cells := by
  unfold chkE; rw [if_neg (fun h => h hk), if_neg (fun h => h hn), if_pos h]
theorem chkE_form {c : Int} {x : Act} (hk : 0 ≤ x.kind ∧ x.kind ≤ 4) (hn : nameB x.name = true) (hc : celsE c x.cells = 0) (h : ¬ hasCB x.kind = decide (0 < x.cells.length)) : chkE c x = 3 := by
  unfold chkE; rw [if_neg (fun h => h hk), if_neg (fun h => h hn), if_neg (fun h => h hc), if_neg h]
theorem chkE_ok {c : Int} {x : Act} (hk : 0 ≤ x.kind ∧ x.kind ≤ 4) (hn : nameB x.name = true) (hc : celsE c x.cells = 0) (h : hasCB x.kind = decide (0 < x.cells.length)) : chkE c x = 0 := by
  unfold chkE; rw [if_neg (fun h => h hk), if_neg (fun h => h hn), if_neg (fun h => h hc), if_pos h]
theorem refE_chk {c : Int} {l : List Act} {k : Nat} {x : Act} {e : Int} (h : chkE c x = e) (he : e ≠ 0) : refE c l k x = e := by
  unfold refE; rw [h, if_pos he]
theorem refE_take (c : Int) (l : List Act) (k : Nat) (x : Act) : refE c (l.take k) k x = refE c l k x := by
  unfold refE; rw [pplK_take l k k (Nat.le_refl _), verK_take l x.name k k (Nat.le_refl _), wdrK_take l x.name k k (Nat.le_refl _)]
theorem hasCB_0 {k : Int} (h : k = 0 ∨ k = 1 ∨ k = 4) : hasCB k = false := by
  rcases h with rfl | rfl | rfl <;> rfl
theorem hasCB_1 {k : Int} (h : k = 2 ∨ k = 3) : hasCB k = true := by
  rcases h with rfl | rfl <;> rfl
theorem neb_run (x y : Operand) (a b : Bool) (w : World) : (do eqGuard .neq 4 x y (.bool a) (.bool b); binOp .neq 4 (.bool a) (.bool b) : Sem Value).run Tryz.prog w = .ok (.bool (a != b)) w := by
  have h := run_neq_bool w 4 a b Tryz.underlying4
  cases a <;> cases b <;> simpa [eqGuard] using h
theorem neb_t {x y : Operand} {a b c : Bool} (h : (a != b) = c) (w : World) : (do eqGuard .neq 4 x y (.bool a) (.bool b); binOp .neq 4 (.bool a) (.bool b) : Sem Value).run Tryz.prog w = .ok (.bool c) w := by rw [neb_run, h]
set_option maxRecDepth 100000 in
set_option maxHeartbeats 12800000 in
theorem actErr_s (rs : List Int) (o : SkyOk rs) (l : List Act) (x : Act) (hl : l.length ≤ 1000) (hcl : ∀ i (hi : i < l.length), l[i].cells.length ≤ 1000000) (hxc : x.cells.length ≤ 1000000) : Summ Tryz.prog GG 110 [skF rs, .sl l.length (actsF l), .agg (actF x)] (iv (refE (befK rs rs.length) l l.length x)) := by
  have HN := IsName_s x.name
  have HC := rCellsErr_s rs x.cells o hxc
  have HP := People_s l hl
  have hpl := pplK_len l l.length
  have hps := sortedN_len (pplK l l.length)
  have HX := HasText_s (sortedN ltS (pplK l l.length)) x.name (by omega)
  have HS := State_s l x.name hl hcl
  by_cases hk : 0 ≤ x.kind ∧ x.kind ≤ 4
  · by_cases hn : nameB x.name = true
    · by_cases hc : celsE (befK rs rs.length) x.cells = 0
      · by_cases k0 : x.kind = 0
        · by_cases hz : 0 < x.cells.length
          · rw [hn] at HN
            rw [hc] at HC
            rw [refE_chk (chkE_form hk hn hc (by rw [hasCB_0 (.inl k0), decide_eq_true hz]; decide)) (by decide)]
            refine summW Tryz.func110 rfl rfl 99 rfl (by simp) (fun M0 => ?_)
            repeat (first
    | (apply s_bind; exact rfl; exact rfl; exact rfl; exact rfl; exact rfl; exact rfl; exact neb_t (by first | rfl | assumption | decide))
    | (apply s_a TY; exact rfl)
    | (apply s_t; exact rfl; (first | assumption | omega))
    | (apply s_f; exact rfl; (first | assumption | omega))
    | apply w_seq
    | apply w_region
    | apply s_nil
    | apply t_norm
    | apply t_ret
    | apply w_ret
    | apply w_skip
    | (apply w_condT; exact rfl; exact rfl)
    | (apply w_condF; exact rfl; exact rfl)
    | (apply s_k (HN); exact rfl)
    | (apply s_k (HC); exact rfl)
    | (apply s_k1 (bwithin_T _ _ _); exact rfl; (first | assumption | omega | decide)))
            exact lv_ret (ret1 rfl (res_tmp rfl))
          · by_cases hin : x.name ∈ (sortedN ltS (pplK l l.length))
            · rw [hn] at HN
              rw [hc] at HC
              have hch : chkE (befK rs rs.length) x = 0 := chkE_ok hk hn hc (by rw [hasCB_0 (.inl k0), decide_eq_false hz])
              rw [show (sortedN ltS (pplK l l.length)).contains x.name = true by simpa using hin] at HX
              have hval : refE (befK rs rs.length) l l.length x = 5 := by
                unfold refE
                rw [hch]
                simp [k0, hin]
              rw [hval]
              refine summW Tryz.func110 rfl rfl 99 rfl (by simp) (fun M0 => ?_)
              repeat (first
    | (apply s_bind; exact rfl; exact rfl; exact rfl; exact rfl; exact rfl; exact rfl; exact neb_t (by first | rfl | assumption | decide))
    | (apply s_a TY; exact rfl)
    | (apply s_t; exact rfl; (first | assumption | omega))
    | (apply s_f; exact rfl; (first | assumption | omega))
    | apply w_seq
    | apply w_region
    | apply s_nil
    | apply t_norm
    | apply t_ret
    | apply k_ret
    | apply w_block
    | apply w_ret
    | apply w_skip
    | (apply w_condT; exact rfl; exact rfl)
    | (apply w_condF; exact rfl; exact rfl)
    | (apply s_k (HN); exact rfl)
    | (apply s_k (HC); exact rfl)
    | (apply s_k (HP); exact rfl)
    | (apply s_k (HX); exact rfl)
    | (apply s_k (HS); exact rfl)
    | (apply s_k1 (bwithin_T _ _ _); exact rfl; (first | assumption | omega | decide))
    | (apply s_alloc TY; exact rfl; exact rfl; exact rfl)
    | (apply s_store TY; exact rfl; exact rfl; exact rfl; exact rfl; exact rfl; exact rfl))
              exact lv_ret (ret1 rfl (res_tmp rfl))
            · by_cases h8 : (sortedN ltS (pplK l l.length)).length = 8
              · rw [hn] at HN
                rw [hc] at HC
                have hch : chkE (befK rs rs.length) x = 0 := chkE_ok hk hn hc (by rw [hasCB_0 (.inl k0), decide_eq_false hz])
                rw [show (sortedN ltS (pplK l l.length)).contains x.name = false by simpa using hin] at HX
                have hval : refE (befK rs rs.length) l l.length x = 16 := by
                  unfold refE
                  rw [hch]
                  simp [k0, hin, h8]
                rw [hval]
                refine summW Tryz.func110 rfl rfl 99 rfl (by simp) (fun M0 => ?_)
                repeat (first
    | (apply s_bind; exact rfl; exact rfl; exact rfl; exact rfl; exact rfl; exact rfl; exact neb_t (by first | rfl | assumption | decide))
    | (apply s_a TY; exact rfl)
    | (apply s_t; exact rfl; (first | assumption | omega))
    | (apply s_f; exact rfl; (first | assumption | omega))
    | apply w_seq
    | apply w_region
    | apply s_nil
    | apply t_norm
    | apply t_ret
    | apply k_ret
    | apply w_block
    | apply w_ret
    | apply w_skip
    | (apply w_condT; exact rfl; exact rfl)
    | (apply w_condF; exact rfl; exact rfl)
    | (apply s_k (HN); exact rfl)
    | (apply s_k (HC); exact rfl)
    | (apply s_k (HP); exact rfl)
    | (apply s_k (HX); exact rfl)
    | (apply s_k (HS); exact rfl)
    | (apply s_k1 (bwithin_T _ _ _); exact rfl; (first | assumption | omega | decide))
    | (apply s_s; exact rfl)
    | (apply s_alloc TY; exact rfl; exact rfl; exact rfl)
    | (apply s_store TY; exact rfl; exact rfl; exact rfl; exact rfl; exact rfl; exact rfl))
                exact lv_ret (ret1 rfl (res_tmp rfl))
              · rw [hn] at HN
                rw [hc] at HC
                have hch : chkE (befK rs rs.length) x = 0 := chkE_ok hk hn hc (by rw [hasCB_0 (.inl k0), decide_eq_false hz])
                rw [show (sortedN ltS (pplK l l.length)).contains x.name = false by simpa using hin] at HX
                have hval : refE (befK rs rs.length) l l.length x = 0 := by
                  unfold refE
                  rw [hch]
                  simp [k0, hin, h8]
                rw [hval]
                refine summW Tryz.func110 rfl rfl 99 rfl (by simp) (fun M0 => ?_)
                repeat (first
    | (apply s_bind; exact rfl; exact rfl; exact rfl; exact rfl; exact rfl; exact rfl; exact neb_t (by first | rfl | assumption | decide))
    | (apply s_a TY; exact rfl)
    | (apply s_t; exact rfl; (first | assumption | omega))
    | (apply s_f; exact rfl; (first | assumption | omega))
    | apply w_seq
    | apply w_region
    | apply s_nil
    | apply t_norm
    | apply k_norm
    | apply w_block
    | apply w_ret
    | apply w_skip
    | (apply w_condF; exact rfl; exact rfl)
    | (apply s_k (HN); exact rfl)
    | (apply s_k (HC); exact rfl)
    | (apply s_k (HP); exact rfl)
    | (apply s_k (HX); exact rfl)
    | (apply s_k (HS); exact rfl)
    | (apply s_k1 (bwithin_T _ _ _); exact rfl; (first | assumption | omega | decide))
    | (apply s_s; exact rfl)
    | (apply s_alloc TY; exact rfl; exact rfl; exact rfl)
    | (apply s_store TY; exact rfl; exact rfl; exact rfl; exact rfl; exact rfl; exact rfl))
                exact lv_ret (ret1 rfl (res_tmp rfl))
        · by_cases k1 : x.kind = 1
          · by_cases hz : 0 < x.cells.length
            · rw [hn] at HN
              rw [hc] at HC
              rw [refE_chk (chkE_form hk hn hc (by rw [hasCB_0 (.inr (.inl k1)), decide_eq_true hz]; decide)) (by decide)]
              refine summW Tryz.func110 rfl rfl 99 rfl (by simp) (fun M0 => ?_)
              repeat (first
    | (apply s_bind; exact rfl; exact rfl; exact rfl; exact rfl; exact rfl; exact rfl; exact neb_t (by first | rfl | assumption | decide))
    | (apply s_a TY; exact rfl)
    | (apply s_t; exact rfl; (first | assumption | omega))
    | (apply s_f; exact rfl; (first | assumption | omega))
    | apply w_seq
    | apply w_region
    | apply s_nil
    | apply t_norm
    | apply t_ret
    | apply w_ret
    | apply w_skip
    | (apply w_condT; exact rfl; exact rfl)
    | (apply w_condF; exact rfl; exact rfl)
    | (apply s_k (HN); exact rfl)
    | (apply s_k (HC); exact rfl)
    | (apply s_k1 (bwithin_T _ _ _); exact rfl; (first | assumption | omega | decide)))
              exact lv_ret (ret1 rfl (res_tmp rfl))
            · by_cases hin : x.name ∈ (sortedN ltS (pplK l l.length))
              · rw [hn] at HN
                rw [hc] at HC
                have hch : chkE (befK rs rs.length) x = 0 := chkE_ok hk hn hc (by rw [hasCB_0 (.inr (.inl k1)), decide_eq_false hz])
                rw [show (sortedN ltS (pplK l l.length)).contains x.name = true by simpa using hin] at HX
                have hval : refE (befK rs rs.length) l l.length x = 0 := by
                  unfold refE
                  rw [hch]
                  simp [k1, hin]
                rw [hval]
                refine summW Tryz.func110 rfl rfl 99 rfl (by simp) (fun M0 => ?_)
                repeat (first
    | (apply s_bind; exact rfl; exact rfl; exact rfl; exact rfl; exact rfl; exact rfl; exact neb_t (by first | rfl | assumption | decide))
    | (apply s_a TY; exact rfl)
    | (apply s_t; exact rfl; (first | assumption | omega))
    | (apply s_f; exact rfl; (first | assumption | omega))
    | apply w_seq
    | apply w_region
    | apply s_nil
    | apply t_norm
    | apply k_norm
    | apply w_block
    | apply w_ret
    | apply w_skip
    | (apply w_condF; exact rfl; exact rfl)
    | (apply s_k (HN); exact rfl)
    | (apply s_k (HC); exact rfl)
    | (apply s_k (HP); exact rfl)
    | (apply s_k (HX); exact rfl)
    | (apply s_k (HS); exact rfl)
    | (apply s_k1 (bwithin_T _ _ _); exact rfl; (first | assumption | omega | decide))
    | (apply s_s; exact rfl)
    | (apply s_alloc TY; exact rfl; exact rfl; exact rfl)
    | (apply s_store TY; exact rfl; exact rfl; exact rfl; exact rfl; exact rfl; exact rfl))
                exact lv_ret (ret1 rfl (res_tmp rfl))
              · rw [hn] at HN
                rw [hc] at HC
                have hch : chkE (befK rs rs.length) x = 0 := chkE_ok hk hn hc (by rw [hasCB_0 (.inr (.inl k1)), decide_eq_false hz])
                rw [show (sortedN ltS (pplK l l.length)).contains x.name = false by simpa using hin] at HX
                have hval : refE (befK rs rs.length) l l.length x = 6 := by
                  unfold refE
                  rw [hch]
                  simp [k1, hin]
                rw [hval]
                refine summW Tryz.func110 rfl rfl 99 rfl (by simp) (fun M0 => ?_)
                repeat (first
    | (apply s_bind; exact rfl; exact rfl; exact rfl; exact rfl; exact rfl; exact rfl; exact neb_t (by first | rfl | assumption | decide))
    | (apply s_a TY; exact rfl)
    | (apply s_t; exact rfl; (first | assumption | omega))
    | (apply s_f; exact rfl; (first | assumption | omega))
    | apply w_seq
    | apply w_region
    | apply s_nil
    | apply t_norm
    | apply t_ret
    | apply k_ret
    | apply w_block
    | apply w_ret
    | apply w_skip
    | (apply w_condT; exact rfl; exact rfl)
    | (apply w_condF; exact rfl; exact rfl)
    | (apply s_k (HN); exact rfl)
    | (apply s_k (HC); exact rfl)
    | (apply s_k (HP); exact rfl)
    | (apply s_k (HX); exact rfl)
    | (apply s_k (HS); exact rfl)
    | (apply s_k1 (bwithin_T _ _ _); exact rfl; (first | assumption | omega | decide))
    | (apply s_s; exact rfl)
    | (apply s_alloc TY; exact rfl; exact rfl; exact rfl)
    | (apply s_store TY; exact rfl; exact rfl; exact rfl; exact rfl; exact rfl; exact rfl))
                exact lv_ret (ret1 rfl (res_tmp rfl))
          · by_cases k2 : x.kind = 2
            · by_cases hz : 0 < x.cells.length
              · by_cases hv : 0 < verK l x.name l.length
                · rw [hn] at HN
                  rw [hc] at HC
                  have hch : chkE (befK rs rs.length) x = 0 := chkE_ok hk hn hc (by rw [hasCB_1 (.inl k2), decide_eq_true hz])
                  rw [decide_eq_true hv] at HS
                  have hval : refE (befK rs rs.length) l l.length x = 5 := by
                    unfold refE
                    rw [hch]
                    simp [k2, hv]
                  rw [hval]
                  refine summW Tryz.func110 rfl rfl 99 rfl (by simp) (fun M0 => ?_)
                  repeat (first
    | (apply s_bind; exact rfl; exact rfl; exact rfl; exact rfl; exact rfl; exact rfl; exact neb_t (by first | rfl | assumption | decide))
    | (apply s_a TY; exact rfl)
    | (apply s_t; exact rfl; (first | assumption | omega))
    | (apply s_f; exact rfl; (first | assumption | omega))
    | apply w_seq
    | apply w_region
    | apply s_nil
    | apply t_norm
    | apply t_ret
    | apply k_ret
    | apply w_block
    | apply w_ret
    | apply w_skip
    | (apply w_condT; exact rfl; exact rfl)
    | (apply w_condF; exact rfl; exact rfl)
    | (apply s_k (HN); exact rfl)
    | (apply s_k (HC); exact rfl)
    | (apply s_k (HP); exact rfl)
    | (apply s_k (HS); exact rfl)
    | (apply s_k1 (bwithin_T _ _ _); exact rfl; (first | assumption | omega | decide))
    | (apply s_s; exact rfl)
    | (apply s_alloc TY; exact rfl; exact rfl; exact rfl)
    | (apply s_store TY; exact rfl; exact rfl; exact rfl; exact rfl; exact rfl; exact rfl))
                  exact lv_ret (ret1 rfl (res_tmp rfl))
                · rw [hn] at HN
                  rw [hc] at HC
                  have hch : chkE (befK rs rs.length) x = 0 := chkE_ok hk hn hc (by rw [hasCB_1 (.inl k2), decide_eq_true hz])
                  rw [decide_eq_false hv] at HS
                  have hval : refE (befK rs rs.length) l l.length x = 0 := by
                    unfold refE
                    rw [hch]
                    simp [k2, hv]
                  rw [hval]
                  refine summW Tryz.func110 rfl rfl 99 rfl (by simp) (fun M0 => ?_)
                  repeat (first
    | (apply s_bind; exact rfl; exact rfl; exact rfl; exact rfl; exact rfl; exact rfl; exact neb_t (by first | rfl | assumption | decide))
    | (apply s_a TY; exact rfl)
    | (apply s_t; exact rfl; (first | assumption | omega))
    | (apply s_f; exact rfl; (first | assumption | omega))
    | apply w_seq
    | apply w_region
    | apply s_nil
    | apply t_norm
    | apply k_norm
    | apply w_block
    | apply w_ret
    | apply w_skip
    | (apply w_condF; exact rfl; exact rfl)
    | (apply s_k (HN); exact rfl)
    | (apply s_k (HC); exact rfl)
    | (apply s_k (HP); exact rfl)
    | (apply s_k (HS); exact rfl)
    | (apply s_k1 (bwithin_T _ _ _); exact rfl; (first | assumption | omega | decide))
    | (apply s_s; exact rfl)
    | (apply s_alloc TY; exact rfl; exact rfl; exact rfl)
    | (apply s_store TY; exact rfl; exact rfl; exact rfl; exact rfl; exact rfl; exact rfl))
                  exact lv_ret (ret1 rfl (res_tmp rfl))
              · rw [hn] at HN
                rw [hc] at HC
                rw [refE_chk (chkE_form hk hn hc (by rw [hasCB_1 (.inl k2), decide_eq_false hz]; decide)) (by decide)]
                refine summW Tryz.func110 rfl rfl 99 rfl (by simp) (fun M0 => ?_)
                repeat (first
    | (apply s_bind; exact rfl; exact rfl; exact rfl; exact rfl; exact rfl; exact rfl; exact neb_t (by first | rfl | assumption | decide))
    | (apply s_a TY; exact rfl)
    | (apply s_t; exact rfl; (first | assumption | omega))
    | (apply s_f; exact rfl; (first | assumption | omega))
    | apply w_seq
    | apply w_region
    | apply s_nil
    | apply t_norm
    | apply t_ret
    | apply w_ret
    | apply w_skip
    | (apply w_condT; exact rfl; exact rfl)
    | (apply w_condF; exact rfl; exact rfl)
    | (apply s_k (HN); exact rfl)
    | (apply s_k (HC); exact rfl)
    | (apply s_k1 (bwithin_T _ _ _); exact rfl; (first | assumption | omega | decide))
    | (apply s_s; exact rfl))
                exact lv_ret (ret1 rfl (res_tmp rfl))
            · by_cases k3 : x.kind = 3
              · by_cases hz : 0 < x.cells.length
                · by_cases hv : 0 < verK l x.name l.length
                  · by_cases hw : wdrK l x.name l.length = true
                    · rw [hn] at HN
                      rw [hc] at HC
                      have hch : chkE (befK rs rs.length) x = 0 := chkE_ok hk hn hc (by rw [hasCB_1 (.inr k3), decide_eq_true hz])
                      rw [decide_eq_true hv] at HS
                      rw [show wdrK l x.name l.length = true by simpa using hw] at HS
                      have hval : refE (befK rs rs.length) l l.length x = 20 := by
                        unfold refE
                        rw [hch]
                        simp [k3, hv, hw]
                      rw [hval]
                      refine summW Tryz.func110 rfl rfl 99 rfl (by simp) (fun M0 => ?_)
                      repeat (first
    | (apply s_bind; exact rfl; exact rfl; exact rfl; exact rfl; exact rfl; exact rfl; exact neb_t (by first | rfl | assumption | decide))
    | (apply s_a TY; exact rfl)
    | (apply s_t; exact rfl; (first | assumption | omega))
    | (apply s_f; exact rfl; (first | assumption | omega))
    | apply w_seq
    | apply w_region
    | apply s_nil
    | apply t_norm
    | apply t_ret
    | apply k_ret
    | apply w_block
    | apply w_ret
    | apply w_skip
    | (apply w_condT; exact rfl; exact rfl)
    | (apply w_condF; exact rfl; exact rfl)
    | (apply s_k (HN); exact rfl)
    | (apply s_k (HC); exact rfl)
    | (apply s_k (HP); exact rfl)
    | (apply s_k (HS); exact rfl)
    | (apply s_k1 (bwithin_T _ _ _); exact rfl; (first | assumption | omega | decide))
    | (apply s_s; exact rfl)
    | (apply s_alloc TY; exact rfl; exact rfl; exact rfl)
    | (apply s_store TY; exact rfl; exact rfl; exact rfl; exact rfl; exact rfl; exact rfl))
                      exact lv_ret (ret1 rfl (res_tmp rfl))
                    · rw [hn] at HN
                      rw [hc] at HC
                      have hch : chkE (befK rs rs.length) x = 0 := chkE_ok hk hn hc (by rw [hasCB_1 (.inr k3), decide_eq_true hz])
                      rw [decide_eq_true hv] at HS
                      rw [show wdrK l x.name l.length = false by simpa using hw] at HS
                      have hval : refE (befK rs rs.length) l l.length x = 0 := by
                        unfold refE
                        rw [hch]
                        simp [k3, hv, hw]
                      rw [hval]
                      refine summW Tryz.func110 rfl rfl 99 rfl (by simp) (fun M0 => ?_)
                      repeat (first
    | (apply s_bind; exact rfl; exact rfl; exact rfl; exact rfl; exact rfl; exact rfl; exact neb_t (by first | rfl | assumption | decide))
    | (apply s_a TY; exact rfl)
    | (apply s_t; exact rfl; (first | assumption | omega))
    | (apply s_f; exact rfl; (first | assumption | omega))
    | apply w_seq
    | apply w_region
    | apply s_nil
    | apply t_norm
    | apply k_norm
    | apply w_block
    | apply w_ret
    | apply w_skip
    | (apply w_condF; exact rfl; exact rfl)
    | (apply s_k (HN); exact rfl)
    | (apply s_k (HC); exact rfl)
    | (apply s_k (HP); exact rfl)
    | (apply s_k (HS); exact rfl)
    | (apply s_k1 (bwithin_T _ _ _); exact rfl; (first | assumption | omega | decide))
    | (apply s_s; exact rfl)
    | (apply s_alloc TY; exact rfl; exact rfl; exact rfl)
    | (apply s_store TY; exact rfl; exact rfl; exact rfl; exact rfl; exact rfl; exact rfl))
                      exact lv_ret (ret1 rfl (res_tmp rfl))
                  · rw [hn] at HN
                    rw [hc] at HC
                    have hch : chkE (befK rs rs.length) x = 0 := chkE_ok hk hn hc (by rw [hasCB_1 (.inr k3), decide_eq_true hz])
                    rw [decide_eq_false hv] at HS
                    have hval : refE (befK rs rs.length) l l.length x = 6 := by
                      unfold refE
                      rw [hch]
                      simp [k3, hv]
                    rw [hval]
                    refine summW Tryz.func110 rfl rfl 99 rfl (by simp) (fun M0 => ?_)
                    repeat (first
    | (apply s_bind; exact rfl; exact rfl; exact rfl; exact rfl; exact rfl; exact rfl; exact neb_t (by first | rfl | assumption | decide))
    | (apply s_a TY; exact rfl)
    | (apply s_t; exact rfl; (first | assumption | omega))
    | (apply s_f; exact rfl; (first | assumption | omega))
    | apply w_seq
    | apply w_region
    | apply s_nil
    | apply t_norm
    | apply t_ret
    | apply k_ret
    | apply w_block
    | apply w_ret
    | apply w_skip
    | (apply w_condT; exact rfl; exact rfl)
    | (apply w_condF; exact rfl; exact rfl)
    | (apply s_k (HN); exact rfl)
    | (apply s_k (HC); exact rfl)
    | (apply s_k (HP); exact rfl)
    | (apply s_k (HS); exact rfl)
    | (apply s_k1 (bwithin_T _ _ _); exact rfl; (first | assumption | omega | decide))
    | (apply s_s; exact rfl)
    | (apply s_alloc TY; exact rfl; exact rfl; exact rfl)
    | (apply s_store TY; exact rfl; exact rfl; exact rfl; exact rfl; exact rfl; exact rfl))
                    exact lv_ret (ret1 rfl (res_tmp rfl))
                · rw [hn] at HN
                  rw [hc] at HC
                  rw [refE_chk (chkE_form hk hn hc (by rw [hasCB_1 (.inr k3), decide_eq_false hz]; decide)) (by decide)]
                  refine summW Tryz.func110 rfl rfl 99 rfl (by simp) (fun M0 => ?_)
                  repeat (first
    | (apply s_bind; exact rfl; exact rfl; exact rfl; exact rfl; exact rfl; exact rfl; exact neb_t (by first | rfl | assumption | decide))
    | (apply s_a TY; exact rfl)
    | (apply s_t; exact rfl; (first | assumption | omega))
    | (apply s_f; exact rfl; (first | assumption | omega))
    | apply w_seq
    | apply w_region
    | apply s_nil
    | apply t_norm
    | apply t_ret
    | apply w_ret
    | apply w_skip
    | (apply w_condT; exact rfl; exact rfl)
    | (apply w_condF; exact rfl; exact rfl)
    | (apply s_k (HN); exact rfl)
    | (apply s_k (HC); exact rfl)
    | (apply s_k1 (bwithin_T _ _ _); exact rfl; (first | assumption | omega | decide)))
                  exact lv_ret (ret1 rfl (res_tmp rfl))
              · by_cases hz : 0 < x.cells.length
                · rw [hn] at HN
                  rw [hc] at HC
                  have k4 : x.kind = 4 := by omega
                  rw [refE_chk (chkE_form hk hn hc (by rw [hasCB_0 (.inr (.inr k4)), decide_eq_true hz]; decide)) (by decide)]
                  refine summW Tryz.func110 rfl rfl 99 rfl (by simp) (fun M0 => ?_)
                  repeat (first
    | (apply s_bind; exact rfl; exact rfl; exact rfl; exact rfl; exact rfl; exact rfl; exact neb_t (by first | rfl | assumption | decide))
    | (apply s_a TY; exact rfl)
    | (apply s_t; exact rfl; (first | assumption | omega))
    | (apply s_f; exact rfl; (first | assumption | omega))
    | apply w_seq
    | apply w_region
    | apply s_nil
    | apply t_norm
    | apply t_ret
    | apply w_ret
    | apply w_skip
    | (apply w_condT; exact rfl; exact rfl)
    | (apply w_condF; exact rfl; exact rfl)
    | (apply s_k (HN); exact rfl)
    | (apply s_k (HC); exact rfl)
    | (apply s_k1 (bwithin_T _ _ _); exact rfl; (first | assumption | omega | decide)))
                  exact lv_ret (ret1 rfl (res_tmp rfl))
                · by_cases hv : 0 < verK l x.name l.length
                  · by_cases hw : wdrK l x.name l.length = true
                    · rw [hn] at HN
                      rw [hc] at HC
                      have k4 : x.kind = 4 := by omega
                      have hch : chkE (befK rs rs.length) x = 0 := chkE_ok hk hn hc (by rw [hasCB_0 (.inr (.inr k4)), decide_eq_false hz])
                      rw [decide_eq_true hv] at HS
                      rw [show wdrK l x.name l.length = true by simpa using hw] at HS
                      have hval : refE (befK rs rs.length) l l.length x = 20 := by
                        unfold refE
                        rw [hch]
                        simp [k4, hv, hw]
                      rw [hval]
                      refine summW Tryz.func110 rfl rfl 99 rfl (by simp) (fun M0 => ?_)
                      repeat (first
    | (apply s_bind; exact rfl; exact rfl; exact rfl; exact rfl; exact rfl; exact rfl; exact neb_t (by first | rfl | assumption | decide))
    | (apply s_a TY; exact rfl)
    | (apply s_t; exact rfl; (first | assumption | omega))
    | (apply s_f; exact rfl; (first | assumption | omega))
    | apply w_seq
    | apply w_region
    | apply s_nil
    | apply t_norm
    | apply t_ret
    | apply k_ret
    | apply w_block
    | apply w_ret
    | apply w_skip
    | (apply w_condT; exact rfl; exact rfl)
    | (apply w_condF; exact rfl; exact rfl)
    | (apply s_k (HN); exact rfl)
    | (apply s_k (HC); exact rfl)
    | (apply s_k (HP); exact rfl)
    | (apply s_k (HS); exact rfl)
    | (apply s_k1 (bwithin_T _ _ _); exact rfl; (first | assumption | omega | decide))
    | (apply s_s; exact rfl)
    | (apply s_alloc TY; exact rfl; exact rfl; exact rfl)
    | (apply s_store TY; exact rfl; exact rfl; exact rfl; exact rfl; exact rfl; exact rfl))
                      exact lv_ret (ret1 rfl (res_tmp rfl))
                    · rw [hn] at HN
                      rw [hc] at HC
                      have k4 : x.kind = 4 := by omega
                      have hch : chkE (befK rs rs.length) x = 0 := chkE_ok hk hn hc (by rw [hasCB_0 (.inr (.inr k4)), decide_eq_false hz])
                      rw [decide_eq_true hv] at HS
                      rw [show wdrK l x.name l.length = false by simpa using hw] at HS
                      have hval : refE (befK rs rs.length) l l.length x = 0 := by
                        unfold refE
                        rw [hch]
                        simp [k4, hv, hw]
                      rw [hval]
                      refine summW Tryz.func110 rfl rfl 99 rfl (by simp) (fun M0 => ?_)
                      repeat (first
    | (apply s_bind; exact rfl; exact rfl; exact rfl; exact rfl; exact rfl; exact rfl; exact neb_t (by first | rfl | assumption | decide))
    | (apply s_a TY; exact rfl)
    | (apply s_t; exact rfl; (first | assumption | omega))
    | (apply s_f; exact rfl; (first | assumption | omega))
    | apply w_seq
    | apply w_region
    | apply s_nil
    | apply t_norm
    | apply k_norm
    | apply w_block
    | apply w_ret
    | apply w_skip
    | (apply w_condF; exact rfl; exact rfl)
    | (apply s_k (HN); exact rfl)
    | (apply s_k (HC); exact rfl)
    | (apply s_k (HP); exact rfl)
    | (apply s_k (HS); exact rfl)
    | (apply s_k1 (bwithin_T _ _ _); exact rfl; (first | assumption | omega | decide))
    | (apply s_s; exact rfl)
    | (apply s_alloc TY; exact rfl; exact rfl; exact rfl)
    | (apply s_store TY; exact rfl; exact rfl; exact rfl; exact rfl; exact rfl; exact rfl))
                      exact lv_ret (ret1 rfl (res_tmp rfl))
                  · rw [hn] at HN
                    rw [hc] at HC
                    have k4 : x.kind = 4 := by omega
                    have hch : chkE (befK rs rs.length) x = 0 := chkE_ok hk hn hc (by rw [hasCB_0 (.inr (.inr k4)), decide_eq_false hz])
                    rw [decide_eq_false hv] at HS
                    have hval : refE (befK rs rs.length) l l.length x = 6 := by
                      unfold refE
                      rw [hch]
                      simp [k4, hv]
                    rw [hval]
                    refine summW Tryz.func110 rfl rfl 99 rfl (by simp) (fun M0 => ?_)
                    repeat (first
    | (apply s_bind; exact rfl; exact rfl; exact rfl; exact rfl; exact rfl; exact rfl; exact neb_t (by first | rfl | assumption | decide))
    | (apply s_a TY; exact rfl)
    | (apply s_t; exact rfl; (first | assumption | omega))
    | (apply s_f; exact rfl; (first | assumption | omega))
    | apply w_seq
    | apply w_region
    | apply s_nil
    | apply t_norm
    | apply t_ret
    | apply k_ret
    | apply w_block
    | apply w_ret
    | apply w_skip
    | (apply w_condT; exact rfl; exact rfl)
    | (apply w_condF; exact rfl; exact rfl)
    | (apply s_k (HN); exact rfl)
    | (apply s_k (HC); exact rfl)
    | (apply s_k (HP); exact rfl)
    | (apply s_k (HS); exact rfl)
    | (apply s_k1 (bwithin_T _ _ _); exact rfl; (first | assumption | omega | decide))
    | (apply s_s; exact rfl)
    | (apply s_alloc TY; exact rfl; exact rfl; exact rfl)
    | (apply s_store TY; exact rfl; exact rfl; exact rfl; exact rfl; exact rfl; exact rfl))
                    exact lv_ret (ret1 rfl (res_tmp rfl))
      · rw [hn] at HN
        rw [refE_chk (chkE_cel hk hn hc) hc]
        refine summW Tryz.func110 rfl rfl 99 rfl (by simp) (fun M0 => ?_)
        repeat (first
    | (apply s_a TY; exact rfl)
    | (apply s_f; exact rfl; (first | assumption | omega))
    | apply w_seq
    | apply w_region
    | apply s_nil
    | apply t_norm
    | apply t_ret
    | apply w_ret
    | apply w_skip
    | (apply w_condT; exact rfl; exact rfl)
    | (apply w_condF; exact rfl; exact rfl)
    | (apply s_k (HN); exact rfl)
    | (apply s_k (HC); exact rfl)
    | (apply s_k1 (bwithin_T _ _ _); exact rfl; (first | assumption | omega | decide)))
        exact lv_ret (ret1 rfl (res_tmp rfl))
    · rw [refE_chk (chkE_name hk hn) (by decide)]
      rw [show nameB x.name = false by simpa using hn] at HN
      refine summW Tryz.func110 rfl rfl 99 rfl (by simp) (fun M0 => ?_)
      repeat (first
    | (apply s_a TY; exact rfl)
    | apply w_seq
    | apply w_region
    | apply s_nil
    | apply t_norm
    | apply t_ret
    | apply w_ret
    | apply w_skip
    | (apply w_condT; exact rfl; exact rfl)
    | (apply w_condF; exact rfl; exact rfl)
    | (apply s_k (HN); exact rfl)
    | (apply s_k1 (bwithin_T _ _ _); exact rfl; (first | assumption | omega | decide)))
      exact lv_ret (ret1 rfl (res_tmp rfl))
  · rw [refE_chk (chkE_kind hk) (by decide)]
    refine summW Tryz.func110 rfl rfl 99 rfl (by simp) (fun M0 => ?_)
    repeat (first
    | (apply s_a TY; exact rfl)
    | apply w_seq
    | apply w_region
    | apply s_nil
    | apply t_norm
    | apply t_ret
    | apply w_ret
    | (apply w_condT; exact rfl; exact rfl)
    | (apply s_k1 (bwithin_F _ _ _); exact rfl; (first | assumption | omega | decide)))
    exact lv_ret (ret1 rfl (res_tmp rfl))
theorem actErrK_s (rs : List Int) (o : SkyOk rs) (l : List Act) (k : Nat) (x : Act) (hk : k ≤ l.length) (hl : l.length ≤ 1000) (hcl : ∀ i (hi : i < l.length), l[i].cells.length ≤ 1000000) (hxc : x.cells.length ≤ 1000000) : Summ Tryz.prog GG 110 [skF rs, .sl k (actsF (l.take k)), .agg (actF x)] (iv (refE (befK rs rs.length) l k x)) := by
  have hlk : (l.take k).length = k := by rw [List.length_take]; omega
  have h := actErr_s rs o (l.take k) x (by omega) (fun i hi => by rw [List.getElem_take]; exact hcl i (by omega)) hxc
  rw [hlk, refE_take] at h
  exact h
def actsChk (c : Int) (l : List Act) : Nat × Int := if 40 < l.length then (0, 8) else eachE l.length fun i => refE c l i (l.getD i default)
set_option maxRecDepth 100000 in
set_option maxHeartbeats 3200000 in
theorem rCheckActs_s (rs : List Int) (o : SkyOk rs) (l : List Act) (hl : l.length ≤ 1000) (hcl : ∀ i (hi : i < l.length), l[i].cells.length ≤ 1000000) : Summ Tryz.prog GG 35 [skF rs, .sl l.length (actsF l)] (.tup [iv (actsChk (befK rs rs.length) l).1, iv (actsChk (befK rs rs.length) l).2]) := by
  by_cases h40 : 40 < l.length
  · rw [show actsChk (befK rs rs.length) l = (0, 8) from if_pos h40]
    refine summW Tryz.func35 rfl rfl 30 rfl (by simp) (fun M0 => ?_)
    repeat (first
    | (apply s_a TY; exact rfl)
    | (apply s_t; exact rfl; (first | assumption | omega))
    | apply w_seq
    | apply w_region
    | apply s_nil
    | apply t_norm
    | apply t_ret
    | apply w_ret
    | (apply w_condT; exact rfl; exact rfl))
    exact lv_ret (ret2 rfl (res_tmp rfl) (res_tmp rfl))
  rw [show actsChk (befK rs rs.length) l = eachE l.length fun i => refE (befK rs rs.length) l i (l.getD i default) from if_neg h40]
  refine summW Tryz.func35 rfl rfl 30 rfl (by simp) (fun M0 => ?_)
  repeat (first
    | (apply s_a TY; exact rfl)
    | (apply s_f; exact rfl; (first | assumption | omega))
    | apply w_seq
    | apply w_region
    | apply s_nil
    | apply t_norm
    | apply w_block
    | apply w_skip
    | (apply w_condF; exact rfl; exact rfl))
  apply w_loop (fun k : Nat => ⟨(Ab.upd (Ab.upd (Ab.upd (fun _ => .bot) 1 (.f (.sl l.length (actsF l)))) 2 (.f (.pt [.sl rs.length (intsF rs)] 0))) 6 (.f (iv ((k : Nat) : Int)))), (fun _ => none), 0⟩) (fun k => k ≤ l.length ∧ ∀ i, i < k → refE (befK rs rs.length) l i (l.getD i default) = 0) (fun k => l.length - k) 0 (⟨Nat.zero_le _, fun i h => absurd h (Nat.not_lt_zero i)⟩) (gh_le ⟨le_upd rfl trivial (le_upd rfl trivial (le_upd rfl trivial (le_nil _))), le_h0 _ _⟩)
  intro k ⟨hk, hz⟩
  by_cases hkl : k < l.length
  · have hg := getD_at hkl
    have HE := actErrK_s rs o l k l[k] hk hl hcl (hcl k hkl)
    have htk : (actsF l).take (k * 3) = actsF (l.take k) := actsF_take l k
    by_cases he : refE (befK rs rs.length) l k l[k] = 0
    · repeat (first
    | (apply s_sliceTo TY; exact rfl; exact rfl; exact rfl; exact rfl; exact rfl; omega; exact htk)
    | (apply s_a TY; exact rfl)
    | (apply s_t; exact rfl; (first | assumption | omega))
    | apply w_seq
    | apply w_region
    | (apply w_draw (id := 6) 8 rfl (by kernel_rfl))
    | apply s_nil
    | apply t_norm
    | apply k_norm
    | apply w_block
    | apply w_skip
    | (apply w_condT; exact rfl; exact rfl)
    | (apply w_condF; exact rfl; exact rfl)
    | (apply s_k (HE); exact rfl)
    | (apply s_c TY; exact rfl; (first | omega | exact ⟨by omega, by (first | with_reducible assumption | ((with_reducible apply actsF_ne); omega) | assumption)⟩))
    | (apply s_m TY; exact rfl; (first | with_reducible assumption | ((with_reducible apply actsF_sub); omega) | exact rfl); exact rfl))
      exact ⟨k + 1, ⟨by omega, fun i hi => by
        by_cases e : i = k
        · subst e; rw [hg]; exact he
        · exact hz i (by omega)⟩, by omega, gh_le ⟨le_upd rfl trivial (le_upd rfl trivial (le_upd rfl trivial (le_nil _))), le_h0 _ _⟩⟩
    · rw [eachE_at hkl hz (by rw [hg]; exact he), hg]
      repeat (first
    | (apply s_sliceTo TY; exact rfl; exact rfl; exact rfl; exact rfl; exact rfl; omega; exact htk)
    | (apply s_a TY; exact rfl)
    | (apply s_t; exact rfl; (first | assumption | omega))
    | (apply s_f; exact rfl; (first | assumption | omega))
    | apply w_seq
    | apply w_region
    | (apply w_draw (id := 6) 8 rfl (by kernel_rfl))
    | apply s_nil
    | apply t_norm
    | apply t_ret
    | apply k_ret
    | apply w_block
    | apply w_ret
    | apply w_skip
    | (apply w_condT; exact rfl; exact rfl)
    | (apply s_k (HE); exact rfl)
    | (apply s_c TY; exact rfl; (first | omega | exact ⟨by omega, by (first | with_reducible assumption | ((with_reducible apply actsF_ne); omega) | assumption)⟩))
    | (apply s_m TY; exact rfl; (first | with_reducible assumption | ((with_reducible apply actsF_sub); omega) | exact rfl); exact rfl))
      exact lv_ret (ret2 rfl (res_tmp rfl) (res_tmp rfl))
  · rw [eachE_ok fun i hi => hz i (by omega)]
    repeat (first
    | (apply s_a TY; exact rfl)
    | (apply s_f; exact rfl; (first | assumption | omega))
    | apply w_seq
    | apply w_region
    | apply s_nil
    | apply t_norm
    | apply t_exit
    | apply k_hit
    | apply w_exit
    | apply w_ret
    | (apply w_condF; exact rfl; exact rfl))
    exact lv_ret (ret2 rfl (res_tmp rfl) (res_tmp rfl))
set_option maxRecDepth 100000 in
theorem ActsErr_s (rs : List Int) (o : SkyOk rs) (l : List Act) (hl : l.length ≤ 1000) (hcl : ∀ i (hi : i < l.length), l[i].cells.length ≤ 1000000) : Summ Tryz.prog GG 29 [skF rs, .sl l.length (actsF l)] (iv (actsChk (befK rs rs.length) l).2) := by
  have HC := rCheckActs_s rs o l hl hcl
  refine summW Tryz.func29 rfl rfl 14 rfl (by simp) (fun M0 => ?_)
  repeat (first
    | (apply s_a TY; exact rfl)
    | apply w_seq
    | apply w_region
    | apply s_nil
    | apply t_norm
    | apply w_ret
    | (apply s_k (HC); exact rfl))
  exact lv_ret (ret1 rfl (res_tmp rfl))
def stsK (l : List Act) : Nat → List Ast
  | 0 => []
  | k + 1 => match l[k]? with
    | none => stsK l k
    | some a => if a.kind = 2 then stsK l k ++ [stA l a.name l.length] else stsK l k
theorem stsK_at {l : List Act} {k : Nat} (h : k < l.length) : stsK l (k + 1) = if l[k].kind = 2 then stsK l k ++ [stA l l[k].name l.length] else stsK l k := by rw [stsK, List.getElem?_eq_getElem h]
theorem stsK_len (l : List Act) : ∀ k, (stsK l k).length ≤ k
  | 0 => Nat.le_refl _
  | k + 1 => by
    have ih := stsK_len l k
    by_cases h : k < l.length
    · rw [stsK_at h]; split
      · rw [List.length_append]; show _ + 1 ≤ _; omega
      · omega
    · rw [stsK, List.getElem?_eq_none (by omega)]
      show (stsK l k).length ≤ _
      omega
set_option maxRecDepth 100000 in
set_option maxHeartbeats 3200000 in
theorem CopyActs_s (l : List Act) (hl : l.length ≤ 1000) (hcl : ∀ i (hi : i < l.length), l[i].cells.length ≤ 1000000) : Summ Tryz.prog GG 27 [.sl l.length (actsF l)] (.sl l.length (actsF l)) := by
  refine summW Tryz.func27 rfl rfl 32 rfl (by simp) (fun M0 => ?_)
  repeat (first
    | (apply s_a TY; exact rfl)
    | apply w_seq
    | apply w_region
    | apply s_nil
    | apply t_norm
    | apply w_block)
  apply w_gh (gh_own 3 67 3 rfl rfl)
  apply w_loop (fun k : Nat => ⟨(Ab.upd (Ab.upd (Ab.upd (fun _ => .bot) 0 (.f (.sl l.length (actsF l)))) 3 (.ow 0)) 4 (.f (iv ((k : Nat) : Int)))), (Ab.upd (fun _ => none) 0 (some (.row 67 3 (l.take k).length (actsF (l.take k))))), 1⟩) (fun k => k ≤ l.length) (fun k => l.length - k) 0 (Nat.zero_le _) (gh_le ⟨le_upd rfl trivial (le_upd rfl rfl (le_upd rfl trivial (le_nil _))), le_hupd rfl trivial (le_h0 _ _)⟩)
  intro k hk
  have htk : (l.take k).length = k := by rw [List.length_take]; omega
  by_cases hkl : k < l.length
  · have HC := CopyInts_s l[k].cells (hcl k hkl)
    have hrow : some (Blk.row 67 3 ((l.take k).length + 1) (actsF (l.take k) ++ [iv l[k].kind, sv l[k].name, .sl l[k].cells.length (intsF l[k].cells)])) = some (Blk.row 67 3 (l.take (k + 1)).length (actsF (l.take (k + 1)))) := by rw [actsF_tk hkl, List.take_succ_eq_append_getElem hkl, List.length_append]; rfl
    repeat (first
    | (apply s_append TY; exact rfl; exact rfl; exact rfl; exact rfl; exact rfl; exact rfl; exact rfl; exact rfl; exact rfl; (unfold maxLen; omega); omega)
    | (apply s_a TY; exact rfl)
    | (apply s_t; exact rfl; (first | assumption | omega))
    | apply w_seq
    | apply w_region
    | (apply w_draw (id := 5) 19 rfl (by kernel_rfl))
    | apply s_nil
    | apply t_norm
    | apply k_norm
    | apply w_block
    | apply w_skip
    | (apply w_condT; exact rfl; exact rfl)
    | (apply s_k (HC); exact rfl)
    | (apply s_c TY; exact rfl; (first | omega | exact ⟨by omega, by (first | with_reducible assumption | ((with_reducible apply actsF_ne); omega) | assumption)⟩))
    | (apply s_l TY; exact rfl; (first | exact rfl | with_reducible assumption | ((with_reducible apply actsF_f0); omega) | ((with_reducible apply actsF_f1); omega) | ((with_reducible apply actsF_f2); omega) | assumption)))
    exact ⟨k + 1, by omega, by omega, gh_le ⟨le_upd rfl trivial (le_upd rfl rfl (le_upd rfl trivial (le_nil _))), le_hupd hrow trivial (le_h0 _ _)⟩⟩
  · have hke : k = l.length := by omega
    subst hke
    have e : l.take l.length = l := List.take_length
    have HR : (.sl (l.take l.length).length (actsF (l.take l.length)) : FV) = .sl l.length (actsF l) := by rw [e]
    rw [← HR]
    repeat (first
    | (apply s_a TY; exact rfl)
    | (apply s_f; exact rfl; (first | assumption | omega))
    | apply w_seq
    | apply w_region
    | apply s_nil
    | apply t_norm
    | apply t_exit
    | apply k_hit
    | apply w_exit
    | apply w_ret
    | (apply w_condF; exact rfl; exact rfl))
    exact lv_ret (ret1 rfl (res_sees rfl (sees_row rfl)))
def shortB (l : List Act) : Prop := l.length ≤ 42 ∧ ∀ i (hi : i < l.length), l[i].name.length ≤ 20 ∧ l[i].cells.length ≤ 100
set_option maxRecDepth 100000 in
theorem shortActs_T (l : List Act) (h : shortB l) : Summ Tryz.prog GG 24 [.sl l.length (actsF l)] (.v (.bool true)) := by
  obtain ⟨hl, hb⟩ := h
  refine summW Tryz.func24 rfl rfl 29 rfl (by simp) (fun M0 => ?_)
  repeat (first
    | (apply s_a TY; exact rfl)
    | (apply s_f; exact rfl; (first | assumption | omega))
    | apply w_seq
    | apply w_region
    | apply s_nil
    | apply t_norm
    | apply w_block
    | apply w_skip
    | (apply w_condF; exact rfl; exact rfl))
  apply w_loop (fun k : Nat => ⟨(Ab.upd (Ab.upd (fun _ => .bot) 0 (.f (.sl l.length (actsF l)))) 3 (.f (iv ((k : Nat) : Int)))), (fun _ => none), 0⟩) (fun k => k ≤ l.length) (fun k => l.length - k) 0 (Nat.zero_le _) (gh_le ⟨le_upd rfl trivial (le_upd rfl trivial (le_nil _)), le_h0 _ _⟩)
  intro k hk
  by_cases hkl : k < l.length
  · obtain ⟨h1, h2⟩ := hb k hkl
    have hsz := strSz l[k].name
    repeat (first
    | (apply s_a TY; exact rfl)
    | (apply s_t; exact rfl; (first | assumption | omega))
    | (apply s_f; exact rfl; (first | assumption | omega))
    | apply w_seq
    | apply w_region
    | apply s_nil
    | apply t_norm
    | apply k_norm
    | apply w_block
    | apply w_skip
    | (apply w_condT; exact rfl; exact rfl)
    | (apply w_condF; exact rfl; exact rfl)
    | (apply s_c TY; exact rfl; (first | omega | exact ⟨by omega, by (first | with_reducible assumption | ((with_reducible apply actsF_ne); omega) | assumption)⟩))
    | (apply s_l TY; exact rfl; (first | exact rfl | with_reducible assumption | ((with_reducible apply actsF_f0); omega) | ((with_reducible apply actsF_f1); omega) | ((with_reducible apply actsF_f2); omega) | assumption)))
    exact ⟨k + 1, by omega, by omega, gh_le ⟨le_upd rfl trivial (le_upd rfl trivial (le_nil _)), le_h0 _ _⟩⟩
  · repeat (first
    | (apply s_a TY; exact rfl)
    | (apply s_f; exact rfl; (first | assumption | omega))
    | apply w_seq
    | apply w_region
    | apply s_nil
    | apply t_norm
    | apply t_exit
    | apply k_hit
    | apply w_exit
    | apply w_ret
    | (apply w_condF; exact rfl; exact rfl))
    exact lv_ret (ret1 rfl (res_tmp rfl))
set_option maxRecDepth 100000 in
theorem shortActs_F (l : List Act) (h : ¬ shortB l) : Summ Tryz.prog GG 24 [.sl l.length (actsF l)] (.v (.bool false)) := by
  by_cases hl : l.length ≤ 42
  case neg =>
    refine summW Tryz.func24 rfl rfl 29 rfl (by simp) (fun M0 => ?_)
    repeat (first
    | (apply s_a TY; exact rfl)
    | (apply s_t; exact rfl; (first | assumption | omega))
    | apply w_seq
    | apply w_region
    | apply s_nil
    | apply t_norm
    | apply t_ret
    | apply w_ret
    | (apply w_condT; exact rfl; exact rfl))
    exact lv_ret (ret1 rfl (res_tmp rfl))
  have hex : ∃ i, i < l.length ∧ ¬ ((l.getD i default).name.length ≤ 20 ∧ (l.getD i default).cells.length ≤ 100) := by
    refine Classical.byContradiction fun hn => h ⟨hl, fun i hi => ?_⟩
    have := Classical.byContradiction fun hc => hn ⟨i, hi, hc⟩
    rwa [getD_at hi] at this
  obtain ⟨q, ⟨hq, hbad⟩, hmin⟩ := exists_least hex
  rw [getD_at hq] at hbad
  refine summW Tryz.func24 rfl rfl 29 rfl (by simp) (fun M0 => ?_)
  repeat (first
    | (apply s_a TY; exact rfl)
    | (apply s_f; exact rfl; (first | assumption | omega))
    | apply w_seq
    | apply w_region
    | apply s_nil
    | apply t_norm
    | apply w_block
    | apply w_skip
    | (apply w_condF; exact rfl; exact rfl))
  apply w_loop (fun k : Nat => ⟨(Ab.upd (Ab.upd (fun _ => .bot) 0 (.f (.sl l.length (actsF l)))) 3 (.f (iv ((k : Nat) : Int)))), (fun _ => none), 0⟩) (fun k => k ≤ q) (fun k => q - k) 0 (Nat.zero_le _) (gh_le ⟨le_upd rfl trivial (le_upd rfl trivial (le_nil _)), le_h0 _ _⟩)
  intro k hk
  have hkl : k < l.length := by omega
  have hsz := strSz l[k].name
  by_cases e : k = q
  · subst e
    by_cases h20 : l[k].name.length ≤ 20
    · have h100 : ¬ l[k].cells.length ≤ 100 := fun h => hbad ⟨h20, h⟩
      repeat (first
    | (apply s_a TY; exact rfl)
    | (apply s_t; exact rfl; (first | assumption | omega))
    | (apply s_f; exact rfl; (first | assumption | omega))
    | apply w_seq
    | apply w_region
    | apply s_nil
    | apply t_norm
    | apply t_ret
    | apply k_ret
    | apply w_block
    | apply w_ret
    | apply w_skip
    | (apply w_condT; exact rfl; exact rfl)
    | (apply s_c TY; exact rfl; (first | omega | exact ⟨by omega, by (first | with_reducible assumption | ((with_reducible apply actsF_ne); omega) | assumption)⟩))
    | (apply s_l TY; exact rfl; (first | exact rfl | with_reducible assumption | ((with_reducible apply actsF_f0); omega) | ((with_reducible apply actsF_f1); omega) | ((with_reducible apply actsF_f2); omega) | assumption)))
      exact lv_ret (ret1 rfl (res_tmp rfl))
    · repeat (first
    | (apply s_a TY; exact rfl)
    | (apply s_t; exact rfl; (first | assumption | omega))
    | apply w_seq
    | apply w_region
    | apply s_nil
    | apply t_norm
    | apply t_ret
    | apply k_ret
    | apply w_block
    | apply w_ret
    | apply w_skip
    | (apply w_condT; exact rfl; exact rfl)
    | (apply s_s; exact rfl)
    | (apply s_c TY; exact rfl; (first | omega | exact ⟨by omega, by (first | with_reducible assumption | ((with_reducible apply actsF_ne); omega) | assumption)⟩))
    | (apply s_l TY; exact rfl; (first | exact rfl | with_reducible assumption | ((with_reducible apply actsF_f0); omega) | ((with_reducible apply actsF_f1); omega) | ((with_reducible apply actsF_f2); omega) | assumption)))
      exact lv_ret (ret1 rfl (res_tmp rfl))
  · have hgood : l[k].name.length ≤ 20 ∧ l[k].cells.length ≤ 100 := by
      refine Classical.byContradiction fun hc => ?_
      have := hmin k ⟨hkl, by rw [getD_at hkl]; exact hc⟩
      omega
    obtain ⟨g1, g2⟩ := hgood
    repeat (first
    | (apply s_a TY; exact rfl)
    | (apply s_t; exact rfl; (first | assumption | omega))
    | (apply s_f; exact rfl; (first | assumption | omega))
    | apply w_seq
    | apply w_region
    | apply s_nil
    | apply t_norm
    | apply k_norm
    | apply w_block
    | apply w_skip
    | (apply w_condT; exact rfl; exact rfl)
    | (apply w_condF; exact rfl; exact rfl)
    | (apply s_c TY; exact rfl; (first | omega | exact ⟨by omega, by (first | with_reducible assumption | ((with_reducible apply actsF_ne); omega) | assumption)⟩))
    | (apply s_l TY; exact rfl; (first | exact rfl | with_reducible assumption | ((with_reducible apply actsF_f0); omega) | ((with_reducible apply actsF_f1); omega) | ((with_reducible apply actsF_f2); omega) | assumption)))
    exact ⟨k + 1, by omega, by omega, gh_le ⟨le_upd rfl trivial (le_upd rfl trivial (le_nil _)), le_h0 _ _⟩⟩
end Go.Proofs.YtenkgipcblfocaaGreat
namespace Go.Proofs.YtenkgipcblfocaaGreat
open Go Go.RowKit Go.Proofs Go.Shelf Go.Ab
theorem hadK_at {l : List Act} {name who : Nm} {k : Nat} (h : k < l.length) : hadK l name who (k + 1) = if newV name l[k] ∧ who ∈ pplK l k then some (verK l name k + 1) else hadK l name who k := by
  rw [hadK, List.getElem?_eq_getElem h]
  by_cases hn : newV name l[k] = true ∧ who ∈ pplK l k
  · simp [hn]
  · simp only [hn, if_false]
def sentN (l : List Act) : Nat → List Nm
  | 0 => []
  | k + 1 => match l[k]? with
    | none => sentN l k
    | some a => if a.kind = 2 then sentN l k ++ [a.name] else sentN l k
theorem sentN_at {l : List Act} {k : Nat} (h : k < l.length) : sentN l (k + 1) = if l[k].kind = 2 then sentN l k ++ [l[k].name] else sentN l k := by rw [sentN, List.getElem?_eq_getElem h]
theorem stsK_map (l : List Act) : ∀ k, stsK l k = (sentN l k).map fun n => stA l n l.length
  | 0 => rfl
  | k + 1 => by
    have ih := stsK_map l k
    rw [stsK, sentN]
    cases l[k]? with
    | none => exact ih
    | some a =>
      simp only
      split
      · rw [ih, List.map_append]; rfl
      · exact ih
structure RunR (l : List Act) (k : Nat) (s : Lst) : Prop where
  ppl : s.1 = pplK l k
  nms : s.2.map (·.nm) = sentN l k
  nd : (s.2.map (·.nm)).Nodup
  alt : ∀ a, a ∈ s.2 → a.ver = verK l a.nm k ∧ a.cells = celK l a.nm k ∧ a.gone = wdrK l a.nm k ∧ (∀ n, a.had n = hadK l a.nm n k) ∧ 0 < a.ver
  ver : ∀ n, 0 < verK l n k → n ∈ s.2.map (·.nm)
  wdr : ∀ n, wdrK l n k = true → 0 < verK l n k
theorem run0 (l : List Act) : RunR l 0 ([], []) := ⟨rfl, rfl, List.nodup_nil, fun a h => (nomatch h), fun n h => absurd h (by show ¬ (0 : Int) < 0; omega), fun n h => (nomatch h)⟩
theorem idxN_iff {P : List Nm} {n : Nm} : 0 ≤ idxN P n ↔ n ∈ P := by
  unfold idxN
  rw [idxP_pos, anyS_has, List.contains_iff_mem]
theorem idxA_iff {al : List Alt} {n : Nm} : 0 ≤ idxA al n ↔ n ∈ al.map (·.nm) := by
  unfold idxA
  rw [idxP_pos, anyP_iff, List.mem_map]
  unfold nmA
  constructor
  · rintro ⟨i, hi, h⟩
    rw [getD_at hi, decide_eq_true_eq] at h
    exact ⟨al[i], List.getElem_mem hi, h⟩
  · rintro ⟨a, ha, h⟩
    obtain ⟨i, hi, rfl⟩ := List.getElem_of_mem ha
    exact ⟨i, hi, by rw [getD_at hi, decide_eq_true_eq]; exact h⟩
theorem altA_at {al : List Alt} {n : Nm} (h : 0 ≤ idxA al n) : ∃ i, ∃ hi : i < al.length, (idxA al n).toNat = i ∧ altA al n = al[i] ∧ al[i].nm = n := by
  rcases idxP_cases al.length (nmA al n) with ⟨e, _⟩ | ⟨k, hk, _, hp, e⟩
  · unfold idxA at h; omega
  · have hi : (idxA al n).toNat = k := by unfold idxA; rw [e, Int.toNat_natCast]
    refine ⟨k, hk, hi, by unfold altA; rw [hi, getD_at hk], ?_⟩
    unfold nmA at hp
    rwa [getD_at hk, decide_eq_true_eq] at hp
theorem pplDel_filter {P : List Nm} {n : Nm} (hd : P.Nodup) (h : 0 ≤ idxN P n) : pplDel P (idxN P n).toNat = P.filter fun y => !decide (y = n) := by
  rcases idxP_cases P.length (hasS P n) with ⟨e, _⟩ | ⟨k, hk, _, hp, e⟩
  · unfold idxN at h; omega
  · have hi : (idxN P n).toNat = k := by unfold idxN; rw [e, Int.toNat_natCast]
    unfold hasS at hp
    rw [getD_at hk, decide_eq_true_eq] at hp
    rw [hi]
    have hsp : P = P.take k ++ P[k] :: P.drop (k + 1) := by rw [← List.drop_eq_getElem_cons hk, List.take_append_drop]
    have hd2 := hd
    rw [hsp, List.nodup_append] at hd2
    obtain ⟨d1, d2, d3⟩ := hd2
    have f1 : (P.take k).filter (fun y => !decide (y = n)) = P.take k := List.filter_eq_self.2 fun y hy => by
      have : y ≠ n := fun e => d3 y hy P[k] (List.mem_cons_self ..) (e.trans hp.symm)
      simp [this]
    have f2 : (P.drop (k + 1)).filter (fun y => !decide (y = n)) = P.drop (k + 1) := List.filter_eq_self.2 fun y hy => by
      have : y ≠ n := fun e => (List.nodup_cons.1 d2).1 (by rw [hp, ← e]; exact hy)
      simp [this]
    unfold pplDel
    conv => rhs; rw [hsp]
    rw [List.filter_append, List.filter_cons_of_neg (by simp [hp]), f1, f2]
theorem map_set_nm {al : List Alt} {i : Nat} {b : Alt} (hi : i < al.length) (h : b.nm = al[i].nm) : (al.set i b).map (·.nm) = al.map (·.nm) := by
  rw [List.map_set, h]
  have : al[i].nm = (al.map (·.nm))[i]'(by rw [List.length_map]; exact hi) := by rw [List.getElem_map]
  rw [this]
  exact List.set_getElem_self ..
theorem mem_set_nm {al : List Alt} {i : Nat} {b a : Alt} (hi : i < al.length) (hd : (al.map (·.nm)).Nodup) (h : a ∈ al.set i b) : a = b ∨ (a ∈ al ∧ a.nm ≠ al[i].nm) := by
  obtain ⟨j, hj, rfl⟩ := List.getElem_of_mem h
  rw [List.length_set] at hj
  by_cases e : i = j
  · subst e; exact .inl (List.getElem_set_self ..)
  · right
    rw [List.getElem_set_ne e]
    refine ⟨List.getElem_mem _, fun h2 => e ?_⟩
    have h3 : (al.map (·.nm))[j]'(by rw [List.length_map]; exact hj) = (al.map (·.nm))[i]'(by rw [List.length_map]; exact hi) := by rw [List.getElem_map, List.getElem_map]; exact h2
    exact ((List.getElem_inj hd).1 h3).symm
theorem newV_no {n : Nm} {x : Act} (h : ¬ (x.name = n ∧ (x.kind = 2 ∨ x.kind = 3))) : ¬ newV n x = true := fun e => h (newV_iff.1 e)
theorem same_step {l : List Act} {k : Nat} (hk : k < l.length) {n : Nm} (h : ¬ (l[k].name = n ∧ 2 ≤ l[k].kind)) : verK l n (k + 1) = verK l n k ∧ celK l n (k + 1) = celK l n k ∧ wdrK l n (k + 1) = wdrK l n k ∧ ∀ w, hadK l n w (k + 1) = hadK l n w k := by
  have h1 := newV_no (n := n) (x := l[k]) (fun e => h ⟨e.1, by have := e.2; omega⟩)
  exact ⟨by rw [verK_at hk, if_neg h1], by rw [celK_at hk, if_neg h1], by rw [wdrK_at hk, if_neg (fun e => h ⟨e.1, by omega⟩)], fun w => by rw [hadK_at hk, if_neg (fun e => h1 e.1)]⟩
theorem new_step {l : List Act} {k : Nat} (hk : k < l.length) (h : l[k].kind = 2 ∨ l[k].kind = 3) : verK l l[k].name (k + 1) = verK l l[k].name k + 1 ∧ celK l l[k].name (k + 1) = l[k].cells ∧ wdrK l l[k].name (k + 1) = wdrK l l[k].name k ∧ ∀ w, hadK l l[k].name w (k + 1) = if w ∈ pplK l k then some (verK l l[k].name k + 1) else hadK l l[k].name w k := by
  have h1 : newV l[k].name l[k] = true := newV_iff.2 ⟨rfl, h⟩
  refine ⟨by rw [verK_at hk, if_pos h1], by rw [celK_at hk, if_pos h1], by rw [wdrK_at hk, if_neg (fun e => by omega)], fun w => ?_⟩
  rw [hadK_at hk]
  by_cases hw : w ∈ pplK l k
  · rw [if_pos ⟨h1, hw⟩, if_pos hw]
  · rw [if_neg (fun e => hw e.2), if_neg hw]
theorem wd_step {l : List Act} {k : Nat} (hk : k < l.length) (h : l[k].kind = 4) : verK l l[k].name (k + 1) = verK l l[k].name k ∧ celK l l[k].name (k + 1) = celK l l[k].name k ∧ wdrK l l[k].name (k + 1) = true ∧ ∀ w, hadK l l[k].name w (k + 1) = hadK l l[k].name w k := by
  have h1 := newV_no (n := l[k].name) (x := l[k]) (fun e => by have := e.2; omega)
  exact ⟨by rw [verK_at hk, if_neg h1], by rw [celK_at hk, if_neg h1], by rw [wdrK_at hk, if_pos ⟨rfl, h⟩], fun w => by rw [hadK_at hk, if_neg (fun e => h1 e.1)]⟩
theorem had_none {l : List Act} {n w : Nm} {k : Nat} (h : ¬ 0 < verK l n k) : hadK l n w k = none := by
  cases hh : hadK l n w k with
  | none => rfl
  | some v => have := hadK_bd l n w k v hh; omega
theorem wd_mono {l : List Act} {n : Nm} {k : Nat} (hk : k < l.length) (h : ¬ (l[k].name = n ∧ l[k].kind = 4)) (hw : wdrK l n (k + 1) = true) : wdrK l n k = true := by rwa [wdrK_at hk, if_neg h] at hw
theorem ver_mono {l : List Act} {n : Nm} {k : Nat} (hk : k < l.length) : verK l n k ≤ verK l n (k + 1) := by rw [verK_at hk]; split <;> omega
set_option maxHeartbeats 1600000 in
theorem run_step {l : List Act} {k m : Nat} {s : Lst} {c : Int} (hk : k < l.length) (r : RunR l k s) (inv : Inv m s) (h : stpE c s l[k] = 0) : RunR l (k + 1) (stpS s l[k]) := by
  obtain ⟨ppl, al⟩ := s
  obtain ⟨hc, hr⟩ := stpE_0 h
  have r1 := r.ppl; have r2 := r.nms; have r3 := r.nd; have r4 := r.alt; have r5 := r.ver; have r6 := r.wdr
  have i3 := inv.nd
  simp only at hr r1 r2 r3 r4 r5 i3
  have hvm : ∀ n, verK l n k ≤ verK l n (k + 1) := fun n => ver_mono hk
  rcases hr with ⟨h0, hi, h8⟩ | ⟨h0, hi⟩ | ⟨h0, hi⟩ | ⟨h0, hi, hg⟩
  · have hst : stpS (ppl, al) l[k] = (ppl ++ [l[k].name], al) := by unfold stpS; rw [if_pos h0]
    rw [hst]
    have hs : ∀ n, ¬ (l[k].name = n ∧ 2 ≤ l[k].kind) := fun n e => by omega
    refine ⟨by rw [pplK_at hk, if_pos h0, r1], by rw [sentN_at hk, if_neg (by omega)]; exact r2, r3, fun a ha => ?_, fun n hn => ?_, fun n hn => ?_⟩
    · obtain ⟨e1, e2, e3, e4⟩ := same_step hk (hs a.nm)
      obtain ⟨q1, q2, q3, q4, q5⟩ := r4 a ha
      exact ⟨q1.trans e1.symm, q2.trans e2.symm, q3.trans e3.symm, fun n => (q4 n).trans (e4 n).symm, q5⟩
    · rw [(same_step hk (hs n)).1] at hn; exact r5 n hn
    · obtain ⟨e1, _, e3, _⟩ := same_step hk (hs n)
      rw [e1]; rw [e3] at hn; exact r6 n hn
  · have hst : stpS (ppl, al) l[k] = (pplDel ppl (idxN ppl l[k].name).toNat, al) := by unfold stpS; rw [if_neg (by omega), if_pos h0]
    rw [hst]
    have hs : ∀ n, ¬ (l[k].name = n ∧ 2 ≤ l[k].kind) := fun n e => by omega
    refine ⟨by rw [pplK_at hk, if_neg (by omega), if_pos h0, ← r1]; exact pplDel_filter i3 hi, by rw [sentN_at hk, if_neg (by omega)]; exact r2, r3, fun a ha => ?_, fun n hn => ?_, fun n hn => ?_⟩
    · obtain ⟨e1, e2, e3, e4⟩ := same_step hk (hs a.nm)
      obtain ⟨q1, q2, q3, q4, q5⟩ := r4 a ha
      exact ⟨q1.trans e1.symm, q2.trans e2.symm, q3.trans e3.symm, fun n => (q4 n).trans (e4 n).symm, q5⟩
    · rw [(same_step hk (hs n)).1] at hn; exact r5 n hn
    · obtain ⟨e1, _, e3, _⟩ := same_step hk (hs n)
      rw [e1]; rw [e3] at hn; exact r6 n hn
  · have hst : stpS (ppl, al) l[k] = (ppl, al ++ [sent (newA l[k].name) l[k].cells ppl]) := by unfold stpS; rw [if_neg (by omega), if_neg (by omega), if_pos h0]
    rw [hst]
    have hnm : l[k].name ∉ al.map (·.nm) := fun e => by have := idxA_iff.2 e; omega
    have hv0 : ¬ 0 < verK l l[k].name k := fun e => hnm (r5 _ e)
    have hvn := (verK_nn l l[k].name k).1
    have hw0 : wdrK l l[k].name k = false := Bool.eq_false_iff.2 fun e => hv0 (r6 _ e)
    obtain ⟨n1, n2, n3, n4⟩ := new_step hk (.inl h0)
    refine ⟨by rw [pplK_at hk, if_neg (by omega), if_neg (by omega)]; exact r1, ?_, ?_, fun a ha => ?_, fun n hn => ?_, fun n hn => ?_⟩
    · rw [sentN_at hk, if_pos h0, ← r2, List.map_append]; rfl
    · rw [List.map_append, List.nodup_append]
      refine ⟨r3, by simp, fun x hx y hy e => ?_⟩
      simp only [List.map_cons, List.map_nil, List.mem_singleton] at hy
      subst e; rw [hy] at hx; exact hnm hx
    · rcases List.mem_append.1 ha with ha | ha
      · have hne : l[k].name ≠ a.nm := fun e => hnm (by rw [e]; exact List.mem_map_of_mem ha)
        obtain ⟨e1, e2, e3, e4⟩ := same_step hk (n := a.nm) (fun e => hne e.1)
        obtain ⟨q1, q2, q3, q4, q5⟩ := r4 a ha
        exact ⟨q1.trans e1.symm, q2.trans e2.symm, q3.trans e3.symm, fun n => (q4 n).trans (e4 n).symm, q5⟩
      · rw [List.mem_singleton.1 ha]
        refine ⟨?_, n2.symm, (n3.trans hw0).symm, fun w => ?_, by show (0 : Int) < 0 + 1; omega⟩
        · show (0 : Int) + 1 = verK l l[k].name (k + 1)
          rw [n1]; omega
        · show updAll (fun _ => none) ppl (0 + 1) w = hadK l l[k].name w (k + 1)
          rw [n4 w, had_none hv0, ← r1, show verK l l[k].name k = 0 by omega]; rfl
    · rw [List.map_append, List.mem_append]
      by_cases e : l[k].name = n
      · exact .inr (by simp only [List.map_cons, List.map_nil, List.mem_singleton]; exact e.symm)
      · rw [(same_step hk (fun h => e h.1)).1] at hn
        exact .inl (r5 n hn)
    · have := r6 n (wd_mono hk (fun e => by omega) hn)
      have := hvm n
      omega
  · obtain ⟨i, hi2, hix, hax, hnm⟩ := altA_at hi
    have hal := List.getElem_mem hi2
    obtain ⟨q1, q2, q3, q4, q5⟩ := r4 al[i] hal
    rw [hnm] at q1 q2 q3 q4
    rcases h0 with h0 | h0
    · have hst : stpS (ppl, al) l[k] = (ppl, al.set i (sent al[i] l[k].cells ppl)) := by
        unfold stpS
        rw [if_neg (by omega), if_neg (by omega), if_neg (by omega), if_pos h0]
        simp only
        rw [hix, hax]
      rw [hst]
      obtain ⟨n1, n2, n3, n4⟩ := new_step hk (.inr h0)
      have hmp := map_set_nm (b := sent al[i] l[k].cells ppl) hi2 rfl
      refine ⟨by rw [pplK_at hk, if_neg (by omega), if_neg (by omega)]; exact r1, by rw [sentN_at hk, if_neg (by omega)]; exact hmp.trans r2, by show ((al.set i _).map _).Nodup; rw [hmp]; exact r3, fun a ha => ?_, fun n hn => ?_, fun n hn => ?_⟩
      · rcases mem_set_nm hi2 r3 ha with rfl | ⟨ha, hne⟩
        · have e0 : (sent al[i] l[k].cells ppl).nm = l[k].name := hnm
          rw [e0]
          refine ⟨?_, n2.symm, ?_, fun w => ?_, ?_⟩
          · show al[i].ver + 1 = _; rw [n1, q1]
          · show al[i].gone = _; rw [n3]; exact q3
          · show updAll al[i].had ppl (al[i].ver + 1) w = _
            rw [n4 w, ← r1, q1]
            unfold updAll
            by_cases hw : w ∈ ppl
            · rw [if_pos hw, if_pos hw]
            · rw [if_neg hw, if_neg hw]; exact q4 w
          · show 0 < al[i].ver + 1; omega
        · obtain ⟨e1, e2, e3, e4⟩ := same_step hk (n := a.nm) (fun e => hne (by rw [hnm]; exact e.1.symm))
          obtain ⟨q1, q2, q3, q4, q5⟩ := r4 a ha
          exact ⟨q1.trans e1.symm, q2.trans e2.symm, q3.trans e3.symm, fun n => (q4 n).trans (e4 n).symm, q5⟩
      · show n ∈ (al.set i _).map _
        rw [hmp]
        by_cases e : l[k].name = n
        · rw [← e, ← hnm]; exact List.mem_map_of_mem hal
        · rw [(same_step hk (fun h => e h.1)).1] at hn
          exact r5 n hn
      · have := r6 n (wd_mono hk (fun e => by omega) hn)
        have := hvm n
        omega
    · have hst : stpS (ppl, al) l[k] = (ppl, al.set i (goneA al[i])) := by
        unfold stpS
        rw [if_neg (by omega), if_neg (by omega), if_neg (by omega), if_neg (by omega)]
        simp only
        rw [hix, hax]
      rw [hst]
      obtain ⟨n1, n2, n3, n4⟩ := wd_step hk h0
      have hmp := map_set_nm (b := goneA al[i]) hi2 rfl
      refine ⟨by rw [pplK_at hk, if_neg (by omega), if_neg (by omega)]; exact r1, by rw [sentN_at hk, if_neg (by omega)]; exact hmp.trans r2, by show ((al.set i _).map _).Nodup; rw [hmp]; exact r3, fun a ha => ?_, fun n hn => ?_, fun n hn => ?_⟩
      · rcases mem_set_nm hi2 r3 ha with rfl | ⟨ha, hne⟩
        · have e0 : (goneA al[i]).nm = l[k].name := hnm
          rw [e0]
          refine ⟨?_, ?_, n3.symm, fun w => ?_, q5⟩
          · show al[i].ver = _; rw [n1, q1]
          · show al[i].cells = _; rw [n2, q2]
          · show al[i].had w = _; rw [n4 w]; exact q4 w
        · obtain ⟨e1, e2, e3, e4⟩ := same_step hk (n := a.nm) (fun e => hne (by rw [hnm]; exact e.1.symm))
          obtain ⟨q1, q2, q3, q4, q5⟩ := r4 a ha
          exact ⟨q1.trans e1.symm, q2.trans e2.symm, q3.trans e3.symm, fun n => (q4 n).trans (e4 n).symm, q5⟩
      · show n ∈ (al.set i _).map _
        rw [hmp]
        by_cases e : l[k].name = n
        · rw [← e, ← hnm]; exact List.mem_map_of_mem hal
        · rw [(same_step hk (fun h => e h.1)).1] at hn
          exact r5 n hn
      · by_cases e : l[k].name = n
        · rw [← e, n1, ← q1]; exact q5
        · rw [(same_step hk (n := n) (fun h => e h.1)).1]
          exact r6 n (wd_mono hk (fun h => e h.1) hn)
theorem run_all {c : Int} {l : List Act} : ∀ {k : Nat}, k ≤ l.length → (∀ i, i < k → runE c l i = 0) → RunR l k (runS l k)
  | 0, _, _ => run0 l
  | k + 1, hk, h => by
    have hkl : k < l.length := by omega
    have hE := h k (by omega)
    unfold runE at hE
    rw [getD_at hkl] at hE
    rw [runS, getD_at hkl]
    exact run_step hkl (run_all (by omega) fun i hi => h i (by omega)) (inv_run fun i hi => h i (by omega)) hE
theorem sortedN_nd {L : List Nm} (h : L.Nodup) : (sortedN ltS L).length = L.length := by
  have h1 := sortedN_len L
  have h2 := sub_len h (o := sortedN ltS L) fun x hx => ((sortedN_spec ltSOk L).2 x).2 hx
  omega
theorem stp_ref {c : Int} {l : List Act} {k m : Nat} {s : Lst} (r : RunR l k s) (inv : Inv m s) (x : Act) : stpE c s x = refE c l k x := by
  obtain ⟨ppl, al⟩ := s
  have r1 := r.ppl; have r3 := r.nd; have r4 := r.alt; have r5 := r.ver
  have i2 := inv.pl; have i3 := inv.nd
  simp only at r1 r3 r4 r5 i2 i3
  unfold stpE refE
  by_cases hc : chkE c x ≠ 0
  · rw [if_pos hc, if_pos hc]
  rw [if_neg hc, if_neg hc]
  have hk := (chkE_0 (show chkE c x = 0 by simpa using hc)).1
  have hmem : ∀ n, n ∈ sortedN ltS (pplK l k) ↔ 0 ≤ idxN ppl n := fun n => by rw [(sortedN_spec ltSOk _).2, ← r1, idxN_iff]
  have hln : (sortedN ltS (pplK l k)).length = ppl.length := by rw [← r1]; exact sortedN_nd i3
  have hver : ∀ n, 0 < verK l n k ↔ 0 ≤ idxA al n := fun n => by
    rw [idxA_iff]
    refine ⟨r5 n, fun h => ?_⟩
    obtain ⟨a, ha, rfl⟩ := List.mem_map.1 h
    obtain ⟨q1, _, _, _, q5⟩ := r4 a ha
    rw [← q1]; exact q5
  simp only [hmem, hver, hln]
  by_cases h0 : x.kind = 0
  · by_cases hi : 0 ≤ idxN ppl x.name
    · rw [if_pos h0, if_pos hi, if_pos (.inl ⟨h0, hi⟩)]
    · have hA : ¬ ((x.kind = 0 ∧ 0 ≤ idxN ppl x.name) ∨ (x.kind = 2 ∧ 0 ≤ idxA al x.name)) := by omega
      by_cases h8 : ppl.length < 8
      · have hB : ¬ (x.kind = 0 ∧ ppl.length = 8) := by omega
        have hC : ¬ ((x.kind = 1 ∧ ¬ 0 ≤ idxN ppl x.name) ∨ (3 ≤ x.kind ∧ ¬ 0 ≤ idxA al x.name)) := by omega
        have hD : ¬ (3 ≤ x.kind ∧ wdrK l x.name k = true) := fun h => by omega
        rw [if_pos h0, if_neg hi, if_pos h8, if_neg hA, if_neg hB, if_neg hC, if_neg hD]
      · rw [if_pos h0, if_neg hi, if_neg h8, if_neg hA, if_pos ⟨h0, by omega⟩]
  have hB : ¬ (x.kind = 0 ∧ ppl.length = 8) := by omega
  by_cases h1 : x.kind = 1
  · have hA : ¬ ((x.kind = 0 ∧ 0 ≤ idxN ppl x.name) ∨ (x.kind = 2 ∧ 0 ≤ idxA al x.name)) := by omega
    by_cases hi : idxN ppl x.name < 0
    · rw [if_neg h0, if_pos h1, if_pos hi, if_neg hA, if_neg hB, if_pos (.inl ⟨h1, by omega⟩)]
    · have hC : ¬ ((x.kind = 1 ∧ ¬ 0 ≤ idxN ppl x.name) ∨ (3 ≤ x.kind ∧ ¬ 0 ≤ idxA al x.name)) := by omega
      have hD : ¬ (3 ≤ x.kind ∧ wdrK l x.name k = true) := fun h => by omega
      rw [if_neg h0, if_pos h1, if_neg hi, if_neg hA, if_neg hB, if_neg hC, if_neg hD]
  by_cases h2 : x.kind = 2
  · by_cases hi : 0 ≤ idxA al x.name
    · rw [if_neg h0, if_neg h1, if_pos h2, if_pos hi, if_pos (.inr ⟨h2, hi⟩)]
    · have hA : ¬ ((x.kind = 0 ∧ 0 ≤ idxN ppl x.name) ∨ (x.kind = 2 ∧ 0 ≤ idxA al x.name)) := by omega
      have hC : ¬ ((x.kind = 1 ∧ ¬ 0 ≤ idxN ppl x.name) ∨ (3 ≤ x.kind ∧ ¬ 0 ≤ idxA al x.name)) := by omega
      have hD : ¬ (3 ≤ x.kind ∧ wdrK l x.name k = true) := fun h => by omega
      rw [if_neg h0, if_neg h1, if_pos h2, if_neg hi, if_neg hA, if_neg hB, if_neg hC, if_neg hD]
  have hA : ¬ ((x.kind = 0 ∧ 0 ≤ idxN ppl x.name) ∨ (x.kind = 2 ∧ 0 ≤ idxA al x.name)) := by omega
  by_cases hi : idxA al x.name < 0
  · rw [if_neg h0, if_neg h1, if_neg h2, if_pos hi, if_neg hA, if_neg hB, if_pos (.inr ⟨by omega, by omega⟩)]
  have hC : ¬ ((x.kind = 1 ∧ ¬ 0 ≤ idxN ppl x.name) ∨ (3 ≤ x.kind ∧ ¬ 0 ≤ idxA al x.name)) := by omega
  obtain ⟨i, hi2, hix, hax, hnm⟩ := altA_at (al := al) (n := x.name) (by omega)
  obtain ⟨_, _, q3, _, _⟩ := r4 al[i] (List.getElem_mem hi2)
  rw [hnm] at q3
  rw [if_neg h0, if_neg h1, if_neg h2, if_neg hi, if_neg hA, if_neg hB, if_neg hC, hax, q3]
  by_cases hw : wdrK l x.name k = true
  · rw [if_pos hw, if_pos ⟨by omega, hw⟩]
  · rw [if_neg hw, if_neg (fun h => hw h.2)]
theorem chk_ref {c : Int} {l : List Act} (h40 : ¬ 40 < l.length) : ((∀ i, i < l.length → runE c l i = 0) ∧ actsChk c l = (0, 0)) ∨ ∃ q, q < l.length ∧ (∀ i, i < q → runE c l i = 0) ∧ runE c l q ≠ 0 ∧ actsChk c l = (q, runE c l q) := by
  have hac : actsChk c l = eachE l.length fun i => refE c l i (l.getD i default) := if_neg h40
  have hre : ∀ q, q ≤ l.length → (∀ i, i < q → runE c l i = 0) → runE c l q = refE c l q (l.getD q default) := fun q hq h => stp_ref (run_all hq h) (inv_run h) _
  have hall : ∀ q, q ≤ l.length → (∀ i, i < q → refE c l i (l.getD i default) = 0) → ∀ i, i < q → runE c l i = 0 := fun q => by
    induction q with
    | zero => exact fun _ _ i h => absurd h (Nat.not_lt_zero i)
    | succ q ih =>
      intro hq h i hi
      have ih' := ih (by omega) fun i hi => h i (by omega)
      by_cases e : i = q
      · subst e; rw [hre i (by omega) ih']; exact h i (by omega)
      · exact ih' i (by omega)
  rcases eachE_cases l.length (fun i => refE c l i (l.getD i default)) with ⟨e, hz⟩ | ⟨q, hq, hz, hne, e⟩
  · exact .inl ⟨hall l.length (Nat.le_refl _) hz, hac.trans e⟩
  · have h1 := hall q (by omega) hz
    have h2 := hre q (by omega) h1
    exact .inr ⟨q, hq, h1, by rw [h2]; exact hne, by rw [hac, e, h2]⟩
theorem runW_ix {l : List Act} : ∀ {n k : Nat} (h : k < n), (runW l n)[k]'(by rw [runW_len]; exact h) = stpW (runS l k) (l.getD k default)
  | n + 1, k, h => by
    simp only [runW]
    by_cases e : k < n
    · rw [List.getElem_append_left (by rw [runW_len]; exact e)]
      exact runW_ix e
    · have hk : k = n := by omega
      subst hk
      rw [List.getElem_append_right (by rw [runW_len]; exact Nat.le_refl _)]
      simp [runW_len]
theorem told_ref {c : Int} {l : List Act} {k : Nat} (hk : k < l.length) (h : ∀ i, i < l.length → runE c l i = 0) (h2 : 2 ≤ l[k].kind) : stpW (runS l k) l[k] = toldS ltS l k := by
  have r := run_all (c := c) (l := l) (k := k) (by omega) fun i hi => h i (by omega)
  have inv := inv_run (c := c) (l := l) (k := k) fun i hi => h i (by omega)
  have hE := h k hk
  unfold runE at hE
  rw [getD_at hk] at hE
  obtain ⟨hc, hr⟩ := stpE_0 hE
  have hkd := (chkE_0 hc).1
  rw [toldS_at hk]
  unfold stpW
  by_cases h4 : l[k].kind = 4
  · rw [if_neg (by omega), if_pos h4, if_pos h4]
    rcases hr with ⟨h0, _⟩ | ⟨h0, _⟩ | ⟨h0, _⟩ | ⟨_, hi, _⟩
    · omega
    · omega
    · omega
    obtain ⟨i, hi2, hix, hax, hnm⟩ := altA_at hi
    rw [hax]
    obtain ⟨_, _, _, q4, _⟩ := r.alt _ (List.getElem_mem hi2)
    obtain ⟨hks, _, _⟩ := inv.kys _ (List.getElem_mem hi2)
    refine hadS_eq ltSOk (ascN_asc hks.nd) fun w => ?_
    rw [ascN_mem, hks.mem, q4 w, hnm]
  · rw [if_pos (by omega), if_neg h4, ← r.ppl]
    exact ascN_sorted inv.nd
def altS (a : Alt) : Ast := ⟨a.nm, a.ver, a.cells, a.gone, ascN a.kys⟩
theorem states_ref {c : Int} {l : List Act} (h : ∀ i, i < l.length → runE c l i = 0) : (runS l l.length).2.map altS = stsK l l.length := by
  have r := run_all (c := c) (l := l) (k := l.length) (Nat.le_refl _) fun i hi => h i hi
  have inv := inv_run (c := c) (l := l) (k := l.length) fun i hi => h i hi
  rw [stsK_map, ← r.nms, List.map_map]
  refine List.map_congr_left fun a ha => ?_
  obtain ⟨q1, q2, q3, q4, _⟩ := r.alt a ha
  obtain ⟨hks, _, _⟩ := inv.kys a ha
  have e : ascN a.kys = hadS ltS l a.nm l.length := hadS_eq ltSOk (ascN_asc hks.nd) fun w => by rw [ascN_mem, hks.mem, q4 w]
  show altS a = stA l a.nm l.length
  unfold altS stA
  rw [q1, q2, q3, e]
end Go.Proofs.YtenkgipcblfocaaGreat
namespace Go.Proofs.YtenkgipcblfocaaGreat
open Go Go.RowKit Go.Proofs Go.Shelf Go.Ab
end Go.Proofs.YtenkgipcblfocaaGreat
namespace Go.Proofs.YtenkgipcblfocaaGreat
open Go Go.RowKit Go.Proofs Go.Shelf Go.Ab
set_option maxRecDepth 100000 in
theorem findF_at (cs : List Cel) (s : Lst) (n : Nm) (hl : s.2.length ≤ 1000000) (k : Nat) (hk : k < s.2.length) (hz : ∀ i, i < k → nmA s.2 n i = false) (hm : nmA s.2 n k = true) : Summ Tryz.prog GG 103 [.pt (lsC cs s) 0, sv n] (.pt (altC s.2[k]) 0) := by
  have HI := idxAlt_s s.2 n hl
  rw [idxP_at hk hz hm] at HI
  have hat : (altsF s.2)[k * 1]? = some (.pt (altC s.2[k]) 0) := altsF_at hk
  have hne : altsF s.2 ≠ [] := altsF_ne hk
  refine summW Tryz.func103 rfl rfl 21 rfl (by simp) (fun M0 => ?_)
  repeat (first
    | (apply s_nilCheckF; exact rfl; exact rfl; exact rfl)
    | (apply s_makefn; exact rfl; exact rfl)
    | (apply s_a TY; exact rfl)
    | (apply s_f; exact rfl; (first | assumption | omega))
    | apply w_seq
    | apply w_region
    | apply s_nil
    | apply t_norm
    | apply w_ret
    | apply w_skip
    | (apply w_condF; exact rfl; exact rfl)
    | (apply s_k (HI); exact rfl)
    | (apply s_c TY; exact rfl; (first | omega | exact ⟨by omega, by (first | with_reducible assumption | ((with_reducible apply altsF_ne); omega) | assumption)⟩))
    | (apply s_l TY; exact rfl; (first | exact rfl | with_reducible assumption | ((with_reducible apply altsF_at); omega) | assumption)))
  exact lv_ret (ret1 rfl (res_tmp rfl))
theorem rep_tupIB (z : Int) (b : Bool) (w : World) (M : Nat → Prop) : RepF w M (.tuple #[.int .i64 z, .bool b]) (.tup [iv z, bv b]) := by
  refine RepF.tup _ [.int .i64 z, .bool b] rfl (fun k u x h1 h2 => ?_)
  match k with
  | 0 => simp at h1 h2; subst h1; subst h2; exact RepF.v _
  | 1 => simp at h1 h2; subst h1; subst h2; exact RepF.v _
  | k + 2 => simp at h1
set_option maxRecDepth 100000 in
theorem KnownBy_ok (rs : List Int) (l : List Act) (cs : List Cel) (s : Lst) (b : FV) (i : Int) (who name : Nm) (a : Alt) (H : Summ Tryz.prog GG 102 [skF rs, .sl l.length (actsF l)] (.tup [.pt (lsC cs s) 0, b, iv i, iv 0])) (HF : Summ Tryz.prog GG 103 [.pt (lsC cs s) 0, sv name] (.pt (altC a) 0)) : Summ Tryz.prog GG 25 [skF rs, .sl l.length (actsF l), sv who, sv name] (.tup [iv ((a.had who).getD 0), bv ((a.had who).isSome && a.gone), iv 0]) := by
  cases hh : (a.had who).isSome with
  | true =>
    have hM : ∀ ob r w, mpG a.had ob → w.heap[r]? = some ob → (Instr.lookup 168 (.map (some r)) (encS who) true).run Tryz.prog w = .ok (.tuple #[.int .i64 ((a.had who).getD 0), .bool true]) w := fun ob r w h1 h2 => by
      have := mp_look (f := a.had) (c := who) ob r w h1 h2
      rwa [hh] at this
    refine summW Tryz.func25 rfl rfl 52 rfl (by simp) (fun M0 => ?_)
    repeat (first
    | (apply s_ptrEqF (by first | exact rfl | kernel_rfl); exact rfl; exact rfl; exact rfl)
    | (apply s_nilCheckF; exact rfl; exact rfl; exact rfl)
    | (apply s_assign_f; exact rfl; exact rfl)
    | (apply s_lookupF hM; exact rfl; exact rfl; exact rfl; exact rfl; exact rfl; exact rep_tupIB _ _)
    | (apply s_a TY; exact rfl)
    | (apply s_t; exact rfl; (first | assumption | omega))
    | apply w_seq
    | apply w_region
    | (apply w_draw (id := 8) 10 rfl (by kernel_rfl))
    | apply s_nil
    | apply t_norm
    | apply w_ret
    | apply w_skip
    | (apply w_condF; exact rfl; exact rfl)
    | (apply s_k (H); exact rfl)
    | (apply s_k (HF); exact rfl))
    exact lv_ret (ret3 rfl (res_tmp rfl) (res_tmp rfl) (res_tmp rfl))
  | false =>
    have hM : ∀ ob r w, mpG a.had ob → w.heap[r]? = some ob → (Instr.lookup 168 (.map (some r)) (encS who) true).run Tryz.prog w = .ok (.tuple #[.int .i64 ((a.had who).getD 0), .bool false]) w := fun ob r w h1 h2 => by
      have := mp_look (f := a.had) (c := who) ob r w h1 h2
      rwa [hh] at this
    refine summW Tryz.func25 rfl rfl 52 rfl (by simp) (fun M0 => ?_)
    repeat (first
    | (apply s_ptrEqF (by first | exact rfl | kernel_rfl); exact rfl; exact rfl; exact rfl)
    | (apply s_nilCheckF; exact rfl; exact rfl; exact rfl)
    | (apply s_assign_f; exact rfl; exact rfl)
    | (apply s_lookupF hM; exact rfl; exact rfl; exact rfl; exact rfl; exact rfl; exact rep_tupIB _ _)
    | (apply s_a TY; exact rfl)
    | (apply s_t; exact rfl; (first | assumption | omega))
    | apply w_seq
    | apply w_region
    | (apply w_draw (id := 8) 10 rfl (by kernel_rfl))
    | apply s_nil
    | apply t_norm
    | apply w_ret
    | apply w_skip
    | (apply w_condF; exact rfl; exact rfl)
    | (apply s_k (H); exact rfl)
    | (apply s_k (HF); exact rfl)
    | (apply s_s; exact rfl))
    exact lv_ret (ret3 rfl (res_tmp rfl) (res_tmp rfl) (res_tmp rfl))
set_option maxRecDepth 100000 in
theorem keysF_g (f : Nm → Option Int) : SummG Tryz.prog GG 106 [] [.f (.mp (mpG f))] (.fb 158 [.bx 0 0]) [.box [.f (.mp (mpG f))]] := by
  refine summG_of Tryz.func106 rfl rfl 4 rfl (by simp) (by simp) (fun i B B' h1 h2 => by simp at h1) (fun M X J => ?_)
  repeat (first
    | (apply s_boxA; exact rfl; exact rfl; exact rfl; exact rfl)
    | (apply s_a TY; exact rfl)
    | (apply s_makefbC; exact rfl; exact rfl; exact rfl)
    | apply w_seq
    | apply w_region
    | apply s_nil
    | apply t_norm
    | apply w_ret)
  refine lvG_ret (s := Ab.upd (fun _ => .bot) 2 (.fb 158 [.bx 0 0])) (nx := 1) (L' := [.box [.f (.mp (mpG f))]]) ?_ ?_
  · exact gh_le ⟨le_upd rfl rfl (le_nil _), fun i => by
      match i with
      | 0 => exact .inr ⟨_, rfl, rfl, fun x hx => by simp only [List.mem_singleton] at hx; subst hx; trivial⟩
      | _ + 1 => exact .inl rfl⟩
  · exact rg1 rfl (rv_tmp rfl)
theorem sortedK_f {C : Ctx} {N : Nat} {st : St} {f : Nm → Option Int} {ks : List Nm} {j : Nat} (hP : C.P = Tryz.prog) (hk : KeysAre f ks) (hl : ks.length ≤ 1000) (hb : ∀ c, c ∈ ks → c.length ≤ 1000) (hj : st.h j = some (.box [.f (.mp (mpG f))])) : ∀ st', Hp st st' → ∀ w0 a w J, Sim C w0 N st' a w J → ∀ us, RepAs C w st'.h J us [.fb 158 [.bx j 0]] → Calls C.P 105 us.toArray w fun en w' => ∃ v, en = .returned v ∧ w'.ownsRow w.heap.size 9 1 v ks.length ((ascN ks).map encStr) ∧ Ext w w' := by
  intro st' H w0 a w J S us R
  obtain ⟨u, rfl⟩ : ∃ u, us = [u] := by
    match us, R.1 with
    | [u], _ => exact ⟨u, rfl⟩
  obtain ⟨vs, rfl, h1, h2⟩ := R.2 0 u _ rfl rfl
  obtain ⟨v, rfl⟩ : ∃ v, vs = [v] := by
    match vs, h1 with
    | [v], _ => exact ⟨v, rfl⟩
  obtain ⟨lj, b, hbj, rfl⟩ := h2 0 v _ rfl rfl
  obtain ⟨b', T, us, e1, _, e2, e3, _, e4⟩ := H.blk S hj lj
  have hbb : b' = b := by rw [e1] at hbj; simpa [bk] using hbj
  subst hbb
  obtain ⟨u0, hu⟩ : ∃ u0, us = #[u0] := Array.size_eq_one_iff.1 e3
  subst hu
  have q := e4 0 u0 _ rfl rfl
  cases q with
  | mp r G hL =>
    obtain ⟨ob, e6, e7, e8⟩ := hL.at_
    rw [hP]
    refine sortedK_w hk hl hb e7 e6 (B := b') ?_
    simp [World.cell?, e2]
set_option maxRecDepth 100000 in
set_option maxHeartbeats 3200000 in
theorem StatesOf_ok (rs : List Int) (l : List Act) (cs : List Cel) (s : Lst) (b : FV) (i : Int) (hl : s.2.length ≤ 1000) (hin : ∀ a, a ∈ s.2 → KeysAre a.had a.kys ∧ a.kys.length ≤ 1000 ∧ ∀ c, c ∈ a.kys → c.length ≤ 1000) (H : Summ Tryz.prog GG 102 [skF rs, .sl l.length (actsF l)] (.tup [.pt (lsC cs s) 0, b, iv i, iv 0])) : Summ Tryz.prog GG 33 [skF rs, .sl l.length (actsF l)] (.tup [.sl (s.2.map altS).length (astsF (s.2.map altS)), iv 0]) := by
  refine summW Tryz.func33 rfl rfl 51 rfl (by simp) (fun M0 => ?_)
  repeat (first
    | (apply s_nilCheckF; exact rfl; exact rfl; exact rfl)
    | (apply s_assign_f; exact rfl; exact rfl)
    | (apply s_a TY; exact rfl)
    | (apply s_t; exact rfl; (first | assumption | omega))
    | apply w_seq
    | apply w_region
    | apply s_nil
    | apply t_norm
    | apply w_block
    | apply w_skip
    | (apply w_condF; exact rfl; exact rfl)
    | (apply s_k (H); exact rfl))
  apply w_gh (gh_own 10 49 5 rfl rfl)
  apply w_loop (fun k : Nat => ⟨(Ab.upd (Ab.upd (Ab.upd (Ab.upd (fun _ => .bot) 10 (.ow 0)) 28 (.f (.sl s.2.length (altsF s.2)))) 29 (.f (iv s.2.length))) 30 (.f (iv ((k : Nat) : Int)))), (Ab.upd (fun _ => none) 0 (some (.row 49 5 ((s.2.take k).map altS).length (astsF ((s.2.take k).map altS))))), 1⟩) (fun k => k ≤ s.2.length) (fun k => s.2.length - k) 0 (Nat.zero_le _) (gh_le ⟨le_upd rfl trivial (le_upd rfl trivial (le_upd rfl trivial (le_upd rfl rfl (le_nil _)))), le_hupd rfl trivial (le_h0 _ _)⟩)
  intro k hk
  have htl : ((s.2.take k).map altS).length = k := by rw [List.length_map, List.length_take]; omega
  by_cases hkl : k < s.2.length
  · obtain ⟨hks, hkl2, hkb⟩ := hin s.2[k] (List.getElem_mem hkl)
    have hat : (altsF s.2)[k * 1]? = some (.pt (altC s.2[k]) 0) := altsF_at hkl
    have hne : altsF s.2 ≠ [] := altsF_ne hkl
    have hrow : some (Blk.row 49 5 (((s.2.take k).map altS).length + 1) (astsF ((s.2.take k).map altS) ++ [sv s.2[k].nm, iv s.2[k].ver, .sl s.2[k].cells.length (intsF s.2[k].cells), bv s.2[k].gone, .sl s.2[k].kys.length (((ascN s.2[k].kys).map encStr).map FV.v)])) = some (Blk.row 49 5 ((s.2.take (k + 1)).map altS).length (astsF ((s.2.take (k + 1)).map altS))) := by
      rw [List.take_succ_eq_append_getElem hkl, List.map_append, astsF_app, List.length_append, strsF_enc]
      show some (Blk.row 49 5 _ (astsF _ ++ [sv s.2[k].nm, iv s.2[k].ver, .sl s.2[k].cells.length (intsF s.2[k].cells), bv s.2[k].gone, .sl s.2[k].kys.length (strsF (ascN s.2[k].kys))])) = some (Blk.row 49 5 _ (astsF _ ++ [sv s.2[k].nm, iv s.2[k].ver, .sl s.2[k].cells.length (intsF s.2[k].cells), bv s.2[k].gone, .sl (ascN s.2[k].kys).length (strsF (ascN s.2[k].kys))]))
      rw [ascN_len]; rfl
    repeat (first
    | (apply s_nilCheckF; exact rfl; exact rfl; exact rfl)
    | (apply s_callG [] (keysF_g s.2[k].had); exact rfl; exact rfl; exact rfl; exact trivial; exact rfl; (first | exact ⟨rfl, rfl⟩ | exact ⟨⟨rfl, rfl⟩, ⟨rfl, rfl⟩⟩))
    | (refine s_callWF (g := 105) (e := 9) (sz := 1) (n := s.2[k].kys.length) (ags := [.fb 158 [.bx 2 0]]) (vs := (ascN s.2[k].kys).map encStr) (enters_of Tryz.func105 (by kernel_rfl) rfl) (fun v hv => by obtain ⟨y, _, rfl⟩ := List.mem_map.1 hv; rfl) rfl rfl rfl rfl (sortedK_f (f := s.2[k].had) (j := 2) rfl hks hkl2 hkb rfl) ?_)
    | (apply s_append TY; exact rfl; exact rfl; exact rfl; exact rfl; exact rfl; exact rfl; exact rfl; exact rfl; exact rfl; (unfold maxLen; omega); omega)
    | (apply s_a TY; exact rfl)
    | (apply s_t; exact rfl; (first | assumption | omega))
    | apply w_seq
    | apply w_region
    | apply s_nil
    | apply t_norm
    | apply k_norm
    | apply w_block
    | apply w_skip
    | (apply w_condT; exact rfl; exact rfl)
    | (apply s_c TY; exact rfl; (first | omega | exact ⟨by omega, by (first | with_reducible assumption | ((with_reducible apply altsF_ne); omega) | assumption)⟩))
    | (apply s_l TY; exact rfl; (first | exact rfl | with_reducible assumption | ((with_reducible apply altsF_at); omega) | assumption))
    | (apply s_alloc TY; exact rfl; exact rfl; exact rfl)
    | (apply s_store TY; exact rfl; exact rfl; exact rfl; exact rfl; exact rfl; exact rfl))
    exact ⟨k + 1, by omega, by omega, gh_le ⟨le_upd rfl trivial (le_upd rfl trivial (le_upd rfl trivial (le_upd rfl rfl (le_nil _)))), le_hupd hrow trivial (le_h0 _ _)⟩⟩
  · have hke : k = s.2.length := by omega
    subst hke
    have e : s.2.take s.2.length = s.2 := List.take_length
    have HR : (.sl ((s.2.take s.2.length).map altS).length (astsF ((s.2.take s.2.length).map altS)) : FV) = .sl (s.2.map altS).length (astsF (s.2.map altS)) := by rw [e]
    rw [← HR]
    repeat (first
    | (apply s_a TY; exact rfl)
    | (apply s_f; exact rfl; (first | assumption | omega))
    | apply w_seq
    | apply w_region
    | apply s_nil
    | apply t_norm
    | apply t_exit
    | apply k_hit
    | apply w_exit
    | apply w_ret
    | (apply w_condF; exact rfl; exact rfl))
    exact lv_ret (ret2 rfl (res_sees rfl (sees_row rfl)) (res_tmp rfl))
end Go.Proofs.YtenkgipcblfocaaGreat
namespace Go.Proofs.YtenkgipcblfocaaGreat
open Go Go.RowKit Go.Proofs Go.Shelf Go.Ab
theorem inv_in {m : Nat} {s : Lst} (i : Inv m s) (hm : m ≤ 100) : ∀ a, a ∈ s.2 → KeysAre a.had a.kys ∧ a.kys.length ≤ 1000 ∧ ∀ c, c ∈ a.kys → c.length ≤ 1000 := fun a ha => by
  obtain ⟨h1, h2, h3⟩ := i.kys a ha
  exact ⟨h1, by omega, fun c hc => by have := h3 c hc; omega⟩
end Go.Proofs.YtenkgipcblfocaaGreat
namespace Go.Proofs.YtenkgipcblfocaaGreat
open Go Go.RowKit Go.Proofs Go.Shelf Go.Ab
end Go.Proofs.YtenkgipcblfocaaGreat
namespace Go.Proofs.YtenkgipcblfocaaGreat
open Go Go.RowKit Go.Proofs Go.Shelf Go.Ab
end Go.Proofs.YtenkgipcblfocaaGreat
namespace Go.Proofs.YtenkgipcblfocaaGreat
open Go Go.RowKit Go.Proofs Go.Shelf Go.Ab
structure CelsOk (cs : List Cel) : Prop where
  len : cs.length ≤ 96
  each : ∀ i (hi : i < cs.length), (1 ≤ cs[i].count ∧ cs[i].count ≤ 12) ∧ (0 ≤ cs[i].index ∧ cs[i].index < cs[i].count) ∧ 0 ≤ cs[i].ring ∧ cs[i].ring ≤ 8
  same : ∀ i j (hi : i < cs.length) (hj : j < cs.length), cs[i].ring = cs[j].ring → cs[i].count = cs[j].count
end Go.Proofs.YtenkgipcblfocaaGreat
namespace Go.Proofs.YtenkgipcblfocaaGreat
open Go Go.RowKit Go.Proofs Go.Shelf Go.Ab
end Go.Proofs.YtenkgipcblfocaaGreat
namespace Go.Proofs.YtenkgipcblfocaaGreat
open Go Go.RowKit Go.Proofs Go.Shelf Go.Ab
end Go.Proofs.YtenkgipcblfocaaGreat
namespace Go.Proofs.YtenkgipcblfocaaGreat
open Go Go.RowKit Go.Proofs Go.Shelf Go.Ab
section
variable {near : Int → Int → Bool}
structure MkOk (near : Int → Int → Bool) (X mk : List Int) : Prop where
  len : mk.length = X.length
  each : ∀ i, i < X.length → mk.getD i default ∈ X ∧ Conn near X (X.getD i default) (mk.getD i default) ∧ mk.getD i default ≤ X.getD i default
def stillM (near : Int → Int → Bool) (X mk : List Int) (i k : Nat) : Prop := ¬ (mk.getD i default < mk.getD k default ∧ near (X.getD i default) (X.getD k default) = true)
def sumM (mk : List Int) : Nat := (mk.map Int.toNat).sum
structure Sweep (near : Int → Int → Bool) (X m0 : List Int) (i k : Nat) (mk : List Int) (c : Bool) : Prop where
  ok : MkOk near X mk
  low : c = true → sumM mk < sumM m0
  same : c = false → mk = m0
  still : c = false → ∀ a b, a < X.length → b < X.length → (a < i ∨ (a = i ∧ b < k)) → stillM near X m0 a b
end
end Go.Proofs.YtenkgipcblfocaaGreat
namespace Go.Proofs.YtenkgipcblfocaaGreat
open Go Go.RowKit Go.Proofs Go.Shelf Go.Ab
end Go.Proofs.YtenkgipcblfocaaGreat
namespace Go.Proofs.YtenkgipcblfocaaGreat
open Go Go.RowKit Go.Proofs Go.Shelf Go.Ab
section
variable {C : Ctx} {N : Nat} {st : St}
end
end Go.Proofs.YtenkgipcblfocaaGreat
namespace Go.Proofs.YtenkgipcblfocaaGreat
open Go Go.RowKit Go.Proofs Go.Shelf Go.Ab
end Go.Proofs.YtenkgipcblfocaaGreat
namespace Go.Proofs.YtenkgipcblfocaaGreat
open Go Go.RowKit Go.Proofs Go.Shelf Go.Ab
theorem rowI2 {a b : List Int} (h : a = b) : some (Blk.row 3 1 a.length (intsF a)) = some (Blk.row 3 1 b.length (intsF b)) := by rw [h]
end Go.Proofs.YtenkgipcblfocaaGreat
namespace Go.Proofs.YtenkgipcblfocaaGreat
open Go Go.RowKit Go.Proofs Go.Shelf Go.Ab
theorem ints_set (L : List Int) (k : Nat) (z : Int) : setAt (intsF L) (k * 1) [iv z] = intsF (L.set k z) := by
  show (intsF L).set (k * 1) (iv z) = _
  rw [Nat.mul_one]
  unfold intsF
  rw [List.map_set]
theorem OrdOk.len {l : List Job} {o : List Int} (q : OrdOk l o) : o.length ≤ l.length := by
  have h := pig (n := l.length) (o := o.map Int.toNat) (List.pairwise_map.2 (q.nd.imp_of_mem fun {a b} ha hb hne e => hne (by
    have h1 := q.mem a ha; have h2 := q.mem b hb; omega))) (fun z hz => by
    obtain ⟨y, hy, rfl⟩ := List.mem_map.1 hz
    have := q.mem y hy; omega)
  simpa using h
end Go.Proofs.YtenkgipcblfocaaGreat
namespace Go.Proofs.YtenkgipcblfocaaGreat
open Go Go.RowKit Go.Proofs Go.Shelf Go.Ab
set_option maxRecDepth 100000 in
theorem place_in (l : List Nm) (n : Nm) (hl : l.length ≤ 1000000) (q : Nat) (hq : q < l.length) (hz : ∀ i, i < q → hasS l n i = false) (hp : hasS l n q = true) : Summ Tryz.prog GG 54 [.sl l.length (strsF l), sv n] (iv ((q : Nat) : Int)) := by
  refine summW Tryz.func54 rfl rfl 21 rfl (by simp) (fun M0 => ?_)
  repeat (first
    | (apply s_a TY; exact rfl)
    | apply w_seq
    | apply w_region
    | apply s_nil
    | apply t_norm
    | apply w_block)
  apply w_loop (fun k : Nat => ⟨(Ab.upd (Ab.upd (Ab.upd (fun _ => .bot) 0 (.f (.sl l.length (strsF l)))) 1 (.f (sv n))) 5 (.f (iv ((k : Nat) : Int)))), (fun _ => none), 0⟩) (fun k => k ≤ q) (fun k => q - k) 0 (Nat.zero_le _) (gh_le ⟨le_upd rfl trivial (le_upd rfl trivial (le_upd rfl trivial (le_nil _))), le_h0 _ _⟩)
  intro k hk
  have hc : k < l.length := by omega
  by_cases e : k = q
  · have he : l[k] = n := by have := hp; unfold hasS at this; rw [← e, getD_at hc] at this; simpa using this
    subst e
    repeat (first
    | (apply s_bind; exact rfl; exact rfl; exact rfl; exact rfl; exact rfl; exact rfl; exact eqs_t (by assumption))
    | (apply s_a TY; exact rfl)
    | (apply s_t; exact rfl; (first | assumption | omega))
    | apply w_seq
    | apply w_region
    | apply s_nil
    | apply t_norm
    | apply t_ret
    | apply k_ret
    | apply w_block
    | apply w_ret
    | apply w_skip
    | (apply w_condT; exact rfl; exact rfl)
    | (apply s_c TY; exact rfl; (first | omega | exact ⟨by omega, by (first | with_reducible assumption | ((with_reducible apply strsF_ne); omega) | assumption)⟩))
    | (apply s_l TY; exact rfl; (first | exact rfl | with_reducible assumption | ((with_reducible apply strsF_at); omega) | assumption)))
    exact lv_ret (ret1 rfl (res_tmp rfl))
  · have he : ¬ l[k] = n := by have := hz k (by omega); unfold hasS at this; rw [getD_at hc] at this; simpa using this
    repeat (first
    | (apply s_bind; exact rfl; exact rfl; exact rfl; exact rfl; exact rfl; exact rfl; exact eqs_f (by assumption))
    | (apply s_a TY; exact rfl)
    | (apply s_t; exact rfl; (first | assumption | omega))
    | apply w_seq
    | apply w_region
    | apply s_nil
    | apply t_norm
    | apply k_norm
    | apply w_block
    | apply w_skip
    | (apply w_condT; exact rfl; exact rfl)
    | (apply w_condF; exact rfl; exact rfl)
    | (apply s_c TY; exact rfl; (first | omega | exact ⟨by omega, by (first | with_reducible assumption | ((with_reducible apply strsF_ne); omega) | assumption)⟩))
    | (apply s_l TY; exact rfl; (first | exact rfl | with_reducible assumption | ((with_reducible apply strsF_at); omega) | assumption)))
    exact ⟨k + 1, by omega, by omega, gh_le ⟨le_upd rfl trivial (le_upd rfl trivial (le_upd rfl trivial (le_nil _))), le_h0 _ _⟩⟩
set_option maxRecDepth 100000 in
theorem place_no (l : List Nm) (n : Nm) (hl : l.length ≤ 1000000) (hz : n ∉ l) : Summ Tryz.prog GG 54 [.sl l.length (strsF l), sv n] (iv ((l.length : Nat) : Int)) := by
  refine summW Tryz.func54 rfl rfl 21 rfl (by simp) (fun M0 => ?_)
  repeat (first
    | (apply s_a TY; exact rfl)
    | apply w_seq
    | apply w_region
    | apply s_nil
    | apply t_norm
    | apply w_block)
  apply w_loop (fun k : Nat => ⟨(Ab.upd (Ab.upd (Ab.upd (fun _ => .bot) 0 (.f (.sl l.length (strsF l)))) 1 (.f (sv n))) 5 (.f (iv ((k : Nat) : Int)))), (fun _ => none), 0⟩) (fun k => k ≤ l.length) (fun k => l.length - k) 0 (Nat.zero_le _) (gh_le ⟨le_upd rfl trivial (le_upd rfl trivial (le_upd rfl trivial (le_nil _))), le_h0 _ _⟩)
  intro k hk
  by_cases hc : k < l.length
  · have he : ¬ l[k] = n := fun e => hz (by rw [← e]; exact List.getElem_mem hc)
    repeat (first
    | (apply s_bind; exact rfl; exact rfl; exact rfl; exact rfl; exact rfl; exact rfl; exact eqs_f (by assumption))
    | (apply s_a TY; exact rfl)
    | (apply s_t; exact rfl; (first | assumption | omega))
    | apply w_seq
    | apply w_region
    | apply s_nil
    | apply t_norm
    | apply k_norm
    | apply w_block
    | apply w_skip
    | (apply w_condT; exact rfl; exact rfl)
    | (apply w_condF; exact rfl; exact rfl)
    | (apply s_c TY; exact rfl; (first | omega | exact ⟨by omega, by (first | with_reducible assumption | ((with_reducible apply strsF_ne); omega) | assumption)⟩))
    | (apply s_l TY; exact rfl; (first | exact rfl | with_reducible assumption | ((with_reducible apply strsF_at); omega) | assumption)))
    exact ⟨k + 1, by omega, by omega, gh_le ⟨le_upd rfl trivial (le_upd rfl trivial (le_upd rfl trivial (le_nil _))), le_h0 _ _⟩⟩
  · repeat (first
    | (apply s_a TY; exact rfl)
    | (apply s_f; exact rfl; (first | assumption | omega))
    | apply w_seq
    | apply w_region
    | apply s_nil
    | apply t_norm
    | apply t_exit
    | apply k_hit
    | apply w_exit
    | apply w_ret
    | (apply w_condF; exact rfl; exact rfl))
    exact lv_ret (ret1 rfl (res_tmp rfl))
theorem place_first {l : List Nm} {n : Nm} (h : n ∈ l) : ∃ q, ∃ hq : q < l.length, (∀ i, i < q → hasS l n i = false) ∧ hasS l n q = true ∧ l[q] = n := by
  rcases idxP_cases l.length (hasS l n) with ⟨_, hz⟩ | ⟨q, hq, hz, hp, _⟩
  · obtain ⟨i, hi, e⟩ := List.getElem_of_mem h
    have := hz i hi
    unfold hasS at this
    rw [getD_at hi, decide_eq_false_iff_not] at this
    exact absurd e this
  · refine ⟨q, hq, hz, hp, ?_⟩
    unfold hasS at hp
    rwa [getD_at hq, decide_eq_true_eq] at hp
theorem les_f {x y : Operand} {a b : Nm} (h : ltS b a = true) (w : World) : (do eqGuard .leq 9 x y (.string ⟨a.toArray⟩) (.string ⟨b.toArray⟩); binOp .leq 9 (.string ⟨a.toArray⟩) (.string ⟨b.toArray⟩) : Sem Value).run Tryz.prog w = .ok (.bool false) w := by
  have h1 : Op.bytesLess a b = false := ltSOk.asym h
  have h2 : (a == b) = false := by
    refine Bool.eq_false_iff.2 fun e => ?_
    rw [beq_iff_eq] at e
    subst e; rw [ltS_irr] at h; cases h
  simp [eqGuard, binOp, Op.stringOp, h1]
  intro e; rw [e] at h2; simp at h2
def addO (h w : List Nm) : List Nm := h ++ w.filter fun n => !h.contains n
def hadO (l : List Act) (N : Nm) : Nat → List Nm
  | 0 => []
  | k + 1 => match l[k]? with
    | none => hadO l N k
    | some a => if newV N a then addO (hadO l N k) (sortedN ltS (pplK l k)) else hadO l N k
theorem hadO_at {l : List Act} {N : Nm} {k : Nat} (h : k < l.length) : hadO l N (k + 1) = if newV N l[k] then addO (hadO l N k) (sortedN ltS (pplK l k)) else hadO l N k := by rw [hadO, List.getElem?_eq_getElem h]
theorem hadO_mem (l : List Act) (N n : Nm) : ∀ k, k ≤ l.length → (n ∈ hadO l N k ↔ (hadK l N n k).isSome = true)
  | 0, _ => by simp [hadO, hadK]
  | k + 1, hk => by
    have ih := hadO_mem l N n k (by omega)
    have hkl : k < l.length := by omega
    rw [hadO_at hkl, hadK_at hkl]
    by_cases hn : newV N l[k] = true
    · rw [if_pos hn]
      unfold addO
      rw [List.mem_append, List.mem_filter, (sortedN_spec ltSOk _).2, ih]
      by_cases hp : n ∈ pplK l k
      · rw [if_pos ⟨hn, hp⟩]
        by_cases hh : n ∈ hadO l N k
        · simp [ih.1 hh]
        · simp [hp, hh]
      · rw [if_neg (fun e => hp e.2)]
        simp [hp]
    · rw [if_neg hn, if_neg (fun e => hn e.1), ih]
theorem hadO_nd (l : List Act) (N : Nm) : ∀ k, (hadO l N k).Nodup
  | 0 => List.nodup_nil
  | k + 1 => by
    have ih := hadO_nd l N k
    rw [hadO]
    cases l[k]? with
    | none => exact ih
    | some a =>
      simp only
      split
      · unfold addO
        refine List.nodup_append.2 ⟨ih, (((sortedN_spec ltSOk _).1).nodup ltSOk).sublist List.filter_sublist, fun x hx y hy e => ?_⟩
        subst e
        have := (List.mem_filter.1 hy).2
        simp [hx] at this
      · exact ih
theorem hadO_len (l : List Act) (N : Nm) {k : Nat} (hk : k ≤ l.length) : (hadO l N k).length = (hadS ltS l N k).length := by
  have hnd : (hadS ltS l N k).Nodup := ((sortedN_spec ltSOk _).1).nodup ltSOk
  have h1 := sub_len (hadO_nd l N k) (o := hadS ltS l N k) fun x hx => (hadS_mem ltSOk).2 ((hadO_mem l N x k hk).1 hx)
  have h2 := sub_len hnd (o := hadO l N k) fun x hx => (hadO_mem l N x k hk).2 ((hadS_mem ltSOk).1 hx)
  omega
def newO (l : List Act) (N : Nm) (k : Nat) : List Int := (hadO l N k).map fun n => (hadK l N n k).getD 0
theorem skipO {l : List Act} {N : Nm} {k : Nat} (h : k < l.length) (hn : ¬ newV N l[k] = true) : hadO l N (k + 1) = hadO l N k ∧ newO l N (k + 1) = newO l N k := by
  have e : hadO l N (k + 1) = hadO l N k := by rw [hadO_at h, if_neg hn]
  refine ⟨e, ?_⟩
  unfold newO
  rw [e]
  refine List.map_congr_left fun n _ => ?_
  rw [hadK_at h, if_neg (fun e => hn e.1)]
def midH (l : List Act) (N : Nm) (i : Nat) (w : List Nm) : List Nm := addO (hadO l N i) w
def midE (l : List Act) (N : Nm) (i : Nat) (w : List Nm) : List Int := (midH l N i w).map fun n => if n ∈ w then verK l N i + 1 else (hadK l N n i).getD 0
theorem mid0 (l : List Act) (N : Nm) (i : Nat) : midH l N i [] = hadO l N i ∧ midE l N i [] = newO l N i := by
  have e : midH l N i [] = hadO l N i := by unfold midH addO; simp
  refine ⟨e, ?_⟩
  unfold midE newO
  rw [e]
  exact List.map_congr_left fun n _ => if_neg (by simp)
theorem mid_end {l : List Act} {N : Nm} {i : Nat} (h : i < l.length) (hn : newV N l[i] = true) : midH l N i (sortedN ltS (pplK l i)) = hadO l N (i + 1) ∧ midE l N i (sortedN ltS (pplK l i)) = newO l N (i + 1) := by
  have e : midH l N i (sortedN ltS (pplK l i)) = hadO l N (i + 1) := by rw [hadO_at h, if_pos hn]; rfl
  refine ⟨e, ?_⟩
  unfold midE newO
  rw [e]
  refine List.map_congr_left fun n _ => ?_
  rw [hadK_at h]
  by_cases hp : n ∈ pplK l i
  · rw [if_pos ((sortedN_spec ltSOk _).2 n |>.2 hp), if_pos ⟨hn, hp⟩]; rfl
  · rw [if_neg (fun e => hp ((sortedN_spec ltSOk _).2 n |>.1 e)), if_neg (fun e => hp e.2)]
theorem midE_len (l : List Act) (N : Nm) (i : Nat) (w : List Nm) : (midE l N i w).length = (midH l N i w).length := by unfold midE; rw [List.length_map]
theorem midH_nd (l : List Act) (N : Nm) (i : Nat) {w : List Nm} (hw : w.Nodup) : (midH l N i w).Nodup := by
  unfold midH addO
  refine List.nodup_append.2 ⟨hadO_nd l N i, hw.sublist List.filter_sublist, fun x hx y hy e => ?_⟩
  subst e
  have := (List.mem_filter.1 hy).2
  simp [hx] at this
theorem mid_old {l : List Act} {N : Nm} {i : Nat} {w : List Nm} {n : Nm} (hw : (w ++ [n]).Nodup) (hin : n ∈ hadO l N i) {q : Nat} (hq : q < (midH l N i w).length) (he : (midH l N i w)[q] = n) : midH l N i (w ++ [n]) = midH l N i w ∧ (midE l N i w).set q (verK l N i + 1) = midE l N i (w ++ [n]) := by
  have e : midH l N i (w ++ [n]) = midH l N i w := by unfold midH addO; rw [List.filter_append, List.filter_cons_of_neg (by simp [hin])]; simp
  refine ⟨e, ?_⟩
  have hnd := midH_nd l N i (w := w) (hw.sublist (List.sublist_append_left _ _))
  refine List.ext_getElem (by rw [List.length_set, midE_len, midE_len, e]) fun j h1 h2 => ?_
  rw [List.length_set, midE_len] at h1
  have e2 : (midE l N i (w ++ [n]))[j] = if (midH l N i w)[j] ∈ w ++ [n] then verK l N i + 1 else (hadK l N (midH l N i w)[j] i).getD 0 := by
    unfold midE; simp only [List.getElem_map, e]
  have e3 : (midE l N i w)[j]'(by rw [midE_len]; exact h1) = if (midH l N i w)[j] ∈ w then verK l N i + 1 else (hadK l N (midH l N i w)[j] i).getD 0 := by
    unfold midE; simp only [List.getElem_map]
  rw [e2]
  by_cases ej : q = j
  · subst ej
    rw [List.getElem_set_self, if_pos (by rw [he]; simp)]
  · rw [List.getElem_set_ne ej, e3]
    have hne : (midH l N i w)[j] ≠ n := fun e4 => ej ((List.getElem_inj hnd).1 (he.trans e4.symm))
    by_cases hm : (midH l N i w)[j] ∈ w
    · rw [if_pos hm, if_pos (by simp [hm])]
    · rw [if_neg hm, if_neg (by simp [hm, hne])]
theorem mid_new {l : List Act} {N : Nm} {i : Nat} {w : List Nm} {n : Nm} (hw : (w ++ [n]).Nodup) (hin : n ∉ hadO l N i) : n ∉ midH l N i w ∧ midH l N i (w ++ [n]) = midH l N i w ++ [n] ∧ midE l N i w ++ [verK l N i + 1] = midE l N i (w ++ [n]) := by
  have hnw : n ∉ w := fun h => (List.nodup_append.1 hw).2.2 n h n (by simp) rfl
  have e : midH l N i (w ++ [n]) = midH l N i w ++ [n] := by unfold midH addO; rw [List.filter_append, List.filter_cons_of_pos (by simp [hin]), List.append_assoc]; rfl
  have hno : n ∉ midH l N i w := fun h => by
    unfold midH addO at h
    rcases List.mem_append.1 h with h | h
    · exact hin h
    · exact hnw (List.mem_filter.1 h).1
  refine ⟨hno, e, ?_⟩
  unfold midE
  rw [e, List.map_append, List.map_cons, List.map_nil, if_pos (by simp)]
  congr 1
  refine List.map_congr_left fun x hx => ?_
  have hne : x ≠ n := fun e => hno (by rw [← e]; exact hx)
  by_cases hm : x ∈ w
  · rw [if_pos hm, if_pos (by simp [hm])]
  · rw [if_neg hm, if_neg (by simp [hm, hne])]
theorem asc_at {w : List Nm} (h : AscN ltS w) {k : Nat} (hk : k < w.length) (h0 : 0 < k) : ltS (w.getD (k - 1) default) w[k] = true := by
  rw [getD_at (show k - 1 < w.length by omega)]
  exact List.pairwise_iff_getElem.1 h (k - 1) k (by omega) hk (by omega)
theorem told_asc {l : List Act} {k : Nat} (hk : k < l.length) : AscN ltS (toldS ltS l k) := by
  rw [toldS_at hk]; split
  · exact (sortedN_spec ltSOk _).1
  · exact (sortedN_spec ltSOk _).1
theorem ppl_in {l : List Act} {n : Nm} : ∀ k, k ≤ l.length → n ∈ pplK l k → n ∈ l.map (·.name)
  | 0, _, h => nomatch h
  | k + 1, hk, h => by
    have hkl : k < l.length := by omega
    rw [pplK_at hkl] at h
    split at h
    · rcases List.mem_append.1 h with h | h
      · exact ppl_in k (by omega) h
      · rw [List.mem_singleton.1 h]; exact List.mem_map_of_mem (List.getElem_mem hkl)
    · split at h
      · exact ppl_in k (by omega) (List.mem_filter.1 h).1
      · exact ppl_in k (by omega) h
theorem told_few {l : List Act} {k : Nat} (hk : k < l.length) : (toldS ltS l k).length ≤ l.length := by
  rw [toldS_at hk]
  split
  · have hnd : (hadS ltS l l[k].name k).Nodup := ((sortedN_spec ltSOk _).1).nodup ltSOk
    have h := sub_len hnd (o := l.map (·.name)) fun x hx => by
      obtain ⟨i, a, h1, h2, _, h3⟩ := (hadK_iff l l[k].name x k).1 ((hadS_mem ltSOk).1 hx)
      exact ppl_in i (by omega) h3
    rwa [List.length_map] at h
  · have h1 := sortedN_len (pplK l k)
    have h2 := pplK_len l k
    omega
theorem valid_at {c : Int} {l : List Act} {N : Nm} {k : Nat} (hk : k < l.length) (h : ∀ i, i < l.length → runE c l i = 0) (hn : l[k].name = N) (h2 : 2 ≤ l[k].kind) : wdrK l N k = false ∧ l[k].kind ≤ 4 := by
  have r := run_all (c := c) (l := l) (k := k) (by omega) fun i hi => h i (by omega)
  have hE := h k hk
  unfold runE at hE
  rw [getD_at hk] at hE
  obtain ⟨hc, hr⟩ := stpE_0 hE
  refine ⟨?_, (chkE_0 hc).1.2⟩
  rcases hr with ⟨h0, _⟩ | ⟨h0, _⟩ | ⟨h0, hi⟩ | ⟨h0, hi, hg⟩
  · omega
  · omega
  · refine Bool.eq_false_iff.2 fun e => ?_
    have := idxA_iff.2 (r.ver _ (r.wdr _ e))
    rw [← hn] at this; omega
  · obtain ⟨i, hi2, hix, hax, hnm⟩ := altA_at hi
    obtain ⟨_, _, q3, _, _⟩ := r.alt _ (List.getElem_mem hi2)
    rw [hax, q3, hnm, hn] at hg; exact hg
theorem KnownBy_all (rs : List Int) (o : SkyOk rs) (l : List Act) (hl : l.length ≤ 40) (hcd : ∀ i, i < l.length → (l.getD i default).cells.length ≤ 1000000) (hall : ∀ i, i < l.length → runE ((skyC rs).length : Nat) l i = 0) (who N : Nm) (hN : N ∈ sentN l l.length) : Summ Tryz.prog GG 25 [skF rs, .sl l.length (actsF l), sv who, sv N] (.tup [iv ((hadK l N who l.length).getD 0), bv ((hadK l N who l.length).isSome && wdrK l N l.length), iv 0]) := by
  have HR := replay_ok rs o l hl hcd hall
  have inv := inv_run (c := ((skyC rs).length : Nat)) (l := l) (k := l.length) fun i hi => hall i hi
  have r := run_all (c := ((skyC rs).length : Nat)) (l := l) (k := l.length) (Nat.le_refl _) fun i hi => hall i hi
  have hal := inv.al
  have hi := idxA_iff.2 (by rw [r.nms]; exact hN : N ∈ (runS l l.length).2.map (·.nm))
  rcases idxP_cases (runS l l.length).2.length (nmA (runS l l.length).2 N) with ⟨e, hz⟩ | ⟨k, hk, hz, hp, e⟩
  · unfold idxA at hi; omega
  · have hnm : (runS l l.length).2[k].nm = N := by
      unfold nmA at hp
      rwa [getD_at hk, decide_eq_true_eq] at hp
    obtain ⟨_, _, q3, q4, _⟩ := r.alt _ (List.getElem_mem hk)
    have H1 := KnownBy_ok rs l _ _ _ _ who N _ HR (findF_at _ _ N (by omega) k hk hz hp)
    rw [q4 who, q3, hnm] at H1
    exact H1
set_option maxRecDepth 100000 in
set_option maxHeartbeats 25600000 in
theorem AlertAllWhoHad_s (rs : List Int) (l : List Act) : Summ Tryz.prog GG 8 [skF rs, .sl l.length (actsF l)] (.v (.bool true)) := by
  have HA := awake_s
  by_cases h10 : rs.length ≤ 10
  case neg =>
    have HW := few_F rs (by omega)
    refine summW Tryz.func8 rfl rfl 260 rfl (by simp) (fun M0 => ?_)
    repeat (first
    | (apply s_a TY; exact rfl)
    | apply w_seq
    | apply w_region
    | apply s_nil
    | apply t_norm
    | apply t_ret
    | apply w_ret
    | apply w_skip
    | (apply w_condT; exact rfl; exact rfl)
    | (apply w_condF; exact rfl; exact rfl)
    | (apply s_k (HA); exact rfl)
    | (apply s_k (HW); exact rfl)
    | (apply s_s; exact rfl))
    exact lv_ret (ret1 rfl (res_tmp rfl))
  have HW := few_T rs h10
  by_cases hsh : shortB l
  case neg =>
    have HSh := shortActs_F l hsh
    refine summW Tryz.func8 rfl rfl 260 rfl (by simp) (fun M0 => ?_)
    repeat (first
    | (apply s_a TY; exact rfl)
    | apply w_seq
    | apply w_region
    | apply s_nil
    | apply t_norm
    | apply t_ret
    | apply w_ret
    | apply w_skip
    | (apply w_condT; exact rfl; exact rfl)
    | (apply w_condF; exact rfl; exact rfl)
    | (apply s_k (HA); exact rfl)
    | (apply s_k (HW); exact rfl)
    | (apply s_k (HSh); exact rfl)
    | (apply s_s; exact rfl))
    exact lv_ret (ret1 rfl (res_tmp rfl))
  have HSh := shortActs_T l hsh
  have hl42 := hsh.1
  have hcl : ∀ i (hi : i < l.length), l[i].cells.length ≤ 1000000 := fun i hi => by have := (hsh.2 i hi).2; omega
  have hcn : ∀ i (hi : i < l.length), l[i].name.length ≤ 1000 ∧ l[i].cells.length ≤ 1000000 := fun i hi => by have := hsh.2 i hi; omega
  have hcd : ∀ i, i < l.length → (l.getD i default).cells.length ≤ 1000000 := fun i hi => by rw [getD_at hi]; exact hcl i hi
  have HCp := CopySky_s rs (by omega)
  have HCa := CopyActs_s l (by omega) hcl
  have HS := SkyErr_s rs (by omega)
  by_cases he : (skyChk rs).2 = 0
  case neg =>
    refine summW Tryz.func8 rfl rfl 260 rfl (by simp) (fun M0 => ?_)
    repeat (first
    | (apply s_a TY; exact rfl)
    | (apply s_f; exact rfl; (first | assumption | omega))
    | apply w_seq
    | apply w_region
    | apply s_nil
    | apply t_norm
    | apply t_ret
    | apply w_ret
    | apply w_skip
    | (apply w_condT; exact rfl; exact rfl)
    | (apply w_condF; exact rfl; exact rfl)
    | (apply s_k (HA); exact rfl)
    | (apply s_k (HW); exact rfl)
    | (apply s_k (HSh); exact rfl)
    | (apply s_k (HS); exact rfl)
    | (apply s_s; exact rfl))
    exact lv_ret (ret1 rfl (res_tmp rfl))
  have o := skyOk_of he
  rw [he] at HS
  have hlc := skyC_len o
  have HK := ActsErr_s rs o l (by omega) hcl
  rw [← hlc] at HK
  by_cases h40 : 40 < l.length
  · rw [show actsChk ((skyC rs).length : Nat) l = (0, 8) from if_pos h40] at HK
    refine summW Tryz.func8 rfl rfl 260 rfl (by simp) (fun M0 => ?_)
    repeat (first
    | (apply s_a TY; exact rfl)
    | (apply s_t; exact rfl; (first | assumption | omega))
    | (apply s_f; exact rfl; (first | assumption | omega))
    | apply w_seq
    | apply w_region
    | apply s_nil
    | apply t_norm
    | apply t_ret
    | apply w_ret
    | apply w_skip
    | (apply w_condT; exact rfl; exact rfl)
    | (apply w_condF; exact rfl; exact rfl)
    | (apply s_k (HA); exact rfl)
    | (apply s_k (HW); exact rfl)
    | (apply s_k (HSh); exact rfl)
    | (apply s_k (HS); exact rfl)
    | (apply s_k (HK); exact rfl))
    exact lv_ret (ret1 rfl (res_tmp rfl))
  rcases chk_ref (c := ((skyC rs).length : Nat)) (l := l) h40 with ⟨hall, hac⟩ | ⟨q, hq, hz, hne, hac⟩
  case inr =>
    rw [hac] at HK
    generalize runE ((skyC rs).length : Nat) l q = E at *
    refine summW Tryz.func8 rfl rfl 260 rfl (by simp) (fun M0 => ?_)
    repeat (first
    | (apply s_a TY; exact rfl)
    | (apply s_t; exact rfl; (first | assumption | omega))
    | (apply s_f; exact rfl; (first | assumption | omega))
    | apply w_seq
    | apply w_region
    | apply s_nil
    | apply t_norm
    | apply t_ret
    | apply w_ret
    | apply w_skip
    | (apply w_condT; exact rfl; exact rfl)
    | (apply w_condF; exact rfl; exact rfl)
    | (apply s_k (HA); exact rfl)
    | (apply s_k (HW); exact rfl)
    | (apply s_k (HSh); exact rfl)
    | (apply s_k (HS); exact rfl)
    | (apply s_k (HK); exact rfl))
    exact lv_ret (ret1 rfl (res_tmp rfl))
  rw [hac] at HK
  have HR := replay_ok rs o l (by omega) hcd hall
  have inv := inv_run (c := ((skyC rs).length : Nat)) (l := l) (k := l.length) fun i hi => hall i hi
  have hal := inv.al
  have H2 := StatesOf_ok rs l _ _ _ _ (by omega) (inv_in inv (by omega)) HR
  rw [states_ref hall] at H2
  have hsl := stsK_len l l.length
  have hX : ∀ a (ha : a < (stsK l l.length).length), (stsK l l.length)[a].version = verK l (stsK l l.length)[a].name l.length ∧ (stsK l l.length)[a].gone = wdrK l (stsK l l.length)[a].name l.length ∧ (stsK l l.length)[a].had = hadS ltS l (stsK l l.length)[a].name l.length ∧ (stsK l l.length)[a].name ∈ sentN l l.length := fun a ha => by
    have hm := List.getElem_mem ha
    generalize (stsK l l.length)[a] = y at hm ⊢
    rw [stsK_map] at hm
    obtain ⟨n, hn, rfl⟩ := List.mem_map.1 hm
    exact ⟨rfl, rfl, rfl, hn⟩
  generalize stsK l l.length = X at *
  refine summW Tryz.func8 rfl rfl 260 rfl (by simp) (fun M0 => ?_)
  repeat (first
    | (apply s_a TY; exact rfl)
    | (apply s_t; exact rfl; (first | assumption | omega))
    | (apply s_f; exact rfl; (first | assumption | omega))
    | apply w_seq
    | apply w_region
    | apply s_nil
    | apply t_norm
    | apply w_block
    | apply w_skip
    | (apply w_condF; exact rfl; exact rfl)
    | (apply s_k (HA); exact rfl)
    | (apply s_k (HW); exact rfl)
    | (apply s_k (HSh); exact rfl)
    | (apply s_k (HCp); exact rfl)
    | (apply s_k (HCa); exact rfl)
    | (apply s_k (HS); exact rfl)
    | (apply s_k (HK); exact rfl)
    | (apply s_k (H2); exact rfl))
  apply w_loop (fun a : Nat => ⟨(Ab.upd (Ab.upd (Ab.upd (Ab.upd (fun _ => .bot) 1 (.f (.sl l.length (actsF l)))) 2 (.f (.pt [.sl rs.length (intsF rs)] 0))) 5 (.f (.sl X.length (astsF X)))) 7 (.f (iv ((a : Nat) : Int)))), (fun _ => none), 0⟩) (fun a => a ≤ X.length) (fun a => X.length - a) 0 (Nat.zero_le _) (gh_le ⟨le_upd rfl trivial (le_upd rfl trivial (le_upd rfl trivial (le_upd rfl trivial (le_nil _)))), le_h0 _ _⟩)
  intro a ha
  by_cases haX : a < X.length
  case neg =>
    repeat (first
    | (apply s_a TY; exact rfl)
    | (apply s_f; exact rfl; (first | assumption | omega))
    | apply w_seq
    | apply w_region
    | apply s_nil
    | apply t_norm
    | apply t_exit
    | apply k_hit
    | apply w_exit
    | apply w_ret
    | (apply w_condF; exact rfl; exact rfl))
    exact lv_ret (ret1 rfl (res_tmp rfl))
  obtain ⟨hver, hgone, hhad, hsent⟩ := hX a haX
  have hXne : astsF X ≠ [] := astsF_ne haX
  repeat (first
    | (apply s_a TY; exact rfl)
    | (apply s_t; exact rfl; (first | assumption | omega))
    | apply w_seq
    | apply w_region
    | apply s_nil
    | apply t_norm
    | apply w_block
    | apply w_skip
    | (apply w_condT; exact rfl; exact rfl))
  apply w_gh (gh_trans (gh_own 8 9 1 rfl rfl) (gh_own 11 3 1 rfl rfl))
  apply w_loop (fun i : Nat => ⟨(Ab.upd (Ab.upd (Ab.upd (Ab.upd (Ab.upd (Ab.upd (Ab.upd (Ab.upd (Ab.upd (fun _ => .bot) 1 (.f (.sl l.length (actsF l)))) 2 (.f (.pt [.sl rs.length (intsF rs)] 0))) 5 (.f (.sl X.length (astsF X)))) 7 (.f (iv ((a : Nat) : Int)))) 8 (.ow 0)) 9 (.f (iv (verK l X[a].name i)))) 10 (.f (bv (wdrK l X[a].name i)))) 11 (.ow 1)) 12 (.f (iv ((i : Nat) : Int)))), (Ab.upd (Ab.upd (fun _ => none) 0 (some (.row 9 1 (hadO l X[a].name i).length (strsF (hadO l X[a].name i))))) 1 (some (.row 3 1 (newO l X[a].name i).length (intsF (newO l X[a].name i))))), 2⟩) (fun i => i ≤ l.length) (fun i => l.length - i) 0 (Nat.zero_le _) (gh_le ⟨le_upd rfl trivial (le_upd rfl rfl (le_upd rfl trivial (le_upd rfl trivial (le_upd rfl rfl (le_upd rfl trivial (le_upd rfl trivial (le_upd rfl trivial (le_upd rfl trivial (le_nil _))))))))), le_hupd rfl trivial (le_hupd rfl trivial (le_h0 _ _))⟩)
  intro i hi
  have hvb := verK_nn l X[a].name i
  have hol := hadO_len l X[a].name (k := i) hi
  have hos := hadS_len l X[a].name (k := i) hi
  have hmm : i * l.length ≤ 40 * 40 := Nat.mul_le_mul (by omega) (by omega)
  by_cases hil : i < l.length
  · have hacne : actsF l ≠ [] := actsF_ne hil
    by_cases h2 : l[i].kind < 2
    · have hno : ¬ newV X[a].name l[i] = true := fun h => by have := (newV_iff.1 h).2; omega
      have hno4 : ¬ (l[i].name = X[a].name ∧ l[i].kind = 4) := fun h => by omega
      obtain ⟨hb0, hb1⟩ := skipO hil hno
      have hr0 := rowS_eq hb0.symm
      have hr1 := rowI2 hb1.symm
      have e9 : verK l X[a].name (i + 1) = verK l X[a].name i := by rw [verK_at hil, if_neg hno]
      have e10 : wdrK l X[a].name (i + 1) = wdrK l X[a].name i := by rw [wdrK_at hil, if_neg hno4]
      repeat (first
    | (apply s_a TY; exact rfl)
    | (apply s_t; exact rfl; (first | assumption | omega))
    | apply w_seq
    | apply w_region
    | (apply w_draw (id := 18) 17 rfl (by kernel_rfl))
    | apply s_nil
    | apply t_norm
    | apply t_exit
    | apply k_hit
    | apply w_block
    | apply w_exit
    | apply w_skip
    | (apply w_condT; exact rfl; exact rfl)
    | (apply s_s; exact rfl)
    | (apply s_c TY; exact rfl; (first | omega | exact ⟨by omega, by (first | with_reducible assumption | ((with_reducible apply intsF_ne); omega) | ((with_reducible apply actsF_ne); omega) | ((with_reducible apply strsF_ne); omega) | ((with_reducible apply astsF_ne); omega) | assumption)⟩))
    | (apply s_l TY; exact rfl; (first | exact rfl | with_reducible assumption | ((with_reducible apply intsF_at); omega) | ((with_reducible apply actsF_f0); omega) | ((with_reducible apply actsF_f1); omega) | ((with_reducible apply actsF_f2); omega) | ((with_reducible apply strsF_at); omega) | ((with_reducible apply astsF_f0); omega) | ((with_reducible apply astsF_f1); omega) | ((with_reducible apply astsF_f2); omega) | ((with_reducible apply astsF_f3); omega) | ((with_reducible apply astsF_f4); omega) | assumption)))
      exact ⟨i + 1, by omega, by omega, gh_le ⟨le_upd rfl trivial (le_upd rfl rfl (le_upd (congrArg (fun z => AV.f (bv z)) e10) trivial (le_upd (congrArg (fun z => AV.f (iv z)) e9) trivial (le_upd rfl rfl (le_upd rfl trivial (le_upd rfl trivial (le_upd rfl trivial (le_upd rfl trivial (le_nil _))))))))), le_hupd hr1 trivial (le_hupd hr0 trivial (le_h0 _ _))⟩⟩
    by_cases hn : l[i].name = X[a].name
    case neg =>
      have hno : ¬ newV X[a].name l[i] = true := fun h => hn (newV_iff.1 h).1
      have hno4 : ¬ (l[i].name = X[a].name ∧ l[i].kind = 4) := fun h => hn h.1
      obtain ⟨hb0, hb1⟩ := skipO hil hno
      have hr0 := rowS_eq hb0.symm
      have hr1 := rowI2 hb1.symm
      have e9 : verK l X[a].name (i + 1) = verK l X[a].name i := by rw [verK_at hil, if_neg hno]
      have e10 : wdrK l X[a].name (i + 1) = wdrK l X[a].name i := by rw [wdrK_at hil, if_neg hno4]
      repeat (first
    | (apply s_bind; exact rfl; exact rfl; exact rfl; exact rfl; exact rfl; exact rfl; exact nes_t (by assumption))
    | (apply s_a TY; exact rfl)
    | (apply s_t; exact rfl; (first | assumption | omega))
    | (apply s_f; exact rfl; (first | assumption | omega))
    | apply w_seq
    | apply w_region
    | (apply w_draw (id := 18) 17 rfl (by kernel_rfl))
    | apply s_nil
    | apply t_norm
    | apply t_exit
    | apply k_hit
    | apply w_block
    | apply w_exit
    | apply w_skip
    | (apply w_condT; exact rfl; exact rfl)
    | (apply s_c TY; exact rfl; (first | omega | exact ⟨by omega, by (first | with_reducible assumption | ((with_reducible apply intsF_ne); omega) | ((with_reducible apply actsF_ne); omega) | ((with_reducible apply strsF_ne); omega) | ((with_reducible apply astsF_ne); omega) | assumption)⟩))
    | (apply s_l TY; exact rfl; (first | exact rfl | with_reducible assumption | ((with_reducible apply intsF_at); omega) | ((with_reducible apply actsF_f0); omega) | ((with_reducible apply actsF_f1); omega) | ((with_reducible apply actsF_f2); omega) | ((with_reducible apply strsF_at); omega) | ((with_reducible apply astsF_f0); omega) | ((with_reducible apply astsF_f1); omega) | ((with_reducible apply astsF_f2); omega) | ((with_reducible apply astsF_f3); omega) | ((with_reducible apply astsF_f4); omega) | assumption)))
      exact ⟨i + 1, by omega, by omega, gh_le ⟨le_upd rfl trivial (le_upd rfl rfl (le_upd (congrArg (fun z => AV.f (bv z)) e10) trivial (le_upd (congrArg (fun z => AV.f (iv z)) e9) trivial (le_upd rfl rfl (le_upd rfl trivial (le_upd rfl trivial (le_upd rfl trivial (le_upd rfl trivial (le_nil _))))))))), le_hupd hr1 trivial (le_hupd hr0 trivial (le_h0 _ _))⟩⟩
    obtain ⟨hw0, hk4b⟩ := valid_at hil hall hn (by omega)
    have H3 := RecipientsOf_ok rs o l (by omega) hcd hall i hil (by omega) (by omega)
    have hw : (runW l l.length)[i]'(by rw [runW_len]; exact hil) = toldS ltS l i := by rw [runW_ix hil, getD_at hil]; exact told_ref hil hall (by omega)
    rw [hw] at H3
    have hasc := told_asc hil
    have hpk := pplK_len l i
    have hsp := sortedN_len (pplK l i)
    have hwl : (toldS ltS l i).length ≤ l.length := told_few hil
    by_cases h4 : l[i].kind = 4
    · have hno : ¬ newV X[a].name l[i] = true := fun h => by have := (newV_iff.1 h).2; omega
      have htl : toldS ltS l i = hadS ltS l X[a].name i := by rw [toldS_at hil, if_pos h4, hn]
      have hlen4 : (toldS ltS l i).length = (hadO l X[a].name i).length := by rw [htl, hol]
      have hmem4 : ∀ n, n ∈ toldS ltS l i → n ∈ hadO l X[a].name i := fun n h => by rw [htl] at h; exact (hadO_mem l X[a].name n i hi).2 ((hadS_mem ltSOk).1 h)
      obtain ⟨hb0, hb1⟩ := skipO hil hno
      have hr0 := rowS_eq hb0.symm
      have hr1 := rowI2 hb1.symm
      have e9 : verK l X[a].name (i + 1) = verK l X[a].name i := by rw [verK_at hil, if_neg hno]
      have e10 : wdrK l X[a].name (i + 1) = true := by rw [wdrK_at hil, if_pos ⟨hn, h4⟩]
      generalize toldS ltS l i = w at *
      repeat (first
    | (apply s_bind; exact rfl; exact rfl; exact rfl; exact rfl; exact rfl; exact rfl; exact nes_f (by assumption))
    | (apply s_a TY; exact rfl)
    | (apply s_t; exact rfl; (first | assumption | omega))
    | (apply s_f; exact rfl; (first | assumption | omega))
    | apply w_seq
    | apply w_region
    | (apply w_draw (id := 18) 17 rfl (by kernel_rfl))
    | apply s_nil
    | apply t_norm
    | apply w_block
    | apply w_skip
    | (apply w_condT; exact rfl; exact rfl)
    | (apply w_condF; exact rfl; exact rfl)
    | (apply s_k (HCp); exact rfl)
    | (apply s_k (HCa); exact rfl)
    | (apply s_k (H3); exact rfl)
    | (apply s_c TY; exact rfl; (first | omega | exact ⟨by omega, by (first | with_reducible assumption | ((with_reducible apply intsF_ne); omega) | ((with_reducible apply actsF_ne); omega) | ((with_reducible apply strsF_ne); omega) | ((with_reducible apply astsF_ne); omega) | assumption)⟩))
    | (apply s_l TY; exact rfl; (first | exact rfl | with_reducible assumption | ((with_reducible apply intsF_at); omega) | ((with_reducible apply actsF_f0); omega) | ((with_reducible apply actsF_f1); omega) | ((with_reducible apply actsF_f2); omega) | ((with_reducible apply strsF_at); omega) | ((with_reducible apply astsF_f0); omega) | ((with_reducible apply astsF_f1); omega) | ((with_reducible apply astsF_f2); omega) | ((with_reducible apply astsF_f3); omega) | ((with_reducible apply astsF_f4); omega) | assumption)))
      apply w_loop (fun k : Nat => ⟨(Ab.upd (Ab.upd (Ab.upd (Ab.upd (Ab.upd (Ab.upd (Ab.upd (Ab.upd (Ab.upd (Ab.upd (Ab.upd (fun _ => .bot) 1 (.f (.sl l.length (actsF l)))) 2 (.f (.pt [.sl rs.length (intsF rs)] 0))) 5 (.f (.sl X.length (astsF X)))) 7 (.f (iv ((a : Nat) : Int)))) 8 (.ow 0)) 9 (.f (iv (verK l X[a].name i)))) 10 (.f (.v (.bool true)))) 11 (.ow 1)) 12 (.f (iv ((i : Nat) : Int)))) 13 (.f (.sl w.length (strsF w)))) 15 (.f (iv ((k : Nat) : Int)))), (Ab.upd (Ab.upd (fun _ => none) 0 (some (.row 9 1 (hadO l X[a].name i).length (strsF (hadO l X[a].name i))))) 1 (some (.row 3 1 (newO l X[a].name i).length (intsF (newO l X[a].name i))))), 2⟩) (fun k => k ≤ w.length) (fun k => w.length - k) 0 (Nat.zero_le _) (gh_le ⟨le_upd rfl trivial (le_upd rfl trivial (le_upd rfl trivial (le_upd rfl rfl (le_upd rfl trivial (le_upd rfl trivial (le_upd rfl rfl (le_upd rfl trivial (le_upd rfl trivial (le_upd rfl trivial (le_upd rfl trivial (le_nil _))))))))))), le_hupd rfl trivial (le_hupd rfl trivial (le_h0 _ _))⟩)
      intro k hk
      by_cases hkw : k < w.length
      · have hwne : strsF w ≠ [] := strsF_ne hkw
        have HX := HasText_s (hadO l X[a].name i) w[k] (by omega)
        rw [show (hadO l X[a].name i).contains w[k] = true by simpa using hmem4 w[k] (List.getElem_mem hkw)] at HX
        by_cases hk0 : 0 < k
        · have hle : ltS (w.getD (k - 1) default) w[k] = true := asc_at hasc hkw hk0
          have hWp : (strsF w)[(((k : Nat) : Int) - 1).toNat * 1]? = some (sv (w.getD (k - 1) default)) := by
            rw [show (((k : Nat) : Int) - 1).toNat = k - 1 by omega, getD_at (show k - 1 < w.length by omega)]; exact strsF_at (by omega)
          repeat (first
    | (refine s_callS HX (fun _ => rfl) rfl rfl rfl ⟨sees_row rfl, sees_f _, trivial⟩ ?_)
    | (apply s_bind; exact rfl; exact rfl; exact rfl; exact rfl; exact rfl; exact rfl; exact les_f hle)
    | (apply s_a TY; exact rfl)
    | (apply s_t; exact rfl; (first | assumption | omega))
    | apply w_seq
    | apply w_region
    | (apply w_draw (id := 29) 22 rfl (by kernel_rfl))
    | apply s_nil
    | apply t_norm
    | apply t_exit
    | apply k_hit
    | apply w_block
    | apply w_exit
    | apply w_skip
    | (apply w_condT; exact rfl; exact rfl)
    | (apply w_condF; exact rfl; exact rfl)
    | (apply s_c TY; exact rfl; (first | omega | exact ⟨by omega, by (first | with_reducible assumption | ((with_reducible apply intsF_ne); omega) | ((with_reducible apply actsF_ne); omega) | ((with_reducible apply strsF_ne); omega) | ((with_reducible apply astsF_ne); omega) | assumption)⟩))
    | (apply s_z TY; exact rfl; (first | omega | exact ⟨by omega, by (first | with_reducible assumption | ((with_reducible apply intsF_ne); omega) | ((with_reducible apply actsF_ne); omega) | ((with_reducible apply strsF_ne); omega) | ((with_reducible apply astsF_ne); omega) | assumption)⟩))
    | (apply s_l TY; exact rfl; (first | exact rfl | with_reducible assumption | ((with_reducible apply intsF_at); omega) | ((with_reducible apply actsF_f0); omega) | ((with_reducible apply actsF_f1); omega) | ((with_reducible apply actsF_f2); omega) | ((with_reducible apply strsF_at); omega) | ((with_reducible apply astsF_f0); omega) | ((with_reducible apply astsF_f1); omega) | ((with_reducible apply astsF_f2); omega) | ((with_reducible apply astsF_f3); omega) | ((with_reducible apply astsF_f4); omega) | assumption)))
          exact ⟨k + 1, by omega, by omega, gh_le ⟨le_upd rfl trivial (le_upd rfl trivial (le_upd rfl trivial (le_upd rfl rfl (le_upd rfl trivial (le_upd rfl trivial (le_upd rfl rfl (le_upd rfl trivial (le_upd rfl trivial (le_upd rfl trivial (le_upd rfl trivial (le_nil _))))))))))), le_hupd rfl trivial (le_hupd rfl trivial (le_h0 _ _))⟩⟩
        · repeat (first
    | (refine s_callS HX (fun _ => rfl) rfl rfl rfl ⟨sees_row rfl, sees_f _, trivial⟩ ?_)
    | (apply s_a TY; exact rfl)
    | (apply s_t; exact rfl; (first | assumption | omega))
    | (apply s_f; exact rfl; (first | assumption | omega))
    | apply w_seq
    | apply w_region
    | (apply w_draw (id := 29) 22 rfl (by kernel_rfl))
    | apply s_nil
    | apply t_norm
    | apply t_exit
    | apply k_hit
    | apply w_block
    | apply w_exit
    | apply w_skip
    | (apply w_condT; exact rfl; exact rfl)
    | (apply w_condF; exact rfl; exact rfl)
    | (apply s_s; exact rfl)
    | (apply s_c TY; exact rfl; (first | omega | exact ⟨by omega, by (first | with_reducible assumption | ((with_reducible apply intsF_ne); omega) | ((with_reducible apply actsF_ne); omega) | ((with_reducible apply strsF_ne); omega) | ((with_reducible apply astsF_ne); omega) | assumption)⟩))
    | (apply s_l TY; exact rfl; (first | exact rfl | with_reducible assumption | ((with_reducible apply intsF_at); omega) | ((with_reducible apply actsF_f0); omega) | ((with_reducible apply actsF_f1); omega) | ((with_reducible apply actsF_f2); omega) | ((with_reducible apply strsF_at); omega) | ((with_reducible apply astsF_f0); omega) | ((with_reducible apply astsF_f1); omega) | ((with_reducible apply astsF_f2); omega) | ((with_reducible apply astsF_f3); omega) | ((with_reducible apply astsF_f4); omega) | assumption)))
          exact ⟨k + 1, by omega, by omega, gh_le ⟨le_upd rfl trivial (le_upd rfl trivial (le_upd rfl trivial (le_upd rfl rfl (le_upd rfl trivial (le_upd rfl trivial (le_upd rfl rfl (le_upd rfl trivial (le_upd rfl trivial (le_upd rfl trivial (le_upd rfl trivial (le_nil _))))))))))), le_hupd rfl trivial (le_hupd rfl trivial (le_h0 _ _))⟩⟩
      · repeat (first
    | (apply s_a TY; exact rfl)
    | (apply s_f; exact rfl; (first | assumption | omega))
    | apply w_seq
    | apply w_region
    | apply s_nil
    | apply t_norm
    | apply t_exit
    | apply k_hit
    | apply k_norm
    | apply w_exit
    | apply w_skip
    | (apply w_condF; exact rfl; exact rfl)
    | (apply s_c TY; exact rfl; (first | omega | exact ⟨by omega, by (first | with_reducible assumption | ((with_reducible apply intsF_ne); omega) | ((with_reducible apply actsF_ne); omega) | ((with_reducible apply strsF_ne); omega) | ((with_reducible apply astsF_ne); omega) | assumption)⟩)))
        exact ⟨i + 1, by omega, by omega, gh_le ⟨le_upd rfl trivial (le_upd rfl rfl (le_upd (congrArg (fun z => AV.f (bv z)) e10) trivial (le_upd (congrArg (fun z => AV.f (iv z)) e9) trivial (le_upd rfl rfl (le_upd rfl trivial (le_upd rfl trivial (le_upd rfl trivial (le_upd rfl trivial (le_nil _))))))))), le_hupd hr1 trivial (le_hupd hr0 trivial (le_h0 _ _))⟩⟩
    · have hyes : newV X[a].name l[i] = true := newV_iff.2 ⟨hn, by omega⟩
      have htl : toldS ltS l i = sortedN ltS (pplK l i) := by rw [toldS_at hil, if_neg h4]
      obtain ⟨m0, m1⟩ := mid0 l X[a].name i
      obtain ⟨m2, m3⟩ := mid_end hil hyes
      rw [← htl] at m2 m3
      have e9 : verK l X[a].name (i + 1) = verK l X[a].name i + 1 := by rw [verK_at hil, if_pos hyes]
      have e10 : wdrK l X[a].name (i + 1) = false := by rw [wdrK_at hil, if_neg (fun h => h4 h.2)]; exact hw0
      have hnd := hasc.nodup ltSOk
      generalize toldS ltS l i = w at *
      rw [hw0]
      repeat (first
    | (apply s_bind; exact rfl; exact rfl; exact rfl; exact rfl; exact rfl; exact rfl; exact nes_f (by assumption))
    | (apply s_a TY; exact rfl)
    | (apply s_t; exact rfl; (first | assumption | omega))
    | (apply s_f; exact rfl; (first | assumption | omega))
    | apply w_seq
    | apply w_region
    | (apply w_draw (id := 18) 17 rfl (by kernel_rfl))
    | apply s_nil
    | apply t_norm
    | apply w_block
    | apply w_skip
    | (apply w_condT; exact rfl; exact rfl)
    | (apply w_condF; exact rfl; exact rfl)
    | (apply s_k (HCp); exact rfl)
    | (apply s_k (HCa); exact rfl)
    | (apply s_k (H3); exact rfl)
    | (apply s_c TY; exact rfl; (first | omega | exact ⟨by omega, by (first | with_reducible assumption | ((with_reducible apply intsF_ne); omega) | ((with_reducible apply actsF_ne); omega) | ((with_reducible apply strsF_ne); omega) | ((with_reducible apply astsF_ne); omega) | assumption)⟩))
    | (apply s_l TY; exact rfl; (first | exact rfl | with_reducible assumption | ((with_reducible apply intsF_at); omega) | ((with_reducible apply actsF_f0); omega) | ((with_reducible apply actsF_f1); omega) | ((with_reducible apply actsF_f2); omega) | ((with_reducible apply strsF_at); omega) | ((with_reducible apply astsF_f0); omega) | ((with_reducible apply astsF_f1); omega) | ((with_reducible apply astsF_f2); omega) | ((with_reducible apply astsF_f3); omega) | ((with_reducible apply astsF_f4); omega) | assumption)))
      apply w_loop (fun k : Nat => ⟨(Ab.upd (Ab.upd (Ab.upd (Ab.upd (Ab.upd (Ab.upd (Ab.upd (Ab.upd (Ab.upd (Ab.upd (Ab.upd (fun _ => .bot) 1 (.f (.sl l.length (actsF l)))) 2 (.f (.pt [.sl rs.length (intsF rs)] 0))) 5 (.f (.sl X.length (astsF X)))) 7 (.f (iv ((a : Nat) : Int)))) 8 (.ow 0)) 9 (.f (iv (verK l X[a].name i)))) 10 (.f (.v (.bool false)))) 11 (.ow 1)) 12 (.f (iv ((i : Nat) : Int)))) 13 (.f (.sl w.length (strsF w)))) 15 (.f (iv ((k : Nat) : Int)))), (Ab.upd (Ab.upd (fun _ => none) 0 (some (.row 9 1 (midH l X[a].name i (w.take k)).length (strsF (midH l X[a].name i (w.take k)))))) 1 (some (.row 3 1 (midE l X[a].name i (w.take k)).length (intsF (midE l X[a].name i (w.take k)))))), 2⟩) (fun k => k ≤ w.length) (fun k => w.length - k) 0 (Nat.zero_le _) (gh_le ⟨le_upd rfl trivial (le_upd rfl trivial (le_upd rfl trivial (le_upd rfl rfl (le_upd rfl trivial (le_upd rfl trivial (le_upd rfl rfl (le_upd rfl trivial (le_upd rfl trivial (le_upd rfl trivial (le_upd rfl trivial (le_nil _))))))))))), le_hupd (rowI2 (by rw [List.take_zero]; exact m1.symm)) trivial (le_hupd (rowS_eq (by rw [List.take_zero]; exact m0.symm)) trivial (le_h0 _ _))⟩)
      intro k hk
      by_cases hkw : k < w.length
      · have hwne : strsF w ≠ [] := strsF_ne hkw
        have htk := List.take_succ_eq_append_getElem hkw
        have hnk : (w.take k ++ [w[k]]).Nodup := by rw [← htk]; exact hnd.sublist (List.take_sublist _ _)
        have hEl := midE_len l X[a].name i (w.take k)
        have hHl : (midH l X[a].name i (w.take k)).length ≤ 2000 := by
          have h5 := List.length_filter_le (fun n => !(hadO l X[a].name i).contains n) (w.take k)
          have h6 : (w.take k).length ≤ w.length := by rw [List.length_take]; omega
          unfold midH addO
          rw [List.length_append]; omega
        by_cases hin : w[k] ∈ hadO l X[a].name i
        · have hinm : w[k] ∈ midH l X[a].name i (w.take k) := by unfold midH addO; exact List.mem_append_left _ hin
          obtain ⟨q, hq, hz, hp, hqe⟩ := place_first hinm
          have HPl := place_in _ w[k] (by omega) q hq hz hp
          obtain ⟨hm0, hm1⟩ := mid_old hnk hin hq hqe
          rw [← htk] at hm0 hm1
          have hene : intsF (midE l X[a].name i (w.take k)) ≠ [] := intsF_ne (k := q) (by omega)
          by_cases hk0 : 0 < k
          · have hle : ltS (w.getD (k - 1) default) w[k] = true := asc_at hasc hkw hk0
            have hWp : (strsF w)[(((k : Nat) : Int) - 1).toNat * 1]? = some (sv (w.getD (k - 1) default)) := by
              rw [show (((k : Nat) : Int) - 1).toNat = k - 1 by omega, getD_at (show k - 1 < w.length by omega)]; exact strsF_at (by omega)
            have hst : q * 1 + 1 ≤ (intsF (midE l X[a].name i (w.take k))).length := by rw [intsF_len]; omega
            have hr0 := rowS_eq hm0.symm
            have hr1 : some (Blk.row 3 1 (midE l X[a].name i (w.take k)).length (setAt (intsF (midE l X[a].name i (w.take k))) (q * 1) [iv (verK l X[a].name i + 1)])) = some (Blk.row 3 1 (midE l X[a].name i (w.take (k + 1))).length (intsF (midE l X[a].name i (w.take (k + 1))))) := by rw [ints_set, hm1, midE_len l X[a].name i (w.take k), midE_len l X[a].name i (w.take (k + 1)), hm0]
            repeat (first
    | (refine s_callS HPl (fun _ => rfl) rfl rfl rfl ⟨sees_row rfl, sees_f _, trivial⟩ ?_)
    | (apply s_bind; exact rfl; exact rfl; exact rfl; exact rfl; exact rfl; exact rfl; exact les_f hle)
    | (apply s_storeR TY; exact rfl; exact rfl; exact rfl; exact rfl; exact rfl; exact hst)
    | (apply s_a TY; exact rfl)
    | (apply s_t; exact rfl; (first | assumption | omega))
    | (apply s_f; exact rfl; (first | assumption | omega))
    | apply w_seq
    | apply w_region
    | (apply w_draw (id := 29) 22 rfl (by kernel_rfl))
    | apply s_nil
    | apply t_norm
    | apply k_norm
    | apply w_block
    | apply w_skip
    | (apply w_condT; exact rfl; exact rfl)
    | (apply w_condF; exact rfl; exact rfl)
    | (apply s_s; exact rfl)
    | (apply s_c TY; exact rfl; (first | omega | exact ⟨by omega, by (first | with_reducible assumption | ((with_reducible apply intsF_ne); omega) | ((with_reducible apply actsF_ne); omega) | ((with_reducible apply strsF_ne); omega) | ((with_reducible apply astsF_ne); omega) | assumption)⟩))
    | (apply s_z TY; exact rfl; (first | omega | exact ⟨by omega, by (first | with_reducible assumption | ((with_reducible apply intsF_ne); omega) | ((with_reducible apply actsF_ne); omega) | ((with_reducible apply strsF_ne); omega) | ((with_reducible apply astsF_ne); omega) | assumption)⟩))
    | (apply s_l TY; exact rfl; (first | exact rfl | with_reducible assumption | ((with_reducible apply intsF_at); omega) | ((with_reducible apply actsF_f0); omega) | ((with_reducible apply actsF_f1); omega) | ((with_reducible apply actsF_f2); omega) | ((with_reducible apply strsF_at); omega) | ((with_reducible apply astsF_f0); omega) | ((with_reducible apply astsF_f1); omega) | ((with_reducible apply astsF_f2); omega) | ((with_reducible apply astsF_f3); omega) | ((with_reducible apply astsF_f4); omega) | assumption)))
            exact ⟨k + 1, by omega, by omega, gh_le ⟨le_upd rfl trivial (le_upd rfl trivial (le_upd rfl trivial (le_upd rfl rfl (le_upd rfl trivial (le_upd rfl trivial (le_upd rfl rfl (le_upd rfl trivial (le_upd rfl trivial (le_upd rfl trivial (le_upd rfl trivial (le_nil _))))))))))), le_hupd hr1 trivial (le_hupd hr0 trivial (le_h0 _ _))⟩⟩
          · have hst : q * 1 + 1 ≤ (intsF (midE l X[a].name i (w.take k))).length := by rw [intsF_len]; omega
            have hr0 := rowS_eq hm0.symm
            have hr1 : some (Blk.row 3 1 (midE l X[a].name i (w.take k)).length (setAt (intsF (midE l X[a].name i (w.take k))) (q * 1) [iv (verK l X[a].name i + 1)])) = some (Blk.row 3 1 (midE l X[a].name i (w.take (k + 1))).length (intsF (midE l X[a].name i (w.take (k + 1))))) := by rw [ints_set, hm1, midE_len l X[a].name i (w.take k), midE_len l X[a].name i (w.take (k + 1)), hm0]
            repeat (first
    | (refine s_callS HPl (fun _ => rfl) rfl rfl rfl ⟨sees_row rfl, sees_f _, trivial⟩ ?_)
    | (apply s_storeR TY; exact rfl; exact rfl; exact rfl; exact rfl; exact rfl; exact hst)
    | (apply s_a TY; exact rfl)
    | (apply s_t; exact rfl; (first | assumption | omega))
    | (apply s_f; exact rfl; (first | assumption | omega))
    | apply w_seq
    | apply w_region
    | (apply w_draw (id := 29) 22 rfl (by kernel_rfl))
    | apply s_nil
    | apply t_norm
    | apply k_norm
    | apply w_block
    | apply w_skip
    | (apply w_condT; exact rfl; exact rfl)
    | (apply w_condF; exact rfl; exact rfl)
    | (apply s_s; exact rfl)
    | (apply s_c TY; exact rfl; (first | omega | exact ⟨by omega, by (first | with_reducible assumption | ((with_reducible apply intsF_ne); omega) | ((with_reducible apply actsF_ne); omega) | ((with_reducible apply strsF_ne); omega) | ((with_reducible apply astsF_ne); omega) | assumption)⟩))
    | (apply s_l TY; exact rfl; (first | exact rfl | with_reducible assumption | ((with_reducible apply intsF_at); omega) | ((with_reducible apply actsF_f0); omega) | ((with_reducible apply actsF_f1); omega) | ((with_reducible apply actsF_f2); omega) | ((with_reducible apply strsF_at); omega) | ((with_reducible apply astsF_f0); omega) | ((with_reducible apply astsF_f1); omega) | ((with_reducible apply astsF_f2); omega) | ((with_reducible apply astsF_f3); omega) | ((with_reducible apply astsF_f4); omega) | assumption)))
            exact ⟨k + 1, by omega, by omega, gh_le ⟨le_upd rfl trivial (le_upd rfl trivial (le_upd rfl trivial (le_upd rfl rfl (le_upd rfl trivial (le_upd rfl trivial (le_upd rfl rfl (le_upd rfl trivial (le_upd rfl trivial (le_upd rfl trivial (le_upd rfl trivial (le_nil _))))))))))), le_hupd hr1 trivial (le_hupd hr0 trivial (le_h0 _ _))⟩⟩
        · obtain ⟨hni, hm0, hm1⟩ := mid_new hnk hin
          rw [← htk] at hm0 hm1
          have HPl := place_no _ w[k] (by omega) hni
          by_cases hk0 : 0 < k
          · have hle : ltS (w.getD (k - 1) default) w[k] = true := asc_at hasc hkw hk0
            have hWp : (strsF w)[(((k : Nat) : Int) - 1).toNat * 1]? = some (sv (w.getD (k - 1) default)) := by
              rw [show (((k : Nat) : Int) - 1).toNat = k - 1 by omega, getD_at (show k - 1 < w.length by omega)]; exact strsF_at (by omega)
            have hst : (midH l X[a].name i (w.take k)).length * 1 + 1 ≤ (intsF (midE l X[a].name i (w.take k)) ++ [iv 0]).length := by rw [List.length_append, intsF_len]; show _ ≤ _ + 1; omega
            have hr0 := rowS_snoc hm0
            have hr1 : some (Blk.row 3 1 ((midE l X[a].name i (w.take k)).length + 1) (setAt (intsF (midE l X[a].name i (w.take k)) ++ [iv 0]) ((midH l X[a].name i (w.take k)).length * 1) [iv (verK l X[a].name i + 1)])) = some (Blk.row 3 1 (midE l X[a].name i (w.take (k + 1))).length (intsF (midE l X[a].name i (w.take (k + 1))))) := by
              rw [← intsF_snoc, ints_set, ← hEl, List.set_append_right _ _ (Nat.le_refl _), Nat.sub_self, ← hm1, List.length_append]; rfl
            repeat (first
    | (refine s_callS HPl (fun _ => rfl) rfl rfl rfl ⟨sees_row rfl, sees_f _, trivial⟩ ?_)
    | (apply s_bind; exact rfl; exact rfl; exact rfl; exact rfl; exact rfl; exact rfl; exact les_f hle)
    | (apply s_storeR TY; exact rfl; exact rfl; exact rfl; exact rfl; exact rfl; exact hst)
    | (apply s_append TY; exact rfl; exact rfl; exact rfl; exact rfl; exact rfl; exact rfl; exact rfl; exact rfl; exact rfl; (unfold maxLen; omega); omega)
    | (apply s_a TY; exact rfl)
    | (apply s_t; exact rfl; (first | assumption | omega))
    | apply w_seq
    | apply w_region
    | (apply w_draw (id := 29) 22 rfl (by kernel_rfl))
    | apply s_nil
    | apply t_norm
    | apply k_norm
    | apply w_block
    | apply w_skip
    | (apply w_condT; exact rfl; exact rfl)
    | (apply w_condF; exact rfl; exact rfl)
    | (apply s_s; exact rfl)
    | (apply s_c TY; exact rfl; (first | omega | exact ⟨by omega, by (first | with_reducible assumption | ((with_reducible apply intsF_ne); omega) | ((with_reducible apply actsF_ne); omega) | ((with_reducible apply strsF_ne); omega) | ((with_reducible apply astsF_ne); omega) | assumption)⟩))
    | (apply s_z TY; exact rfl; (first | omega | exact ⟨by omega, by (first | with_reducible assumption | ((with_reducible apply intsF_ne); omega) | ((with_reducible apply actsF_ne); omega) | ((with_reducible apply strsF_ne); omega) | ((with_reducible apply astsF_ne); omega) | assumption)⟩))
    | (apply s_l TY; exact rfl; (first | exact rfl | with_reducible assumption | ((with_reducible apply intsF_at); omega) | ((with_reducible apply actsF_f0); omega) | ((with_reducible apply actsF_f1); omega) | ((with_reducible apply actsF_f2); omega) | ((with_reducible apply strsF_at); omega) | ((with_reducible apply astsF_f0); omega) | ((with_reducible apply astsF_f1); omega) | ((with_reducible apply astsF_f2); omega) | ((with_reducible apply astsF_f3); omega) | ((with_reducible apply astsF_f4); omega) | assumption)))
            exact ⟨k + 1, by omega, by omega, gh_le ⟨le_upd rfl trivial (le_upd rfl trivial (le_upd rfl trivial (le_upd rfl rfl (le_upd rfl trivial (le_upd rfl trivial (le_upd rfl rfl (le_upd rfl trivial (le_upd rfl trivial (le_upd rfl trivial (le_upd rfl trivial (le_nil _))))))))))), le_hupd hr1 trivial (le_hupd hr0 trivial (le_h0 _ _))⟩⟩
          · have hst : (midH l X[a].name i (w.take k)).length * 1 + 1 ≤ (intsF (midE l X[a].name i (w.take k)) ++ [iv 0]).length := by rw [List.length_append, intsF_len]; show _ ≤ _ + 1; omega
            have hr0 := rowS_snoc hm0
            have hr1 : some (Blk.row 3 1 ((midE l X[a].name i (w.take k)).length + 1) (setAt (intsF (midE l X[a].name i (w.take k)) ++ [iv 0]) ((midH l X[a].name i (w.take k)).length * 1) [iv (verK l X[a].name i + 1)])) = some (Blk.row 3 1 (midE l X[a].name i (w.take (k + 1))).length (intsF (midE l X[a].name i (w.take (k + 1))))) := by
              rw [← intsF_snoc, ints_set, ← hEl, List.set_append_right _ _ (Nat.le_refl _), Nat.sub_self, ← hm1, List.length_append]; rfl
            repeat (first
    | (refine s_callS HPl (fun _ => rfl) rfl rfl rfl ⟨sees_row rfl, sees_f _, trivial⟩ ?_)
    | (apply s_storeR TY; exact rfl; exact rfl; exact rfl; exact rfl; exact rfl; exact hst)
    | (apply s_append TY; exact rfl; exact rfl; exact rfl; exact rfl; exact rfl; exact rfl; exact rfl; exact rfl; exact rfl; (unfold maxLen; omega); omega)
    | (apply s_a TY; exact rfl)
    | (apply s_t; exact rfl; (first | assumption | omega))
    | (apply s_f; exact rfl; (first | assumption | omega))
    | apply w_seq
    | apply w_region
    | (apply w_draw (id := 29) 22 rfl (by kernel_rfl))
    | apply s_nil
    | apply t_norm
    | apply k_norm
    | apply w_block
    | apply w_skip
    | (apply w_condT; exact rfl; exact rfl)
    | (apply w_condF; exact rfl; exact rfl)
    | (apply s_s; exact rfl)
    | (apply s_c TY; exact rfl; (first | omega | exact ⟨by omega, by (first | with_reducible assumption | ((with_reducible apply intsF_ne); omega) | ((with_reducible apply actsF_ne); omega) | ((with_reducible apply strsF_ne); omega) | ((with_reducible apply astsF_ne); omega) | assumption)⟩))
    | (apply s_l TY; exact rfl; (first | exact rfl | with_reducible assumption | ((with_reducible apply intsF_at); omega) | ((with_reducible apply actsF_f0); omega) | ((with_reducible apply actsF_f1); omega) | ((with_reducible apply actsF_f2); omega) | ((with_reducible apply strsF_at); omega) | ((with_reducible apply astsF_f0); omega) | ((with_reducible apply astsF_f1); omega) | ((with_reducible apply astsF_f2); omega) | ((with_reducible apply astsF_f3); omega) | ((with_reducible apply astsF_f4); omega) | assumption)))
            exact ⟨k + 1, by omega, by omega, gh_le ⟨le_upd rfl trivial (le_upd rfl trivial (le_upd rfl trivial (le_upd rfl rfl (le_upd rfl trivial (le_upd rfl trivial (le_upd rfl rfl (le_upd rfl trivial (le_upd rfl trivial (le_upd rfl trivial (le_upd rfl trivial (le_nil _))))))))))), le_hupd hr1 trivial (le_hupd hr0 trivial (le_h0 _ _))⟩⟩
      · have hkl : k = w.length := by omega
        subst hkl
        have hr0 := rowS_eq (show midH l X[a].name i (w.take w.length) = hadO l X[a].name (i + 1) by rw [List.take_length]; exact m2)
        have hr1 := rowI2 (show midE l X[a].name i (w.take w.length) = newO l X[a].name (i + 1) by rw [List.take_length]; exact m3)
        repeat (first
    | (apply s_a TY; exact rfl)
    | (apply s_f; exact rfl; (first | assumption | omega))
    | apply w_seq
    | apply w_region
    | apply s_nil
    | apply t_norm
    | apply t_exit
    | apply k_hit
    | apply k_norm
    | apply w_exit
    | (apply w_condT; exact rfl; exact rfl)
    | (apply w_condF; exact rfl; exact rfl)
    | (apply s_c TY; exact rfl; (first | omega | exact ⟨by omega, by (first | with_reducible assumption | ((with_reducible apply intsF_ne); omega) | ((with_reducible apply actsF_ne); omega) | ((with_reducible apply strsF_ne); omega) | ((with_reducible apply astsF_ne); omega) | assumption)⟩)))
        exact ⟨i + 1, by omega, by omega, gh_le ⟨le_upd rfl trivial (le_upd rfl rfl (le_upd (congrArg (fun z => AV.f (bv z)) e10) trivial (le_upd (congrArg (fun z => AV.f (iv z)) e9) trivial (le_upd rfl rfl (le_upd rfl trivial (le_upd rfl trivial (le_upd rfl trivial (le_upd rfl trivial (le_nil _))))))))), le_hupd hr1 trivial (le_hupd hr0 trivial (le_h0 _ _))⟩⟩
  · have hie : i = l.length := by omega
    subst hie
    have hhl : X[a].had.length = (hadO l X[a].name l.length).length := by rw [hhad, hol]
    repeat (first
    | (apply s_bind; exact rfl; exact rfl; exact rfl; exact rfl; exact rfl; exact rfl; exact neb_t (c := false) (by rw [hgone]; simp))
    | (apply s_a TY; exact rfl)
    | (apply s_t; exact rfl; (first | assumption | omega))
    | (apply s_f; exact rfl; (first | assumption | omega))
    | apply w_seq
    | apply w_region
    | apply s_nil
    | apply t_norm
    | apply t_exit
    | apply k_hit
    | apply w_block
    | apply w_exit
    | apply w_skip
    | (apply w_condF; exact rfl; exact rfl)
    | (apply s_c TY; exact rfl; (first | omega | exact ⟨by omega, by (first | with_reducible assumption | ((with_reducible apply intsF_ne); omega) | ((with_reducible apply actsF_ne); omega) | ((with_reducible apply strsF_ne); omega) | ((with_reducible apply astsF_ne); omega) | assumption)⟩))
    | (apply s_l TY; exact rfl; (first | exact rfl | with_reducible assumption | ((with_reducible apply intsF_at); omega) | ((with_reducible apply actsF_f0); omega) | ((with_reducible apply actsF_f1); omega) | ((with_reducible apply actsF_f2); omega) | ((with_reducible apply strsF_at); omega) | ((with_reducible apply astsF_f0); omega) | ((with_reducible apply astsF_f1); omega) | ((with_reducible apply astsF_f2); omega) | ((with_reducible apply astsF_f3); omega) | ((with_reducible apply astsF_f4); omega) | assumption)))
    apply w_loop (fun k : Nat => ⟨(Ab.upd (Ab.upd (Ab.upd (Ab.upd (Ab.upd (Ab.upd (Ab.upd (Ab.upd (fun _ => .bot) 1 (.f (.sl l.length (actsF l)))) 2 (.f (.pt [.sl rs.length (intsF rs)] 0))) 5 (.f (.sl X.length (astsF X)))) 7 (.f (iv ((a : Nat) : Int)))) 8 (.ow 0)) 10 (.f (bv (wdrK l X[a].name l.length)))) 11 (.ow 1)) 17 (.f (iv ((k : Nat) : Int)))), (Ab.upd (Ab.upd (fun _ => none) 0 (some (.row 9 1 (hadO l X[a].name l.length).length (strsF (hadO l X[a].name l.length))))) 1 (some (.row 3 1 (newO l X[a].name l.length).length (intsF (newO l X[a].name l.length))))), 2⟩) (fun k => k ≤ (hadO l X[a].name l.length).length) (fun k => (hadO l X[a].name l.length).length - k) 0 (Nat.zero_le _) (gh_le ⟨le_upd rfl trivial (le_upd rfl rfl (le_upd rfl trivial (le_upd rfl rfl (le_upd rfl trivial (le_upd rfl trivial (le_upd rfl trivial (le_upd rfl trivial (le_nil _)))))))), le_hupd rfl trivial (le_hupd rfl trivial (le_h0 _ _))⟩)
    intro k hk
    by_cases hkh : k < (hadO l X[a].name l.length).length
    · have HKn := KnownBy_all rs o l (by omega) hcd hall (hadO l X[a].name l.length)[k] X[a].name hsent
      have hsome := (hadO_mem l X[a].name (hadO l X[a].name l.length)[k] l.length (Nat.le_refl _)).1 (List.getElem_mem hkh)
      have hnk : k < (newO l X[a].name l.length).length := by unfold newO; rw [List.length_map]; exact hkh
      have hnew : (newO l X[a].name l.length)[k] = (hadK l X[a].name (hadO l X[a].name l.length)[k] l.length).getD 0 := by simp only [newO, List.getElem_map]
      rw [hsome, Bool.true_and, ← hnew] at HKn
      have HX := HasText_s X[a].had (hadO l X[a].name l.length)[k] (by omega)
      rw [show X[a].had.contains (hadO l X[a].name l.length)[k] = true by
        rw [hhad, List.contains_iff_mem]; exact (hadS_mem ltSOk).2 hsome] at HX
      have hkn : (wdrK l X[a].name l.length != wdrK l X[a].name l.length) = false := by simp
      have h8 := strsF_at hkh
      have h8n := strsF_ne hkh
      have h11 := intsF_at hnk
      have h11n := intsF_ne hnk
      repeat (first
    | (apply s_bind; exact rfl; exact rfl; exact rfl; exact rfl; exact rfl; exact rfl; exact neb_t (c := false) hkn)
    | (apply s_a TY; exact rfl)
    | (apply s_t; exact rfl; (first | assumption | omega))
    | apply w_seq
    | apply w_region
    | (apply w_draw (id := 43) 20 rfl (by kernel_rfl))
    | (apply w_draw (id := 44) 25 rfl (by kernel_rfl))
    | apply s_nil
    | apply t_norm
    | apply k_norm
    | apply w_block
    | apply w_skip
    | (apply w_condT; exact rfl; exact rfl)
    | (apply w_condF; exact rfl; exact rfl)
    | (apply s_k (HCp); exact rfl)
    | (apply s_k (HCa); exact rfl)
    | (apply s_k (HKn); exact rfl)
    | (apply s_k (HX); exact rfl)
    | (apply s_c TY; exact rfl; (first | omega | exact ⟨by omega, by (first | with_reducible assumption | ((with_reducible apply intsF_ne); omega) | ((with_reducible apply actsF_ne); omega) | ((with_reducible apply strsF_ne); omega) | ((with_reducible apply astsF_ne); omega) | assumption)⟩))
    | (apply s_l TY; exact rfl; (first | exact rfl | with_reducible assumption | ((with_reducible apply intsF_at); omega) | ((with_reducible apply actsF_f0); omega) | ((with_reducible apply actsF_f1); omega) | ((with_reducible apply actsF_f2); omega) | ((with_reducible apply strsF_at); omega) | ((with_reducible apply astsF_f0); omega) | ((with_reducible apply astsF_f1); omega) | ((with_reducible apply astsF_f2); omega) | ((with_reducible apply astsF_f3); omega) | ((with_reducible apply astsF_f4); omega) | assumption))
    | (apply s_r TY; exact rfl; (first | exact rfl | with_reducible assumption | ((with_reducible apply intsF_at); omega) | ((with_reducible apply actsF_f0); omega) | ((with_reducible apply actsF_f1); omega) | ((with_reducible apply actsF_f2); omega) | ((with_reducible apply strsF_at); omega) | ((with_reducible apply astsF_f0); omega) | ((with_reducible apply astsF_f1); omega) | ((with_reducible apply astsF_f2); omega) | ((with_reducible apply astsF_f3); omega) | ((with_reducible apply astsF_f4); omega) | assumption)))
      exact ⟨k + 1, by omega, by omega, gh_le ⟨le_upd rfl trivial (le_upd rfl rfl (le_upd rfl trivial (le_upd rfl rfl (le_upd rfl trivial (le_upd rfl trivial (le_upd rfl trivial (le_upd rfl trivial (le_nil _)))))))), le_hupd rfl trivial (le_hupd rfl trivial (le_h0 _ _))⟩⟩
    · repeat (first
    | (apply s_a TY; exact rfl)
    | (apply s_f; exact rfl; (first | assumption | omega))
    | apply w_seq
    | apply w_region
    | apply s_nil
    | apply t_norm
    | apply t_exit
    | apply k_hit
    | apply k_norm
    | apply w_exit
    | (apply w_condF; exact rfl; exact rfl)
    | (apply s_c TY; exact rfl; (first | omega | exact ⟨by omega, by (first | with_reducible assumption | ((with_reducible apply intsF_ne); omega) | ((with_reducible apply actsF_ne); omega) | ((with_reducible apply strsF_ne); omega) | ((with_reducible apply astsF_ne); omega) | assumption)⟩)))
      exact ⟨a + 1, by omega, by omega, gh_le ⟨le_upd rfl trivial (le_upd rfl trivial (le_upd rfl trivial (le_upd rfl trivial (le_nil _)))), le_h0 _ _⟩⟩
end Go.Proofs.YtenkgipcblfocaaGreat
namespace Go.Ab
open Go Go.RowKit
section
variable {P : Program} {w : World}
end
end Go.Ab
namespace Go.Proofs.YtenkgipcblfocaaGreat
open Go Go.Ab Go.ChangeShapes Go.WideShapes Go.ChangeAt Go.RowKit
theorem ownKnobT : ownKnob Tryz.prog.godebug = none := by kernel_rfl
theorem laidOutT : laidOutB Tryz.prog = true := by kernel_rfl
theorem trodAll_stays {H : Type} {enc : TypeId × Value → H} {W W' : World} {sp : Nat → Bool} (hb : Below W.heap.size W W') : ∀ {ts : List TypeId} {vs : List Value} {ds : List (DataW H)} {ps : List MemPlace}, (∀ t ∈ ts, Tryz.prog.readableRec t = true ∧ t < Tryz.prog.types.size) → DataW.TrodAll enc Tryz.prog W 0 (fun _ => true) true ts vs ds ps → (∀ p ∈ ps, p.block < W.heap.size) → (∀ p ∈ ps, sp p.block = true) → DataW.TrodAll enc Tryz.prog W' 0 sp true ts vs ds ps
  | [], [], [], _, _, h, _, _ => h
  | t :: ts, v :: vs, d :: ds, ps, ht, ⟨p, q, h1, h2, e⟩, hlt, hsp => by
    have hp : ∀ x ∈ p, x ∈ ps := fun x hx => by rw [e]; exact List.mem_append_left _ hx
    have hq : ∀ x ∈ q, x ∈ ps := fun x hx => by rw [e]; exact List.mem_append_right _ hx
    exact ⟨p, q, WideElems.Trod_stays laidOutT (ht t (by simp)).1 (ht t (by simp)).2 h1 (fun x hx => hb.same (hlt x (hp x hx))) (fun x hx => hsp x (hp x hx)),
      trodAll_stays hb (fun u hu => ht u (by simp [hu])) h2 (fun x hx => hlt x (hq x hx)) (fun x hx => hsp x (hq x hx)), e⟩
theorem post_law {H : Type} {enc : TypeId × Value → H} {f : Func} {s : ChangeSpec} {W W' : World} {args : Array Value} {ds gs : List (DataW H)} {before : List MemPlace}
    (hW : DataW.Whole enc Tryz.prog f.params.toList s.vars false W args.toList ds gs before) (hv : s.vars = []) (hr : f.resultTypes = #[4])
    (ht : ∀ t ∈ f.params.toList, Tryz.prog.readableRec t = true ∧ t < Tryz.prog.types.size)
    (hres : (s.fn H (ds ++ gs)).results = [.lit (.bool true)]) (hargs : (s.fn H (ds ++ gs)).args = ds) (hvs : (s.fn H (ds ++ gs)).vars = [])
    (hb : Below W.heap.size W W') : s.post enc Tryz.prog f false true false false W args (.bool true) W' := by
  have hlt := hW.lt
  have hW0 := hW
  obtain ⟨p, q, h1, h2, e, hz, hn⟩ := hW
  have h2' := h2
  rw [hv] at h2'
  have hq : gs = [] ∧ q = [] := by
    cases gs with
    | nil => exact ⟨rfl, h2'⟩
    | cons g r => exact absurd h2' (by intro h; cases h)
  obtain ⟨rfl, rfl⟩ := hq
  rw [List.append_nil] at e
  subst e
  refine ⟨ds, [], before, [], before, [], hW0, ?_, ?_, ?_, Below.frame hb _, fun h => by cases h⟩
  · rw [hr, hres]; exact trodAll_mk1 (shut_bool Tryz.underlying4 true)
  · rw [hargs]
    exact trodAll_stays hb ht h1 hlt (fun x hx => by simpa using hlt x hx)
  · rw [hv, hvs]; rfl
theorem sq_map {α : Type} (f : α → FV) : ∀ l : List α, l.flatMap (fun x => [f x]) = l.map f
  | [] => rfl
  | x :: l => by rw [List.flatMap_cons, sq_map f l]; rfl
section
variable {W : World}
theorem opens_i : Opens Tryz.prog W 3 (fun z : Int => [iv z]) := opens_int Tryz.underlying3
theorem opens_ints : Opens Tryz.prog W 34 (fun l : List Int => [.sl l.length (intsF l)]) := (opens_sl (s := 1) Tryz.underlying34 (by kernel_rfl) (by decide) opens_i).map id fun l => by rw [sq_map]; rfl
theorem opens_sky : Opens Tryz.prog W 36 (fun l : List Int => [.sl l.length (intsF l)]) := (opens_st Tryz.underlying36 (by kernel_rfl) (ofs_cons (s := 1) (by kernel_rfl) rfl opens_ints (ofs_nil))).map (fun p => p.1) fun _ => rfl
theorem opens_nm : Opens Tryz.prog W 9 (fun s : Nm => [sv s]) := (opens_str Tryz.underlying9).map (fun s => s.data.toList) fun s => by obtain ⟨⟨l⟩⟩ := s; rfl
theorem opens_act : Opens Tryz.prog W 67 actF := (opens_st Tryz.underlying67 (by kernel_rfl) (ofs_cons (s := 1) (by kernel_rfl) rfl opens_i (ofs_cons (s := 1) (by kernel_rfl) rfl opens_nm (ofs_cons (s := 1) (by kernel_rfl) rfl opens_ints (ofs_nil))))).map (fun p => ⟨p.1, p.2.1, p.2.2.1⟩) fun _ => rfl
theorem opens_acts : Opens Tryz.prog W 37 (fun l : List Act => [.sl l.length (actsF l)]) := opens_sl (s := 3) Tryz.underlying37 (by kernel_rfl) (by decide) opens_act
end
set_option maxRecDepth 100000 in
theorem arg_st {H : Type} {enc : TypeId × Value → H} {W : World} {base : Nat} {T : TypeId} {fs : Array Field} {α : Type} {f : α → List FV} {v : Value} {d : DataW H} {ps : List MemPlace} (h : Opens Tryz.prog W T f) (ht : Tryz.prog.underlying T = some (.struct fs)) (hv : Value.okWide Tryz.prog W .any base T v) (hd : DataW.Trod enc Tryz.prog W 0 (fun _ => true) true T v d ps) : ∃ a, RepF W (fun _ => False) v (.agg (f a)) := by
  obtain ⟨cs, e, _⟩ := okWide_struct ht hv
  exact arg_agg h e hd
set_option maxRecDepth 100000 in
theorem arg_sl {H : Type} {enc : TypeId × Value → H} {W : World} {base : Nat} {T E : TypeId} {α : Type} {f : α → FV} {v : Value} {d : DataW H} {ps : List MemPlace} (h : Opens Tryz.prog W T (fun a => [f a])) (ht : Tryz.prog.underlying T = some (.slice E)) (hv : Value.okWide Tryz.prog W .any base T v) (hd : DataW.Trod enc Tryz.prog W 0 (fun _ => true) true T v d ps) : ∃ a, RepF W (fun _ => False) v (f a) := by
  obtain ⟨a, n, c, rfl⟩ := okWide_slice ht hv
  exact arg_one h rfl hd
theorem law_calls {f : Nat} {xs : List FV} (S : Summ Tryz.prog GG f xs (.v (.bool true))) {W : World} {args : Array Value} (R : RepL W (fun _ => False) args.toList xs) : Calls Tryz.prog f args W fun e W' => e = .returned (.bool true) ∧ Below W.heap.size W W' := by
  have := S.call W (fun _ => False) args.toList (fun _ h => h.elim) (fun g cs h => by cases h) R
  simp only [Array.toArray_toList] at this
  refine this.mono fun e w' ⟨v, h1, h2, h3⟩ => ⟨?_, h3⟩
  rw [h1, repV h2]
end Go.Proofs.YtenkgipcblfocaaGreat
