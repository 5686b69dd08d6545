/- Laws on which the proofs of this seat stand. No condition. -/
import Derived.Test.YtenkgipcblfocaaGreatAm4
import Derived.DataShut
import Derived.Test.YtenkgipcblfocaaGreatRows
import Derived.WalkKit
import Derived.ProofKit
import Derived.OpenShut
import Derived.Stop.Joined
namespace Go.Proofs.YtenkgipcblfocaaGreat
open Go Go.RowKit Go.Proofs Go.Shelf Go.Ab
theorem HX_newB {al : List Alt} {a : Alt} {i : Nat} {B : Blk} (hl : al.length ≤ 399) (h : HX (al ++ [a]) al.length i = some B) : HX al 1000 i = some B := by rwa [HX_new al a (by omega)] at h
theorem le_HOn {cs : List Cel} {ppl : List Nm} {al : List Alt} {a : Alt} {h : Nat → Option Blk} (hl : al.length ≤ 399) (h0 : h 0 = some (.box [.f (xF cs), .ow 1, .ow 2])) (h1 : h 1 = some (.row 9 1 ppl.length (strsF ppl))) (h2 : h 2 = some (.rowA 166 1 (al.length + 1) (PT al 1000 ++ [.bx 4 0]))) (h3 : h 3 = some (.map (mpG a.had))) (h4 : h 4 = some (.box (bxC 3 a))) (hx : ∀ i B, HX al 1000 i = some B → h i = some B) : ∀ i, HO cs ppl (al ++ [a]) al.length a i = none ∨ ∃ B, HO cs ppl (al ++ [a]) al.length a i = some B ∧ h i = some B ∧ closedB (HO cs ppl (al ++ [a]) al.length a) B := le_base (HO_cl cs ppl _ al.length a (by simp; omega)) fun i B hB => by
  by_cases e0 : i = 0
  · subst e0; rw [h0]; exact hB
  by_cases e1 : i = 1
  · subst e1; rw [h1]; exact hB
  by_cases e2 : i = 2
  · subst e2
    rw [h2, PT_new al a (by omega)]
    have : HO cs ppl (al ++ [a]) al.length a 2 = some (.rowA 166 1 (al ++ [a]).length (PT (al ++ [a]) al.length)) := rfl
    rw [this, List.length_append] at hB
    exact hB
  by_cases e3 : i = 3
  · subst e3; rw [h3]; exact hB
  by_cases e4 : i = 4
  · subst e4; rw [h4]; exact hB
  rw [HO_x _ _ _ _ _ (by omega)] at hB
  exact hx i B (HX_newB hl hB)
theorem PT_killN (al : List Alt) : (PT al 1000 ++ [AV.bx 4 0]).map (killA 2) = PT al 1000 ++ [.bx 4 0] := by
  rw [List.map_append, PT_kill al 1000 (by omega)]; rfl
theorem nil_cell {C : Ctx} {w : World} {h : Nat → Option Blk} {J : Nat → Value} {v : Value} (q : RepA C w h J v (.f (.v (.slice none 0 0)))) : RepA C w h J v (.f (.sl 0 [])) := rep_nilsl q
set_option maxRecDepth 100000 in
set_option maxHeartbeats 3200000 in
theorem act2_h (cs : List Cel) (ppl : List Nm) (al : List Alt) (hl : al.length ≤ 399) (hcs : cs.length ≤ 1000) (n : Nm) (hnl : n.length ≤ 1000) (hn : nameB n = true) (hp : ppl.length ≤ 1000) (cl : List Int) (hc0 : 0 < cl.length) (hcm : cl.length ≤ 1000000) (hcl : celsE cs.length cl = 0) (hz : ∀ i, i < al.length → nmA al n i = false) : SummH Tryz.prog GG 152 (HB cs ppl al) [.bx 0 0, .f (.agg [iv 2, sv n, .sl cl.length (intsF cl)])] (.f (.tup [.sl ppl.length (strsF (ascN ppl)), iv 0])) (HB cs ppl (al ++ [sent (⟨n, 0, [], false, fun _ => none, []⟩ : Alt) cl ppl])) := by
  have hset : (al ++ [(⟨n, 0, [], false, fun _ => none, []⟩ : Alt)]).set al.length (sent (⟨n, 0, [], false, fun _ => none, []⟩ : Alt) cl ppl) = al ++ [sent (⟨n, 0, [], false, fun _ => none, []⟩ : Alt) cl ppl] := by simp
  rw [← hset]
  have HN := isName_s n (by omega)
  rw [hn] at HN
  have HC := cellsErr_s cs cl (by omega) (by omega)
  rw [hcl] at HC
  have HH := hasCells_s 2
  rw [show hasCB 2 = true from rfl] at HH
  have HF := find_no cs ppl al n (by omega) hz
  have HI := IndexS_s ppl n (by omega)
  have hall : (al ++ [(⟨n, 0, [], false, fun _ => none, []⟩ : Alt)]).length ≤ 400 := by simp; omega
  have hk : al.length < (al ++ [(⟨n, 0, [], false, fun _ => none, []⟩ : Alt)]).length := by simp
  have hver : 0 ≤ (⟨n, 0, [], false, fun _ => none, []⟩ : Alt).ver ∧ (⟨n, 0, [], false, fun _ => none, []⟩ : Alt).ver ≤ 1000 := ⟨Int.le_refl _, (by decide : (0 : Int) ≤ 1000)⟩
  refine summH_of 1000 Tryz.func152 rfl rfl 145 rfl (by simp) ⟨_, _, rfl, rfl, rfl, rfl⟩ (HB_cl _ _ _ (by omega)) (fun M X J => ?_)
  repeat (first
    | (apply s_a TY; exact rfl)
    | (refine s_callH HF (fun _ => rfl) (fun i q h => (pin0_some h).1) rfl rfl rfl ⟨rfl, trivial, trivial⟩ (fun i B h => h) (fun i h _ => h) ?_; refine s_ghost rfl (st' := ⟨(Ab.upd (Ab.upd (Ab.upd (Ab.upd (fun _ => .bot) 0 (.bx 0 0)) 3 (.f (.pt [iv 2, sv n, .sl cl.length (intsF cl)] 0))) 45 (.f (iv (idxP ppl.length (hasS ppl n))))) 49 (.f (.v (.pointer none)))), HB cs ppl al, 3⟩) (gh_le ⟨le_upd rfl trivial (le_upd rfl trivial (le_upd rfl trivial (le_upd rfl rfl (le_nil _)))), le_base (HB_cl cs ppl al (by omega)) (fun i B h => join_h h)⟩) ?_)
    | (refine s_callS HI (fun _ => rfl) rfl rfl rfl ⟨sees_row rfl, sees_f _, trivial⟩ ?_)
    | (apply s_nilNe (by first | exact rfl | kernel_rfl); exact rfl; exact rfl; exact rfl)
    | (apply s_boxA; exact rfl; exact rfl; exact rfl; exact rfl)
    | (apply s_bind; exact rfl; exact rfl; exact rfl; exact rfl; exact rfl; exact rfl; exact eqb_t (by first | rfl | assumption))
    | (apply s_nilCheck; exact rfl; exact rfl; exact rfl)
    | (apply s_buildO TY; exact rfl; exact rfl; exact rfl; exact rfl; exact rfl; exact rfl)
    | (apply s_makeMap; exact rfl; exact rfl)
    | (apply s_t; exact rfl; (first | assumption | omega))
    | (apply s_f; exact rfl; (first | assumption | omega))
    | apply w_seq
    | apply w_region
    | (apply w_draw (id := 1) 22 rfl (by kernel_rfl))
    | (apply w_draw (id := 4) 10 rfl (by kernel_rfl))
    | apply s_nil
    | apply t_norm
    | apply w_block
    | apply w_skip
    | (apply w_condT; exact rfl; exact rfl)
    | (apply w_condF; exact rfl; exact rfl)
    | (apply s_k (HN); exact rfl)
    | (apply s_k (HC); exact rfl)
    | (apply s_k (HH); exact rfl)
    | (apply s_k1 (first4_3 _ _ _ _); exact rfl; (first | assumption | omega | decide))
    | (apply s_k (unless_T _); exact rfl)
    | (apply s_k1 (within_T _ _ _); exact rfl; (first | assumption | omega | decide)))
  refine s_ghost rfl (gh_trans (gh_mapW 3 (G := fun o => o = .map #[] 0) (mpG fun _ => none) rfl (fun o h => by
    have h : o = .map #[] 0 := h
    subst h; exact mapFn_new)) (gh_trans (gh_boxW 4 (cs := [.f (sv n), .f (iv 0), .f (.v (.slice none 0 0)), .f (bv false), .f (.v (.slice none 0 0)), .ow 3]) (cs' := bxC 3 (⟨n, 0, [], false, fun _ => none, []⟩ : Alt)) rfl rfl (fun k x x' h1 h2 w J v q => by
    match k, h1, h2 with
    | 0, h1, h2 => cases h1; cases h2; exact q
    | 1, h1, h2 => cases h1; cases h2; exact q
    | 2, h1, h2 => cases h1; cases h2; exact nil_cell q
    | 3, h1, h2 => cases h1; cases h2; exact q
    | 4, h1, h2 => cases h1; cases h2; exact q
    | 5, h1, h2 => cases h1; cases h2; exact q
    | _ + 6, h1, h2 => cases h1)) (gh_nx 1000))) ?_
  repeat (first
    | (apply s_bsliceP TY; exact rfl; exact rfl; exact rfl; exact rfl; exact rfl; exact rfl)
    | (apply s_appendA TY; exact rfl; exact rfl; exact rfl; exact rfl; exact rfl; exact rfl; exact rfl; exact rfl; (unfold maxLen; omega); omega)
    | (apply s_nilCheck; exact rfl; exact rfl; exact rfl)
    | (apply s_a TY; exact rfl)
    | apply w_seq
    | apply w_region
    | apply s_nil
    | apply t_norm
    | (apply s_store TY; exact rfl; exact rfl; exact rfl; exact rfl; exact rfl; exact rfl))
  refine s_ghost rfl (st' := ⟨(Ab.upd (Ab.upd (Ab.upd (fun _ => .bot) 115 (.bx 0 0)) 116 (.bx 4 0)) 118 (.f (.sl cl.length (intsF cl)))), HO cs ppl (al ++ [(⟨n, 0, [], false, fun _ => none, []⟩ : Alt)]) al.length (⟨n, 0, [], false, fun _ => none, []⟩ : Alt), 1000⟩) (gh_le ⟨le_upd rfl trivial (le_upd rfl rfl (le_upd rfl rfl (le_nil _))), le_HOn hl rfl rfl (congrArg (fun z => some (Blk.rowA 166 1 (al.length + 1) z)) (PT_killN al)) rfl rfl (fun i B h => by
      have hb := HX_bd h
      try simp only [St.put]
      repeat (first | exact HX_HB h | refine grow_h (by omega) ?_ (HX_kill (by omega) h) | refine (Ab.upd_other _ _ (by omega)).trans ?_))⟩) ?_
  repeat (first
    | (refine s_callH (send_h cs ppl (al ++ [(⟨n, 0, [], false, fun _ => none, []⟩ : Alt)]) al.length (⟨n, 0, [], false, fun _ => none, []⟩ : Alt) cl (by omega) hall (by omega) hver) (fun _ => rfl) (fun i q h => (pin0_some h).1) rfl rfl rfl ⟨rfl, rfl, trivial, trivial⟩ (fun i B h => h) (fun i h _ => h) ?_)
    | (apply s_a TY; exact rfl)
    | apply s_nil
    | apply t_norm
    | apply t_ret
    | apply k_ret
    | apply w_ret)
  refine lvH_ret (s := Ab.upd (Ab.upd (fun _ => .bot) 4 (.f (.sl ppl.length (strsF (ascN ppl))))) 5 (.f (iv 0))) (nx := 1000) ?_ ?_
  · exact gh_trans (b := ⟨Ab.upd (Ab.upd (fun _ => .bot) 4 (.f (.sl ppl.length (strsF (ascN ppl))))) 5 (.f (iv 0)), HO cs ppl (al ++ [(⟨n, 0, [], false, fun _ => none, []⟩ : Alt)]) al.length (sent (⟨n, 0, [], false, fun _ => none, []⟩ : Alt) cl ppl), 1000⟩) (gh_le ⟨le_upd rfl trivial (le_upd rfl trivial (le_nil _)), le_base (HO_cl cs ppl (al ++ [(⟨n, 0, [], false, fun _ => none, []⟩ : Alt)]) al.length (sent (⟨n, 0, [], false, fun _ => none, []⟩ : Alt) cl ppl) hall) (fun i B h => join_h h)⟩) (gh_trans (gh_close hk hall pin0_no) (gh_le ⟨le_upd rfl trivial (le_upd rfl trivial (le_nil _)), le_base (HB_cl cs ppl _ (by rw [List.length_set]; exact hall)) (fun i B h => h)⟩))
  · exact rg2 (.f (.sl ppl.length (strsF (ascN ppl)))) (.f (iv 0)) rfl (rv_tmp rfl) (rv_tmp rfl) rfl
end Go.Proofs.YtenkgipcblfocaaGreat
namespace Go.Proofs.YtenkgipcblfocaaGreat
open Go Go.RowKit Go.Proofs Go.Shelf Go.Ab
def chkE (c : Int) (x : Act) : Int := if ¬ (0 ≤ x.kind ∧ x.kind ≤ 4) then 15 else if ¬ nameB x.name = true then 4 else if celsE c x.cells ≠ 0 then celsE c x.cells else if hasCB x.kind = decide (0 < x.cells.length) then 0 else 3
def idxN (ppl : List Nm) (n : Nm) : Int := idxP ppl.length (hasS ppl n)
def idxA (al : List Alt) (n : Nm) : Int := idxP al.length (nmA al n)
abbrev Lst := List Nm × List Alt
def altA (al : List Alt) (n : Nm) : Alt := al.getD (idxA al n).toNat default
def stpE (c : Int) (s : Lst) (x : Act) : Int := if chkE c x ≠ 0 then chkE c x else
  if x.kind = 0 then (if 0 ≤ idxN s.1 x.name then 5 else if s.1.length < 8 then 0 else 16)
  else if x.kind = 1 then (if idxN s.1 x.name < 0 then 6 else 0)
  else if x.kind = 2 then (if 0 ≤ idxA s.2 x.name then 5 else 0)
  else if idxA s.2 x.name < 0 then 6 else if (altA s.2 x.name).gone = true then 20 else 0
def newA (n : Nm) : Alt := ⟨n, 0, [], false, fun _ => none, []⟩
def goneA (a : Alt) : Alt := ⟨a.nm, a.ver, a.cells, true, a.had, a.kys⟩
def stpS (s : Lst) (x : Act) : Lst :=
  if x.kind = 0 then (s.1 ++ [x.name], s.2)
  else if x.kind = 1 then (pplDel s.1 (idxN s.1 x.name).toNat, s.2)
  else if x.kind = 2 then (s.1, s.2 ++ [sent (newA x.name) x.cells s.1])
  else if x.kind = 3 then (s.1, s.2.set (idxA s.2 x.name).toNat (sent (altA s.2 x.name) x.cells s.1))
  else (s.1, s.2.set (idxA s.2 x.name).toNat (goneA (altA s.2 x.name)))
def stpW (s : Lst) (x : Act) : List Nm := if x.kind = 2 ∨ x.kind = 3 then ascN s.1 else if x.kind = 4 then ascN (altA s.2 x.name).kys else []
structure Inv (m : Nat) (s : Lst) : Prop where
  al : s.2.length ≤ m
  pl : s.1.length ≤ 8
  nd : s.1.Nodup
  nm : ∀ n, n ∈ s.1 → n.length ≤ 12
  ver : ∀ a, a ∈ s.2 → 0 ≤ a.ver ∧ a.ver ≤ m
  kys : ∀ a, a ∈ s.2 → KeysAre a.had a.kys ∧ a.kys.length ≤ 8 * m ∧ ∀ c, c ∈ a.kys → c.length ≤ 12
theorem inv0 : Inv 0 ([], []) := ⟨Nat.le_refl _, by simp, List.nodup_nil, fun n h => by simp at h, fun a h => by simp at h, fun a h => by simp at h⟩
theorem nameB_12 {n : Nm} (h : nameB n = true) : n.length ≤ 12 := by
  refine Classical.byContradiction fun hn => ?_
  rw [nameB_len (by omega)] at h; cases h
theorem chkE_0 {c : Int} {x : Act} (h : chkE c x = 0) : (0 ≤ x.kind ∧ x.kind ≤ 4) ∧ nameB x.name = true ∧ celsE c x.cells = 0 ∧ hasCB x.kind = decide (0 < x.cells.length) := by
  unfold chkE at h
  split at h
  · cases h
  rename_i h1
  split at h
  · cases h
  rename_i h2
  split at h
  · rename_i h3; exact absurd h h3
  rename_i h3
  split at h
  · rename_i h4
    exact ⟨by omega, by simpa using h2, by omega, h4⟩
  · cases h
theorem stpE_0 {c : Int} {s : Lst} {x : Act} (h : stpE c s x = 0) : chkE c x = 0 ∧ ((x.kind = 0 ∧ idxN s.1 x.name < 0 ∧ s.1.length < 8) ∨ (x.kind = 1 ∧ 0 ≤ idxN s.1 x.name) ∨ (x.kind = 2 ∧ idxA s.2 x.name < 0) ∨ ((x.kind = 3 ∨ x.kind = 4) ∧ 0 ≤ idxA s.2 x.name ∧ (altA s.2 x.name).gone = false)) := by
  unfold stpE at h
  split at h
  · rename_i h1; exact absurd h h1
  rename_i h1
  have hc : chkE c x = 0 := by simpa using h1
  refine ⟨hc, ?_⟩
  have hk := (chkE_0 hc).1
  split at h
  · rename_i h2
    split at h
    · cases h
    split at h
    · rename_i h3 h4; exact .inl ⟨h2, by omega, h4⟩
    · cases h
  split at h
  · rename_i h2
    split at h
    · cases h
    · rename_i h3; exact .inr (.inl ⟨h2, by omega⟩)
  split at h
  · rename_i h2
    split at h
    · cases h
    · rename_i h3; exact .inr (.inr (.inl ⟨h2, by omega⟩))
  split at h
  · cases h
  split at h
  · cases h
  · rename_i h2 h3 h4 h5 h6; exact .inr (.inr (.inr ⟨by omega, by omega, by simpa using h6⟩))
theorem summH_retW {P : Program} {G : Nat → Option (List FV)} {g : Nat} {h h' : Nat → Option Blk} {args : List AV} {y y' : FV} (K : SummH P G g h args (.f y) h') (hy : ∀ (w : World) (M : Nat → Prop) (v : Value), RepF w M v y → RepF w M v y') : SummH P G g h args (.f y') h' :=
  ⟨K.enters, K.one, K.cl, fun w M X us J a b c d e f => (K.call w M X us J a b c d e f).mono fun _ _ ⟨v, J', q1, q2, q3⟩ => ⟨v, J', q1, hy _ _ _ q2, q3⟩⟩
theorem tup_nil1 {y : FV} (w : World) (M : Nat → Prop) (v : Value) (q : RepF w M v (.tup [.v (.slice none 0 0), y])) : RepF w M v (.tup [.sl 0 [], y]) := by
  cases q with
  | tup cs us hl hr =>
    refine RepF.tup _ us (by simpa using hl) (fun k u x a b => ?_)
    match k with
    | 0 => simp at b; subst b; exact rep_nilsl (hr 0 u _ a rfl)
    | 1 => simp at b; subst b; exact hr 1 u _ a rfl
    | k + 2 => simp at b
theorem find_any (cs : List Cel) (ppl : List Nm) (al : List Alt) (n : Nm) (hl : al.length ≤ 400) : ∃ r, SummH Tryz.prog GG 103 (HB cs ppl al) [.bx 0 0, .f (sv n)] r (HB cs ppl al) := by
  rcases idxP_cases al.length (nmA al n) with ⟨_, hz⟩ | ⟨k, hk, hz, hp, _⟩
  · exact ⟨_, find_no cs ppl al n hl hz⟩
  · exact ⟨_, find_at cs ppl al n hl k hk hz hp⟩
theorem cells_nil {k : Int} {l : List Int} (h : hasCB k = decide (0 < l.length)) (hk : hasCB k = false) : l = [] := by
  rw [hk] at h
  have := of_decide_eq_false h.symm
  exact List.eq_nil_of_length_eq_zero (by omega)
theorem cells_pos {k : Int} {l : List Int} (h : hasCB k = decide (0 < l.length)) (hk : hasCB k = true) : 0 < l.length := by
  rw [hk] at h
  exact of_decide_eq_true h.symm
theorem act_ok (cs : List Cel) (s : Lst) (m : Nat) (i : Inv m s) (hm : m ≤ 100) (hcs : cs.length ≤ 1000) (x : Act) (hx : x.cells.length ≤ 1000000) (h : stpE cs.length s x = 0) : SummH Tryz.prog GG 152 (HB cs s.1 s.2) [.bx 0 0, .f (.agg (actF x))] (.f (.tup [.sl (stpW s x).length (strsF (stpW s x)), iv 0])) (HB cs (stpS s x).1 (stpS s x).2) := by
  obtain ⟨ppl, al⟩ := s
  obtain ⟨kind, n, cl⟩ := x
  obtain ⟨hc, hr⟩ := stpE_0 h
  obtain ⟨hk, hn, hcl, hh⟩ := chkE_0 hc
  have hnl : n.length ≤ 1000 := by have := nameB_12 hn; simp only at this; omega
  have hal : al.length ≤ 100 := by have := i.al; simp only at this; omega
  have hpl : ppl.length ≤ 8 := i.pl
  simp only at hk hn hcl hh hr hx
  rcases hr with ⟨rfl, hi, h8⟩ | ⟨rfl, hi⟩ | ⟨rfl, hi⟩ | ⟨rfl | rfl, hi, hg⟩
  · have := cells_nil hh rfl
    subst this
    obtain ⟨r, HF⟩ := find_any cs ppl al n (by omega)
    have hi1 : idxP ppl.length (hasS ppl n) = -1 := by
      rcases idxP_cases ppl.length (hasS ppl n) with ⟨e, _⟩ | ⟨k, _, _, _, e⟩
      · exact e
      · unfold idxN at hi; omega
    exact summH_retW (act0_h cs ppl al (by omega) hcs n hnl hn hi1 h8 HF) tup_nil1
  · have := cells_nil hh rfl
    subst this
    obtain ⟨r, HF⟩ := find_any cs ppl al n (by omega)
    rcases idxP_cases ppl.length (hasS ppl n) with ⟨e, _⟩ | ⟨k, hk2, _, _, e⟩
    · unfold idxN at hi; omega
    · have hst : stpS (ppl, al) ⟨1, n, []⟩ = (pplDel ppl k, al) := by
        show (pplDel ppl (idxN ppl n).toNat, al) = _
        unfold idxN; rw [e, Int.toNat_natCast]
      rw [hst]
      exact summH_retW (act1_h cs ppl al (by omega) hcs n hnl hn (by omega) k e hk2 HF) tup_nil1
  · have hc0 := cells_pos hh rfl
    have hz : ∀ j, j < al.length → nmA al n j = false := by
      rcases idxP_cases al.length (nmA al n) with ⟨_, hz⟩ | ⟨k, _, _, _, e⟩
      · exact hz
      · unfold idxA at hi; omega
    rw [show stpW (ppl, al) ⟨2, n, cl⟩ = ascN ppl from rfl, ascN_len]
    exact act2_h cs ppl al (by omega) hcs n hnl hn (by omega) cl hc0 hx hcl hz
  all_goals
    rcases idxP_cases al.length (nmA al n) with ⟨e, _⟩ | ⟨k, hk2, hz, hpn, e⟩
    · unfold idxA at hi; omega
  · have hc0 := cells_pos hh rfl
    have hka : (idxA al n).toNat = k := by unfold idxA; rw [e, Int.toNat_natCast]
    have ha : altA al n = al[k] := by unfold altA; rw [hka, getD_at hk2]
    have hst : stpS (ppl, al) ⟨3, n, cl⟩ = (ppl, al.set k (sent al[k] cl ppl)) := by
      show (ppl, al.set (idxA al n).toNat (sent (altA al n) cl ppl)) = _
      rw [ha, hka]
    rw [hst]
    rw [ha] at hg
    have hv := i.ver al[k] (List.getElem_mem hk2)
    have hge := List.getElem?_eq_getElem hk2
    generalize al[k] = a at hg hv hge
    obtain ⟨n0, ver, c0, gone, had, kys⟩ := a
    simp only at hg hv
    subst hg
    rw [show stpW (ppl, al) ⟨3, n, cl⟩ = ascN ppl from rfl, ascN_len]
    exact act3_h cs ppl al (by omega) hcs n hnl hn (by omega) cl hc0 hx hcl k hge hz hpn (by omega)
  · have := cells_nil hh rfl
    subst this
    have hka : (idxA al n).toNat = k := by unfold idxA; rw [e, Int.toNat_natCast]
    have ha : altA al n = al[k] := by unfold altA; rw [hka, getD_at hk2]
    have hst : stpS (ppl, al) ⟨4, n, []⟩ = (ppl, al.set k (goneA al[k])) := by
      show (ppl, al.set (idxA al n).toNat (goneA (altA al n))) = _
      rw [ha, hka]
    have hw : stpW (ppl, al) ⟨4, n, []⟩ = ascN al[k].kys := by
      show ascN (altA al n).kys = _
      rw [ha]
    rw [hst, hw, ascN_len]
    rw [ha] at hg
    obtain ⟨hks, hkl, hkb⟩ := i.kys al[k] (List.getElem_mem hk2)
    have hge := List.getElem?_eq_getElem hk2
    generalize al[k] = a at hg hge hks hkl hkb
    obtain ⟨n0, ver, c0, gone, had, kys⟩ := a
    simp only at hg hks hkl hkb
    subst hg
    exact act4_h cs ppl al (by omega) hcs n hnl hn (by omega) k hge hz hpn hks (show kys.length ≤ 1000 by omega) (fun c h => by have := hkb c h; omega)
end Go.Proofs.YtenkgipcblfocaaGreat
namespace Go.Proofs.YtenkgipcblfocaaGreat
open Go Go.RowKit Go.Proofs Go.Shelf Go.Ab
theorem hasS_not {l : List Nm} {n : Nm} (h : idxN l n < 0) : n ∉ l := fun hm => by
  have : anyP l.length (hasS l n) = true := by rw [anyS_has]; simpa using hm
  have := (idxP_pos l.length (hasS l n)).2 this
  unfold idxN at h; omega
theorem pplDel_eq (l : List Nm) (i : Nat) : pplDel l i = l.eraseIdx i := (List.eraseIdx_eq_take_drop_succ l i).symm
theorem pplDel_sub (l : List Nm) (i : Nat) : (pplDel l i).Sublist l := by rw [pplDel_eq]; exact List.eraseIdx_sublist l i
theorem keys_sent {a : Alt} {ppl : List Nm} (cl : List Int) (hk : KeysAre a.had a.kys) (hn : ppl.Nodup) : KeysAre (sent a cl ppl).had (sent a cl ppl).kys := by
  have hf : ∀ c, c ∈ (ppl.filter fun n => !a.kys.contains n) ↔ c ∈ ppl ∧ c ∉ a.kys := fun c => by simp [List.mem_filter]
  constructor
  · show (a.kys ++ ppl.filter fun n => !a.kys.contains n).Nodup
    refine List.nodup_append.2 ⟨hk.nd, hn.sublist List.filter_sublist, fun x hx y hy e => ?_⟩
    subst e
    exact ((hf x).1 hy).2 hx
  · intro c
    show c ∈ a.kys ++ (ppl.filter fun n => !a.kys.contains n) ↔ (updAll a.had ppl (a.ver + 1) c).isSome = true
    rw [List.mem_append, hf]
    unfold updAll
    by_cases h : c ∈ ppl
    · rw [if_pos h]
      by_cases h2 : c ∈ a.kys
      · simp [h2]
      · simp [h, h2]
    · rw [if_neg h, ← hk.mem]
      simp [h]
theorem inv_step {m : Nat} {s : Lst} {c : Int} {x : Act} (i : Inv m s) (h : stpE c s x = 0) : Inv (m + 1) (stpS s x) := by
  obtain ⟨ppl, al⟩ := s
  obtain ⟨kind, n, cl⟩ := x
  obtain ⟨hc, hr⟩ := stpE_0 h
  obtain ⟨hk, hn, -, -⟩ := chkE_0 hc
  have i1 := i.al; have i2 := i.pl; have i3 := i.nd; have i4 := i.nm; have i5 := i.ver; have i6 := i.kys
  simp only at hk hn hr i1 i2 i3 i4 i5 i6
  have n12 := nameB_12 hn
  have i5' : ∀ a, a ∈ al → 0 ≤ a.ver ∧ a.ver ≤ ((m + 1 : Nat) : Int) := fun a ha => by have := i5 a ha; omega
  have i6' : ∀ a, a ∈ al → KeysAre a.had a.kys ∧ a.kys.length ≤ 8 * (m + 1) ∧ ∀ c, c ∈ a.kys → c.length ≤ 12 := fun a ha => by
    obtain ⟨h1, h2, h3⟩ := i6 a ha
    exact ⟨h1, by omega, h3⟩
  have hs : ∀ a, (0 ≤ a.ver ∧ a.ver ≤ (m : Int)) → (KeysAre a.had a.kys ∧ a.kys.length ≤ 8 * m ∧ ∀ c, c ∈ a.kys → c.length ≤ 12) → (0 ≤ (sent a cl ppl).ver ∧ (sent a cl ppl).ver ≤ ((m + 1 : Nat) : Int)) ∧ (KeysAre (sent a cl ppl).had (sent a cl ppl).kys ∧ (sent a cl ppl).kys.length ≤ 8 * (m + 1) ∧ ∀ c, c ∈ (sent a cl ppl).kys → c.length ≤ 12) := fun a hv ⟨h1, h2, h3⟩ => by
    refine ⟨⟨by show 0 ≤ a.ver + 1; omega, by show a.ver + 1 ≤ _; omega⟩, keys_sent cl h1 i3, ?_, fun c hc => ?_⟩
    · show (a.kys ++ ppl.filter fun n => !a.kys.contains n).length ≤ _
      have := List.length_filter_le (fun n => !a.kys.contains n) ppl
      rw [List.length_append]; omega
    · rcases List.mem_append.1 hc with h | h
      · exact h3 c h
      · exact i4 c (List.mem_filter.1 h).1
  have hset : ∀ (k : Nat) (b : Alt), ((0 ≤ b.ver ∧ b.ver ≤ ((m + 1 : Nat) : Int)) ∧ (KeysAre b.had b.kys ∧ b.kys.length ≤ 8 * (m + 1) ∧ ∀ c, c ∈ b.kys → c.length ≤ 12)) → Inv (m + 1) (ppl, al.set k b) := fun k b hb => by
    refine ⟨by show (al.set k b).length ≤ _; rw [List.length_set]; omega, i2, i3, i4, fun a ha => ?_, fun a ha => ?_⟩
    · rcases List.mem_or_eq_of_mem_set ha with h | rfl
      · exact i5' a h
      · exact hb.1
    · rcases List.mem_or_eq_of_mem_set ha with h | rfl
      · exact i6' a h
      · exact hb.2
  have hal : ∀ (h : 0 ≤ idxA al n), altA al n ∈ al := fun h => by
    rcases idxP_cases al.length (nmA al n) with ⟨e, _⟩ | ⟨k, hk2, _, _, e⟩
    · unfold idxA at h; omega
    · unfold altA idxA; rw [e, Int.toNat_natCast, getD_at hk2]; exact List.getElem_mem hk2
  rcases hr with ⟨rfl, hi, h8⟩ | ⟨rfl, hi⟩ | ⟨rfl, hi⟩ | ⟨rfl | rfl, hi, hg⟩
  · refine ⟨by show al.length ≤ _; omega, by show (ppl ++ [n]).length ≤ 8; simp; omega, ?_, fun c hc => ?_, i5', i6'⟩
    · show (ppl ++ [n]).Nodup
      refine List.nodup_append.2 ⟨i3, by simp, fun x hx y hy e => ?_⟩
      subst e
      rw [List.mem_singleton] at hy
      subst hy
      exact hasS_not hi hx
    · rcases List.mem_append.1 (show c ∈ ppl ++ [n] from hc) with h | h
      · exact i4 c h
      · rw [List.mem_singleton.1 h]; exact n12
  · have hsub := pplDel_sub ppl (idxN ppl n).toNat
    refine ⟨by show al.length ≤ _; omega, Nat.le_trans hsub.length_le i2, i3.sublist hsub, fun c hc => i4 c (hsub.subset hc), i5', i6'⟩
  · have hb := hs (newA n) ⟨by show (0 : Int) ≤ 0; omega, by show (0 : Int) ≤ m; omega⟩ ⟨⟨List.nodup_nil, fun c => by show c ∈ [] ↔ _; simp [newA]⟩, by show 0 ≤ _; omega, fun c hc => by simp [newA] at hc⟩
    refine ⟨by show (al ++ [_]).length ≤ _; simp; omega, i2, i3, i4, fun a ha => ?_, fun a ha => ?_⟩
    · rcases List.mem_append.1 (show a ∈ al ++ [sent (newA n) cl ppl] from ha) with h | h
      · exact i5' a h
      · rw [List.mem_singleton.1 h]; exact hb.1
    · rcases List.mem_append.1 (show a ∈ al ++ [sent (newA n) cl ppl] from ha) with h | h
      · exact i6' a h
      · rw [List.mem_singleton.1 h]; exact hb.2
  · have ha := hal hi
    exact hset _ _ (hs _ (i5 _ ha) (i6 _ ha))
  · have ha := hal hi
    have h5 := i5' _ ha
    have h6 := i6' _ ha
    exact hset (idxA al n).toNat (goneA (altA al n)) ⟨h5, h6⟩
def runS (l : List Act) : Nat → Lst
  | 0 => ([], [])
  | k + 1 => stpS (runS l k) (l.getD k default)
def runW (l : List Act) : Nat → List (List Nm)
  | 0 => []
  | k + 1 => runW l k ++ [stpW (runS l k) (l.getD k default)]
theorem runW_len (l : List Act) : ∀ k, (runW l k).length = k
  | 0 => rfl
  | k + 1 => by rw [runW, List.length_append, runW_len l k]; rfl
def runE (c : Int) (l : List Act) (i : Nat) : Int := stpE c (runS l i) (l.getD i default)
theorem inv_run {c : Int} {l : List Act} : ∀ {k : Nat}, (∀ i, i < k → runE c l i = 0) → Inv k (runS l k)
  | 0, _ => inv0
  | k + 1, h => inv_step (inv_run fun i hi => h i (by omega)) (h k (by omega))
end Go.Proofs.YtenkgipcblfocaaGreat
namespace Go.Proofs.YtenkgipcblfocaaGreat
open Go Go.RowKit Go.Proofs Go.Shelf Go.Ab
theorem killA_big {d : Nat} (al : List Alt) (hl : al.length ≤ 400) (hd : 1000 ≤ d) : (PT al 1000).map (killA d) = PT al 1000 := by
  refine (List.map_congr_left fun x hx => ?_).trans (List.map_id _)
  rcases PT_mem hx with ⟨_, h⟩ | ⟨j, hj, _, rfl⟩
  · omega
  · exact killA_bx (by omega)
theorem HX_killB {al : List Alt} {q i d : Nat} {B : Blk} (hl : al.length ≤ 400) (hd : 1000 ≤ d) (h : HX al q i = some B) : killB d B = B := by
  obtain ⟨j, a, ha, _, _, ⟨_, rfl⟩ | ⟨_, rfl⟩⟩ := HX_some h
  · rfl
  · have hj := (List.getElem?_eq_some_iff.1 ha).1
    show Blk.box ((bxC (2 * j + 5) a).map (killA d)) = _
    rw [bxC_kill (by omega)]
def lsC (cs : List Cel) (s : Lst) : List FV := [xF cs, .sl s.1.length (strsF s.1), .sl s.2.length (altsF s.2)]
theorem sees_ls {C : Ctx} {N : Nat} {st : St} {cs : List Cel} {s : Lst} (hl : s.2.length ≤ 400) (h0 : st.h 0 = some (.box [.f (xF cs), .ow 1, .ow 2])) (h1 : st.h 1 = some (.row 9 1 s.1.length (strsF s.1))) (h2 : st.h 2 = some (.rowA 166 1 s.2.length (PT s.2 1000))) (hx : ∀ i B, HX s.2 1000 i = some B → st.h i = some B) : Sees C N st (.bx 0 0) (.pt (lsC cs s) 0) :=
  sees_bx h0 ⟨sees_f _, sees_row h1, sees_rowA h2 (sees_alts hl hx), trivial⟩
theorem over_sub {cs : List Cel} {ppl : List Nm} {al : List Alt} (R B1 B2 : Option Blk) : ∀ i B, HB cs ppl al i = some B → Ab.upd (Ab.upd (Ab.upd (HB cs ppl al) 1000 R) 1001 B1) 1001 B2 i = some B := fun i B h => by
  have := HB_lt h
  rw [Ab.upd_other _ _ (by omega), Ab.upd_other _ _ (by omega), Ab.upd_other _ _ (by omega)]
  exact h
theorem over_new {cs : List Cel} {ppl ppl' : List Nm} {al al' : List Alt} (R B1 B2 : Option Blk) : ∀ i, HB cs ppl al i = none → (HB cs ppl' al' i).isSome = true → Ab.upd (Ab.upd (Ab.upd (HB cs ppl al) 1000 R) 1001 B1) 1001 B2 i = none := fun i h h2 => by
  obtain ⟨B, hB⟩ := Option.isSome_iff_exists.1 h2
  have := HB_lt hB
  rw [Ab.upd_other _ _ (by omega), Ab.upd_other _ _ (by omega), Ab.upd_other _ _ (by omega)]
  exact h
set_option maxRecDepth 100000 in
set_option maxHeartbeats 3200000 in
theorem replay_ok (rs : List Int) (o : SkyOk rs) (l : List Act) (hl : l.length ≤ 40) (hcl : ∀ i, i < l.length → (l.getD i default).cells.length ≤ 1000000) (hE : ∀ i, i < l.length → runE (skyC rs).length l i = 0) : Summ Tryz.prog GG 102 [skF rs, .sl l.length (actsF l)] (.tup [.pt (lsC (skyC rs) (runS l l.length)) 0, .sl l.length (listsF (runW l l.length)), iv 0, iv 0]) := by
  have HO := open_ok rs o
  have hbd := skyC_bd o
  have hall : (runS l 0).2.length ≤ 400 := by show 0 ≤ 400; omega
  refine summW Tryz.func102 rfl rfl 58 rfl (by simp) (fun M0 => ?_)
  repeat (first
    | (apply s_boxw (T := 176); exact rfl; exact rfl; exact rfl; exact rfl)
    | (apply s_a TY; exact rfl)
    | (apply s_t; exact rfl; (first | assumption | omega))
    | apply w_seq
    | apply w_region
    | apply s_nil
    | apply t_norm
    | apply w_block
    | apply w_skip
    | (apply w_condF; exact rfl; exact rfl)
    | (apply s_k (HO); exact rfl)
    | (apply s_k1 (first2_1 _ _); exact rfl; (first | assumption | omega | decide))
    | (apply s_k (unless_T _); exact rfl))
  apply w_gh (gh_trans (gh_ownB 0 1 9 1 rfl rfl rfl) (gh_trans (gh_ownB 0 2 166 1 rfl rfl rfl) (gh_trans (gh_rowA 2 (cs := []) rfl) (gh_trans (gh_nx 1000) (gh_own 11 47 1 rfl rfl)))))
  apply w_loop (fun k : Nat => ⟨(Ab.upd (Ab.upd (Ab.upd (Ab.upd (Ab.upd (fun _ => .bot) 10 (.bx 0 0)) 11 (.ow 1000)) 34 (.f (.sl l.length (actsF l)))) 35 (.f (iv l.length))) 36 (.f (iv ((k : Nat) : Int)))), Ab.upd (HB (skyC rs) (runS l k).1 (runS l k).2) 1000 (some (.row 47 1 k (listsF (runW l k)))), 1001⟩) (fun k => k ≤ l.length) (fun k => l.length - k) 0 (Nat.zero_le _) (gh_le ⟨le_upd rfl trivial (le_upd rfl trivial (le_upd rfl trivial (le_upd rfl rfl (le_upd rfl rfl (le_nil _))))), le_baseO rfl rfl trivial (le_HB hall rfl rfl rfl (fun i B h => by obtain ⟨j, a, ha, _⟩ := HX_some h; simp [runS] at ha))⟩)
  intro k hk
  have inv := inv_run (l := l) (k := k) (c := (skyC rs).length) (fun i hi => hE i (by omega))
  have hal := inv.al
  by_cases hc : k < l.length
  · have hx := getD_at hc
    have hcx := hcl k hc
    have hEk : stpE (skyC rs).length (runS l k) (l.getD k default) = 0 := hE k hc
    rw [hx] at hcx hEk
    have HACT := act_ok (skyC rs) (runS l k) k inv (by omega) (by omega) l[k] hcx hEk
    have hall := (inv_step inv hEk).al
    replace hall : (stpS (runS l k) l[k]).2.length ≤ 400 := by omega
    have hS : runS l (k + 1) = stpS (runS l k) l[k] := by rw [runS, hx]
    have hW : runW l (k + 1) = runW l k ++ [stpW (runS l k) l[k]] := by rw [runW, hx]
    repeat (first
    | (refine s_callH HACT (fun _ => rfl) (fun i q h => by cases h) rfl rfl rfl ⟨rfl, trivial, trivial⟩ (over_sub _ _ _) (over_new _ _ _) ?_)
    | (apply s_a TY; exact rfl)
    | (apply s_t; exact rfl; (first | assumption | omega))
    | apply w_seq
    | apply w_region
    | apply s_nil
    | apply t_norm
    | apply k_norm
    | apply w_block
    | apply w_skip
    | (apply w_condT; exact rfl; exact rfl)
    | (apply w_condF; exact rfl; exact rfl)
    | (apply s_c TY; exact rfl; (first | omega | exact ⟨by omega, by (first | with_reducible assumption | ((with_reducible apply actsF_ne); omega) | assumption)⟩))
    | (apply s_m TY; exact rfl; (first | with_reducible assumption | ((with_reducible apply actsF_sub); omega) | exact rfl); exact rfl)
    | (apply s_alloc TY; exact rfl; exact rfl; exact rfl)
    | (apply s_store TY; exact rfl; exact rfl; exact rfl; exact rfl; exact rfl; exact rfl)
    | (apply s_append TY; exact rfl; exact rfl; exact rfl; exact rfl; exact rfl; exact rfl; exact rfl; exact rfl; exact rfl; (unfold maxLen; omega); omega))
    refine ⟨k + 1, by omega, by omega, ?_⟩
    simp only [hS, hW, listsF_snoc]
    exact gh_le ⟨le_upd rfl trivial (le_upd rfl trivial (le_upd rfl trivial (le_upd rfl rfl (le_upd rfl rfl (le_nil _))))), le_baseO rfl rfl trivial (le_HB hall rfl rfl (congrArg (fun z => some (Blk.rowA 166 1 _ z)) (killA_big _ hall (by omega))) (fun i B h => by
      have hb := HX_bd h
      try simp only [St.put]
      repeat (first | exact HX_HB h | exact join_h (HX_HB h) | refine grow_h (by omega) ?_ (HX_killB (by omega) (by omega) h) | refine (Ab.upd_other _ _ (by omega)).trans ?_)))⟩
  · have hkl : k = l.length := by omega
    subst hkl
    repeat (first
    | (apply s_a TY; exact rfl)
    | (apply s_f; exact rfl; (first | assumption | omega))
    | apply w_seq
    | apply w_region
    | apply s_nil
    | apply t_norm
    | apply t_exit
    | apply k_hit
    | apply w_exit
    | apply w_ret
    | (apply w_condF; exact rfl; exact rfl))
    exact lv_ret (ret4 rfl (res_sees rfl (sees_ls (by omega) rfl rfl rfl (fun i B h => by
      have hb := HX_bd h
      try simp only [St.put]
      repeat (first | exact HX_HB h | exact join_h (HX_HB h) | refine grow_h (by omega) ?_ (HX_killB (by omega) (by omega) h) | refine (Ab.upd_other _ _ (by omega)).trans ?_)))) (res_sees rfl (sees_row rfl)) (res_tmp rfl) (res_tmp rfl))
end Go.Proofs.YtenkgipcblfocaaGreat
namespace Go.Proofs.YtenkgipcblfocaaGreat
open Go Go.RowKit Go.Proofs Go.Shelf Go.Ab
set_option maxRecDepth 100000 in
set_option maxHeartbeats 1600000 in
theorem RecipientsOf_ok (rs : List Int) (o : SkyOk rs) (l : List Act) (hl : l.length ≤ 40) (hcl : ∀ i, i < l.length → (l.getD i default).cells.length ≤ 1000000) (hE : ∀ i, i < l.length → runE (skyC rs).length l i = 0) (k : Nat) (hk : k < l.length) (h0 : l[k].kind ≠ 0) (h1 : l[k].kind ≠ 1) : Summ Tryz.prog GG 34 [skF rs, .sl l.length (actsF l), iv ((k : Nat) : Int)] (.tup [listF ((runW l l.length)[k]'(by rw [runW_len]; exact hk)), iv 0]) := by
  have HR := replay_ok rs o l hl hcl hE
  have hw : (listsF (runW l l.length))[((k : Nat) : Int).toNat * 1]? = some (listF ((runW l l.length)[k]'(by rw [runW_len]; exact hk))) := by rw [Int.toNat_natCast]; exact listsF_at (by rw [runW_len]; exact hk)
  have hw2 : (listsF (runW l l.length))[k * 1]? = some (listF ((runW l l.length)[k]'(by rw [runW_len]; exact hk))) := listsF_at (by rw [runW_len]; exact hk)
  have hne : listsF (runW l l.length) ≠ [] := listsF_ne (k := k) (by rw [runW_len]; exact hk)
  generalize (runW l l.length)[k]'(by rw [runW_len]; exact hk) = w at hw hw2 ⊢
  refine summW Tryz.func34 rfl rfl 50 rfl (by simp) (fun M0 => ?_)
  repeat (first
    | (apply s_a TY; exact rfl)
    | (apply s_t; exact rfl; (first | assumption | omega))
    | (apply s_f; exact rfl; (first | assumption | omega))
    | apply w_seq
    | apply w_region
    | apply s_nil
    | apply t_norm
    | apply w_ret
    | apply w_skip
    | (apply w_condF; exact rfl; exact rfl)
    | (apply s_k (HR); exact rfl)
    | (apply s_k1 (first2_1 _ _); exact rfl; (first | assumption | omega | decide))
    | (apply s_k (unless_T _); exact rfl)
    | (apply s_k1 (within_T _ _ _); exact rfl; (first | assumption | omega | decide))
    | (apply s_c TY; exact rfl; (first | omega | exact ⟨by omega, by (first | with_reducible assumption | ((with_reducible apply actsF_ne); omega) | ((with_reducible apply listsF_ne); omega) | assumption)⟩))
    | (apply s_l TY; exact rfl; (first | exact rfl | with_reducible assumption | ((with_reducible apply actsF_f0); omega) | ((with_reducible apply actsF_f1); omega) | ((with_reducible apply actsF_f2); omega) | ((with_reducible apply listsF_at); omega) | assumption)))
  exact lv_ret (ret2 rfl (res_tmp rfl) (res_tmp rfl))
end Go.Proofs.YtenkgipcblfocaaGreat
namespace Go.Proofs.YtenkgipcblfocaaGreat
open Go Go.RowKit Go.Proofs Go.Shelf Go.Ab
structure PtOk (p : Pt) : Prop where
  h : -1000000 ≤ p.height ∧ p.height ≤ 1000000
  t : 0 ≤ p.turn ∧ p.turn ≤ 999999
set_option maxRecDepth 100000 in
set_option maxHeartbeats 1600000 in
theorem turned_fix_ok (pt : Pt) (n : Int) (o : PtOk pt) (h : 0 ≤ n ∧ n ≤ 1000000000000) : Summ Tryz.prog GG 100 [ptF pt, iv n, iv 1] (.tup [ptF ⟨pt.height, turnedZ pt.turn n 1⟩, iv 0]) := by
  have HP := pointErr_s pt
  rw [ptE_0 ⟨o.h, o.t⟩] at HP
  have ho := o.t
  have hz := turnZ_bd n
  have HT := turnAt_s n (by omega)
  refine summW Tryz.func100 rfl rfl 30 rfl (by simp) (fun M0 => ?_)
  repeat (first
    | (apply s_boxw (T := 23); exact rfl; exact rfl; exact rfl; exact rfl)
    | (apply s_a TY; exact rfl)
    | (apply s_t; exact rfl; (first | assumption | omega))
    | apply w_seq
    | apply w_region
    | (apply w_draw (id := 4) 6 rfl (by kernel_rfl))
    | apply s_nil
    | apply t_norm
    | apply w_ret
    | apply w_skip
    | (apply w_condF; exact rfl; exact rfl)
    | (apply s_k (HP); exact rfl)
    | (apply s_k (HT); exact rfl)
    | (apply s_k1 (tickErr_T _); exact rfl; (first | assumption | omega | decide))
    | (apply s_k1 (first2_1 _ _); exact rfl; (first | assumption | omega | decide))
    | (apply s_c TY; exact rfl; omega)
    | (apply s_alloc TY; exact rfl; exact rfl; exact rfl)
    | (apply s_store TY; exact rfl; exact rfl; exact rfl; exact rfl; exact rfl; exact rfl))
  exact lv_ret (ret2 rfl (res_bxs TY rfl rfl rfl rfl rfl) (res_tmp rfl))
set_option maxRecDepth 100000 in
theorem FixedOf_ok (pt : Pt) (n : Int) (o : PtOk pt) (h : 0 ≤ n ∧ n ≤ 1000000000000) : Summ Tryz.prog GG 17 [ptF pt, iv n] (.tup [ptF ⟨pt.height, turnedZ pt.turn n 1⟩, iv 0]) := by
  have HT := turned_fix_ok pt n o h
  refine summW Tryz.func17 rfl rfl 11 rfl (by simp) (fun M0 => ?_)
  repeat (first
    | (apply s_a TY; exact rfl)
    | apply w_seq
    | apply w_region
    | apply s_nil
    | apply t_norm
    | apply w_ret
    | (apply s_k (HT); exact rfl)
    | (apply s_alloc TY; exact rfl; exact rfl; exact rfl)
    | (apply s_store TY; exact rfl; exact rfl; exact rfl; exact rfl; exact rfl; exact rfl))
  exact lv_ret (ret2 rfl (res_bxs TY rfl rfl rfl rfl rfl) (res_tmp rfl))
end Go.Proofs.YtenkgipcblfocaaGreat
namespace Go.Proofs.YtenkgipcblfocaaGreat
open Go Go.RowKit Go.Proofs Go.Shelf Go.Ab
theorem rep_slw {w : World} {M : Nat → Prop} {n : Nat} {v : Value} {cs cs' : List FV} (h : RepF w M v (.sl n cs)) (hl : cs.length = cs'.length) (hc : ∀ (k : Nat) (x x' : FV), cs[k]? = some x → cs'[k]? = some x' → ∀ u, RepF w M u x → RepF w M u x') : RepF w M v (.sl n cs') := by
  cases h with
  | sl a n c cs us h1 h2 h3 h4 h5 =>
    refine RepF.sl a n c cs' us h1 (h2.trans hl) h3 h4 (fun k u x hu hx => ?_)
    have hk : k < cs.length := by rw [hl]; exact (List.getElem?_eq_some_iff.1 hx).1
    exact hc k _ x (List.getElem?_eq_getElem hk) hx u (h5 k u _ hu (List.getElem?_eq_getElem hk))
def nilWL : List FV → List FV → Prop
  | [], [] => True
  | x :: xs, y :: ys => (x = y ∨ (x = .v (.slice none 0 0) ∧ y = .sl 0 [])) ∧ nilWL xs ys
  | _, _ => False
theorem nilWL_len : ∀ {xs ys : List FV}, nilWL xs ys → xs.length = ys.length
  | [], [], _ => rfl
  | _ :: _, _ :: _, h => by simp [nilWL_len h.2]
  | [], _ :: _, h => h.elim
  | _ :: _, [], h => h.elim
theorem nilWL_at {w : World} {M : Nat → Prop} : ∀ {xs ys : List FV}, nilWL xs ys → ∀ (k : Nat) (x x' : FV), xs[k]? = some x → ys[k]? = some x' → ∀ u, RepF w M u x → RepF w M u x'
  | [], [], _, k, x, x', h1, _, _, _ => by simp at h1
  | a :: xs, b :: ys, h, 0, x, x', h1, h2, u, r => by
    simp at h1 h2; subst h1; subst h2
    rcases h.1 with e | ⟨e1, e2⟩
    · rwa [← e]
    · rw [e1] at r; rw [e2]; exact rep_nilsl r
  | a :: xs, b :: ys, h, k + 1, x, x', h1, h2, u, r => nilWL_at h.2 k x x' (by simpa using h1) (by simpa using h2) u r
  | [], _ :: _, h, _, _, _, _, _, _, _ => h.elim
  | _ :: _, [], h, _, _, _, _, _, _, _ => h.elim
theorem summ_slw {g n : Nat} {args cs cs' : List FV} (S : Summ Tryz.prog GG g args (.sl n cs)) (h : nilWL cs cs') : Summ Tryz.prog GG g args (.sl n cs') :=
  ⟨S.enters, fun w M us h1 h2 h3 => (S.call w M us h1 h2 h3).mono fun _ _ ⟨v, q1, q2, q3⟩ => ⟨v, q1, rep_slw q2 (nilWL_len h) (nilWL_at h), q3⟩⟩
def exRs : List Int := [1, 4, 4, 1]
def exM : List Int := [0, 5, 3, 0, 0, 2, 0, 0, 0, 0]
def nAnn : Nm := [97, 110, 110]
def nBob : Nm := [98, 111, 98]
def nX : Nm := [120]
def exActs : List Act := [⟨0, nAnn, []⟩, ⟨2, nX, [1, 2]⟩, ⟨0, nBob, []⟩, ⟨3, nX, [1]⟩, ⟨1, nAnn, []⟩, ⟨4, nX, []⟩]
def exJobs : List Job := [⟨0, 5, 9, 1⟩, ⟨1, 2, 4, 5⟩, ⟨2, 1, 9, 3⟩]
theorem Sky_s : Summ Tryz.prog GG 94 [] (skF exRs) := by
  refine summW Tryz.func94 rfl rfl 3 rfl (by simp) (fun M0 => ?_)
  repeat (first
    | (apply s_a TY; exact rfl)
    | apply w_seq
    | apply w_region
    | apply s_nil
    | apply t_norm
    | apply w_ret
    | (apply s_alloc TY; exact rfl; exact rfl; exact rfl)
    | (apply s_store TY; exact rfl; exact rfl; exact rfl; exact rfl; exact rfl; exact rfl))
  exact lv_ret (ret1 rfl (res_bxs (sub := [.sl exRs.length (intsF exRs)]) TY rfl rfl rfl rfl rfl))
theorem Map_s : Summ Tryz.prog GG 95 [] (skF exM) := by
  refine summW Tryz.func95 rfl rfl 3 rfl (by simp) (fun M0 => ?_)
  repeat (first
    | (apply s_a TY; exact rfl)
    | apply w_seq
    | apply w_region
    | apply s_nil
    | apply t_norm
    | apply w_ret
    | (apply s_alloc TY; exact rfl; exact rfl; exact rfl)
    | (apply s_store TY; exact rfl; exact rfl; exact rfl; exact rfl; exact rfl; exact rfl))
  exact lv_ret (ret1 rfl (res_bxs (sub := [.sl exM.length (intsF exM)]) TY rfl rfl rfl rfl rfl))
theorem Jobs_s : Summ Tryz.prog GG 97 [] (.sl exJobs.length (jobsF exJobs)) := by
  refine summW Tryz.func97 rfl rfl 5 rfl (by simp) (fun M0 => ?_)
  repeat (first
    | (apply s_a TY; exact rfl)
    | apply w_seq
    | apply w_region
    | apply s_nil
    | apply t_norm
    | apply w_ret)
  exact lv_ret (ret1 rfl (res_tmp rfl))
def exActsN : List FV := [iv 0, sv nAnn, .v (.slice none 0 0), iv 2, sv nX, .sl 2 (intsF [1, 2]), iv 0, sv nBob, .v (.slice none 0 0), iv 3, sv nX, .sl 1 (intsF [1]), iv 1, sv nAnn, .v (.slice none 0 0), iv 4, sv nX, .v (.slice none 0 0)]
theorem Acts_n : Summ Tryz.prog GG 96 [] (.sl 6 exActsN) := by
  refine summW Tryz.func96 rfl rfl 10 rfl (by simp) (fun M0 => ?_)
  repeat (first
    | (apply s_a TY; exact rfl)
    | apply w_seq
    | apply w_region
    | apply s_nil
    | apply t_norm
    | apply w_ret)
  exact lv_ret (ret1 rfl (res_tmp rfl))
theorem exActs_w : nilWL exActsN (actsF exActs) := ⟨.inl rfl, .inl rfl, .inr ⟨rfl, rfl⟩, .inl rfl, .inl rfl, .inl rfl, .inl rfl, .inl rfl, .inr ⟨rfl, rfl⟩, .inl rfl, .inl rfl, .inl rfl, .inl rfl, .inl rfl, .inr ⟨rfl, rfl⟩, .inl rfl, .inl rfl, .inr ⟨rfl, rfl⟩, trivial⟩
theorem Acts_s : Summ Tryz.prog GG 96 [] (.sl exActs.length (actsF exActs)) := summ_slw Acts_n exActs_w
theorem exSky : SkyOk exRs := skyOk_of (by decide +kernel)
theorem exMap : MapOk (befK exRs exRs.length) exM := mapOk_of (by decide +kernel)
theorem exReg : regV exM 90 = [1, 2, 5] := by
  have h : (sortedW exM).take (regC (wI exM) (sortedW exM) (wantV exM 90)) = [1, 2, 5] := by decide +kernel
  unfold regV
  rw [h]
  unfold ascL
  refine List.mergeSort_of_pairwise ?_
  decide +kernel
theorem exCell : cellZ exRs 500000 250000 = 2 := by decide +kernel
theorem exTurn : turnedZ 700000 43082 1 = 200000 := by decide +kernel
theorem exJobsOk : JobsOk exJobs := jobsOk_of (by decide +kernel)
theorem exOrder : orderO exJobs = some [1, 0, 2] := by decide +kernel
theorem exRun : ∀ i, i < exActs.length → runE (skyC exRs).length exActs i = 0 := by decide +kernel
theorem runW_at (l : List Act) : ∀ (n i : Nat), i < n → (runW l n)[i]? = some (stpW (runS l i) (l.getD i default))
  | 0, i, h => absurd h (Nat.not_lt_zero i)
  | n + 1, i, h => by
    rw [runW]
    by_cases e : i = n
    · subst e
      rw [List.getElem?_append_right (by rw [runW_len]; exact Nat.le_refl _), runW_len, Nat.sub_self]; rfl
    · rw [List.getElem?_append_left (by rw [runW_len]; omega)]
      exact runW_at l n i (by omega)
theorem exWho : (altA (runS exActs 5).2 nX).kys = [nAnn, nBob] := by decide +kernel
theorem exAsc : ascN [nAnn, nBob] = [nAnn, nBob] := by
  unfold ascN
  refine List.mergeSort_of_pairwise ?_
  decide +kernel
theorem exRec : (runW exActs exActs.length)[5]? = some [nAnn, nBob] := by
  rw [runW_at exActs exActs.length 5 (by decide)]
  show some (ascN (altA (runS exActs 5).2 nX).kys) = _
  rw [exWho, exAsc]
end Go.Proofs.YtenkgipcblfocaaGreat
namespace Go.Proofs.YtenkgipcblfocaaGreat
open Go Go.RowKit Go.Proofs Go.Shelf Go.Ab
theorem stood_pt : Tryz.prog.stoodInHeld 23 = false := by kernel_rfl
theorem fields_pt : Tryz.prog.fieldsOf 23 = #[{ name := "Height", type := 3, offset := 0, embedded := false, tag := "", pkgPath := "", byteOffset := 0 }, { name := "Turn", type := 3, offset := 1, embedded := false, tag := "", pkgPath := "", byteOffset := 8 }] := by kernel_rfl
theorem equalIn_pt (d : Nat) (a b : Pt) (W : World) : (Op.equalIn (d + 2) 23 (.agg #[.int .i64 a.height, .int .i64 a.turn]) (.agg #[.int .i64 b.height, .int .i64 b.turn])).run Tryz.prog W = .ok (decide (a = b)) W := by
  rw [run_equalIn_agg W (d + 1) 23 _ _ (by rw [fields_pt]; exact Tryz.underlying23) stood_pt, fields_pt]
  have e : decide (a = b) = (a.height == b.height && a.turn == b.turn) := by
    cases a; cases b; simp [Pt.mk.injEq]
    try simp [Bool.and_assoc]
    try rfl
  rw [e]
  cases h0 : a.height == b.height <;> cases h1 : a.turn == b.turn <;> simp [Op.eqFields, part, run_equalIn_int W d 3 _ _ _ _ Tryz.underlying3, h0, h1]
theorem guard_pt : Tryz.prog.eqGuardType Tryz.prog.depth 23 = false := by kernel_rfl
theorem eq_pt {x y : Operand} {a b : Pt} {c : Bool} (h : decide (a = b) = c) : ∀ w, (do eqGuard .eql 23 x y (.agg #[.int .i64 a.height, .int .i64 a.turn]) (.agg #[.int .i64 b.height, .int .i64 b.turn]); binOp .eql 23 (.agg #[.int .i64 a.height, .int .i64 a.turn]) (.agg #[.int .i64 b.height, .int .i64 b.turn]) : Sem Value).run Tryz.prog w = .ok (.bool c) w := fun w => by
  have h1 := equalIn_pt 9998 a b w
  rw [h] at h1
  first
  | (simp [eqGuard, run_eql_struct, h1]; done)
  | simp [eqGuard, guard_pt, run_eql_struct, h1]
theorem eqI {x y : Operand} {h1 t1 h2 t2 : Int} {c : Bool} (h : decide ((⟨h1, t1⟩ : Pt) = ⟨h2, t2⟩) = c) : ∀ w, (do eqGuard .eql 23 x y (.agg #[.int .i64 h1, .int .i64 t1]) (.agg #[.int .i64 h2, .int .i64 t2]); binOp .eql 23 (.agg #[.int .i64 h1, .int .i64 t1]) (.agg #[.int .i64 h2, .int .i64 t2]) : Sem Value).run Tryz.prog w = .ok (.bool c) w := eq_pt (a := ⟨h1, t1⟩) (b := ⟨h2, t2⟩) h
set_option maxRecDepth 100000 in
set_option maxHeartbeats 1600000 in
theorem awake_s : Summ Tryz.prog GG 15 [] (.v (.bool true)) := by
  have H1 := Sky_s
  have H2 := CellOf_ok exRs ⟨500000, 250000⟩ exSky (by decide)
  rw [show cellZ exRs (Pt.height ⟨500000, 250000⟩) (Pt.turn ⟨500000, 250000⟩) = 2 from exCell] at H2
  have H3 := Map_s
  have H4 := RegionOf_of exRs exM 90 exSky exMap (by decide) (stab_few (by decide))
  rw [exReg] at H4
  have H5 := FixedOf_ok ⟨7, 700000⟩ 43082 ⟨by decide, by decide⟩ (by decide)
  rw [show turnedZ (Pt.turn ⟨7, 700000⟩) 43082 1 = 200000 from exTurn] at H5
  have H6 := Acts_s
  have H7 := RecipientsOf_ok exRs exSky exActs (by decide) (by decide) exRun 5 (by decide) (by decide) (by decide)
  have hw : (runW exActs exActs.length)[5]'(by rw [runW_len]; decide) = [nAnn, nBob] := by
    have := exRec
    rw [List.getElem?_eq_getElem (by rw [runW_len]; decide)] at this
    exact Option.some.inj this
  rw [hw] at H7
  have H8 := Jobs_s
  have H9 := OrderFor_ok exJobs exJobsOk
  rw [exOrder, show (if (some [(1 : Int), 0, 2]).isSome = true then (0 : Int) else 12) = 0 from rfl] at H9
  have HA := Ints_s [1, 2, 5] [1, 2, 5] (by decide) (by decide)
  rw [decide_eq_true rfl] at HA
  have HB := Ints_s [1, 0, 2] [1, 0, 2] (by decide) (by decide)
  rw [decide_eq_true rfl] at HB
  have HC := Texts_s [nAnn, nBob] [nAnn, nBob] (by decide) (by decide)
  rw [decide_eq_true rfl] at HC
  refine summW Tryz.func15 rfl rfl 81 rfl (by simp) (fun M0 => ?_)
  repeat (first
    | (apply s_bind; exact rfl; exact rfl; exact rfl; exact rfl; exact rfl; exact rfl; exact eqI rfl)
    | (apply s_a TY; exact rfl)
    | (apply s_t; exact rfl; (first | assumption | omega))
    | apply w_seq
    | apply w_region
    | apply s_nil
    | apply t_norm
    | apply w_ret
    | (apply s_k (H1); exact rfl)
    | (apply s_k (H2); exact rfl)
    | (apply s_k (H3); exact rfl)
    | (apply s_k (H4); exact rfl)
    | (apply s_k (H5); exact rfl)
    | (apply s_k (H6); exact rfl)
    | (apply s_k (H7); exact rfl)
    | (apply s_k (H8); exact rfl)
    | (apply s_k (H9); exact rfl)
    | (apply s_k (HA); exact rfl)
    | (apply s_k (HB); exact rfl)
    | (apply s_k (HC); exact rfl)
    | (apply s_alloc TY; exact rfl; exact rfl; exact rfl)
    | (apply s_store TY; exact rfl; exact rfl; exact rfl; exact rfl; exact rfl; exact rfl))
  exact lv_ret (ret1 rfl (res_tmp rfl))
end Go.Proofs.YtenkgipcblfocaaGreat
namespace Go.Proofs.YtenkgipcblfocaaGreat
open Go Go.RowKit Go.Proofs Go.Shelf Go.Ab
theorem summ_nilB {g : Nat} {a r : FV} (K : Summ Tryz.prog GG g [a, .sl 0 []] r) : Summ Tryz.prog GG g [a, .v (.slice none 0 0)] r :=
  ⟨K.enters, fun w M us hM hG R => by
    obtain ⟨u1, us1, rfl, r1, R1⟩ := R.head
    obtain ⟨u2, us2, rfl, r2, R2⟩ := R1.head
    exact K.call w M _ hM hG (RepL.cons r1 (RepL.cons (rep_nilsl r2) R2))⟩
theorem OrderN_s (l : List Job) (ok : JobsOk l) : Summ Tryz.prog GG 62 [.sl l.length (jobsF l), .v (.slice none 0 0)] (.tup [ordF (orderO l), bv (orderO l).isSome]) := by
  rw [orderO_eq]
  exact summ_nilB (Order_s l ok l.length [] (by simp) (nilOk l))
set_option maxRecDepth 100000 in
set_option maxHeartbeats 3200000 in
theorem AlertMessages_s (l : List Job) : Summ Tryz.prog GG 9 [.sl l.length (jobsF l)] (.v (.bool true)) := by
  have HA := awake_s
  by_cases h9 : (l.length : Int) > 9
  · refine summW Tryz.func9 rfl rfl 114 rfl (by simp) (fun M0 => ?_)
    repeat (first
    | (apply s_a TY; exact rfl)
    | (apply s_t; exact rfl; (first | assumption | omega))
    | apply w_seq
    | apply w_region
    | apply s_nil
    | apply t_norm
    | apply t_ret
    | apply w_ret
    | apply w_skip
    | (apply w_condT; exact rfl; exact rfl)
    | (apply w_condF; exact rfl; exact rfl)
    | (apply s_k (HA); exact rfl)
    | (apply s_s; exact rfl))
    exact lv_ret (ret1 rfl (res_tmp rfl))
  have HJ := JobsErr_s l (by omega)
  by_cases h6 : (jobsChk l).2 = 0 ∧ (l.length : Int) > 6
  · rw [h6.1] at HJ
    have h6b := h6.2
    refine summW Tryz.func9 rfl rfl 114 rfl (by simp) (fun M0 => ?_)
    repeat (first
    | (apply s_a TY; exact rfl)
    | (apply s_t; exact rfl; (first | assumption | omega))
    | (apply s_f; exact rfl; (first | assumption | omega))
    | apply w_seq
    | apply w_region
    | apply s_nil
    | apply t_norm
    | apply t_ret
    | apply w_ret
    | apply w_skip
    | (apply w_condT; exact rfl; exact rfl)
    | (apply w_condF; exact rfl; exact rfl)
    | (apply s_k (HA); exact rfl)
    | (apply s_k (HJ); exact rfl))
    exact lv_ret (ret1 rfl (res_tmp rfl))
  have HCp := CopyJobs_s l (by omega)
  have HCk := CheckJobs_s l (by omega)
  have HRk := rCheckJobs_s l (by omega)
  by_cases he : (jobsChk l).2 = 0
  case neg =>
    have HF := FinishesOf_err l (by omega) he
    have HO := OrderFor_err l (by omega) he
    refine summW Tryz.func9 rfl rfl 114 rfl (by simp) (fun M0 => ?_)
    repeat (first
    | (apply s_a TY; exact rfl)
    | (apply s_t; exact rfl; (first | assumption | omega))
    | (apply s_f; exact rfl; (first | assumption | omega))
    | apply w_seq
    | apply w_region
    | apply s_nil
    | apply t_norm
    | apply t_ret
    | apply w_ret
    | apply w_skip
    | (apply w_condT; exact rfl; exact rfl)
    | (apply w_condF; exact rfl; exact rfl)
    | (apply s_k (HA); exact rfl)
    | (apply s_k (HJ); exact rfl)
    | (apply s_k (HCp); exact rfl)
    | (apply s_k (HCk); exact rfl)
    | (apply s_k (HRk); exact rfl)
    | (apply s_k (HF); exact rfl)
    | (apply s_k (HO); exact rfl)
    | (apply s_s; exact rfl)
    | (apply s_c TY; exact rfl; omega))
    exact lv_ret (ret1 rfl (res_tmp rfl))
  have h6b : ¬ (l.length : Int) > 6 := fun h => h6 ⟨he, h⟩
  have ok := jobsOk_of he
  rw [he] at HJ
  rw [jobsChk_ok ok] at HCk HRk
  have HF := FinishesOf_ok l ok
  have HG := Finishes_s l ok
  have HO := OrderFor_ok l ok
  have HR := OrderN_s l ok
  have HI := Ints_s (finL l) (finL l) (by unfold finL; rw [finL_len]; omega) (by unfold finL; rw [finL_len]; omega)
  rw [decide_eq_true rfl] at HI
  have hfl : (finL l).length = l.length := finL_len l.length
  rw [hfl] at HI
  cases ho : orderO l with
  | none =>
    rw [ho, show (if (none : Option (List Int)).isSome = true then (0 : Int) else 12) = 12 from rfl] at HO
    rw [ho] at HR
    refine summW Tryz.func9 rfl rfl 114 rfl (by simp) (fun M0 => ?_)
    repeat (first
    | (apply s_a TY; exact rfl)
    | (apply s_t; exact rfl; (first | assumption | omega))
    | (apply s_f; exact rfl; (first | assumption | omega))
    | apply w_seq
    | apply w_region
    | apply s_nil
    | apply t_norm
    | apply w_ret
    | apply w_skip
    | (apply w_condF; exact rfl; exact rfl)
    | (apply s_k (HA); exact rfl)
    | (apply s_k (HJ); exact rfl)
    | (apply s_k (HCp); exact rfl)
    | (apply s_k (HCk); exact rfl)
    | (apply s_k (HRk); exact rfl)
    | (apply s_k (HF); exact rfl)
    | (apply s_k (HG); exact rfl)
    | (apply s_k (HO); exact rfl)
    | (apply s_k (HR); exact rfl)
    | (apply s_k (HI); exact rfl)
    | (apply s_s; exact rfl))
    exact lv_ret (ret1 rfl (res_tmp rfl))
  | some x =>
    rw [ho, show (if (some x).isSome = true then (0 : Int) else 12) = 0 from rfl] at HO
    rw [ho] at HR
    have hxl := (orderO_some ho).2.1
    have HX := Ints_s x x (by omega) (by omega)
    rw [decide_eq_true rfl] at HX
    refine summW Tryz.func9 rfl rfl 114 rfl (by simp) (fun M0 => ?_)
    repeat (first
    | (apply s_a TY; exact rfl)
    | (apply s_t; exact rfl; (first | assumption | omega))
    | (apply s_f; exact rfl; (first | assumption | omega))
    | apply w_seq
    | apply w_region
    | apply s_nil
    | apply t_norm
    | apply w_ret
    | apply w_skip
    | (apply w_condF; exact rfl; exact rfl)
    | (apply s_k (HA); exact rfl)
    | (apply s_k (HJ); exact rfl)
    | (apply s_k (HCp); exact rfl)
    | (apply s_k (HCk); exact rfl)
    | (apply s_k (HRk); exact rfl)
    | (apply s_k (HF); exact rfl)
    | (apply s_k (HG); exact rfl)
    | (apply s_k (HO); exact rfl)
    | (apply s_k (HR); exact rfl)
    | (apply s_k (HI); exact rfl)
    | (apply s_k (HX); exact rfl)
    | (apply s_s; exact rfl))
    exact lv_ret (ret1 rfl (res_tmp rfl))
end Go.Proofs.YtenkgipcblfocaaGreat
namespace Go.Ab
open Go Go.RowKit
section
variable {P : Program} {w : World}
end
end Go.Ab
namespace Go.Proofs.YtenkgipcblfocaaGreat
open Go Go.Ab Go.ChangeShapes Go.WideShapes Go.ChangeAt Go.RowKit
theorem ownKnobT : ownKnob Tryz.prog.godebug = none := by kernel_rfl
theorem laidOutT : laidOutB Tryz.prog = true := by kernel_rfl
theorem trodAll_stays {H : Type} {enc : TypeId × Value → H} {W W' : World} {sp : Nat → Bool} (hb : Below W.heap.size W W') : ∀ {ts : List TypeId} {vs : List Value} {ds : List (DataW H)} {ps : List MemPlace}, (∀ t ∈ ts, Tryz.prog.readableRec t = true ∧ t < Tryz.prog.types.size) → DataW.TrodAll enc Tryz.prog W 0 (fun _ => true) true ts vs ds ps → (∀ p ∈ ps, p.block < W.heap.size) → (∀ p ∈ ps, sp p.block = true) → DataW.TrodAll enc Tryz.prog W' 0 sp true ts vs ds ps
  | [], [], [], _, _, h, _, _ => h
  | t :: ts, v :: vs, d :: ds, ps, ht, ⟨p, q, h1, h2, e⟩, hlt, hsp => by
    have hp : ∀ x ∈ p, x ∈ ps := fun x hx => by rw [e]; exact List.mem_append_left _ hx
    have hq : ∀ x ∈ q, x ∈ ps := fun x hx => by rw [e]; exact List.mem_append_right _ hx
    exact ⟨p, q, WideElems.Trod_stays laidOutT (ht t (by simp)).1 (ht t (by simp)).2 h1 (fun x hx => hb.same (hlt x (hp x hx))) (fun x hx => hsp x (hp x hx)),
      trodAll_stays hb (fun u hu => ht u (by simp [hu])) h2 (fun x hx => hlt x (hq x hx)) (fun x hx => hsp x (hq x hx)), e⟩
theorem post_law {H : Type} {enc : TypeId × Value → H} {f : Func} {s : ChangeSpec} {W W' : World} {args : Array Value} {ds gs : List (DataW H)} {before : List MemPlace}
    (hW : DataW.Whole enc Tryz.prog f.params.toList s.vars false W args.toList ds gs before) (hv : s.vars = []) (hr : f.resultTypes = #[4])
    (ht : ∀ t ∈ f.params.toList, Tryz.prog.readableRec t = true ∧ t < Tryz.prog.types.size)
    (hres : (s.fn H (ds ++ gs)).results = [.lit (.bool true)]) (hargs : (s.fn H (ds ++ gs)).args = ds) (hvs : (s.fn H (ds ++ gs)).vars = [])
    (hb : Below W.heap.size W W') : s.post enc Tryz.prog f false true false false W args (.bool true) W' := by
  have hlt := hW.lt
  have hW0 := hW
  obtain ⟨p, q, h1, h2, e, hz, hn⟩ := hW
  have h2' := h2
  rw [hv] at h2'
  have hq : gs = [] ∧ q = [] := by
    cases gs with
    | nil => exact ⟨rfl, h2'⟩
    | cons g r => exact absurd h2' (by intro h; cases h)
  obtain ⟨rfl, rfl⟩ := hq
  rw [List.append_nil] at e
  subst e
  refine ⟨ds, [], before, [], before, [], hW0, ?_, ?_, ?_, Below.frame hb _, fun h => by cases h⟩
  · rw [hr, hres]; exact trodAll_mk1 (shut_bool Tryz.underlying4 true)
  · rw [hargs]
    exact trodAll_stays hb ht h1 hlt (fun x hx => by simpa using hlt x hx)
  · rw [hv, hvs]; rfl
section
variable {W : World}
theorem opens_i : Opens Tryz.prog W 3 (fun z : Int => [iv z]) := opens_int Tryz.underlying3
theorem opens_job : Opens Tryz.prog W 108 jobF := (opens_st Tryz.underlying108 (by kernel_rfl) (ofs_cons (s := 1) (by kernel_rfl) rfl opens_i (ofs_cons (s := 1) (by kernel_rfl) rfl opens_i (ofs_cons (s := 1) (by kernel_rfl) rfl opens_i (ofs_cons (s := 1) (by kernel_rfl) rfl opens_i (ofs_nil)))))).map (fun p => ⟨p.1, p.2.1, p.2.2.1, p.2.2.2.1⟩) fun _ => rfl
theorem opens_jobs : Opens Tryz.prog W 97 (fun l : List Job => [.sl l.length (jobsF l)]) := opens_sl (s := 4) Tryz.underlying97 (by kernel_rfl) (by decide) opens_job
end
set_option maxRecDepth 100000 in
theorem arg_sl {H : Type} {enc : TypeId × Value → H} {W : World} {base : Nat} {T E : TypeId} {α : Type} {f : α → FV} {v : Value} {d : DataW H} {ps : List MemPlace} (h : Opens Tryz.prog W T (fun a => [f a])) (ht : Tryz.prog.underlying T = some (.slice E)) (hv : Value.okWide Tryz.prog W .any base T v) (hd : DataW.Trod enc Tryz.prog W 0 (fun _ => true) true T v d ps) : ∃ a, RepF W (fun _ => False) v (f a) := by
  obtain ⟨a, n, c, rfl⟩ := okWide_slice ht hv
  exact arg_one h rfl hd
theorem law_calls {f : Nat} {xs : List FV} (S : Summ Tryz.prog GG f xs (.v (.bool true))) {W : World} {args : Array Value} (R : RepL W (fun _ => False) args.toList xs) : Calls Tryz.prog f args W fun e W' => e = .returned (.bool true) ∧ Below W.heap.size W W' := by
  have := S.call W (fun _ => False) args.toList (fun _ h => h.elim) (fun g cs h => by cases h) R
  simp only [Array.toArray_toList] at this
  refine this.mono fun e w' ⟨v, h1, h2, h3⟩ => ⟨?_, h3⟩
  rw [h1, repV h2]
end Go.Proofs.YtenkgipcblfocaaGreat
