/- Laws on which the proofs of this seat stand. No condition. -/
import Derived.Test.YtdmdpkoapllkkaaGreatSil4
import Derived.Lib.SliceRun
import Derived.Test.YtdmdpkoapllkkaaGreatRows
import Derived.WalkKit
import Derived.ProofKit
import Derived.OpenShut
import Derived.Stop.Joined
namespace Go.Proofs.YtdmdpkoapllkkaaGreat
open Go Go.RowKit Go.Proofs Go.Shelf Go.Ab
def encJ (z : Int) : List Value := [.int .i64 z]
theorem encJ_len : ∀ x, (encJ x).length = 1 := fun _ => rfl
theorem encJ_one (l : List Int) : ∀ u ∈ l.flatMap encJ, u.oneCell' = true := by
  intro u hu
  obtain ⟨z, _, h⟩ := List.mem_flatMap.1 hu
  simp [encJ] at h
  subst h; rfl
theorem infoI : (Tryz.prog.info? 3).map (fun i => (i.zero, i.size, i.bytes)) = some (some (.int .i64 0), 1, 8) := by kernel_rfl
theorem detC_append : ∀ {a b : List FV} {p q : List Value}, detC a = some p → detC b = some q → detC (a ++ b) = some (p ++ q)
  | [], b, p, q, h, h' => by simp [detC] at h; subst h; simpa using h'
  | .v x :: a, b, p, q, h, h' => by
    cases hr : detC a with
    | none => simp [detC, hr] at h
    | some l => simp [detC, hr] at h; subst h; simp [detC, detC_append hr h']
  | .sl _ _ :: _, _, _, _, h, _ => by simp [detC] at h
  | .agg _ :: _, _, _, _, h, _ => by simp [detC] at h
  | .tup _ :: _, _, _, _, h, _ => by simp [detC] at h
  | .pt _ _ :: _, _, _, _, h, _ => by simp [detC] at h
  | .fn _ _ :: _, _, _, _, h, _ => by simp [detC] at h
  | .slc _ _ :: _, _, _, _, h, _ => by simp [detC] at h
  | .mp _ :: _, _, _, _, h, _ => by simp [detC] at h
theorem detC_flat {α : Type} {f : α → List FV} {e : α → List Value} (h : ∀ x, detC (f x) = some (e x)) : ∀ l : List α, detC (l.flatMap f) = some (l.flatMap e)
  | [] => rfl
  | x :: l => by rw [List.flatMap_cons, List.flatMap_cons]; exact detC_append (h x) (detC_flat h l)
theorem detC_ints (l : List Int) : detC (intsF l) = some (l.flatMap encJ) := by
  have := detC_flat (f := fun z => [iv z]) (e := encJ) (fun _ => rfl) l
  rwa [show l.flatMap (fun z => [iv z]) = intsF l by unfold intsF; induction l with | nil => rfl | cons x l ih => rw [List.flatMap_cons, List.map_cons, ih (detC_flat (f := fun z => [iv z]) (e := encJ) (fun _ => rfl) l)]; rfl] at this
theorem rep_row {w : World} {M : Nat → Prop} {v : Value} {n : Nat} {cs : List FV} {us : List Value} (h : RepF w M v (.sl n cs)) (hd : detC cs = some us) : ∃ a c, v = .slice a n c ∧ n ≤ c ∧ Row w a us := by
  cases h with
  | sl a _ c _ vs h1 h2 h3 h4 h5 =>
    have := detC_spec ⟨h2, h5⟩ hd
    subst this
    refine ⟨a, c, rfl, h1, ⟨fun hn => ?_⟩⟩
    obtain ⟨b, off, e, L⟩ := h4 hn
    exact ⟨b, off, e, L.lt, L.at_⟩
theorem repL_det {w : World} {M : Nat → Prop} {us : List Value} : ∀ {cs : List FV}, detC cs = some us → RepL w M us cs
  | [], h => by simp [detC] at h; subst h; exact RepL.nil _ _
  | .v x :: r, h => by
    cases hr : detC r with
    | none => simp [detC, hr] at h
    | some l => simp [detC, hr] at h; subst h; exact RepL.cons (RepF.v x) (repL_det hr)
  | .sl _ _ :: _, h => by simp [detC] at h
  | .agg _ :: _, h => by simp [detC] at h
  | .tup _ :: _, h => by simp [detC] at h
  | .pt _ _ :: _, h => by simp [detC] at h
  | .fn _ _ :: _, h => by simp [detC] at h
  | .slc _ _ :: _, h => by simp [detC] at h
  | .mp _ :: _, h => by simp [detC] at h
theorem own_sl {w w' : World} {M : Nat → Prop} {e sz n : Nat} {v : Value} {us : List Value} {cs : List FV} (own : w'.ownsRow w.heap.size e sz v n us) (one : ∀ u ∈ us, u.oneCell' = true) (hM : ∀ b, M b → b < w.heap.size) (R : RepL w' M us cs) : RepF w' M v (.sl n cs) := by
  rcases own.2 with ⟨h1, h2⟩ | ⟨g, cap, cur, h1, h2, h3, h4, h5, h6, h7⟩
  · subst h1; subst h2
    have hx : us = [] := List.eq_nil_of_length_eq_zero (by rw [own.1]; simp)
    subst hx
    exact RepF.sl none 0 0 cs [] (Nat.le_refl _) R.1 one (fun h => absurd rfl h) (fun k u x h => by simp at h)
  · subst h1
    refine RepF.sl _ n cap cs us h4 R.1 one (fun _ => ⟨g, 0, rfl, (Array.getElem?_eq_some_iff.1 h3).1, fun hm => by have := hM g hm; omega, fun k hk => ?_⟩) R.2
    have := own.cells (g := g) rfl k _ (List.getElem?_eq_getElem hk)
    rw [addr_add, Nat.zero_add] at this
    rw [Nat.zero_add, this, List.getElem?_eq_getElem hk]
set_option maxRecDepth 100000 in
set_option maxHeartbeats 1000000 in
theorem cloneInt (a : Option Addr) (l : List Int) (c : Nat) (w : World) (hr : RowS encJ w a l) (hl : l.length ≤ 1000000) :
    Calls Tryz.prog 70 #[.slice a l.length c] w fun e w' => ∃ a' c', e = .returned (.slice a' l.length c') ∧ w'.ownsRow w.heap.size 3 1 (.slice a' l.length c') l.length (l.flatMap encJ) ∧ Ext w w' := by
  obtain ⟨i0, hi, hz0, hz1, hz2⟩ := info_parts infoI
  have HI := Lib.hid hi
  have HZ0 := Lib.hid hz0
  have HZ1 := Lib.hid hz1
  have HZ2 := Lib.hid hz2
  clear hi hz0 hz1 hz2
  have HR := Lib.hid hr
  clear hr
  have hnil := fun (w : World) (a : Option Addr) (n c : Nat) => Lib.run_eql_slice_nil (P := Tryz.prog) w 50 3 a n c 0 0 Tryz.underlying50
  cases ha : a with
  | none =>
    subst ha
    have hl : l = [] := Classical.byContradiction fun hne => by
      cases l with
      | nil => exact hne rfl
      | cons x l =>
        obtain ⟨_, _, e, _⟩ := HR.out.at_ (by simp [List.flatMap_cons, encJ])
        cases e
    subst hl
    go_enter Tryz.func70, Tryz.ntmps70
    go_wp2_with fail
    go_ret
    exact ⟨none, 0, rfl, World.ownsRow_nil _ _ _ _, Ext.refl _⟩
  | some ad =>
    subst ha
    go_enter Tryz.func70, Tryz.ntmps70
    have hown0 := Lib.hid (World.ownsRow_lit (base := w.heap.size) (size := 1) (e := 3) w #[] 0 (Nat.le_refl _) (by decide) (by simp))
    go_wp2_with (refine wpList_append_row rfl (.tmp 5) (.tmp 6) 50 rfl w.heap.size 3 i0 (.int .i64 0) 1 8 Tryz.underlying50 HI.out HZ0.out HZ1.out HZ2.out rfl (by decide) _ 0 _ rfl hown0.out (some ad) l.length c (l.flatMap encJ) rfl (flatMap_length encJ_len l) (HR.out.ext (Ext.alloc _ _)) (encJ_one l) ?m1 ?m2 ?m3 ?_)
    case m1 => unfold maxLen; omega
    case m2 => omega
    intro v' w1 hown hgrow
    have hx := Lib.hid ((Ext.alloc w _).grown hgrow (fun k e => by simp [Value.ownBlock] at e; omega))
    obtain ⟨a', c', rfl⟩ := hown.isSlice
    have HO := Lib.hid hown
    clear hown hgrow hown0
    go_wp2_with fail
    go_ret
    exact ⟨a', c', rfl, HO.out, hx.out⟩
theorem clone_s (l : List Int) (hl : l.length ≤ 1000000) : Summ Tryz.prog GG 70 [.sl l.length (intsF l)] (.sl l.length (intsF l)) := by
  refine ⟨enters_of Tryz.func70 (by kernel_rfl) rfl, fun w M us hM hG R => ?_⟩
  obtain ⟨u1, us1, rfl, r1, R1⟩ := R.head
  have := R1.end; subst this
  obtain ⟨a, c, rfl, _, rr⟩ := rep_row r1 (detC_ints l)
  exact (cloneInt a l c w rr hl).mono fun e w' ⟨a', c', h1, h2, h3⟩ => ⟨_, h1, own_sl h2 (encJ_one l) hM (repL_det (detC_ints l)), h3⟩
theorem Summ.nil3 {P : Program} {G : Nat → Option (List FV)} {g : Nat} {a b c d e r : FV} (K : Summ P G g [a, b, c, .sl 0 [], d, e] r) : Summ P G g [a, b, c, .v (.slice none 0 0), d, e] r :=
  ⟨K.enters, fun w M us hM hG R => by
    obtain ⟨u1, us1, rfl, r1, R1⟩ := R.head
    obtain ⟨u2, us2, rfl, r2, R2⟩ := R1.head
    obtain ⟨u3, us3, rfl, r3, R3⟩ := R2.head
    obtain ⟨u4, us4, rfl, r4, R4⟩ := R3.head
    have := repV r4
    subst this
    exact K.call w M _ hM hG (RepL.cons r1 (RepL.cons r2 (RepL.cons r3 (RepL.cons (RepF.sl none 0 0 [] [] (Nat.le_refl _) rfl (fun u hu => by simp at hu) (fun hn => absurd rfl hn) (fun k u x h => by simp at h)) R4))))⟩
set_option maxRecDepth 100000 in
theorem clip_s (l : List Int) : Summ Tryz.prog GG 126 [.sl l.length (intsF l)] (.slc l.length (intsF l)) := by
  have hlen : (intsF l).length = l.length * 1 := intsF_len l
  refine summW Tryz.func126 rfl rfl 9 rfl (by simp) (fun M0 => ?_)
  repeat (first
    | (apply s_clip TY; exact rfl; exact rfl; exact rfl; exact rfl; exact rfl; exact rfl; exact hlen)
    | (apply s_a TY; exact rfl)
    | apply w_seq
    | apply w_region
    | apply s_nil
    | apply t_norm
    | apply w_ret)
  exact lv_ret (ret1 rfl (res_tmp rfl))
def slI (o : List Int) : FV := .sl o.length (intsF o)
def resO : Option (List Int) → FV
  | some o => slI o
  | none => .v (.slice none 0 0)
def resV (p : List Int → Bool) (set ch : List Int) : Nat → FV
  | 0 => slI set
  | m + 1 => resO (silV p ch (m + 1) set)
theorem resV_succ (p : List Int → Bool) (set ch : List Int) (m : Nat) : resV p set ch (m + 1) = resO (silV p ch (m + 1) set) := rfl
theorem resV_some {p : List Int → Bool} {set ch o : List Int} {m : Nat} (h : silV p ch m set = some o) : resV p set ch m = slI o := by
  cases m with
  | zero =>
    have : o = set := by
      cases ch <;> (simp only [silV] at h; split at h <;> first | (cases h; rfl) | cases h)
    rw [this]; rfl
  | succ m => rw [resV_succ, h]; rfl
theorem silV_drop {p : List Int → Bool} {ch set : List Int} {m k : Nat} (hk : k < ch.length) : silV p (ch.drop k) (m + 1) set = match silV p (ch.drop (k + 1)) m (set ++ [ch[k]]) with
    | some o => some o
    | none => silV p (ch.drop (k + 1)) (m + 1) set := by
  rw [List.drop_eq_getElem_cons hk]; rfl
set_option maxRecDepth 100000 in
set_option maxHeartbeats 3200000 in
theorem silenced_s (l : List Site) (r : Rule) (h : List Hit) (hr : ruleErr r = 0) (hl0 : ArrOk l) (ho : HitsOk l h) : ∀ (m : Nat) (z : Int) (set ch : List Int), z = (m : Int) → m ≤ 100 → set.length + m ≤ 100 → ch.length ≤ 100 → Summ Tryz.prog GG 69 [arrayV l, .agg (ruleF r), .sl h.length (hitsF h), .sl set.length (intsF set), .sl ch.length (intsF ch), iv z] (.tup [resV (silP l r h) set ch m, bv (silV (silP l r h) ch m set).isSome])
  | 0, z, set, ch, hz, _, hset, hch => by
    have h40 := ho.len
    have hmo := maskV_ok ho set
    have HW := without_s l h set (by omega) (by omega)
    have HF := fires_s l r (maskV l h set) hr hl0 hmo
    have hs0 : silV (silP l r h) ch 0 set = if silP l r h set = true then some set else none := by cases ch <;> rfl
    rw [hs0]
    cases hp : silP l r h set with
    | true =>
      have h1 : (firesV l r (maskV l h set) (maskV l h set).length).length = 0 := by
        unfold silP at hp
        rw [List.isEmpty_iff.1 hp]; rfl
      refine summW Tryz.func69 rfl rfl 58 rfl (by simp) (fun M0 => ?_)
      repeat (first
    | (apply s_a TY; exact rfl)
    | (apply s_t; exact rfl; (first | assumption | omega))
    | apply w_seq
    | apply w_region
    | (apply w_draw (id := 2) 11 rfl (by kernel_rfl))
    | apply s_nil
    | apply t_norm
    | apply t_ret
    | apply w_ret
    | (apply w_condT; exact rfl; exact rfl)
    | (apply s_k (HW); exact rfl)
    | (apply s_k (HF); exact rfl))
      exact lv_ret (ret2 rfl (res_tmp rfl) (res_tmp rfl))
    | false =>
      have h1 : 0 < (firesV l r (maskV l h set) (maskV l h set).length).length := by
        unfold silP at hp
        exact List.length_pos_iff.2 (fun e => by rw [e] at hp; cases hp)
      refine summW Tryz.func69 rfl rfl 58 rfl (by simp) (fun M0 => ?_)
      repeat (first
    | (apply s_a TY; exact rfl)
    | (apply s_t; exact rfl; (first | assumption | omega))
    | (apply s_f; exact rfl; (first | assumption | omega))
    | apply w_seq
    | apply w_region
    | (apply w_draw (id := 2) 11 rfl (by kernel_rfl))
    | apply s_nil
    | apply t_norm
    | apply t_ret
    | apply w_ret
    | (apply w_condT; exact rfl; exact rfl)
    | (apply s_k (HW); exact rfl)
    | (apply s_k (HF); exact rfl))
      exact lv_ret (ret2 rfl (res_tmp rfl) (res_tmp rfl))
  | m + 1, z, set, ch, hz, hm, hset, hch => by
    have hsl : (intsF set).length = set.length * 1 := intsF_len set
    have HCl := clip_s set
    refine summW Tryz.func69 rfl rfl 58 rfl (by simp) (fun M0 => ?_)
    repeat (first
    | (apply s_a TY; exact rfl)
    | (apply s_f; exact rfl; (first | assumption | omega))
    | apply w_seq
    | apply w_region
    | apply s_nil
    | apply t_norm
    | apply w_block
    | apply w_skip
    | (apply w_condF; exact rfl; exact rfl))
    apply w_loop (fun k : Nat => ⟨(Ab.upd (Ab.upd (Ab.upd (Ab.upd (Ab.upd (Ab.upd (Ab.upd (Ab.upd (Ab.upd (fun _ => .bot) 2 (.f (.sl h.length (hitsF h)))) 3 (.f (.sl set.length (intsF set)))) 4 (.f (.sl ch.length (intsF ch)))) 5 (.f (iv z))) 6 (.f (.pt [.sl l.length (sitesF l), .mp (mapS l l.length)] 0))) 7 (.f (.pt (ruleF r) 0))) 30 (.f (.sl ch.length (intsF ch)))) 31 (.f (iv ch.length))) 32 (.f (iv ((k : Nat) : Int)))), (fun _ => none), 0⟩) (fun k => k ≤ ch.length ∧ silV (silP l r h) ch (m + 1) set = silV (silP l r h) (ch.drop k) (m + 1) set) (fun k => ch.length - k) 0 (⟨Nat.zero_le _, by rw [List.drop_zero]⟩) (gh_le ⟨le_upd rfl trivial (le_upd rfl trivial (le_upd rfl trivial (le_upd rfl trivial (le_upd rfl trivial (le_upd rfl trivial (le_upd rfl trivial (le_upd rfl trivial (le_upd rfl trivial (le_nil _))))))))), le_h0 _ _⟩)
    intro k ⟨hk, hv⟩
    by_cases hc : k < ch.length
    · rw [silV_drop hc] at hv
      have e3 : (((ch.length : Nat) : Int).toNat - (((k : Nat) : Int) + 1).toNat) = (ch.drop (k + 1)).length := by rw [List.length_drop]; omega
      have e4 : (List.take ((((ch.length : Nat) : Int).toNat - (((k : Nat) : Int) + 1).toNat) * 1) (List.drop ((((k : Nat) : Int) + 1).toNat * 1) (intsF ch))) = intsF (ch.drop (k + 1)) := by
        unfold intsF
        rw [e3, show (((k : Nat) : Int) + 1).toNat = k + 1 by omega, Nat.mul_one, Nat.mul_one, ← List.map_drop, List.take_of_length_le (by simp)]
      have IH : ∀ z', z' = (m : Int) → Summ Tryz.prog GG 69 [arrayV l, .agg (ruleF r), .sl h.length (hitsF h), .sl (set.length + 1) (intsF set ++ [iv ch[k]]), .sl (((ch.length : Nat) : Int).toNat - (((k : Nat) : Int) + 1).toNat) (List.take ((((ch.length : Nat) : Int).toNat - (((k : Nat) : Int) + 1).toNat) * 1) (List.drop ((((k : Nat) : Int) + 1).toNat * 1) (intsF ch))), iv z'] (.tup [resV (silP l r h) (set ++ [ch[k]]) (ch.drop (k + 1)) m, bv (silV (silP l r h) (ch.drop (k + 1)) m (set ++ [ch[k]])).isSome]) := fun z' hz' => by
        have := silenced_s l r h hr hl0 ho m z' (set ++ [ch[k]]) (ch.drop (k + 1)) hz' (by omega) (by rw [List.length_append, List.length_singleton]; omega) (by rw [List.length_drop]; omega)
        rw [List.length_append, List.length_singleton, intsF_snoc] at this
        rw [e4, e3]; exact this
      clear e3 e4
      cases hq : silV (silP l r h) (ch.drop (k + 1)) m (set ++ [ch[k]]) with
      | some o =>
        rw [hq] at hv
        simp only at hv
        have IH2 := IH
        simp only [hq, resV_some hq] at IH2
        have e5 : resV (silP l r h) set ch (m + 1) = slI o := resV_some hv
        rw [e5, hv]
        repeat (first
    | (apply s_append_cl TY; exact rfl; exact rfl; exact rfl; exact rfl; exact rfl; exact rfl; exact rfl; exact hsl; exact rfl; (unfold maxLen; omega); omega)
    | (apply s_assign_f; exact rfl; exact rfl)
    | (apply s_a TY; exact rfl)
    | (apply s_t; exact rfl; (first | assumption | omega))
    | apply w_seq
    | apply w_region
    | (apply w_draw (id := 6) 19 rfl (by kernel_rfl))
    | apply s_nil
    | apply t_norm
    | apply t_ret
    | apply k_ret
    | apply w_block
    | apply w_ret
    | apply w_skip
    | (apply w_condT; exact rfl; exact rfl)
    | (apply s_k (HCl); exact rfl)
    | (apply s_k1 (IH2 _); exact rfl; (first | assumption | omega | decide))
    | (apply s_c TY; exact rfl; (first | omega | exact ⟨by omega, by (first | with_reducible assumption | ((with_reducible apply intsF_ne); omega) | assumption)⟩))
    | (apply s_l TY; exact rfl; (first | exact rfl | with_reducible assumption | ((with_reducible apply intsF_at); omega) | assumption))
    | (apply s_slice TY; exact rfl; exact rfl; exact rfl; (first | exact rfl | exact ⟨_, rfl⟩); (first | exact rfl | exact ⟨_, rfl⟩); omega; omega; omega))
        exact lv_ret (ret2 rfl (res_tmp rfl) (res_tmp rfl))
      | none =>
        rw [hq] at hv
        simp only at hv
        have IH2 := IH
        simp only [hq] at IH2
        repeat (first
    | (apply s_append_cl TY; exact rfl; exact rfl; exact rfl; exact rfl; exact rfl; exact rfl; exact rfl; exact hsl; exact rfl; (unfold maxLen; omega); omega)
    | (apply s_assign_f; exact rfl; exact rfl)
    | (apply s_a TY; exact rfl)
    | (apply s_t; exact rfl; (first | assumption | omega))
    | apply w_seq
    | apply w_region
    | (apply w_draw (id := 6) 19 rfl (by kernel_rfl))
    | apply s_nil
    | apply t_norm
    | apply k_norm
    | apply w_block
    | apply w_skip
    | (apply w_condT; exact rfl; exact rfl)
    | (apply w_condF; exact rfl; exact rfl)
    | (apply s_k (HCl); exact rfl)
    | (apply s_k1 (IH2 _); exact rfl; (first | assumption | omega | decide))
    | (apply s_c TY; exact rfl; (first | omega | exact ⟨by omega, by (first | with_reducible assumption | ((with_reducible apply intsF_ne); omega) | assumption)⟩))
    | (apply s_l TY; exact rfl; (first | exact rfl | with_reducible assumption | ((with_reducible apply intsF_at); omega) | assumption))
    | (apply s_slice TY; exact rfl; exact rfl; exact rfl; (first | exact rfl | exact ⟨_, rfl⟩); (first | exact rfl | exact ⟨_, rfl⟩); omega; omega; omega))
        exact ⟨k + 1, ⟨by omega, hv⟩, by omega, gh_le ⟨le_upd rfl trivial (le_upd rfl trivial (le_upd rfl trivial (le_upd rfl trivial (le_upd rfl trivial (le_upd rfl trivial (le_upd rfl trivial (le_upd rfl trivial (le_upd rfl trivial (le_nil _))))))))), le_h0 _ _⟩⟩
    · rw [List.drop_eq_nil_of_le (by omega)] at hv
      have hv2 : silV (silP l r h) ch (m + 1) set = none := hv
      have e5 : resV (silP l r h) set ch (m + 1) = .v (.slice none 0 0) := by rw [resV_succ, hv2]; rfl
      rw [e5, hv2]
      repeat (first
    | (apply s_a TY; exact rfl)
    | (apply s_f; exact rfl; (first | assumption | omega))
    | apply w_seq
    | apply w_region
    | apply s_nil
    | apply t_norm
    | apply t_exit
    | apply k_hit
    | apply w_exit
    | apply w_ret
    | (apply w_condF; exact rfl; exact rfl))
      exact lv_ret (ret2 rfl (res_tmp rfl) (res_tmp rfl))
set_option maxRecDepth 100000 in
theorem idxH_s (l : List Hit) (g : Nat) (caps : List FV) (p : Nat → Bool) (hl : l.length ≤ 1000000) (hg : ∀ i (hi : i < l.length), Summ Tryz.prog GG g ([.agg (hitF l[i])] ++ caps) (bv (p i))) : Summ Tryz.prog GG 125 [.sl l.length (hitsF l), .fn g caps] (iv (idxP l.length p)) := by
  refine summW Tryz.func125 rfl rfl 19 rfl (by simp) (fun M0 => ?_)
  repeat (first
    | (apply s_a TY; exact rfl)
    | apply w_seq
    | apply w_region
    | apply s_nil
    | apply t_norm
    | apply w_block)
  apply w_loop (fun k : Nat => ⟨(Ab.upd (Ab.upd (Ab.upd (Ab.upd (fun _ => .bot) 0 (.f (.sl l.length (hitsF l)))) 1 (.f (.fn g caps))) 7 (.f (iv l.length))) 8 (.f (iv (k : Nat)))), (fun _ => none), 0⟩) (fun k => k ≤ l.length ∧ ∀ i, i < k → p i = false) (fun k => l.length - k) 0 (⟨Nat.zero_le _, fun j h => absurd h (Nat.not_lt_zero j)⟩) (gh_le ⟨le_upd rfl trivial (le_upd rfl trivial (le_upd rfl trivial (le_upd rfl trivial (le_nil _)))), le_h0 _ _⟩)
  intro k ⟨hk, hz⟩
  by_cases hc : k < l.length
  · have Hc := hg k hc
    cases hp : p k with
    | true =>
      rw [hp] at Hc
      rw [idxP_at hc hz hp]
      repeat (first
    | (apply s_a TY; exact rfl)
    | (apply s_t; exact rfl; (first | assumption | omega))
    | apply w_seq
    | apply w_region
    | apply s_nil
    | apply t_norm
    | apply t_ret
    | apply k_ret
    | apply w_block
    | apply w_ret
    | apply w_skip
    | (apply w_condT; exact rfl; exact rfl)
    | (apply s_k (Hc); exact rfl)
    | (apply s_c TY; exact rfl; (first | omega | exact ⟨by omega, by (first | with_reducible assumption | ((with_reducible apply hitsF_ne); omega) | assumption)⟩))
    | (apply s_m TY; exact rfl; (first | with_reducible assumption | ((with_reducible apply hitsF_sub); omega) | exact rfl); exact rfl))
      exact lv_ret (ret1 rfl (res_tmp rfl))
    | false =>
      rw [hp] at Hc
      repeat (first
    | (apply s_a TY; exact rfl)
    | (apply s_t; exact rfl; (first | assumption | omega))
    | apply w_seq
    | apply w_region
    | apply s_nil
    | apply t_norm
    | apply k_norm
    | apply w_block
    | apply w_skip
    | (apply w_condT; exact rfl; exact rfl)
    | (apply w_condF; exact rfl; exact rfl)
    | (apply s_k (Hc); exact rfl)
    | (apply s_c TY; exact rfl; (first | omega | exact ⟨by omega, by (first | with_reducible assumption | ((with_reducible apply hitsF_ne); omega) | assumption)⟩))
    | (apply s_m TY; exact rfl; (first | with_reducible assumption | ((with_reducible apply hitsF_sub); omega) | exact rfl); exact rfl))
      exact ⟨k + 1, ⟨by omega, fun i hi => by
        by_cases e : i = k
        · subst e; exact hp
        · exact hz i (by omega)⟩, by omega, gh_le ⟨le_upd rfl trivial (le_upd rfl trivial (le_upd rfl trivial (le_upd rfl trivial (le_nil _)))), le_h0 _ _⟩⟩
  · rw [idxP_no fun i hi => hz i (by omega)]
    repeat (first
    | (apply s_a TY; exact rfl)
    | (apply s_f; exact rfl; (first | assumption | omega))
    | apply w_seq
    | apply w_region
    | apply s_nil
    | apply t_norm
    | apply t_exit
    | apply k_hit
    | apply w_exit
    | apply w_ret
    | (apply w_condF; exact rfl; exact rfl))
    exact lv_ret (ret1 rfl (res_tmp rfl))
set_option maxRecDepth 100000 in
theorem idxHC_s (l : List Hit) (g : Nat) (caps : List FV) (p : Nat → Bool) (hl : l.length ≤ 1000000) (hg : ∀ i (hi : i < l.length), Summ Tryz.prog GG g ([.agg (hitF l[i])] ++ caps) (bv (p i))) : Summ Tryz.prog GG 65 [.sl l.length (hitsF l), .fn g caps] (bv (anyP l.length p)) := by
  have HI := idxH_s l g caps p hl hg
  cases ha : anyP l.length p with
  | true =>
    have h0 := (idxP_pos l.length p).2 ha
    refine summW Tryz.func65 rfl rfl 9 rfl (by simp) (fun M0 => ?_)
    repeat (first
    | (apply s_a TY; exact rfl)
    | (apply s_t; exact rfl; (first | assumption | omega))
    | apply w_seq
    | apply w_region
    | apply s_nil
    | apply t_norm
    | apply w_ret
    | (apply s_k (HI); exact rfl))
    exact lv_ret (ret1 rfl (res_tmp rfl))
  | false =>
    have h0 : ¬ 0 ≤ idxP l.length p := fun h => by rw [(idxP_pos l.length p).1 h] at ha; cases ha
    refine summW Tryz.func65 rfl rfl 9 rfl (by simp) (fun M0 => ?_)
    repeat (first
    | (apply s_a TY; exact rfl)
    | (apply s_f; exact rfl; (first | assumption | omega))
    | apply w_seq
    | apply w_region
    | apply s_nil
    | apply t_norm
    | apply w_ret
    | (apply s_k (HI); exact rfl))
    exact lv_ret (ret1 rfl (res_tmp rfl))
set_option maxRecDepth 100000 in
theorem silencedBy1_s (x : Hit) (s : Site) : Summ Tryz.prog GG 66 [.agg (hitF x), .pt (siteF s) 0] (bv (decide (x.line = s.line) && decide (x.sensor = s.sensor))) := by
  by_cases h1 : x.line = s.line
  · by_cases h2 : x.sensor = s.sensor
    · rw [decide_eq_true h1, decide_eq_true h2]
      refine summW Tryz.func66 rfl rfl 16 rfl (by simp) (fun M0 => ?_)
      repeat (first
    | (apply s_a TY; exact rfl)
    | (apply s_t; exact rfl; (first | assumption | omega))
    | apply w_seq
    | apply w_region
    | apply s_nil
    | apply t_norm
    | apply w_ret)
      exact lv_ret (ret1 rfl (res_tmp rfl))
    · rw [decide_eq_true h1, decide_eq_false h2]
      refine summW Tryz.func66 rfl rfl 16 rfl (by simp) (fun M0 => ?_)
      repeat (first
    | (apply s_a TY; exact rfl)
    | (apply s_t; exact rfl; (first | assumption | omega))
    | (apply s_f; exact rfl; (first | assumption | omega))
    | apply w_seq
    | apply w_region
    | apply s_nil
    | apply t_norm
    | apply w_ret)
      exact lv_ret (ret1 rfl (res_tmp rfl))
  · rw [decide_eq_false h1]
    refine summW Tryz.func66 rfl rfl 16 rfl (by simp) (fun M0 => ?_)
    repeat (first
    | (apply s_a TY; exact rfl)
    | (apply s_f; exact rfl; (first | assumption | omega))
    | apply w_seq
    | apply w_region
    | apply s_nil
    | apply t_norm
    | apply w_ret
    | (apply s_s; exact rfl))
    exact lv_ret (ret1 rfl (res_tmp rfl))
theorem hasHit_s (l : List Site) (h : List Hit) (i : Nat) (hi : i < l.length) (hh : h.length ≤ 1000000) : Summ Tryz.prog GG 65 [.sl h.length (hitsF h), .fn 66 [.pt (siteF l[i]) 0]] (bv (hasHit l h i)) := by
  unfold hasHit
  refine idxHC_s h 66 [.pt (siteF l[i]) 0] (fun k => decide ((h.getD k default).line = (l.getD i default).line) && decide ((h.getD k default).sensor = (l.getD i default).sensor)) hh fun k hk => ?_
  have := silencedBy1_s h[k] l[i]
  rw [← getD_at hk, ← getD_at hi] at this
  rw [← getD_at hk, ← getD_at hi]
  exact this
set_option maxRecDepth 100000 in
set_option maxHeartbeats 3200000 in
theorem SilencedBy_err (l : List Site) (r : Rule) (h : List Hit) (hl : l.length ≤ 1000000) (hh : h.length ≤ 1000000) (e : ruledErr l r h ≠ 0) : Summ Tryz.prog GG 21 [arrF l, .agg (ruleF r), .sl h.length (hitsF h)] (.tup [.v (.slice none 0 0), iv (ruledErr l r h)]) := by
  obtain ⟨E, hE⟩ : ∃ E, E = ruledErr l r h := ⟨_, rfl⟩
  by_cases h1 : (arrChk l).2 = 0
  · have HO := openRule_errB l r h hl hh h1 e
    rw [← hE] at e HO ⊢
    refine summW Tryz.func21 rfl rfl 68 rfl (by simp) (fun M0 => ?_)
    repeat (first
    | (apply s_a TY; exact rfl)
    | apply w_seq
    | apply w_region
    | apply s_nil
    | apply t_norm
    | apply w_block
    | (apply s_k (HO); exact rfl)
    | (apply s_alloc TY; exact rfl; exact rfl; exact rfl)
    | (apply s_store TY; exact rfl; exact rfl; exact rfl; exact rfl; exact rfl; exact rfl))
    apply w_gh (gh_own 10 3 1 rfl rfl)
    apply w_loop (fun k : Nat => ⟨(Ab.upd (Ab.upd (Ab.upd (Ab.upd (Ab.upd (Ab.upd (Ab.upd (fun _ => .bot) 2 (.f (.sl h.length (hitsF h)))) 3 (.f (.pt [.sl l.length (sitesF l)] 0))) 9 (.f (iv E))) 10 (.ow 1)) 24 (.f (.sl l.length (sitesF l)))) 25 (.f (iv l.length))) 26 (.f (iv ((k : Nat) : Int)))), (Ab.upd (fun _ => none) 1 (some (.row 3 1 (sitesK l h k).length (intsF (sitesK l h k))))), 2⟩) (fun k => k ≤ l.length) (fun k => l.length - k) 0 (Nat.zero_le _) (gh_le ⟨le_upd rfl trivial (le_upd rfl trivial (le_upd rfl trivial (le_upd rfl rfl (le_upd rfl trivial (le_upd rfl trivial (le_upd rfl trivial (le_nil _))))))), le_hupd rfl trivial (le_h0 _ _)⟩)
    intro k hk
    have hln := sitesK_len l h k
    by_cases hc : k < l.length
    · have HH := hasHit_s l h k hc hh
      have hsu := sitesK_succ l h k
      cases hb : hasHit l h k with
      | true =>
        rw [hb] at HH hsu
        rw [if_pos rfl] at hsu
        repeat (first
    | (refine s_ghost rfl (gh_box 2 (cs := siteF l[k]) rfl rfl) ?_)
    | (apply s_append TY; exact rfl; exact rfl; exact rfl; exact rfl; exact rfl; exact rfl; exact rfl; exact rfl; exact rfl; (unfold maxLen; omega); omega)
    | (apply s_a TY; exact rfl)
    | (apply s_makefn; exact rfl; exact rfl)
    | (apply s_t; exact rfl; (first | assumption | omega))
    | apply w_seq
    | apply w_region
    | apply s_nil
    | apply t_norm
    | apply k_norm
    | apply w_block
    | apply w_skip
    | (apply w_condT; exact rfl; exact rfl)
    | (apply s_k (HH); exact rfl)
    | (apply s_c TY; exact rfl; (first | omega | exact ⟨by omega, by (first | with_reducible assumption | ((with_reducible apply sitesF_ne); omega) | assumption)⟩))
    | (apply s_m TY; exact rfl; (first | with_reducible assumption | ((with_reducible apply sitesF_sub); omega) | exact rfl); exact rfl)
    | (apply s_alloc TY; exact rfl; exact rfl; exact rfl)
    | (apply s_store TY; exact rfl; exact rfl; exact rfl; exact rfl; exact rfl; exact rfl))
        exact ⟨k + 1, by omega, by omega, gh_le ⟨le_upd rfl trivial (le_upd rfl trivial (le_upd rfl trivial (le_upd rfl rfl (le_upd rfl trivial (le_upd rfl trivial (le_upd rfl trivial (le_nil _))))))), le_hupd (rowI_app hsu) trivial (le_h0 _ _)⟩⟩
      | false =>
        rw [hb] at HH hsu
        rw [if_neg (by decide), List.append_nil] at hsu
        repeat (first
    | (refine s_ghost rfl (gh_box 2 (cs := siteF l[k]) rfl rfl) ?_)
    | (apply s_a TY; exact rfl)
    | (apply s_makefn; exact rfl; exact rfl)
    | (apply s_t; exact rfl; (first | assumption | omega))
    | apply w_seq
    | apply w_region
    | apply s_nil
    | apply t_norm
    | apply k_norm
    | apply w_block
    | apply w_skip
    | (apply w_condT; exact rfl; exact rfl)
    | (apply w_condF; exact rfl; exact rfl)
    | (apply s_k (HH); exact rfl)
    | (apply s_c TY; exact rfl; (first | omega | exact ⟨by omega, by (first | with_reducible assumption | ((with_reducible apply sitesF_ne); omega) | assumption)⟩))
    | (apply s_m TY; exact rfl; (first | with_reducible assumption | ((with_reducible apply sitesF_sub); omega) | exact rfl); exact rfl)
    | (apply s_alloc TY; exact rfl; exact rfl; exact rfl)
    | (apply s_store TY; exact rfl; exact rfl; exact rfl; exact rfl; exact rfl; exact rfl))
        exact ⟨k + 1, by omega, by omega, gh_le ⟨le_upd rfl trivial (le_upd rfl trivial (le_upd rfl trivial (le_upd rfl rfl (le_upd rfl trivial (le_upd rfl trivial (le_upd rfl trivial (le_nil _))))))), le_hupd (rowI _ _ hsu.symm) trivial (le_h0 _ _)⟩⟩
    · have hke : k = l.length := by omega
      subst hke
      rw [show sitesK l h l.length = sitesV l h from rfl]
      rw [show sitesK l h l.length = sitesV l h from rfl] at hln
      by_cases h10 : (sitesV l h).length ≤ 10
      · repeat (first
    | (apply s_a TY; exact rfl)
    | (apply s_t; exact rfl; (first | assumption | omega))
    | (apply s_f; exact rfl; (first | assumption | omega))
    | apply w_seq
    | apply w_region
    | apply s_nil
    | apply t_norm
    | apply t_exit
    | apply t_ret
    | apply k_hit
    | apply w_exit
    | apply w_ret
    | (apply w_condT; exact rfl; exact rfl)
    | (apply w_condF; exact rfl; exact rfl)
    | (apply s_k1 (first2_0 _ _); exact rfl; (first | assumption | omega | decide))
    | (apply s_k (unless_T _); exact rfl))
        exact lv_ret (ret2 rfl (res_tmp rfl) (res_tmp rfl))
      · repeat (first
    | (apply s_a TY; exact rfl)
    | (apply s_f; exact rfl; (first | assumption | omega))
    | apply w_seq
    | apply w_region
    | apply s_nil
    | apply t_norm
    | apply t_exit
    | apply t_ret
    | apply k_hit
    | apply w_exit
    | apply w_ret
    | (apply w_condT; exact rfl; exact rfl)
    | (apply w_condF; exact rfl; exact rfl)
    | (apply s_k1 (first2_0 _ _); exact rfl; (first | assumption | omega | decide))
    | (apply s_k (unless_F _); exact rfl))
        exact lv_ret (ret2 rfl (res_tmp rfl) (res_tmp rfl))
  · have HO := openRule_errA l r h hl hh h1
    rw [← hE] at e HO ⊢
    refine summW Tryz.func21 rfl rfl 68 rfl (by simp) (fun M0 => ?_)
    repeat (first
    | (apply s_a TY; exact rfl)
    | apply w_seq
    | apply w_region
    | apply s_nil
    | apply t_norm
    | apply w_block
    | (apply s_k (HO); exact rfl)
    | (apply s_alloc TY; exact rfl; exact rfl; exact rfl)
    | (apply s_store TY; exact rfl; exact rfl; exact rfl; exact rfl; exact rfl; exact rfl))
    apply w_gh (gh_own 10 3 1 rfl rfl)
    apply w_loop (fun k : Nat => ⟨(Ab.upd (Ab.upd (Ab.upd (Ab.upd (Ab.upd (Ab.upd (Ab.upd (fun _ => .bot) 2 (.f (.sl h.length (hitsF h)))) 3 (.f (.pt [.sl l.length (sitesF l)] 0))) 9 (.f (iv E))) 10 (.ow 1)) 24 (.f (.sl l.length (sitesF l)))) 25 (.f (iv l.length))) 26 (.f (iv ((k : Nat) : Int)))), (Ab.upd (fun _ => none) 1 (some (.row 3 1 (sitesK l h k).length (intsF (sitesK l h k))))), 2⟩) (fun k => k ≤ l.length) (fun k => l.length - k) 0 (Nat.zero_le _) (gh_le ⟨le_upd rfl trivial (le_upd rfl trivial (le_upd rfl trivial (le_upd rfl rfl (le_upd rfl trivial (le_upd rfl trivial (le_upd rfl trivial (le_nil _))))))), le_hupd rfl trivial (le_h0 _ _)⟩)
    intro k hk
    have hln := sitesK_len l h k
    by_cases hc : k < l.length
    · have HH := hasHit_s l h k hc hh
      have hsu := sitesK_succ l h k
      cases hb : hasHit l h k with
      | true =>
        rw [hb] at HH hsu
        rw [if_pos rfl] at hsu
        repeat (first
    | (refine s_ghost rfl (gh_box 2 (cs := siteF l[k]) rfl rfl) ?_)
    | (apply s_append TY; exact rfl; exact rfl; exact rfl; exact rfl; exact rfl; exact rfl; exact rfl; exact rfl; exact rfl; (unfold maxLen; omega); omega)
    | (apply s_a TY; exact rfl)
    | (apply s_makefn; exact rfl; exact rfl)
    | (apply s_t; exact rfl; (first | assumption | omega))
    | apply w_seq
    | apply w_region
    | apply s_nil
    | apply t_norm
    | apply k_norm
    | apply w_block
    | apply w_skip
    | (apply w_condT; exact rfl; exact rfl)
    | (apply s_k (HH); exact rfl)
    | (apply s_c TY; exact rfl; (first | omega | exact ⟨by omega, by (first | with_reducible assumption | ((with_reducible apply sitesF_ne); omega) | assumption)⟩))
    | (apply s_m TY; exact rfl; (first | with_reducible assumption | ((with_reducible apply sitesF_sub); omega) | exact rfl); exact rfl)
    | (apply s_alloc TY; exact rfl; exact rfl; exact rfl)
    | (apply s_store TY; exact rfl; exact rfl; exact rfl; exact rfl; exact rfl; exact rfl))
        exact ⟨k + 1, by omega, by omega, gh_le ⟨le_upd rfl trivial (le_upd rfl trivial (le_upd rfl trivial (le_upd rfl rfl (le_upd rfl trivial (le_upd rfl trivial (le_upd rfl trivial (le_nil _))))))), le_hupd (rowI_app hsu) trivial (le_h0 _ _)⟩⟩
      | false =>
        rw [hb] at HH hsu
        rw [if_neg (by decide), List.append_nil] at hsu
        repeat (first
    | (refine s_ghost rfl (gh_box 2 (cs := siteF l[k]) rfl rfl) ?_)
    | (apply s_a TY; exact rfl)
    | (apply s_makefn; exact rfl; exact rfl)
    | (apply s_t; exact rfl; (first | assumption | omega))
    | apply w_seq
    | apply w_region
    | apply s_nil
    | apply t_norm
    | apply k_norm
    | apply w_block
    | apply w_skip
    | (apply w_condT; exact rfl; exact rfl)
    | (apply w_condF; exact rfl; exact rfl)
    | (apply s_k (HH); exact rfl)
    | (apply s_c TY; exact rfl; (first | omega | exact ⟨by omega, by (first | with_reducible assumption | ((with_reducible apply sitesF_ne); omega) | assumption)⟩))
    | (apply s_m TY; exact rfl; (first | with_reducible assumption | ((with_reducible apply sitesF_sub); omega) | exact rfl); exact rfl)
    | (apply s_alloc TY; exact rfl; exact rfl; exact rfl)
    | (apply s_store TY; exact rfl; exact rfl; exact rfl; exact rfl; exact rfl; exact rfl))
        exact ⟨k + 1, by omega, by omega, gh_le ⟨le_upd rfl trivial (le_upd rfl trivial (le_upd rfl trivial (le_upd rfl rfl (le_upd rfl trivial (le_upd rfl trivial (le_upd rfl trivial (le_nil _))))))), le_hupd (rowI _ _ hsu.symm) trivial (le_h0 _ _)⟩⟩
    · have hke : k = l.length := by omega
      subst hke
      rw [show sitesK l h l.length = sitesV l h from rfl]
      rw [show sitesK l h l.length = sitesV l h from rfl] at hln
      by_cases h10 : (sitesV l h).length ≤ 10
      · repeat (first
    | (apply s_a TY; exact rfl)
    | (apply s_t; exact rfl; (first | assumption | omega))
    | (apply s_f; exact rfl; (first | assumption | omega))
    | apply w_seq
    | apply w_region
    | apply s_nil
    | apply t_norm
    | apply t_exit
    | apply t_ret
    | apply k_hit
    | apply w_exit
    | apply w_ret
    | (apply w_condT; exact rfl; exact rfl)
    | (apply w_condF; exact rfl; exact rfl)
    | (apply s_k1 (first2_0 _ _); exact rfl; (first | assumption | omega | decide))
    | (apply s_k (unless_T _); exact rfl))
        exact lv_ret (ret2 rfl (res_tmp rfl) (res_tmp rfl))
      · repeat (first
    | (apply s_a TY; exact rfl)
    | (apply s_f; exact rfl; (first | assumption | omega))
    | apply w_seq
    | apply w_region
    | apply s_nil
    | apply t_norm
    | apply t_exit
    | apply t_ret
    | apply k_hit
    | apply w_exit
    | apply w_ret
    | (apply w_condT; exact rfl; exact rfl)
    | (apply w_condF; exact rfl; exact rfl)
    | (apply s_k1 (first2_0 _ _); exact rfl; (first | assumption | omega | decide))
    | (apply s_k (unless_F _); exact rfl))
        exact lv_ret (ret2 rfl (res_tmp rfl) (res_tmp rfl))
set_option maxRecDepth 100000 in
set_option maxHeartbeats 3200000 in
theorem SilencedBy_large (l : List Site) (r : Rule) (h : List Hit) (hl : l.length ≤ 1000000) (hh : h.length ≤ 1000000) (e : ruledErr l r h = 0) (h10 : 10 < (sitesV l h).length) : Summ Tryz.prog GG 21 [arrF l, .agg (ruleF r), .sl h.length (hitsF h)] (.tup [.v (.slice none 0 0), iv 8]) := by
  obtain ⟨E, hE⟩ : ∃ E : Int, E = 0 := ⟨_, rfl⟩
  have HO := openRule_ok l r h hl hh e
  rw [← hE] at HO
  refine summW Tryz.func21 rfl rfl 68 rfl (by simp) (fun M0 => ?_)
  repeat (first
    | (apply s_a TY; exact rfl)
    | apply w_seq
    | apply w_region
    | apply s_nil
    | apply t_norm
    | apply w_block
    | (apply s_k (HO); exact rfl)
    | (apply s_alloc TY; exact rfl; exact rfl; exact rfl)
    | (apply s_store TY; exact rfl; exact rfl; exact rfl; exact rfl; exact rfl; exact rfl))
  apply w_gh (gh_own 10 3 1 rfl rfl)
  apply w_loop (fun k : Nat => ⟨(Ab.upd (Ab.upd (Ab.upd (Ab.upd (Ab.upd (Ab.upd (Ab.upd (fun _ => .bot) 2 (.f (.sl h.length (hitsF h)))) 3 (.f (.pt [.sl l.length (sitesF l)] 0))) 9 (.f (iv E))) 10 (.ow 1)) 24 (.f (.sl l.length (sitesF l)))) 25 (.f (iv l.length))) 26 (.f (iv ((k : Nat) : Int)))), (Ab.upd (fun _ => none) 1 (some (.row 3 1 (sitesK l h k).length (intsF (sitesK l h k))))), 2⟩) (fun k => k ≤ l.length) (fun k => l.length - k) 0 (Nat.zero_le _) (gh_le ⟨le_upd rfl trivial (le_upd rfl trivial (le_upd rfl trivial (le_upd rfl rfl (le_upd rfl trivial (le_upd rfl trivial (le_upd rfl trivial (le_nil _))))))), le_hupd rfl trivial (le_h0 _ _)⟩)
  intro k hk
  have hln := sitesK_len l h k
  by_cases hc : k < l.length
  · have HH := hasHit_s l h k hc hh
    have hsu := sitesK_succ l h k
    cases hb : hasHit l h k with
    | true =>
      rw [hb] at HH hsu
      rw [if_pos rfl] at hsu
      repeat (first
    | (refine s_ghost rfl (gh_box 2 (cs := siteF l[k]) rfl rfl) ?_)
    | (apply s_append TY; exact rfl; exact rfl; exact rfl; exact rfl; exact rfl; exact rfl; exact rfl; exact rfl; exact rfl; (unfold maxLen; omega); omega)
    | (apply s_a TY; exact rfl)
    | (apply s_makefn; exact rfl; exact rfl)
    | (apply s_t; exact rfl; (first | assumption | omega))
    | apply w_seq
    | apply w_region
    | apply s_nil
    | apply t_norm
    | apply k_norm
    | apply w_block
    | apply w_skip
    | (apply w_condT; exact rfl; exact rfl)
    | (apply s_k (HH); exact rfl)
    | (apply s_c TY; exact rfl; (first | omega | exact ⟨by omega, by (first | with_reducible assumption | ((with_reducible apply sitesF_ne); omega) | assumption)⟩))
    | (apply s_m TY; exact rfl; (first | with_reducible assumption | ((with_reducible apply sitesF_sub); omega) | exact rfl); exact rfl)
    | (apply s_alloc TY; exact rfl; exact rfl; exact rfl)
    | (apply s_store TY; exact rfl; exact rfl; exact rfl; exact rfl; exact rfl; exact rfl))
      exact ⟨k + 1, by omega, by omega, gh_le ⟨le_upd rfl trivial (le_upd rfl trivial (le_upd rfl trivial (le_upd rfl rfl (le_upd rfl trivial (le_upd rfl trivial (le_upd rfl trivial (le_nil _))))))), le_hupd (rowI_app hsu) trivial (le_h0 _ _)⟩⟩
    | false =>
      rw [hb] at HH hsu
      rw [if_neg (by decide), List.append_nil] at hsu
      repeat (first
    | (refine s_ghost rfl (gh_box 2 (cs := siteF l[k]) rfl rfl) ?_)
    | (apply s_a TY; exact rfl)
    | (apply s_makefn; exact rfl; exact rfl)
    | (apply s_t; exact rfl; (first | assumption | omega))
    | apply w_seq
    | apply w_region
    | apply s_nil
    | apply t_norm
    | apply k_norm
    | apply w_block
    | apply w_skip
    | (apply w_condT; exact rfl; exact rfl)
    | (apply w_condF; exact rfl; exact rfl)
    | (apply s_k (HH); exact rfl)
    | (apply s_c TY; exact rfl; (first | omega | exact ⟨by omega, by (first | with_reducible assumption | ((with_reducible apply sitesF_ne); omega) | assumption)⟩))
    | (apply s_m TY; exact rfl; (first | with_reducible assumption | ((with_reducible apply sitesF_sub); omega) | exact rfl); exact rfl)
    | (apply s_alloc TY; exact rfl; exact rfl; exact rfl)
    | (apply s_store TY; exact rfl; exact rfl; exact rfl; exact rfl; exact rfl; exact rfl))
      exact ⟨k + 1, by omega, by omega, gh_le ⟨le_upd rfl trivial (le_upd rfl trivial (le_upd rfl trivial (le_upd rfl rfl (le_upd rfl trivial (le_upd rfl trivial (le_upd rfl trivial (le_nil _))))))), le_hupd (rowI _ _ hsu.symm) trivial (le_h0 _ _)⟩⟩
  · have hke : k = l.length := by omega
    subst hke
    rw [show sitesK l h l.length = sitesV l h from rfl]
    rw [show sitesK l h l.length = sitesV l h from rfl] at hln
    repeat (first
    | (apply s_a TY; exact rfl)
    | (apply s_f; exact rfl; (first | assumption | omega))
    | apply w_seq
    | apply w_region
    | apply s_nil
    | apply t_norm
    | apply t_exit
    | apply t_ret
    | apply k_hit
    | apply w_exit
    | apply w_ret
    | (apply w_condT; exact rfl; exact rfl)
    | (apply w_condF; exact rfl; exact rfl)
    | (apply s_k1 (first2_1 _ _); exact rfl; (first | assumption | omega | decide))
    | (apply s_k (unless_F _); exact rfl))
    exact lv_ret (ret2 rfl (res_tmp rfl) (res_tmp rfl))
set_option maxRecDepth 100000 in
set_option maxHeartbeats 3200000 in
theorem SilencedBy_ok (l : List Site) (r : Rule) (h : List Hit) (hl : l.length ≤ 1000000) (hh : h.length ≤ 1000000) (e : ruledErr l r h = 0) (h10 : (sitesV l h).length ≤ 10) {c : Nat} {o : List Int} (hcl : c ≤ (sitesV l h).length) (hfo : silN (silP l r h) (sitesV l h) c = some o) (hfb : ∀ j, j < c → silN (silP l r h) (sitesV l h) j = none) : Summ Tryz.prog GG 21 [arrF l, .agg (ruleF r), .sl h.length (hitsF h)] (.tup [slI o, iv 0]) := by
  obtain ⟨E, hE⟩ : ∃ E : Int, E = 0 := ⟨_, rfl⟩
  obtain ⟨e1, e2, e3⟩ := ruleErr_parts e
  have hl0 := arrOk_of e1
  have ho := hitsOk_of hl0 e3
  have hol := (sil_least (sitesV_pw l h) hfo hfb).2
  have HCl := clone_s o (by omega)
  have HO := openRule_ok l r h hl hh e
  rw [← hE] at HO
  refine summW Tryz.func21 rfl rfl 68 rfl (by simp) (fun M0 => ?_)
  repeat (first
    | (apply s_a TY; exact rfl)
    | apply w_seq
    | apply w_region
    | apply s_nil
    | apply t_norm
    | apply w_block
    | (apply s_k (HO); exact rfl)
    | (apply s_alloc TY; exact rfl; exact rfl; exact rfl)
    | (apply s_store TY; exact rfl; exact rfl; exact rfl; exact rfl; exact rfl; exact rfl))
  apply w_gh (gh_own 10 3 1 rfl rfl)
  apply w_loop (fun k : Nat => ⟨(Ab.upd (Ab.upd (Ab.upd (Ab.upd (Ab.upd (Ab.upd (Ab.upd (Ab.upd (Ab.upd (fun _ => .bot) 2 (.f (.sl h.length (hitsF h)))) 3 (.f (.pt [.sl l.length (sitesF l)] 0))) 4 (.f (.pt (ruleF r) 0))) 8 (.f (.pt [.sl l.length (sitesF l), .mp (mapS l l.length)] 0))) 9 (.f (iv E))) 10 (.ow 1)) 24 (.f (.sl l.length (sitesF l)))) 25 (.f (iv l.length))) 26 (.f (iv ((k : Nat) : Int)))), (Ab.upd (fun _ => none) 1 (some (.row 3 1 (sitesK l h k).length (intsF (sitesK l h k))))), 2⟩) (fun k => k ≤ l.length) (fun k => l.length - k) 0 (Nat.zero_le _) (gh_trans (gh_box 0 (cs := [.sl l.length (sitesF l), .mp (mapS l l.length)]) rfl rfl) (gh_le ⟨le_upd rfl trivial (le_upd rfl trivial (le_upd rfl trivial (le_upd rfl rfl (le_upd rfl trivial (le_upd rfl trivial (le_upd rfl trivial (le_upd rfl trivial (le_upd rfl trivial (le_nil _))))))))), le_hupd rfl trivial (le_h0 _ _)⟩))
  intro k hk
  have hln := sitesK_len l h k
  by_cases hc : k < l.length
  · have HH := hasHit_s l h k hc hh
    have hsu := sitesK_succ l h k
    cases hb : hasHit l h k with
    | true =>
      rw [hb] at HH hsu
      rw [if_pos rfl] at hsu
      repeat (first
    | (refine s_ghost rfl (gh_box 2 (cs := siteF l[k]) rfl rfl) ?_)
    | (apply s_append TY; exact rfl; exact rfl; exact rfl; exact rfl; exact rfl; exact rfl; exact rfl; exact rfl; exact rfl; (unfold maxLen; omega); omega)
    | (apply s_a TY; exact rfl)
    | (apply s_makefn; exact rfl; exact rfl)
    | (apply s_t; exact rfl; (first | assumption | omega))
    | apply w_seq
    | apply w_region
    | apply s_nil
    | apply t_norm
    | apply k_norm
    | apply w_block
    | apply w_skip
    | (apply w_condT; exact rfl; exact rfl)
    | (apply s_k (HH); exact rfl)
    | (apply s_c TY; exact rfl; (first | omega | exact ⟨by omega, by (first | with_reducible assumption | ((with_reducible apply sitesF_ne); omega) | assumption)⟩))
    | (apply s_m TY; exact rfl; (first | with_reducible assumption | ((with_reducible apply sitesF_sub); omega) | exact rfl); exact rfl)
    | (apply s_alloc TY; exact rfl; exact rfl; exact rfl)
    | (apply s_store TY; exact rfl; exact rfl; exact rfl; exact rfl; exact rfl; exact rfl))
      exact ⟨k + 1, by omega, by omega, gh_le ⟨le_upd rfl trivial (le_upd rfl trivial (le_upd rfl trivial (le_upd rfl rfl (le_upd rfl trivial (le_upd rfl trivial (le_upd rfl trivial (le_upd rfl trivial (le_upd rfl trivial (le_nil _))))))))), le_hupd (rowI_app hsu) trivial (le_h0 _ _)⟩⟩
    | false =>
      rw [hb] at HH hsu
      rw [if_neg (by decide), List.append_nil] at hsu
      repeat (first
    | (refine s_ghost rfl (gh_box 2 (cs := siteF l[k]) rfl rfl) ?_)
    | (apply s_a TY; exact rfl)
    | (apply s_makefn; exact rfl; exact rfl)
    | (apply s_t; exact rfl; (first | assumption | omega))
    | apply w_seq
    | apply w_region
    | apply s_nil
    | apply t_norm
    | apply k_norm
    | apply w_block
    | apply w_skip
    | (apply w_condT; exact rfl; exact rfl)
    | (apply w_condF; exact rfl; exact rfl)
    | (apply s_k (HH); exact rfl)
    | (apply s_c TY; exact rfl; (first | omega | exact ⟨by omega, by (first | with_reducible assumption | ((with_reducible apply sitesF_ne); omega) | assumption)⟩))
    | (apply s_m TY; exact rfl; (first | with_reducible assumption | ((with_reducible apply sitesF_sub); omega) | exact rfl); exact rfl)
    | (apply s_alloc TY; exact rfl; exact rfl; exact rfl)
    | (apply s_store TY; exact rfl; exact rfl; exact rfl; exact rfl; exact rfl; exact rfl))
      exact ⟨k + 1, by omega, by omega, gh_le ⟨le_upd rfl trivial (le_upd rfl trivial (le_upd rfl trivial (le_upd rfl rfl (le_upd rfl trivial (le_upd rfl trivial (le_upd rfl trivial (le_upd rfl trivial (le_upd rfl trivial (le_nil _))))))))), le_hupd (rowI _ _ hsu.symm) trivial (le_h0 _ _)⟩⟩
  · have hke : k = l.length := by omega
    subst hke
    rw [show sitesK l h l.length = sitesV l h from rfl]
    rw [show sitesK l h l.length = sitesV l h from rfl] at hln
    repeat (first
    | (apply s_a TY; exact rfl)
    | (apply s_t; exact rfl; (first | assumption | omega))
    | (apply s_f; exact rfl; (first | assumption | omega))
    | apply w_seq
    | apply w_region
    | apply s_nil
    | apply t_norm
    | apply t_exit
    | apply k_hit
    | apply w_block
    | apply w_exit
    | apply w_skip
    | (apply w_condF; exact rfl; exact rfl)
    | (apply s_k1 (first2_1 _ _); exact rfl; (first | assumption | omega | decide))
    | (apply s_k (unless_T _); exact rfl)
    | (apply s_c TY; exact rfl; (first | omega | exact ⟨by omega, by (first | with_reducible assumption | ((with_reducible apply sitesF_ne); omega) | assumption)⟩)))
    apply w_loop (fun k : Nat => ⟨(Ab.upd (Ab.upd (Ab.upd (Ab.upd (Ab.upd (Ab.upd (fun _ => .bot) 2 (.f (.sl h.length (hitsF h)))) 4 (.f (.pt (ruleF r) 0))) 8 (.f (.pt [.sl l.length (sitesF l), .mp (mapS l l.length)] 0))) 10 (.f (.sl (sitesV l h).length (intsF (sitesV l h))))) 51 (.f (iv (((sitesV l h).length : Nat) + 1)))) 52 (.f (iv ((k : Nat) : Int)))), (fun _ => none), 0⟩) (fun k => k ≤ c) (fun k => c - k) 0 (Nat.zero_le _) (gh_trans (gh_row 1 rfl) (gh_le ⟨le_upd rfl trivial (le_upd rfl trivial (le_upd rfl trivial (le_upd rfl trivial (le_upd rfl trivial (le_upd rfl trivial (le_nil _)))))), le_h0 _ _⟩))
    intro k hk
    have HS := Summ.nil3 (silenced_s l r h e2 hl0 ho k (k : Nat) [] (sitesV l h) rfl (by omega) (by simp; omega) (by omega))
    by_cases hkc : k = c
    · subst hkc
      rw [show silV (silP l r h) (sitesV l h) k [] = some o from hfo, resV_some hfo] at HS
      repeat (first
    | (apply s_a TY; exact rfl)
    | (apply s_t; exact rfl; (first | assumption | omega))
    | apply w_seq
    | apply w_region
    | apply s_nil
    | apply t_norm
    | apply t_ret
    | apply k_ret
    | apply w_block
    | apply w_ret
    | apply w_skip
    | (apply w_condT; exact rfl; exact rfl)
    | (apply s_k (HS); exact rfl)
    | (apply s_k (HCl); exact rfl))
      exact lv_ret (ret2 rfl (res_tmp rfl) (res_tmp rfl))
    · have hno := hfb k (by omega)
      rw [show silV (silP l r h) (sitesV l h) k [] = none from hno] at HS
      repeat (first
    | (apply s_assign_f; exact rfl; exact rfl)
    | (apply s_a TY; exact rfl)
    | (apply s_t; exact rfl; (first | assumption | omega))
    | apply w_seq
    | apply w_region
    | apply s_nil
    | apply t_norm
    | apply k_norm
    | apply w_block
    | apply w_skip
    | (apply w_condT; exact rfl; exact rfl)
    | (apply w_condF; exact rfl; exact rfl)
    | (apply s_k (HS); exact rfl)
    | (apply s_c TY; exact rfl; (first | omega | exact ⟨by omega, by (first | with_reducible assumption | ((with_reducible apply sitesF_ne); omega) | assumption)⟩)))
      exact ⟨k + 1, by omega, by omega, gh_le ⟨le_upd rfl trivial (le_upd rfl trivial (le_upd rfl trivial (le_upd rfl trivial (le_upd rfl trivial (le_upd rfl trivial (le_nil _)))))), le_h0 _ _⟩⟩
end Go.Proofs.YtdmdpkoapllkkaaGreat
namespace Go.Ab
open Go Go.RowKit Go.Shelf Go.Proofs
section
variable {C : Ctx} {N : Nat}
theorem v_append_none {o : Oper} {st : St} {T n e sz bs : Nat} {x y : Operand} {cs : List FV} (ty : Ty C.P) (ho : o.op = .call { callee := .builtin .append, args := #[x, y], argTypes := #[T, T] }) (hd : dstB N o.dst = true)
    (hT : (ty.ty T).sl = some (e, sz, bs)) (hx : st.ev C x = .f (.slc n cs)) (hy : st.ev C y = .f (.sl 0 [])) : ValOp C N o st (.f (.slc n cs)) := by
  refine valop_run hd fun w0 a w J st' hA S => ?_
  have e1 := evF S ((hA.ev x (by simp [ho, Op.operands, Call.operands])).trans hx)
  have e2 := evF S ((hA.ev y (by simp [ho, Op.operands, Call.operands])).trans hy)
  obtain ⟨hu, it, hi1, hi2, hi3⟩ := slE_spec ((ty.ok T).sl _ hT)
  generalize hxv : a.eval x = xv at e1
  generalize hyv : a.eval y = yv at e2
  cases e1 with
  | slc ad1 _ _ vs o1 o1' o2 o3 o4 =>
  cases e2 with
  | sl ad _ c _ us p0 p1 p2 p3 p4 =>
    refine ⟨.slice ad1 n n, w, ?_, Ext.refl _, RepF.slc ad1 n cs vs o1 o1' o2 o3 o4⟩
    simp only [execOp, ho, resolve, invoke, builtin, Sem.run_bind, Sem.run_pure, Result.andThen_ok, List.map_toArray, List.map_cons, List.map_nil, hxv, hyv, run_append_no C.P w T o.type e it hu hi1 ad1 ad n c n (Nat.le_refl _)]
theorem a_append_new {o : Oper} {st : St} {T n m e sz bs : Nat} {x y : Operand} {cs ys : List FV} {zs : List Value} (ty : Ty C.P) (ho : o.op = .call { callee := .builtin .append, args := #[x, y], argTypes := #[T, T] }) (hd : dstB N o.dst = true)
    (hT : (ty.ty T).sl = some (e, sz, bs)) (hz : (ty.ty e).zero = some zs) (hzl : zs.length = sz) (hsz : 0 < sz) (hx : st.ev C x = .f (.slc n cs)) (hy : st.ev C y = .f (.sl m ys)) (hm : 0 < m) (hln : cs.length = n * sz) (hl : ys.length = m * sz)
    (h63 : n + m ≤ maxLen) (hbs : (n + m) * bs ≤ 140737488355328) : AllOp C N o st (.ow st.nx) (.row e sz (n + m) (cs ++ ys)) := by
  intro w0 a w st' hA hn ⟨J, S⟩ K Q hK
  have e1 := evF S ((hA.ev x (by simp [ho, Op.operands, Call.operands])).trans hx)
  have e2 := evF S ((hA.ev y (by simp [ho, Op.operands, Call.operands])).trans hy)
  obtain ⟨hu, it, hi1, hi2, hi3⟩ := slE_spec ((ty.ok T).sl _ hT)
  obtain ⟨it', z, hi4, hzz, hzl'⟩ := zero_spec ((ty.ok e).zero zs hz)
  rw [hi1] at hi4; cases hi4
  have hzs : z.cells.size = sz := by rw [← hzl, ← hzl']; simp
  generalize hxv : a.eval x = xv at e1
  generalize hyv : a.eval y = yv at e2
  cases e1 with
  | slc ad1 _ _ vs o1 o1' o2 o3 o4 =>
  cases e2 with
  | sl ad _ c _ us p0 p1 p2 p3 p4 =>
    have hul : us.length = m * sz := p1.trans hl
    have hus : us ≠ [] := fun e => by
      have hp : 0 < m * sz := Nat.mul_pos hm hsz
      rw [e] at hul; simp at hul; omega
    obtain ⟨b, off, rfl, hlies⟩ := p3 hus
    have hnews : ∀ j u, us[j]? = some u → w.cell? ((⟨b, off, none⟩ : Addr).add j) = some u := fun j u hj => by
      rw [addr_add, hlies.at_ j (List.getElem?_eq_some_iff.1 hj).1]; exact hj
    have hvl : vs.length = n * sz := o1.trans hln
    obtain ⟨v', w', hrun, r1, r2⟩ : ∃ v' w', (Builtin.append_ #[T, T] o.type #[.slice ad1 n n, .slice (some ⟨b, off, none⟩) m c]).run C.P w = .ok v' w' ∧ w'.ownsRow w.heap.size e sz v' (n + m) (vs ++ us) ∧ w.grownBy w' none := by
      cases ad1 with
      | some ad1 =>
        refine run_append_arg_grows (P := C.P) w T o.type e it z sz bs hu hi1 hzz hi2 hi3 hzs hsz ad1 n n vs hvl (fun j u hj => ?_) ⟨b, off, none⟩ m c us hul hnews (by omega) h63 hbs
        obtain ⟨b1, off1, e1, l1⟩ := o3 (fun e => by rw [e] at hj; simp at hj)
        cases e1
        rw [addr_add, l1.at_ j (List.getElem?_eq_some_iff.1 hj).1]; exact hj
      | none =>
        have hn0 := o1' rfl
        subst hn0
        have hv0 : vs = [] := List.eq_nil_of_length_eq_zero (by simpa using hvl)
        subst hv0
        obtain ⟨v', w', h1, h2, h3, _⟩ := run_append_own (P := C.P) w w.heap.size T o.type e it z sz bs hu hi1 hzz hi2 hi3 hzs hsz (.slice none 0 0) 0 [] (World.ownsRow_nil w _ e sz) ⟨b, off, none⟩ m c us hul hnews p2 h63 hbs (Nat.le_refl _)
        exact ⟨v', w', h1, h2, h3⟩
    have hex : Ext w w' := Ext.of_grown r2
    have hown : ∀ c, bk v' = some c → w.heap.size ≤ c := fun c hc => by
      rcases r1.2 with ⟨e0, _⟩ | ⟨g, cap, cur, e0, h1, _⟩
      · rw [e0] at hc; simp [bk] at hc
      · rw [e0] at hc; simp [bk] at hc; omega
    have hM : ∀ q, q < w.heap.size → Mb C (upd st'.h st.nx (some (.row e sz (n + m) (cs ++ ys)))) (upd J st.nx v') q → Mb C st'.h J q := by
      rintro q hq (h0 | ⟨i, hi, hbi⟩)
      · exact .inl h0
      by_cases ei : i = st.nx
      · subst ei; rw [upd_same] at hbi; have := hown _ hbi; omega
      · rw [upd_other _ _ ei] at hi hbi; exact .inr ⟨i, hi, hbi⟩
    have R : RepL w (Mb C st'.h J) (vs ++ us) (cs ++ ys) := RepL.append ⟨o1, o4⟩ ⟨p1, p4⟩
    have R' := R.ext hex hM
    refine op_value (show (execOp a.eval o).run C.P w = .ok (.value v') w' by simp only [execOp, ho, resolve, invoke, builtin, Sem.run_bind, Sem.run_pure, Result.andThen_ok, List.map_toArray, List.map_cons, List.map_nil, hxv, hyv, hrun]) ?_
    refine hK _ _ ⟨upd J st.nx v', S.al hn hd hex hown ?_ ?_ (fun e => by cases e)⟩
    · refine ⟨vs ++ us, ⟨r1.1, r1.2.imp id fun ⟨g, cap, cur, e0, h1, h2⟩ => ⟨g, cap, cur, e0, Nat.zero_le _, h2⟩⟩, fun c hc => .inl (Nat.le_trans S.ext.le (hown c hc)), fun u hu => ?_, R'⟩
      rcases List.mem_append.1 hu with h | h
      · exact o2 u h
      · exact p2 u h
    · exact ⟨by rw [upd_same]; rfl, by rw [upd_same]⟩
variable {Q : Exit → St → Prop} {st : St} {ops : Array Oper} {pr : Bool} {K : St → Prop} {rest : List Oper}
theorem s_append_none (ty : Ty C.P) {d : Option Tmp} {T0 : TypeId} {pos : String} {af : Array Edge} {T n e sz bs : Nat} {x y : Operand} {cs : List FV} (hd : dstB N d = true) (hT : (ty.ty T).sl = some (e, sz, bs)) (hx : st.ev C x = .f (.slc n cs)) (hy : st.ev C y = .f (.sl 0 [])) (h : R C N ops pr K rest (st.put d (.f (.slc n cs)))) : R C N ops pr K (⟨d, .call { callee := .builtin .append, args := #[x, y], argTypes := #[T, T] }, T0, pos, af, none⟩ :: rest) st := ⟨r_val rfl (v_append_none ty rfl hd hT hx hy) h.out⟩
theorem s_append_new (ty : Ty C.P) {d : Option Tmp} {T0 : TypeId} {pos : String} {af : Array Edge} {T n m e sz bs : Nat} {x y : Operand} {cs ys : List FV} {zs : List Value} (hd : dstB N d = true) (hn : st.h st.nx = none) (hT : (ty.ty T).sl = some (e, sz, bs)) (hz : (ty.ty e).zero = some zs) (hzl : zs.length = sz) (hsz : Nat.blt 0 sz = true) (hx : st.ev C x = .f (.slc n cs)) (hy : st.ev C y = .f (.sl m ys)) (hm : 0 < m) (hln : cs.length = n * sz) (hl : ys.length = m * sz) (h63 : n + m ≤ maxLen) (hbs : (n + m) * bs ≤ 140737488355328) (h : R C N ops pr K rest ⟨(st.put d (.ow st.nx)).s, upd st.h st.nx (some (.row e sz (n + m) (cs ++ ys))), st.nx + 1⟩) : R C N ops pr K (⟨d, .call { callee := .builtin .append, args := #[x, y], argTypes := #[T, T] }, T0, pos, af, none⟩ :: rest) st := ⟨r_all rfl rfl hn (a_append_new ty rfl hd hT hz hzl (Nat.le_of_ble_eq_true hsz) hx hy hm hln hl h63 hbs) h.out⟩
end
end Go.Ab
namespace Go.Proofs.YtdmdpkoapllkkaaGreat
open Go Go.RowKit Go.Proofs Go.Shelf Go.Ab
theorem wo_parts (h : List Hit) (i : Nat) (hi : i < h.length) : (List.take (((((i : Nat) : Int)).toNat - Int.toNat 0) * 3) (List.drop (Int.toNat 0 * 3) (hitsF h))) = hitsF (h.take i) ∧ ((((i : Nat) : Int)).toNat - Int.toNat 0) = (h.take i).length ∧ (List.take (((((h.length : Nat) : Int)).toNat - (((i : Nat) : Int) + 1).toNat) * 3) (List.drop ((((i : Nat) : Int) + 1).toNat * 3) (hitsF h))) = hitsF (h.drop (i + 1)) ∧ ((((h.length : Nat) : Int)).toNat - (((i : Nat) : Int) + 1).toNat) = (h.drop (i + 1)).length := by
  have e1 : ((((i : Nat) : Int)).toNat - Int.toNat 0) = (h.take i).length := by rw [List.length_take]; omega
  have e3 : ((((h.length : Nat) : Int)).toNat - (((i : Nat) : Int) + 1).toNat) = (h.drop (i + 1)).length := by rw [List.length_drop]; omega
  refine ⟨?_, e1, ?_, e3⟩
  · rw [Int.toNat_natCast, show Int.toNat 0 = 0 from rfl, Nat.zero_mul, List.drop_zero, Nat.sub_zero, hitsF_take]
  · rw [e3, show (((i : Nat) : Int) + 1).toNat = i + 1 by omega, hitsF_drop, List.take_of_length_le (by rw [hitsF_len]; exact Nat.le_refl _)]
set_option maxRecDepth 100000 in
set_option maxHeartbeats 3200000 in
theorem rCritical_s (l : List Site) (r : Rule) (h : List Hit) (hr : ruleErr r = 0) (hl0 : ArrOk l) (ho : HitsOk l h) : Summ Tryz.prog GG 23 [arrF l, .agg (ruleF r), .sl h.length (hitsF h)] (if (firesV l r h h.length).isEmpty = true then .v (.slice none 0 0) else .sl (critV l r h).length (intsF (critV l r h))) := by
  have h40 := ho.len
  have HF := rFires_s l r h hr hl0 ho
  cases hf : (firesV l r h h.length).isEmpty with
  | true =>
    have h0 : (firesV l r h h.length).length = 0 := by rw [List.isEmpty_iff.1 hf]; rfl
    rw [if_pos rfl]
    refine summW Tryz.func23 rfl rfl 44 rfl (by simp) (fun M0 => ?_)
    repeat (first
    | (apply s_a TY; exact rfl)
    | (apply s_t; exact rfl; (first | assumption | omega))
    | apply w_seq
    | apply w_region
    | apply s_nil
    | apply t_norm
    | apply t_ret
    | apply w_ret
    | (apply w_condT; exact rfl; exact rfl)
    | (apply s_k (HF); exact rfl))
    exact lv_ret (ret1 rfl (res_tmp rfl))
  | false =>
    have h0 : 0 < (firesV l r h h.length).length := List.length_pos_iff.2 (fun e => by rw [e] at hf; cases hf)
    rw [if_neg (by decide), show critV l r h = critN l r h h.length by unfold critV; rw [if_neg (by simp [hf])]]
    refine summW Tryz.func23 rfl rfl 44 rfl (by simp) (fun M0 => ?_)
    repeat (first
    | (apply s_a TY; exact rfl)
    | (apply s_f; exact rfl; (first | assumption | omega))
    | apply w_seq
    | apply w_region
    | apply s_nil
    | apply t_norm
    | apply w_block
    | apply w_skip
    | (apply w_condF; exact rfl; exact rfl)
    | (apply s_k (HF); exact rfl))
    apply w_gh (gh_own 7 3 1 rfl rfl)
    apply w_loop (fun i : Nat => ⟨(Ab.upd (Ab.upd (Ab.upd (Ab.upd (Ab.upd (fun _ => .bot) 2 (.f (.sl h.length (hitsF h)))) 3 (.f (.pt [.sl l.length (sitesF l)] 0))) 4 (.f (.pt (ruleF r) 0))) 7 (.ow 0)) 8 (.f (iv ((i : Nat) : Int)))), (Ab.upd (fun _ => none) 0 (some (.row 3 1 (critN l r h i).length (intsF (critN l r h i))))), 1⟩) (fun i => i ≤ h.length) (fun i => h.length - i) 0 (Nat.zero_le _) (gh_le ⟨le_upd rfl trivial (le_upd rfl rfl (le_upd rfl trivial (le_upd rfl trivial (le_upd rfl trivial (le_nil _))))), le_hupd rfl trivial (le_h0 _ _)⟩)
    intro i hi
    have hcl := critN_len l r h i
    by_cases hc : i < h.length
    · have how := hitsOk_sub ho (woH_sub h i)
      have HW0 := rFires_s l r (woH h i) hr hl0 how
      have hs := critN_succ l r h i
      obtain ⟨e1, e2, e3, e4⟩ := wo_parts h i hc
      have q1 : (List.take (((((i : Nat) : Int)).toNat - Int.toNat 0) * 3) (List.drop (Int.toNat 0 * 3) (hitsF h))).length = ((((i : Nat) : Int)).toNat - Int.toNat 0) * 3 := by rw [e1, e2, hitsF_len]
      have q2 : (List.take (((((h.length : Nat) : Int)).toNat - (((i : Nat) : Int) + 1).toNat) * 3) (List.drop ((((i : Nat) : Int) + 1).toNat * 3) (hitsF h))).length = ((((h.length : Nat) : Int)).toNat - (((i : Nat) : Int) + 1).toNat) * 3 := by rw [e3, e4, hitsF_len]
      have hwl : (woH h i).length = ((((i : Nat) : Int)).toNat - Int.toNat 0) + ((((h.length : Nat) : Int)).toNat - (((i : Nat) : Int) + 1).toNat) := by unfold woH; rw [e2, e4, List.length_append]
      have hwc : hitsF (woH h i) = (List.take (((((i : Nat) : Int)).toNat - Int.toNat 0) * 3) (List.drop (Int.toNat 0 * 3) (hitsF h))) ++ (List.take (((((h.length : Nat) : Int)).toNat - (((i : Nat) : Int) + 1).toNat) * 3) (List.drop ((((i : Nat) : Int) + 1).toNat * 3) (hitsF h))) := by unfold woH; rw [e1, e3, hitsF_app]
      by_cases hi0 : i = 0
      · subst hi0
        have HW : Summ Tryz.prog GG 71 [arrF l, .agg (ruleF r), .sl (0 + ((((h.length : Nat) : Int)).toNat - (((0 : Nat) : Int) + 1).toNat)) ([] ++ (List.take (((((h.length : Nat) : Int)).toNat - (((0 : Nat) : Int) + 1).toNat) * 3) (List.drop ((((0 : Nat) : Int) + 1).toNat * 3) (hitsF h))))] (.sl (firesV l r (woH h 0) (woH h 0).length).length (firesF (firesV l r (woH h 0) (woH h 0).length))) := by
          have e5 : (woH h 0).length = 0 + ((((h.length : Nat) : Int)).toNat - (((0 : Nat) : Int) + 1).toNat) := by rw [hwl]; omega
          have e6 : hitsF (woH h 0) = [] ++ (List.take (((((h.length : Nat) : Int)).toNat - (((0 : Nat) : Int) + 1).toNat) * 3) (List.drop ((((0 : Nat) : Int) + 1).toNat * 3) (hitsF h))) := by rw [hwc, e1]; rfl
          rw [← e5, ← e6]; exact HW0
        clear e1 e2 e3 e4 hwl hwc HW0
        cases hw : (firesV l r (woH h 0) (woH h 0).length).isEmpty with
        | true =>
          have h1 : (firesV l r (woH h 0) (woH h 0).length).length = 0 := by rw [List.isEmpty_iff.1 hw]; rfl
          rw [hw, if_pos rfl] at hs
          repeat (first
    | (apply s_bslice_clip TY (len := 0); exact rfl; exact rfl; exact rfl; exact rfl; exact rfl; exact rfl)
    | (apply s_append_none TY; exact rfl; exact rfl; exact rfl; exact rfl)
    | (apply s_append_cl TY; exact rfl; exact rfl; exact rfl; exact rfl; exact rfl; exact rfl; exact rfl; exact rfl; exact q2; (unfold maxLen; omega); omega)
    | (apply s_append TY; exact rfl; exact rfl; exact rfl; exact rfl; exact rfl; exact rfl; exact rfl; exact rfl; exact rfl; (unfold maxLen; omega); omega)
    | (apply s_a TY; exact rfl)
    | (apply s_t; exact rfl; (first | assumption | omega))
    | apply w_seq
    | apply w_region
    | (apply w_draw (id := 7) 9 rfl (by kernel_rfl))
    | apply s_nil
    | apply t_norm
    | apply k_norm
    | apply w_block
    | apply w_skip
    | (apply w_condT; exact rfl; exact rfl)
    | (apply s_k (HW); exact rfl)
    | (apply s_c TY; exact rfl; omega)
    | (apply s_slice TY; exact rfl; exact rfl; exact rfl; (first | exact rfl | exact ⟨_, rfl⟩); (first | exact rfl | exact ⟨_, rfl⟩); omega; omega; omega))
          exact ⟨0 + 1, by omega, by omega, gh_le ⟨le_upd rfl trivial (le_upd rfl rfl (le_upd rfl trivial (le_upd rfl trivial (le_upd rfl trivial (le_nil _))))), le_hupd (rowI_app hs) trivial (le_h0 _ _)⟩⟩
        | false =>
          have h1 : 0 < (firesV l r (woH h 0) (woH h 0).length).length := List.length_pos_iff.2 (fun e => by rw [e] at hw; cases hw)
          rw [hw, if_neg (by decide), List.append_nil] at hs
          repeat (first
    | (apply s_bslice_clip TY (len := 0); exact rfl; exact rfl; exact rfl; exact rfl; exact rfl; exact rfl)
    | (apply s_append_none TY; exact rfl; exact rfl; exact rfl; exact rfl)
    | (apply s_append_cl TY; exact rfl; exact rfl; exact rfl; exact rfl; exact rfl; exact rfl; exact rfl; exact rfl; exact q2; (unfold maxLen; omega); omega)
    | (apply s_a TY; exact rfl)
    | (apply s_t; exact rfl; (first | assumption | omega))
    | (apply s_f; exact rfl; (first | assumption | omega))
    | apply w_seq
    | apply w_region
    | (apply w_draw (id := 7) 9 rfl (by kernel_rfl))
    | apply s_nil
    | apply t_norm
    | apply k_norm
    | apply w_block
    | apply w_skip
    | (apply w_condT; exact rfl; exact rfl)
    | (apply w_condF; exact rfl; exact rfl)
    | (apply s_k (HW); exact rfl)
    | (apply s_c TY; exact rfl; omega)
    | (apply s_slice TY; exact rfl; exact rfl; exact rfl; (first | exact rfl | exact ⟨_, rfl⟩); (first | exact rfl | exact ⟨_, rfl⟩); omega; omega; omega))
          exact ⟨0 + 1, by omega, by omega, gh_le ⟨le_upd rfl trivial (le_upd rfl rfl (le_upd rfl trivial (le_upd rfl trivial (le_upd rfl trivial (le_nil _))))), le_hupd (rowI _ _ hs.symm) trivial (le_h0 _ _)⟩⟩
      · have hm0 : 0 < ((((i : Nat) : Int)).toNat - Int.toNat 0) := by omega
        have HW : Summ Tryz.prog GG 71 [arrF l, .agg (ruleF r), .sl (0 + ((((i : Nat) : Int)).toNat - Int.toNat 0) + ((((h.length : Nat) : Int)).toNat - (((i : Nat) : Int) + 1).toNat)) ([] ++ (List.take (((((i : Nat) : Int)).toNat - Int.toNat 0) * 3) (List.drop (Int.toNat 0 * 3) (hitsF h))) ++ (List.take (((((h.length : Nat) : Int)).toNat - (((i : Nat) : Int) + 1).toNat) * 3) (List.drop ((((i : Nat) : Int) + 1).toNat * 3) (hitsF h))))] (.sl (firesV l r (woH h i) (woH h i).length).length (firesF (firesV l r (woH h i) (woH h i).length))) := by
          rw [Nat.zero_add, List.nil_append, ← hwl, ← hwc]; exact HW0
        clear e1 e2 e3 e4 hwl hwc HW0
        cases hw : (firesV l r (woH h i) (woH h i).length).isEmpty with
        | true =>
          have h1 : (firesV l r (woH h i) (woH h i).length).length = 0 := by rw [List.isEmpty_iff.1 hw]; rfl
          rw [hw, if_pos rfl] at hs
          repeat (first
    | (apply s_bslice_clip TY (len := 0); exact rfl; exact rfl; exact rfl; exact rfl; exact rfl; exact rfl)
    | (apply s_append_new TY; exact rfl; exact rfl; exact rfl; exact rfl; exact rfl; exact rfl; exact rfl; exact rfl; exact hm0; exact rfl; exact q1; (unfold maxLen; omega); omega)
    | (apply s_append TY; exact rfl; exact rfl; exact rfl; exact rfl; exact rfl; exact rfl; exact rfl; exact rfl; exact q2; (unfold maxLen; omega); omega)
    | (apply s_a TY; exact rfl)
    | (apply s_t; exact rfl; (first | assumption | omega))
    | apply w_seq
    | apply w_region
    | (apply w_draw (id := 7) 9 rfl (by kernel_rfl))
    | apply s_nil
    | apply t_norm
    | apply w_block
    | apply w_skip
    | (apply w_condT; exact rfl; exact rfl)
    | (apply s_c TY; exact rfl; omega)
    | (apply s_slice TY; exact rfl; exact rfl; exact rfl; (first | exact rfl | exact ⟨_, rfl⟩); (first | exact rfl | exact ⟨_, rfl⟩); omega; omega; omega))
          refine s_ghost rfl (gh_row 1 rfl) ?_
          repeat (first
    | (apply s_append TY; exact rfl; exact rfl; exact rfl; exact rfl; exact rfl; exact rfl; exact rfl; exact rfl; exact rfl; (unfold maxLen; omega); omega)
    | (apply s_a TY; exact rfl)
    | (apply s_t; exact rfl; (first | assumption | omega))
    | apply w_region
    | apply s_nil
    | apply t_norm
    | apply k_norm
    | (apply w_condT; exact rfl; exact rfl)
    | (apply s_k (HW); exact rfl)
    | (apply s_c TY; exact rfl; omega))
          exact ⟨i + 1, by omega, by omega, gh_le ⟨le_upd rfl trivial (le_upd rfl rfl (le_upd rfl trivial (le_upd rfl trivial (le_upd rfl trivial (le_nil _))))), le_hupd (rowI_app hs) trivial (le_h0 _ _)⟩⟩
        | false =>
          have h1 : 0 < (firesV l r (woH h i) (woH h i).length).length := List.length_pos_iff.2 (fun e => by rw [e] at hw; cases hw)
          rw [hw, if_neg (by decide), List.append_nil] at hs
          repeat (first
    | (apply s_bslice_clip TY (len := 0); exact rfl; exact rfl; exact rfl; exact rfl; exact rfl; exact rfl)
    | (apply s_append_new TY; exact rfl; exact rfl; exact rfl; exact rfl; exact rfl; exact rfl; exact rfl; exact rfl; exact hm0; exact rfl; exact q1; (unfold maxLen; omega); omega)
    | (apply s_append TY; exact rfl; exact rfl; exact rfl; exact rfl; exact rfl; exact rfl; exact rfl; exact rfl; exact q2; (unfold maxLen; omega); omega)
    | (apply s_a TY; exact rfl)
    | (apply s_t; exact rfl; (first | assumption | omega))
    | apply w_seq
    | apply w_region
    | (apply w_draw (id := 7) 9 rfl (by kernel_rfl))
    | apply s_nil
    | apply t_norm
    | apply w_block
    | apply w_skip
    | (apply w_condT; exact rfl; exact rfl)
    | (apply s_c TY; exact rfl; omega)
    | (apply s_slice TY; exact rfl; exact rfl; exact rfl; (first | exact rfl | exact ⟨_, rfl⟩); (first | exact rfl | exact ⟨_, rfl⟩); omega; omega; omega))
          refine s_ghost rfl (gh_row 1 rfl) ?_
          repeat (first
    | (apply s_a TY; exact rfl)
    | (apply s_f; exact rfl; (first | assumption | omega))
    | apply w_region
    | apply s_nil
    | apply t_norm
    | apply k_norm
    | apply w_skip
    | (apply w_condF; exact rfl; exact rfl)
    | (apply s_k (HW); exact rfl)
    | (apply s_c TY; exact rfl; omega))
          exact ⟨i + 1, by omega, by omega, gh_le ⟨le_upd rfl trivial (le_upd rfl rfl (le_upd rfl trivial (le_upd rfl trivial (le_upd rfl trivial (le_nil _))))), le_hupd (rowI _ _ hs.symm) trivial (le_h0 _ _)⟩⟩
    · have hie : i = h.length := by omega
      subst hie
      repeat (first
    | (apply s_a TY; exact rfl)
    | (apply s_f; exact rfl; (first | assumption | omega))
    | apply w_seq
    | apply w_region
    | apply s_nil
    | apply t_norm
    | apply t_exit
    | apply k_hit
    | apply w_exit
    | apply w_ret
    | (apply w_condF; exact rfl; exact rfl))
      exact lv_ret (ret_gh (gh_row 0 rfl) (ret1 rfl (res_tmp rfl)))
set_option maxRecDepth 100000 in
set_option maxHeartbeats 3200000 in
theorem Sensors_s (l : List Site) (h : List Hit) (hl0 : ArrOk l) (ho : HitsOk l h) : Summ Tryz.prog GG 24 [arrF l, .sl h.length (hitsF h)] (.sl (sitesV l h).length (intsF (sitesV l h))) := by
  have h40 := ho.len
  have h30 := hl0.len
  refine summW Tryz.func24 rfl rfl 39 rfl (by simp) (fun M0 => ?_)
  repeat (first
    | (apply s_a TY; exact rfl)
    | apply w_seq
    | apply w_region
    | apply s_nil
    | apply t_norm
    | apply w_block)
  apply w_gh (gh_own 5 3 1 rfl rfl)
  apply w_loop (fun i : Nat => ⟨(Ab.upd (Ab.upd (Ab.upd (Ab.upd (fun _ => .bot) 1 (.f (.sl h.length (hitsF h)))) 2 (.f (.pt [.sl l.length (sitesF l)] 0))) 5 (.ow 0)) 6 (.f (iv ((i : Nat) : Int)))), (Ab.upd (fun _ => none) 0 (some (.row 3 1 (sitesK l h i).length (intsF (sitesK l h i))))), 1⟩) (fun i => i ≤ l.length) (fun i => l.length - i) 0 (Nat.zero_le _) (gh_le ⟨le_upd rfl trivial (le_upd rfl rfl (le_upd rfl trivial (le_upd rfl trivial (le_nil _)))), le_hupd rfl trivial (le_h0 _ _)⟩)
  intro i hi
  have hln := sitesK_len l h i
  by_cases hc : i < l.length
  · have hsu := sitesK_succ l h i
    have hiff := hasHit_iff hl0 ho hc
    repeat (first
    | (apply s_a TY; exact rfl)
    | (apply s_t; exact rfl; (first | assumption | omega))
    | apply w_seq
    | apply w_region
    | apply s_nil
    | apply t_norm
    | apply w_block
    | apply w_skip
    | (apply w_condT; exact rfl; exact rfl))
    apply w_loop (fun q : Nat × Bool => ⟨(Ab.upd (Ab.upd (Ab.upd (Ab.upd (Ab.upd (Ab.upd (fun _ => .bot) 1 (.f (.sl h.length (hitsF h)))) 2 (.f (.pt [.sl l.length (sitesF l)] 0))) 5 (.ow 0)) 6 (.f (iv ((i : Nat) : Int)))) 7 (.f (.v (.bool q.2)))) 8 (.f (iv ((q.1 : Nat) : Int)))), (Ab.upd (fun _ => none) 0 (some (.row 3 1 (sitesK l h i).length (intsF (sitesK l h i))))), 1⟩) (fun q => q.1 ≤ h.length ∧ (q.2 = true ↔ ∃ k, ∃ (hk : k < h.length), k < q.1 ∧ siteN l h[k] = (i : Int))) (fun q => h.length - q.1) (0, false) (⟨Nat.zero_le _, by simp⟩) (gh_le ⟨le_upd rfl trivial (le_upd rfl trivial (le_upd rfl trivial (le_upd rfl rfl (le_upd rfl trivial (le_upd rfl trivial (le_nil _)))))), le_hupd rfl trivial (le_h0 _ _)⟩)
    rintro ⟨k, b⟩ ⟨hk, hb⟩
    simp only at hk hb
    by_cases hkc : k < h.length
    · have HSi := SiteOf_s l h[k] (by omega)
      rw [siteX_N hl0 (ho.hit k hkc)] at HSi
      cases b with
      | true =>
        repeat (first
    | (apply s_a TY; exact rfl)
    | (apply s_t; exact rfl; (first | assumption | omega))
    | apply w_seq
    | apply w_region
    | (apply w_draw (id := 9) 9 rfl (by kernel_rfl))
    | apply s_nil
    | apply t_norm
    | apply k_norm
    | apply w_block
    | apply w_skip
    | (apply w_condT; exact rfl; exact rfl)
    | (apply s_s; exact rfl)
    | (apply s_c TY; exact rfl; (first | omega | exact ⟨by omega, by (first | with_reducible assumption | ((with_reducible apply hitsF_ne); omega) | assumption)⟩)))
        exact ⟨(k + 1, true), ⟨by simp only; omega, ⟨fun _ => (hb.1 rfl).imp fun q hq => hq.imp fun h1 h2 => ⟨by simp only; omega, h2.2⟩, fun _ => rfl⟩⟩, by simp only; omega, gh_le ⟨le_upd rfl trivial (le_upd rfl trivial (le_upd rfl trivial (le_upd rfl rfl (le_upd rfl trivial (le_upd rfl trivial (le_nil _)))))), le_hupd rfl trivial (le_h0 _ _)⟩⟩
      | false =>
        by_cases he : siteN l h[k] = (i : Int)
        · repeat (first
    | (apply s_a TY; exact rfl)
    | (apply s_t; exact rfl; (first | assumption | omega))
    | apply w_seq
    | apply w_region
    | (apply w_draw (id := 9) 9 rfl (by kernel_rfl))
    | apply s_nil
    | apply t_norm
    | apply k_norm
    | apply w_block
    | apply w_skip
    | (apply w_condT; exact rfl; exact rfl)
    | (apply s_k (HSi); exact rfl)
    | (apply s_c TY; exact rfl; (first | omega | exact ⟨by omega, by (first | with_reducible assumption | ((with_reducible apply hitsF_ne); omega) | assumption)⟩))
    | (apply s_m TY; exact rfl; (first | with_reducible assumption | ((with_reducible apply hitsF_sub); omega) | exact rfl); exact rfl))
          exact ⟨(k + 1, true), ⟨by simp only; omega, ⟨fun _ => ⟨k, hkc, by simp only; omega, he⟩, fun _ => rfl⟩⟩, by simp only; omega, gh_le ⟨le_upd rfl trivial (le_upd rfl trivial (le_upd rfl trivial (le_upd rfl rfl (le_upd rfl trivial (le_upd rfl trivial (le_nil _)))))), le_hupd rfl trivial (le_h0 _ _)⟩⟩
        · repeat (first
    | (apply s_a TY; exact rfl)
    | (apply s_t; exact rfl; (first | assumption | omega))
    | (apply s_f; exact rfl; (first | assumption | omega))
    | apply w_seq
    | apply w_region
    | (apply w_draw (id := 9) 9 rfl (by kernel_rfl))
    | apply s_nil
    | apply t_norm
    | apply k_norm
    | apply w_block
    | apply w_skip
    | (apply w_condT; exact rfl; exact rfl)
    | (apply s_k (HSi); exact rfl)
    | (apply s_c TY; exact rfl; (first | omega | exact ⟨by omega, by (first | with_reducible assumption | ((with_reducible apply hitsF_ne); omega) | assumption)⟩))
    | (apply s_m TY; exact rfl; (first | with_reducible assumption | ((with_reducible apply hitsF_sub); omega) | exact rfl); exact rfl))
          exact ⟨(k + 1, false), ⟨by simp only; omega, ⟨(fun hf => by cases hf), fun ⟨q, hq, hqk, hqe⟩ => by
            simp only at hqk
            by_cases eq : q = k
            · subst eq; exact absurd hqe he
            · exact hb.2 ⟨q, hq, by omega, hqe⟩⟩⟩, by simp only; omega, gh_le ⟨le_upd rfl trivial (le_upd rfl trivial (le_upd rfl trivial (le_upd rfl rfl (le_upd rfl trivial (le_upd rfl trivial (le_nil _)))))), le_hupd rfl trivial (le_h0 _ _)⟩⟩
    · cases b with
      | true =>
        have hh : hasHit l h i = true := hiff.2 ((hb.1 rfl).imp fun q hq => hq.imp fun _ h2 => h2.2)
        rw [if_pos hh] at hsu
        repeat (first
    | (apply s_append TY; exact rfl; exact rfl; exact rfl; exact rfl; exact rfl; exact rfl; exact rfl; exact rfl; exact rfl; (unfold maxLen; omega); omega)
    | (apply s_a TY; exact rfl)
    | (apply s_f; exact rfl; (first | assumption | omega))
    | apply w_seq
    | apply w_region
    | apply s_nil
    | apply t_norm
    | apply t_exit
    | apply k_hit
    | apply k_norm
    | apply w_exit
    | (apply w_condT; exact rfl; exact rfl)
    | (apply w_condF; exact rfl; exact rfl)
    | (apply s_c TY; exact rfl; (first | omega | exact ⟨by omega, by (first | with_reducible assumption | ((with_reducible apply hitsF_ne); omega) | assumption)⟩)))
        exact ⟨i + 1, by omega, by omega, gh_le ⟨le_upd rfl trivial (le_upd rfl rfl (le_upd rfl trivial (le_upd rfl trivial (le_nil _)))), le_hupd (rowI_app hsu) trivial (le_h0 _ _)⟩⟩
      | false =>
        have hh : ¬ hasHit l h i = true := fun hx => by
          obtain ⟨q, hq, e⟩ := hiff.1 hx
          have := hb.2 ⟨q, hq, by omega, e⟩
          cases this
        rw [if_neg hh, List.append_nil] at hsu
        repeat (first
    | (apply s_a TY; exact rfl)
    | (apply s_f; exact rfl; (first | assumption | omega))
    | apply w_seq
    | apply w_region
    | apply s_nil
    | apply t_norm
    | apply t_exit
    | apply k_hit
    | apply k_norm
    | apply w_exit
    | apply w_skip
    | (apply w_condF; exact rfl; exact rfl)
    | (apply s_c TY; exact rfl; (first | omega | exact ⟨by omega, by (first | with_reducible assumption | ((with_reducible apply hitsF_ne); omega) | assumption)⟩)))
        exact ⟨i + 1, by omega, by omega, gh_le ⟨le_upd rfl trivial (le_upd rfl rfl (le_upd rfl trivial (le_upd rfl trivial (le_nil _)))), le_hupd (rowI _ _ hsu.symm) trivial (le_h0 _ _)⟩⟩
  · have hie : i = l.length := by omega
    subst hie
    rw [show sitesV l h = sitesK l h l.length from rfl]
    repeat (first
    | (apply s_a TY; exact rfl)
    | (apply s_f; exact rfl; (first | assumption | omega))
    | apply w_seq
    | apply w_region
    | apply s_nil
    | apply t_norm
    | apply t_exit
    | apply k_hit
    | apply w_exit
    | apply w_ret
    | (apply w_condF; exact rfl; exact rfl))
    exact lv_ret (ret_gh (gh_row 0 rfl) (ret1 rfl (res_tmp rfl)))
theorem bit_test (s i : Nat) : andP (shrN s i) 1 = 1 ↔ s.testBit i = true := by
  unfold andP shrN
  rw [Nat.testBit_eq_decide_div_mod_eq, decide_eq_true_eq, Nat.and_one_is_mod]
set_option maxRecDepth 100000 in
set_option maxHeartbeats 1600000 in
theorem chosen_s (l : List Int) (s : Nat) (hl : l.length ≤ 10) (hs : s ≤ 1100) : Summ Tryz.prog GG 73 [.sl l.length (intsF l), iv (s : Nat)] (.sl (choL l s).length (intsF (choL l s))) := by
  refine summW Tryz.func73 rfl rfl 26 rfl (by simp) (fun M0 => ?_)
  repeat (first
    | (apply s_a TY; exact rfl)
    | apply w_seq
    | apply w_region
    | apply s_nil
    | apply t_norm
    | apply w_block)
  apply w_gh (gh_own 5 3 1 rfl rfl)
  apply w_loop (fun i : Nat => ⟨(Ab.upd (Ab.upd (Ab.upd (Ab.upd (fun _ => .bot) 0 (.f (.sl l.length (intsF l)))) 1 (.f (iv (s : Nat)))) 5 (.ow 0)) 6 (.f (iv ((i : Nat) : Int)))), (Ab.upd (fun _ => none) 0 (some (.row 3 1 (choL (l.take i) s).length (intsF (choL (l.take i) s))))), 1⟩) (fun i => i ≤ l.length) (fun i => l.length - i) 0 (Nat.zero_le _) (gh_le ⟨le_upd rfl trivial (le_upd rfl rfl (le_upd rfl trivial (le_upd rfl trivial (le_nil _)))), le_hupd rfl trivial (le_h0 _ _)⟩)
  intro i hi
  have hcl := choL_len (l.take i) s
  rw [List.length_take] at hcl
  by_cases hc : i < l.length
  · have hsn := choL_snoc (l.take i) l[i] s
    rw [← List.take_succ_eq_append_getElem hc, List.length_take, show min i l.length = i by omega] at hsn
    have hb0 : shrN s i ≤ s := Nat.div_le_self _ _
    by_cases hb : andP (shrN s i) 1 = 1
    · rw [if_pos ((bit_test s i).1 hb)] at hsn
      repeat (first
    | (apply s_shrN; exact rfl; exact rfl; exact rfl; exact rfl; omega)
    | (apply s_andP (b := 1); exact rfl; exact rfl; exact rfl; exact rfl; omega; omega)
    | (apply s_append TY; exact rfl; exact rfl; exact rfl; exact rfl; exact rfl; exact rfl; exact rfl; exact rfl; exact rfl; (unfold maxLen; omega); omega)
    | (apply s_a TY; exact rfl)
    | (apply s_t; exact rfl; (first | assumption | omega))
    | apply w_seq
    | apply w_region
    | apply s_nil
    | apply t_norm
    | apply k_norm
    | apply w_block
    | apply w_skip
    | (apply w_condT; exact rfl; exact rfl)
    | (apply s_c TY; exact rfl; (first | omega | exact ⟨by omega, by (first | with_reducible assumption | ((with_reducible apply intsF_ne); omega) | assumption)⟩))
    | (apply s_l TY; exact rfl; (first | exact rfl | with_reducible assumption | ((with_reducible apply intsF_at); omega) | assumption)))
      exact ⟨i + 1, by omega, by omega, gh_le ⟨le_upd rfl trivial (le_upd rfl rfl (le_upd rfl trivial (le_upd rfl trivial (le_nil _)))), le_hupd (rowI_app hsn) trivial (le_h0 _ _)⟩⟩
    · rw [if_neg (fun h => hb ((bit_test s i).2 h)), List.append_nil] at hsn
      repeat (first
    | (apply s_shrN; exact rfl; exact rfl; exact rfl; exact rfl; omega)
    | (apply s_andP (b := 1); exact rfl; exact rfl; exact rfl; exact rfl; omega; omega)
    | (apply s_a TY; exact rfl)
    | (apply s_t; exact rfl; (first | assumption | omega))
    | (apply s_f; exact rfl; (first | assumption | omega))
    | apply w_seq
    | apply w_region
    | apply s_nil
    | apply t_norm
    | apply k_norm
    | apply w_block
    | apply w_skip
    | (apply w_condT; exact rfl; exact rfl)
    | (apply w_condF; exact rfl; exact rfl)
    | (apply s_c TY; exact rfl; (first | omega | exact ⟨by omega, by (first | with_reducible assumption | ((with_reducible apply intsF_ne); omega) | assumption)⟩)))
      exact ⟨i + 1, by omega, by omega, gh_le ⟨le_upd rfl trivial (le_upd rfl rfl (le_upd rfl trivial (le_upd rfl trivial (le_nil _)))), le_hupd (rowI _ _ hsn.symm) trivial (le_h0 _ _)⟩⟩
  · have hie : i = l.length := by omega
    subst hie
    rw [List.take_length]
    repeat (first
    | (apply s_a TY; exact rfl)
    | (apply s_f; exact rfl; (first | assumption | omega))
    | apply w_seq
    | apply w_region
    | apply s_nil
    | apply t_norm
    | apply t_exit
    | apply k_hit
    | apply w_exit
    | apply w_ret
    | (apply w_condF; exact rfl; exact rfl))
    exact lv_ret (ret_gh (gh_row 0 rfl) (ret1 rfl (res_tmp rfl)))
set_option maxRecDepth 100000 in
set_option maxHeartbeats 1600000 in
theorem isLess_s (a b : List Int) (hl : a.length = b.length) (hb : a.length ≤ 1000) : Summ Tryz.prog GG 74 [.sl a.length (intsF a), .sl b.length (intsF b)] (bv (lessL a b)) := by
  refine summW Tryz.func74 rfl rfl 30 rfl (by simp) (fun M0 => ?_)
  repeat (first
    | (apply s_a TY; exact rfl)
    | apply w_seq
    | apply w_region
    | apply s_nil
    | apply t_norm
    | apply w_block)
  apply w_loop (fun i : Nat => ⟨(Ab.upd (Ab.upd (Ab.upd (fun _ => .bot) 0 (.f (.sl a.length (intsF a)))) 1 (.f (.sl b.length (intsF b)))) 5 (.f (iv ((i : Nat) : Int)))), (fun _ => none), 0⟩) (fun i => i ≤ a.length ∧ ∀ j (h1 : j < a.length) (h2 : j < b.length), j < i → a[j] = b[j]) (fun i => a.length - i) 0 (⟨Nat.zero_le _, fun j _ _ h => absurd h (Nat.not_lt_zero j)⟩) (gh_le ⟨le_upd rfl trivial (le_upd rfl trivial (le_upd rfl trivial (le_nil _))), le_h0 _ _⟩)
  intro i ⟨hi, hp⟩
  by_cases hic : i < a.length
  · have hib : i < b.length := by omega
    by_cases he : a[i] = b[i]
    · repeat (first
    | (apply s_a TY; exact rfl)
    | (apply s_t; exact rfl; (first | assumption | omega))
    | apply w_seq
    | apply w_region
    | (apply w_draw (id := 4) 8 rfl (by kernel_rfl))
    | apply s_nil
    | apply t_norm
    | apply k_norm
    | apply w_block
    | apply w_skip
    | (apply w_condT; exact rfl; exact rfl)
    | (apply w_condF; exact rfl; exact rfl)
    | (apply s_c TY; exact rfl; (first | omega | exact ⟨by omega, by (first | with_reducible assumption | ((with_reducible apply intsF_ne); omega) | assumption)⟩))
    | (apply s_l TY; exact rfl; (first | exact rfl | with_reducible assumption | ((with_reducible apply intsF_at); omega) | assumption)))
      exact ⟨i + 1, ⟨by omega, fun j h1 h2 hj => by
        by_cases e : j = i
        · subst e; exact he
        · exact hp j h1 h2 (by omega)⟩, by omega, gh_le ⟨le_upd rfl trivial (le_upd rfl trivial (le_upd rfl trivial (le_nil _))), le_h0 _ _⟩⟩
    · rw [lessL_at hic hib hp he]
      by_cases hlt : a[i] < b[i]
      · rw [decide_eq_true hlt]
        repeat (first
    | (apply s_a TY; exact rfl)
    | (apply s_t; exact rfl; (first | assumption | omega))
    | (apply s_f; exact rfl; (first | assumption | omega))
    | apply w_seq
    | apply w_region
    | (apply w_draw (id := 4) 8 rfl (by kernel_rfl))
    | (apply w_draw (id := 5) 8 rfl (by kernel_rfl))
    | apply s_nil
    | apply t_norm
    | apply t_ret
    | apply k_ret
    | apply w_block
    | apply w_ret
    | apply w_skip
    | (apply w_condT; exact rfl; exact rfl)
    | (apply s_c TY; exact rfl; (first | omega | exact ⟨by omega, by (first | with_reducible assumption | ((with_reducible apply intsF_ne); omega) | assumption)⟩))
    | (apply s_l TY; exact rfl; (first | exact rfl | with_reducible assumption | ((with_reducible apply intsF_at); omega) | assumption)))
        exact lv_ret (ret1 rfl (res_tmp rfl))
      · rw [decide_eq_false hlt]
        repeat (first
    | (apply s_a TY; exact rfl)
    | (apply s_t; exact rfl; (first | assumption | omega))
    | (apply s_f; exact rfl; (first | assumption | omega))
    | apply w_seq
    | apply w_region
    | (apply w_draw (id := 4) 8 rfl (by kernel_rfl))
    | (apply w_draw (id := 5) 8 rfl (by kernel_rfl))
    | apply s_nil
    | apply t_norm
    | apply t_ret
    | apply k_ret
    | apply w_block
    | apply w_ret
    | apply w_skip
    | (apply w_condT; exact rfl; exact rfl)
    | (apply s_c TY; exact rfl; (first | omega | exact ⟨by omega, by (first | with_reducible assumption | ((with_reducible apply intsF_ne); omega) | assumption)⟩))
    | (apply s_l TY; exact rfl; (first | exact rfl | with_reducible assumption | ((with_reducible apply intsF_at); omega) | assumption)))
        exact lv_ret (ret1 rfl (res_tmp rfl))
  · rw [lessL_same hl (fun j h1 h2 => hp j h1 h2 (by omega))]
    repeat (first
    | (apply s_a TY; exact rfl)
    | (apply s_f; exact rfl; (first | assumption | omega))
    | apply w_seq
    | apply w_region
    | apply s_nil
    | apply t_norm
    | apply t_exit
    | apply k_hit
    | apply w_exit
    | apply w_ret
    | (apply w_condF; exact rfl; exact rfl))
    exact lv_ret (ret1 rfl (res_tmp rfl))
def bestF : Option (List Int) → FV
  | none => .v (.slice none 0 0)
  | some b => .sl b.length (intsF b)
theorem silP_len {l : List Site} {r : Rule} {h : List Hit} {d : List Int} : silP l r h d = decide ((firesV l r (maskV l h d) (maskV l h d).length).length = 0) := by
  unfold silP
  cases (firesV l r (maskV l h d) (maskV l h d).length) <;> simp
set_option maxRecDepth 100000 in
set_option maxHeartbeats 6400000 in
theorem Silent_s (l : List Site) (r : Rule) (h : List Hit) (hr : ruleErr r = 0) (hl0 : ArrOk l) (ho : HitsOk l h) (h10 : (sitesV l h).length ≤ 10) : Summ Tryz.prog GG 25 [arrF l, .agg (ruleF r), .sl h.length (hitsF h)] (bestF (bstK (silP l r h) (sitesV l h) (2 ^ (sitesV l h).length))) := by
  have h40 := ho.len
  have HSe := Sensors_s l h hl0 ho
  have hpw : pw (sitesV l h).length ≤ 1024 := pw_le (n := 10) h10
  have hpd : pw (sitesV l h).length = 2 ^ (sitesV l h).length := rfl
  refine summW Tryz.func25 rfl rfl 59 rfl (by simp) (fun M0 => ?_)
  repeat (first
    | (apply s_a TY; exact rfl)
    | apply w_seq
    | apply w_region
    | apply s_nil
    | apply t_norm
    | apply w_block
    | (apply s_k (HSe); exact rfl))
  apply w_loop (fun q : Nat × Option (List Int) => ⟨(Ab.upd (Ab.upd (Ab.upd (Ab.upd (Ab.upd (Ab.upd (Ab.upd (fun _ => .bot) 2 (.f (.sl h.length (hitsF h)))) 3 (.f (.pt [.sl l.length (sitesF l)] 0))) 4 (.f (.pt (ruleF r) 0))) 7 (.f (.sl (sitesV l h).length (intsF (sitesV l h))))) 8 (.f (bestF q.2))) 9 (.f (.v (.bool q.2.isSome)))) 10 (.f (iv ((q.1 : Nat) : Int)))), (fun _ => none), 0⟩) (fun q => q.1 ≤ pw (sitesV l h).length ∧ q.2 = bstK (silP l r h) (sitesV l h) q.1) (fun q => pw (sitesV l h).length - q.1) (0, none) (⟨Nat.zero_le _, rfl⟩) (gh_le ⟨le_upd rfl trivial (le_upd rfl trivial (le_upd rfl trivial (le_upd rfl trivial (le_upd rfl trivial (le_upd rfl trivial (le_upd rfl trivial (le_nil _))))))), le_h0 _ _⟩)
  rintro ⟨k, o⟩ ⟨hk, hb⟩
  simp only at hk hb
  by_cases hc : k < pw (sitesV l h).length
  · have HCh := chosen_s (sitesV l h) k h10 (by omega)
    have hclen := choL_len (sitesV l h) k
    have HrM := rMasked_s l h (choL (sitesV l h) k) hl0 ho (by omega)
    have HrF := rFires_s l r (maskV l h (choL (sitesV l h) k)) hr hl0 (maskV_ok ho (choL (sitesV l h) k))
    have hpl := silP_len (l := l) (r := r) (h := h) (d := (choL (sitesV l h) k))
    cases o with
    | none =>
      cases hp : (silP l r h) (choL (sitesV l h) k) with
      | true =>
        rw [hp] at hpl
        have hp0 := of_decide_eq_true hpl.symm
        have hst : bstK (silP l r h) (sitesV l h) (k + 1) = some (choL (sitesV l h) k) := by unfold bstK; rw [← hb]; simp only; rw [if_pos hp]
        repeat (first
    | (apply s_shl1; exact rfl; exact rfl; exact rfl; exact rfl; omega)
    | (apply s_a TY; exact rfl)
    | (apply s_t; exact rfl; (first | assumption | omega))
    | apply w_seq
    | apply w_region
    | (apply w_draw (id := 8) 28 rfl (by kernel_rfl))
    | apply s_nil
    | apply t_norm
    | apply k_norm
    | apply w_block
    | apply w_skip
    | (apply w_condT; exact rfl; exact rfl)
    | (apply s_k (HCh); exact rfl)
    | (apply s_k (HrM); exact rfl)
    | (apply s_k (HrF); exact rfl)
    | (apply s_s; exact rfl)
    | (apply s_c TY; exact rfl; omega))
        exact ⟨(k + 1, some (choL (sitesV l h) k)), ⟨by simp only; omega, by simp only; rw [hst]⟩, by simp only; omega, gh_le ⟨le_upd rfl trivial (le_upd rfl trivial (le_upd rfl trivial (le_upd rfl trivial (le_upd rfl trivial (le_upd rfl trivial (le_upd rfl trivial (le_nil _))))))), le_h0 _ _⟩⟩
      | false =>
        rw [hp] at hpl
        have hp0 := of_decide_eq_false hpl.symm
        have hst : bstK (silP l r h) (sitesV l h) (k + 1) = none := by unfold bstK; rw [← hb]; simp only; rw [if_neg (by rw [hp]; decide)]
        repeat (first
    | (apply s_shl1; exact rfl; exact rfl; exact rfl; exact rfl; omega)
    | (apply s_a TY; exact rfl)
    | (apply s_t; exact rfl; (first | assumption | omega))
    | (apply s_f; exact rfl; (first | assumption | omega))
    | apply w_seq
    | apply w_region
    | (apply w_draw (id := 8) 28 rfl (by kernel_rfl))
    | apply s_nil
    | apply t_norm
    | apply k_norm
    | apply w_block
    | apply w_skip
    | (apply w_condT; exact rfl; exact rfl)
    | (apply w_condF; exact rfl; exact rfl)
    | (apply s_k (HCh); exact rfl)
    | (apply s_k (HrM); exact rfl)
    | (apply s_k (HrF); exact rfl)
    | (apply s_s; exact rfl)
    | (apply s_c TY; exact rfl; omega))
        exact ⟨(k + 1, none), ⟨by simp only; omega, by simp only; rw [hst]⟩, by simp only; omega, gh_le ⟨le_upd rfl trivial (le_upd rfl trivial (le_upd rfl trivial (le_upd rfl trivial (le_upd rfl trivial (le_upd rfl trivial (le_upd rfl trivial (le_nil _))))))), le_h0 _ _⟩⟩
    | some b =>
      have hyes : ∀ (_ : (choL (sitesV l h) k).length < b.length ∨ ((choL (sitesV l h) k).length = b.length ∧ lessL (choL (sitesV l h) k) b = true)) (_ : (silP l r h) (choL (sitesV l h) k) = true), bstK (silP l r h) (sitesV l h) (k + 1) = some (choL (sitesV l h) k) := fun h1 h2 => by unfold bstK; rw [← hb]; simp only; rw [if_pos ⟨h1, h2⟩]
      have hno : ∀ (_ : ¬ (((choL (sitesV l h) k).length < b.length ∨ ((choL (sitesV l h) k).length = b.length ∧ lessL (choL (sitesV l h) k) b = true)) ∧ (silP l r h) (choL (sitesV l h) k) = true)), bstK (silP l r h) (sitesV l h) (k + 1) = some b := fun h1 => by unfold bstK; rw [← hb]; simp only; rw [if_neg h1]
      by_cases c1 : (choL (sitesV l h) k).length < b.length
      · cases hp : (silP l r h) (choL (sitesV l h) k) with
        | true =>
          rw [hp] at hpl
          have hp0 := of_decide_eq_true hpl.symm
          have hst := hyes (.inl c1) hp
          repeat (first
    | (apply s_shl1; exact rfl; exact rfl; exact rfl; exact rfl; omega)
    | (apply s_a TY; exact rfl)
    | (apply s_t; exact rfl; (first | assumption | omega))
    | apply w_seq
    | apply w_region
    | (apply w_draw (id := 8) 28 rfl (by kernel_rfl))
    | apply s_nil
    | apply t_norm
    | apply k_norm
    | apply w_block
    | apply w_skip
    | (apply w_condT; exact rfl; exact rfl)
    | (apply s_k (HCh); exact rfl)
    | (apply s_k (HrM); exact rfl)
    | (apply s_k (HrF); exact rfl)
    | (apply s_s; exact rfl)
    | (apply s_c TY; exact rfl; omega))
          exact ⟨(k + 1, some (choL (sitesV l h) k)), ⟨by simp only; omega, by simp only; rw [hst]⟩, by simp only; omega, gh_le ⟨le_upd rfl trivial (le_upd rfl trivial (le_upd rfl trivial (le_upd rfl trivial (le_upd rfl trivial (le_upd rfl trivial (le_upd rfl trivial (le_nil _))))))), le_h0 _ _⟩⟩
        | false =>
          rw [hp] at hpl
          have hp0 := of_decide_eq_false hpl.symm
          have hst := hno (fun h => by rw [hp] at h; cases h.2)
          repeat (first
    | (apply s_shl1; exact rfl; exact rfl; exact rfl; exact rfl; omega)
    | (apply s_a TY; exact rfl)
    | (apply s_t; exact rfl; (first | assumption | omega))
    | (apply s_f; exact rfl; (first | assumption | omega))
    | apply w_seq
    | apply w_region
    | (apply w_draw (id := 8) 28 rfl (by kernel_rfl))
    | apply s_nil
    | apply t_norm
    | apply k_norm
    | apply w_block
    | apply w_skip
    | (apply w_condT; exact rfl; exact rfl)
    | (apply w_condF; exact rfl; exact rfl)
    | (apply s_k (HCh); exact rfl)
    | (apply s_k (HrM); exact rfl)
    | (apply s_k (HrF); exact rfl)
    | (apply s_s; exact rfl)
    | (apply s_c TY; exact rfl; omega))
          exact ⟨(k + 1, some b), ⟨by simp only; omega, by simp only; rw [hst]⟩, by simp only; omega, gh_le ⟨le_upd rfl trivial (le_upd rfl trivial (le_upd rfl trivial (le_upd rfl trivial (le_upd rfl trivial (le_upd rfl trivial (le_upd rfl trivial (le_nil _))))))), le_h0 _ _⟩⟩
      · by_cases c2 : (choL (sitesV l h) k).length = b.length
        · have HLs := isLess_s (choL (sitesV l h) k) b c2 (by omega)
          cases hls : lessL (choL (sitesV l h) k) b with
          | true =>
            rw [hls] at HLs
            cases hp : (silP l r h) (choL (sitesV l h) k) with
            | true =>
              rw [hp] at hpl
              have hp0 := of_decide_eq_true hpl.symm
              have hst := hyes (.inr ⟨c2, hls⟩) hp
              repeat (first
    | (apply s_shl1; exact rfl; exact rfl; exact rfl; exact rfl; omega)
    | (apply s_a TY; exact rfl)
    | (apply s_t; exact rfl; (first | assumption | omega))
    | (apply s_f; exact rfl; (first | assumption | omega))
    | apply w_seq
    | apply w_region
    | (apply w_draw (id := 8) 28 rfl (by kernel_rfl))
    | apply s_nil
    | apply t_norm
    | apply k_norm
    | apply w_block
    | apply w_skip
    | (apply w_condT; exact rfl; exact rfl)
    | (apply s_k (HCh); exact rfl)
    | (apply s_k (HrM); exact rfl)
    | (apply s_k (HrF); exact rfl)
    | (apply s_k (HLs); exact rfl)
    | (apply s_c TY; exact rfl; omega))
              exact ⟨(k + 1, some (choL (sitesV l h) k)), ⟨by simp only; omega, by simp only; rw [hst]⟩, by simp only; omega, gh_le ⟨le_upd rfl trivial (le_upd rfl trivial (le_upd rfl trivial (le_upd rfl trivial (le_upd rfl trivial (le_upd rfl trivial (le_upd rfl trivial (le_nil _))))))), le_h0 _ _⟩⟩
            | false =>
              rw [hp] at hpl
              have hp0 := of_decide_eq_false hpl.symm
              have hst := hno (fun h => by rw [hp] at h; cases h.2)
              repeat (first
    | (apply s_shl1; exact rfl; exact rfl; exact rfl; exact rfl; omega)
    | (apply s_a TY; exact rfl)
    | (apply s_t; exact rfl; (first | assumption | omega))
    | (apply s_f; exact rfl; (first | assumption | omega))
    | apply w_seq
    | apply w_region
    | (apply w_draw (id := 8) 28 rfl (by kernel_rfl))
    | apply s_nil
    | apply t_norm
    | apply k_norm
    | apply w_block
    | apply w_skip
    | (apply w_condT; exact rfl; exact rfl)
    | (apply w_condF; exact rfl; exact rfl)
    | (apply s_k (HCh); exact rfl)
    | (apply s_k (HrM); exact rfl)
    | (apply s_k (HrF); exact rfl)
    | (apply s_k (HLs); exact rfl)
    | (apply s_c TY; exact rfl; omega))
              exact ⟨(k + 1, some b), ⟨by simp only; omega, by simp only; rw [hst]⟩, by simp only; omega, gh_le ⟨le_upd rfl trivial (le_upd rfl trivial (le_upd rfl trivial (le_upd rfl trivial (le_upd rfl trivial (le_upd rfl trivial (le_upd rfl trivial (le_nil _))))))), le_h0 _ _⟩⟩
          | false =>
            rw [hls] at HLs
            have hst := hno (fun h => by rcases h.1 with h1 | ⟨_, h1⟩; exact c1 h1; rw [hls] at h1; cases h1)
            repeat (first
    | (apply s_shl1; exact rfl; exact rfl; exact rfl; exact rfl; omega)
    | (apply s_a TY; exact rfl)
    | (apply s_t; exact rfl; (first | assumption | omega))
    | (apply s_f; exact rfl; (first | assumption | omega))
    | apply w_seq
    | apply w_region
    | (apply w_draw (id := 8) 28 rfl (by kernel_rfl))
    | apply s_nil
    | apply t_norm
    | apply k_norm
    | apply w_block
    | apply w_skip
    | (apply w_condT; exact rfl; exact rfl)
    | (apply w_condF; exact rfl; exact rfl)
    | (apply s_k (HCh); exact rfl)
    | (apply s_k (HLs); exact rfl)
    | (apply s_s; exact rfl)
    | (apply s_c TY; exact rfl; omega))
            exact ⟨(k + 1, some b), ⟨by simp only; omega, by simp only; rw [hst]⟩, by simp only; omega, gh_le ⟨le_upd rfl trivial (le_upd rfl trivial (le_upd rfl trivial (le_upd rfl trivial (le_upd rfl trivial (le_upd rfl trivial (le_upd rfl trivial (le_nil _))))))), le_h0 _ _⟩⟩
        · have hst := hno (fun h => by rcases h.1 with h1 | ⟨h1, _⟩; exact c1 h1; exact c2 h1)
          repeat (first
    | (apply s_shl1; exact rfl; exact rfl; exact rfl; exact rfl; omega)
    | (apply s_a TY; exact rfl)
    | (apply s_t; exact rfl; (first | assumption | omega))
    | (apply s_f; exact rfl; (first | assumption | omega))
    | apply w_seq
    | apply w_region
    | (apply w_draw (id := 8) 28 rfl (by kernel_rfl))
    | apply s_nil
    | apply t_norm
    | apply k_norm
    | apply w_block
    | apply w_skip
    | (apply w_condT; exact rfl; exact rfl)
    | (apply w_condF; exact rfl; exact rfl)
    | (apply s_k (HCh); exact rfl)
    | (apply s_s; exact rfl)
    | (apply s_c TY; exact rfl; omega))
          exact ⟨(k + 1, some b), ⟨by simp only; omega, by simp only; rw [hst]⟩, by simp only; omega, gh_le ⟨le_upd rfl trivial (le_upd rfl trivial (le_upd rfl trivial (le_upd rfl trivial (le_upd rfl trivial (le_upd rfl trivial (le_upd rfl trivial (le_nil _))))))), le_h0 _ _⟩⟩
  · have hke : k = pw (sitesV l h).length := by omega
    rw [← hpd, ← hke, ← hb]
    cases o with
    | none =>
      repeat (first
    | (apply s_shl1; exact rfl; exact rfl; exact rfl; exact rfl; omega)
    | (apply s_a TY; exact rfl)
    | (apply s_f; exact rfl; (first | assumption | omega))
    | apply w_seq
    | apply w_region
    | apply s_nil
    | apply t_norm
    | apply t_exit
    | apply k_hit
    | apply w_exit
    | apply w_ret
    | (apply w_condF; exact rfl; exact rfl))
      exact lv_ret (ret1 rfl (res_tmp rfl))
    | some b =>
      repeat (first
    | (apply s_shl1; exact rfl; exact rfl; exact rfl; exact rfl; omega)
    | (apply s_a TY; exact rfl)
    | (apply s_f; exact rfl; (first | assumption | omega))
    | apply w_seq
    | apply w_region
    | apply s_nil
    | apply t_norm
    | apply t_exit
    | apply k_hit
    | apply w_exit
    | apply w_ret
    | (apply w_condF; exact rfl; exact rfl))
      exact lv_ret (ret1 rfl (res_tmp rfl))
theorem Summ.nils {P : Program} {G : Nat → Option (List FV)} {g : Nat} {r : FV} (K : Summ P G g [.sl 0 [], .sl 0 []] r) : Summ P G g [.v (.slice none 0 0), .v (.slice none 0 0)] r :=
  ⟨K.enters, fun w M us hM hG R => by
    obtain ⟨u1, us1, rfl, r1, R1⟩ := R.head
    obtain ⟨u2, us2, rfl, r2, R2⟩ := R1.head
    have := repV r1
    subst this
    have := repV r2
    subst this
    have q : RepF w M (.slice none 0 0) (.sl 0 []) := RepF.sl none 0 0 [] [] (Nat.le_refl _) rfl (fun u hu => by simp at hu) (fun hn => absurd rfl hn) (fun k u x h => by simp at h)
    exact K.call w M _ hM hG (RepL.cons q (RepL.cons q R2))⟩
theorem ints_nils : Summ Tryz.prog GG 22 [.v (.slice none 0 0), .v (.slice none 0 0)] (bv true) := by
  have := Ints_s [] [] (by decide) (by decide)
  rw [decide_eq_true rfl] at this
  exact Summ.nils this
set_option maxRecDepth 100000 in
set_option maxHeartbeats 12800000 in
theorem TriggerSilent_s (l : List Site) (r : Rule) (h : List Hit) : Summ Tryz.prog GG 4 [arrF l, .agg (ruleF r), .sl h.length (hitsF h)] (bv true) := by
  have HA := awake_s
  have HFw := Few_s l h
  have HLt := light_s r
  cases hfw : FewB l h with
  | false =>
    rw [hfw] at HFw
    refine summW Tryz.func4 rfl rfl 111 rfl (by simp) (fun M0 => ?_)
    repeat (first
    | (apply s_a TY; exact rfl)
    | apply w_seq
    | apply w_region
    | apply s_nil
    | apply t_norm
    | apply t_ret
    | apply w_ret
    | apply w_skip
    | (apply w_condT; exact rfl; exact rfl)
    | (apply w_condF; exact rfl; exact rfl)
    | (apply s_k (HA); exact rfl)
    | (apply s_k (HFw); exact rfl)
    | (apply s_s; exact rfl))
    exact lv_ret (ret1 rfl (res_tmp rfl))
  | true =>
  rw [hfw] at HFw
  cases hlt : lightB r with
  | false =>
    rw [hlt] at HLt
    refine summW Tryz.func4 rfl rfl 111 rfl (by simp) (fun M0 => ?_)
    repeat (first
    | (apply s_a TY; exact rfl)
    | apply w_seq
    | apply w_region
    | apply s_nil
    | apply t_norm
    | apply t_ret
    | apply w_ret
    | apply w_skip
    | (apply w_condT; exact rfl; exact rfl)
    | (apply w_condF; exact rfl; exact rfl)
    | (apply s_k (HA); exact rfl)
    | (apply s_k (HFw); exact rfl)
    | (apply s_k (HLt); exact rfl)
    | (apply s_s; exact rfl))
    exact lv_ret (ret1 rfl (res_tmp rfl))
  | true =>
  rw [hlt] at HLt
  have hl32 : l.length ≤ 32 ∧ h.length ≤ 42 := by
    unfold FewB at hfw
    rw [Bool.and_eq_true, decide_eq_true_eq] at hfw
    exact ⟨hfw.1, fewB_le hfw.2⟩
  have hl6 : l.length ≤ 1000000 := by omega
  have hh6 : h.length ≤ 1000000 := by omega
  by_cases h911 : 9 < h.length ∧ h.length ≤ 11
  · obtain ⟨h9, h11⟩ := h911
    refine summW Tryz.func4 rfl rfl 111 rfl (by simp) (fun M0 => ?_)
    repeat (first
    | (apply s_a TY; exact rfl)
    | (apply s_t; exact rfl; (first | assumption | omega))
    | apply w_seq
    | apply w_region
    | apply s_nil
    | apply t_norm
    | apply t_ret
    | apply w_ret
    | apply w_skip
    | (apply w_condT; exact rfl; exact rfl)
    | (apply w_condF; exact rfl; exact rfl)
    | (apply s_k (HA); exact rfl)
    | (apply s_k (HFw); exact rfl)
    | (apply s_k (HLt); exact rfl))
    exact lv_ret (ret1 rfl (res_tmp rfl))
  have HC1 := CopyArray_s l hl6
  have HC3 := CopyHits_s h hh6
  have HRE := RuledErr_s l r h hl6 hh6
  have hsplit : h.length ≤ 9 ∨ 11 < h.length := by omega
  by_cases he : ruledErr l r h = 0
  · rw [he] at HRE
    obtain ⟨e1, e2, e3⟩ := ruleErr_parts he
    have hl0 := arrOk_of e1
    have ho := hitsOk_of hl0 e3
    have HCr := Critical_ok l r h hl6 hh6 he
    have HrC := rCritical_s l r h e2 hl0 ho
    have HSe := Sensors_s l h hl0 ho
    obtain ⟨IX, HI, HCr, HrC⟩ : ∃ IX, Summ Tryz.prog GG 22 [IX, IX] (bv true) ∧ Summ Tryz.prog GG 20 [arrF l, .agg (ruleF r), .sl h.length (hitsF h)] (.tup [IX, iv 0]) ∧ Summ Tryz.prog GG 23 [arrF l, .agg (ruleF r), .sl h.length (hitsF h)] IX := by
      by_cases hf : (firesV l r h h.length).isEmpty = true
      · rw [if_pos hf] at HCr HrC
        exact ⟨_, ints_nils, HCr, HrC⟩
      · rw [if_neg hf] at HCr HrC
        have hcl : (critV l r h).length ≤ 1000000 := by
          unfold critV
          rw [if_neg hf]
          exact Nat.le_trans (critN_len l r h _) hh6
        have := Ints_s (critV l r h) (critV l r h) hcl hcl
        rw [decide_eq_true rfl] at this
        exact ⟨_, this, HCr, HrC⟩
    by_cases h10 : 10 < (sitesV l h).length
    · have HSb := SilencedBy_large l r h hl6 hh6 he h10
      rcases hsplit with h9 | h11
      · refine summW Tryz.func4 rfl rfl 111 rfl (by simp) (fun M0 => ?_)
        repeat (first
    | (apply s_assign_f; exact rfl; exact rfl)
    | (apply s_move_f; exact rfl; exact rfl)
    | (apply g_move_f; exact rfl; exact rfl; exact rfl; exact rfl)
    | (apply s_a TY; exact rfl)
    | (apply s_t; exact rfl; (first | assumption | omega))
    | (apply s_f; exact rfl; (first | assumption | omega))
    | apply w_seq
    | apply w_region
    | (apply w_draw (id := 5) 10 rfl (by kernel_rfl))
    | (apply w_draw (id := 6) 10 rfl (by kernel_rfl))
    | apply s_nil
    | apply t_norm
    | apply t_ret
    | apply w_ret
    | apply w_skip
    | (apply w_condT; exact rfl; exact rfl)
    | (apply w_condF; exact rfl; exact rfl)
    | (apply s_k (HA); exact rfl)
    | (apply s_k (HFw); exact rfl)
    | (apply s_k (HLt); exact rfl)
    | (apply s_k (HC1); exact rfl)
    | (apply s_k (HC3); exact rfl)
    | (apply s_k (HRE); exact rfl)
    | (apply s_k (HCr); exact rfl)
    | (apply s_k (HSb); exact rfl)
    | (apply s_k (HrC); exact rfl)
    | (apply s_k (HI); exact rfl)
    | (apply s_k (HSe); exact rfl)
    | (apply s_s; exact rfl))
        exact lv_ret (ret1 rfl (res_tmp rfl))
      · refine summW Tryz.func4 rfl rfl 111 rfl (by simp) (fun M0 => ?_)
        repeat (first
    | (apply s_assign_f; exact rfl; exact rfl)
    | (apply s_move_f; exact rfl; exact rfl)
    | (apply g_move_f; exact rfl; exact rfl; exact rfl; exact rfl)
    | (apply s_a TY; exact rfl)
    | (apply s_t; exact rfl; (first | assumption | omega))
    | (apply s_f; exact rfl; (first | assumption | omega))
    | apply w_seq
    | apply w_region
    | (apply w_draw (id := 5) 10 rfl (by kernel_rfl))
    | (apply w_draw (id := 6) 10 rfl (by kernel_rfl))
    | apply s_nil
    | apply t_norm
    | apply t_ret
    | apply w_ret
    | apply w_skip
    | (apply w_condT; exact rfl; exact rfl)
    | (apply w_condF; exact rfl; exact rfl)
    | (apply s_k (HA); exact rfl)
    | (apply s_k (HFw); exact rfl)
    | (apply s_k (HLt); exact rfl)
    | (apply s_k (HC1); exact rfl)
    | (apply s_k (HC3); exact rfl)
    | (apply s_k (HRE); exact rfl)
    | (apply s_k (HCr); exact rfl)
    | (apply s_k (HSb); exact rfl)
    | (apply s_k (HrC); exact rfl)
    | (apply s_k (HI); exact rfl)
    | (apply s_k (HSe); exact rfl))
        exact lv_ret (ret1 rfl (res_tmp rfl))
    · obtain ⟨c, hcl, o, hfo, hfb⟩ := sil_found (r := r) hl0 ho
      have HSb := SilencedBy_ok l r h hl6 hh6 he (by omega) hcl hfo hfb
      have HSi := Silent_s l r h e2 hl0 ho (by omega)
      rw [sil_ref (sitesV_pw l h) hfo hfb] at HSi
      have hol := (sil_least (sitesV_pw l h) hfo hfb).2
      have HI2 := Ints_s o o (by omega) (by omega)
      rw [decide_eq_true rfl] at HI2
      rcases hsplit with h9 | h11
      · refine summW Tryz.func4 rfl rfl 111 rfl (by simp) (fun M0 => ?_)
        repeat (first
    | (apply s_assign_f; exact rfl; exact rfl)
    | (apply s_move_f; exact rfl; exact rfl)
    | (apply g_move_f; exact rfl; exact rfl; exact rfl; exact rfl)
    | (apply s_a TY; exact rfl)
    | (apply s_t; exact rfl; (first | assumption | omega))
    | (apply s_f; exact rfl; (first | assumption | omega))
    | apply w_seq
    | apply w_region
    | (apply w_draw (id := 5) 10 rfl (by kernel_rfl))
    | (apply w_draw (id := 6) 10 rfl (by kernel_rfl))
    | apply s_nil
    | apply t_norm
    | apply w_ret
    | apply w_skip
    | (apply w_condF; exact rfl; exact rfl)
    | (apply s_k (HA); exact rfl)
    | (apply s_k (HFw); exact rfl)
    | (apply s_k (HLt); exact rfl)
    | (apply s_k (HC1); exact rfl)
    | (apply s_k (HC3); exact rfl)
    | (apply s_k (HRE); exact rfl)
    | (apply s_k (HCr); exact rfl)
    | (apply s_k (HSb); exact rfl)
    | (apply s_k (HrC); exact rfl)
    | (apply s_k (HI); exact rfl)
    | (apply s_k (HSe); exact rfl)
    | (apply s_k (HSi); exact rfl)
    | (apply s_k (HI2); exact rfl)
    | (apply s_s; exact rfl))
        exact lv_ret (ret1 rfl (res_tmp rfl))
      · refine summW Tryz.func4 rfl rfl 111 rfl (by simp) (fun M0 => ?_)
        repeat (first
    | (apply s_assign_f; exact rfl; exact rfl)
    | (apply s_move_f; exact rfl; exact rfl)
    | (apply g_move_f; exact rfl; exact rfl; exact rfl; exact rfl)
    | (apply s_a TY; exact rfl)
    | (apply s_t; exact rfl; (first | assumption | omega))
    | (apply s_f; exact rfl; (first | assumption | omega))
    | apply w_seq
    | apply w_region
    | (apply w_draw (id := 5) 10 rfl (by kernel_rfl))
    | (apply w_draw (id := 6) 10 rfl (by kernel_rfl))
    | apply s_nil
    | apply t_norm
    | apply w_ret
    | apply w_skip
    | (apply w_condF; exact rfl; exact rfl)
    | (apply s_k (HA); exact rfl)
    | (apply s_k (HFw); exact rfl)
    | (apply s_k (HLt); exact rfl)
    | (apply s_k (HC1); exact rfl)
    | (apply s_k (HC3); exact rfl)
    | (apply s_k (HRE); exact rfl)
    | (apply s_k (HCr); exact rfl)
    | (apply s_k (HSb); exact rfl)
    | (apply s_k (HrC); exact rfl)
    | (apply s_k (HI); exact rfl)
    | (apply s_k (HSe); exact rfl)
    | (apply s_s; exact rfl))
        exact lv_ret (ret1 rfl (res_tmp rfl))
  · have HCr := Critical_err l r h hl6 hh6 he
    have HSb := SilencedBy_err l r h hl6 hh6 he
    rcases hsplit with h9 | h11
    · refine summW Tryz.func4 rfl rfl 111 rfl (by simp) (fun M0 => ?_)
      repeat (first
    | (apply s_a TY; exact rfl)
    | (apply s_t; exact rfl; (first | assumption | omega))
    | (apply s_f; exact rfl; (first | assumption | omega))
    | apply w_seq
    | apply w_region
    | (apply w_draw (id := 5) 10 rfl (by kernel_rfl))
    | (apply w_draw (id := 6) 10 rfl (by kernel_rfl))
    | apply s_nil
    | apply t_norm
    | apply t_ret
    | apply w_ret
    | apply w_skip
    | (apply w_condT; exact rfl; exact rfl)
    | (apply w_condF; exact rfl; exact rfl)
    | (apply s_k (HA); exact rfl)
    | (apply s_k (HFw); exact rfl)
    | (apply s_k (HLt); exact rfl)
    | (apply s_k (HC1); exact rfl)
    | (apply s_k (HC3); exact rfl)
    | (apply s_k (HRE); exact rfl)
    | (apply s_k (HCr); exact rfl)
    | (apply s_k (HSb); exact rfl)
    | (apply s_s; exact rfl)
    | (apply s_c TY; exact rfl; omega))
      exact lv_ret (ret1 rfl (res_tmp rfl))
    · refine summW Tryz.func4 rfl rfl 111 rfl (by simp) (fun M0 => ?_)
      repeat (first
    | (apply s_a TY; exact rfl)
    | (apply s_t; exact rfl; (first | assumption | omega))
    | (apply s_f; exact rfl; (first | assumption | omega))
    | apply w_seq
    | apply w_region
    | (apply w_draw (id := 5) 10 rfl (by kernel_rfl))
    | (apply w_draw (id := 6) 10 rfl (by kernel_rfl))
    | apply s_nil
    | apply t_norm
    | apply t_ret
    | apply w_ret
    | apply w_skip
    | (apply w_condT; exact rfl; exact rfl)
    | (apply w_condF; exact rfl; exact rfl)
    | (apply s_k (HA); exact rfl)
    | (apply s_k (HFw); exact rfl)
    | (apply s_k (HLt); exact rfl)
    | (apply s_k (HC1); exact rfl)
    | (apply s_k (HC3); exact rfl)
    | (apply s_k (HRE); exact rfl)
    | (apply s_k (HCr); exact rfl)
    | (apply s_k (HSb); exact rfl)
    | (apply s_c TY; exact rfl; omega))
      exact lv_ret (ret1 rfl (res_tmp rfl))
end Go.Proofs.YtdmdpkoapllkkaaGreat
namespace Go.Ab
open Go Go.RowKit Go.Shelf Go.Proofs
def OpensFs (P : Program) (w : World) (fs : List Field) (off tot : Nat) {α : Type} (k : α → List FV) : Prop :=
  ∀ (H : Type) (enc : TypeId × Value → H) (base : Nat) (sp : Nat → Bool) (hd : Bool) (n : Nat) (cs : List Value), cs.length = off + tot → (∀ (i : Nat) (f : Field), fs[i]? = some f → ∃ x, DataW.trod enc P w base sp hd n f.type ((cs.drop f.offset).take (P.cellsOf f.type)) = some x) → ∃ a : α, RepL w (fun _ => False) (cs.drop off) (k a) ∧ ∀ u ∈ cs.drop off, u.oneCell'
section
variable {P : Program} {w : World}
theorem ofs_nil {off : Nat} : OpensFs P w [] off 0 (fun _ : Unit => []) := fun H enc base sp hd n cs hl _ => by
  rw [List.drop_eq_nil_of_le (by omega)]
  exact ⟨(), RepL.nil _ _, by simp⟩
theorem ofs_cons {f : Field} {fs : List Field} {off s tot : Nat} {α β : Type} {g : α → List FV} {k : β → List FV} (hc : P.cellsOf f.type = s) (ho : f.offset = off) (h : Opens P w f.type g) (hr : OpensFs P w fs (off + s) tot k) : OpensFs P w (f :: fs) off (s + tot) (fun p : α × β => g p.1 ++ k p.2) := fun H enc base sp hd n cs hl hx => by
  obtain ⟨x, hx0⟩ := hx 0 f rfl
  obtain ⟨a, r0, q0⟩ := h H enc base sp hd n _ _ hx0
  obtain ⟨b, r1, q1⟩ := hr H enc base sp hd n cs (by omega) (fun i f' hf => hx (i + 1) f' hf)
  rw [ho, hc] at r0 q0
  have hs : cs.drop off = (cs.drop off).take s ++ cs.drop (off + s) := by rw [← List.drop_drop, List.take_append_drop]
  refine ⟨(a, b), ?_, fun u hu => ?_⟩
  · rw [hs]; exact RepL.append r0 r1
  · rw [hs] at hu
    rcases List.mem_append.1 hu with h | h
    · exact q0 u h
    · exact q1 u h
theorem opens_st {T : TypeId} {fs : Array Field} {tot : Nat} {α : Type} {k : α → List FV} (ht : P.underlying T = some (.struct fs)) (ct : P.cellsOf T = tot) (h : OpensFs P w fs.toList 0 tot k) : Opens P w T k := fun H enc base sp hd fuel cs x hx => by
  obtain ⟨xs, n, _, _, hlen, hxl, hf⟩ := DataW.trod_struct ht hx
  have := h H enc base sp hd n cs (by rw [hlen, ct]; omega) (fun i f hi => by
    have hi' : fs[i]? = some f := by rw [← hi]; simp
    have e := hf i f hi'
    have hlt : i < xs.length := by
      rw [hxl]
      exact (Array.getElem?_eq_some_iff.1 hi').1
    rw [List.getElem?_eq_getElem hlt] at e
    exact ⟨_, e⟩)
  rwa [List.drop_zero] at this
end
end Go.Ab
namespace Go.Proofs.YtdmdpkoapllkkaaGreat
open Go Go.Ab Go.ChangeShapes Go.WideShapes Go.ChangeAt Go.RowKit
theorem ownKnobT : ownKnob Tryz.prog.godebug = none := by kernel_rfl
theorem laidOutT : laidOutB Tryz.prog = true := by kernel_rfl
theorem trodAll_stays {H : Type} {enc : TypeId × Value → H} {W W' : World} {sp : Nat → Bool} (hb : Below W.heap.size W W') : ∀ {ts : List TypeId} {vs : List Value} {ds : List (DataW H)} {ps : List MemPlace}, (∀ t ∈ ts, Tryz.prog.readableRec t = true ∧ t < Tryz.prog.types.size) → DataW.TrodAll enc Tryz.prog W 0 (fun _ => true) true ts vs ds ps → (∀ p ∈ ps, p.block < W.heap.size) → (∀ p ∈ ps, sp p.block = true) → DataW.TrodAll enc Tryz.prog W' 0 sp true ts vs ds ps
  | [], [], [], _, _, h, _, _ => h
  | t :: ts, v :: vs, d :: ds, ps, ht, ⟨p, q, h1, h2, e⟩, hlt, hsp => by
    have hp : ∀ x ∈ p, x ∈ ps := fun x hx => by rw [e]; exact List.mem_append_left _ hx
    have hq : ∀ x ∈ q, x ∈ ps := fun x hx => by rw [e]; exact List.mem_append_right _ hx
    exact ⟨p, q, WideElems.Trod_stays laidOutT (ht t (by simp)).1 (ht t (by simp)).2 h1 (fun x hx => hb.same (hlt x (hp x hx))) (fun x hx => hsp x (hp x hx)),
      trodAll_stays hb (fun u hu => ht u (by simp [hu])) h2 (fun x hx => hlt x (hq x hx)) (fun x hx => hsp x (hq x hx)), e⟩
theorem post_law {H : Type} {enc : TypeId × Value → H} {f : Func} {s : ChangeSpec} {W W' : World} {args : Array Value} {ds gs : List (DataW H)} {before : List MemPlace}
    (hW : DataW.Whole enc Tryz.prog f.params.toList s.vars false W args.toList ds gs before) (hv : s.vars = []) (hr : f.resultTypes = #[4])
    (ht : ∀ t ∈ f.params.toList, Tryz.prog.readableRec t = true ∧ t < Tryz.prog.types.size)
    (hres : (s.fn H (ds ++ gs)).results = [.lit (.bool true)]) (hargs : (s.fn H (ds ++ gs)).args = ds) (hvs : (s.fn H (ds ++ gs)).vars = [])
    (hb : Below W.heap.size W W') : s.post enc Tryz.prog f false true false false W args (.bool true) W' := by
  have hlt := hW.lt
  have hW0 := hW
  obtain ⟨p, q, h1, h2, e, hz, hn⟩ := hW
  have h2' := h2
  rw [hv] at h2'
  have hq : gs = [] ∧ q = [] := by
    cases gs with
    | nil => exact ⟨rfl, h2'⟩
    | cons g r => exact absurd h2' (by intro h; cases h)
  obtain ⟨rfl, rfl⟩ := hq
  rw [List.append_nil] at e
  subst e
  refine ⟨ds, [], before, [], before, [], hW0, ?_, ?_, ?_, Below.frame hb _, fun h => by cases h⟩
  · rw [hr, hres]; exact trodAll_mk1 (shut_bool Tryz.underlying4 true)
  · rw [hargs]
    exact trodAll_stays hb ht h1 hlt (fun x hx => by simpa using hlt x hx)
  · rw [hv, hvs]; rfl
section
variable {W : World}
theorem opens_i : Opens Tryz.prog W 3 (fun z : Int => [iv z]) := opens_int Tryz.underlying3
theorem opens_site : Opens Tryz.prog W 121 siteF := (opens_st Tryz.underlying121 (by kernel_rfl) (ofs_cons (s := 1) (by kernel_rfl) rfl opens_i (ofs_cons (s := 1) (by kernel_rfl) rfl opens_i (ofs_cons (s := 1) (by kernel_rfl) rfl opens_i (ofs_cons (s := 1) (by kernel_rfl) rfl opens_i (ofs_cons (s := 1) (by kernel_rfl) rfl opens_i (ofs_nil))))))).map (fun p => ⟨p.1, p.2.1, p.2.2.1, p.2.2.2.1, p.2.2.2.2.1⟩) fun _ => rfl
theorem opens_sites : Opens Tryz.prog W 22 (fun l : List Site => [.sl l.length (sitesF l)]) := opens_sl (s := 5) Tryz.underlying22 (by kernel_rfl) (by decide) opens_site
theorem opens_arr : Opens Tryz.prog W 24 (fun l : List Site => [.sl l.length (sitesF l)]) := (opens_st Tryz.underlying24 (by kernel_rfl) (ofs_cons (s := 1) (by kernel_rfl) rfl opens_sites (ofs_nil))).map (fun p => p.1) fun _ => rfl
theorem opens_hit : Opens Tryz.prog W 29 hitF := (opens_st Tryz.underlying29 (by kernel_rfl) (ofs_cons (s := 1) (by kernel_rfl) rfl opens_i (ofs_cons (s := 1) (by kernel_rfl) rfl opens_i (ofs_cons (s := 1) (by kernel_rfl) rfl opens_i (ofs_nil))))).map (fun p => ⟨p.1, p.2.1, p.2.2.1⟩) fun _ => rfl
theorem opens_hits : Opens Tryz.prog W 27 (fun l : List Hit => [.sl l.length (hitsF l)]) := opens_sl (s := 3) Tryz.underlying27 (by kernel_rfl) (by decide) opens_hit
theorem opens_rule : Opens Tryz.prog W 26 ruleF := (opens_st Tryz.underlying26 (by kernel_rfl) (ofs_cons (s := 1) (by kernel_rfl) rfl opens_i (ofs_cons (s := 1) (by kernel_rfl) rfl opens_i (ofs_cons (s := 1) (by kernel_rfl) rfl opens_i (ofs_cons (s := 1) (by kernel_rfl) rfl opens_i (ofs_cons (s := 1) (by kernel_rfl) rfl opens_i (ofs_nil))))))).map (fun p => ⟨p.1, p.2.1, p.2.2.1, p.2.2.2.1, p.2.2.2.2.1⟩) fun _ => rfl
end
set_option maxRecDepth 100000 in
theorem arg_st {H : Type} {enc : TypeId × Value → H} {W : World} {base : Nat} {T : TypeId} {fs : Array Field} {α : Type} {f : α → List FV} {v : Value} {d : DataW H} {ps : List MemPlace} (h : Opens Tryz.prog W T f) (ht : Tryz.prog.underlying T = some (.struct fs)) (hv : Value.okWide Tryz.prog W .any base T v) (hd : DataW.Trod enc Tryz.prog W 0 (fun _ => true) true T v d ps) : ∃ a, RepF W (fun _ => False) v (.agg (f a)) := by
  obtain ⟨cs, e, _⟩ := okWide_struct ht hv
  exact arg_agg h e hd
set_option maxRecDepth 100000 in
theorem arg_sl {H : Type} {enc : TypeId × Value → H} {W : World} {base : Nat} {T E : TypeId} {α : Type} {f : α → FV} {v : Value} {d : DataW H} {ps : List MemPlace} (h : Opens Tryz.prog W T (fun a => [f a])) (ht : Tryz.prog.underlying T = some (.slice E)) (hv : Value.okWide Tryz.prog W .any base T v) (hd : DataW.Trod enc Tryz.prog W 0 (fun _ => true) true T v d ps) : ∃ a, RepF W (fun _ => False) v (f a) := by
  obtain ⟨a, n, c, rfl⟩ := okWide_slice ht hv
  exact arg_one h rfl hd
theorem law_calls {f : Nat} {xs : List FV} (S : Summ Tryz.prog GG f xs (.v (.bool true))) {W : World} {args : Array Value} (R : RepL W (fun _ => False) args.toList xs) : Calls Tryz.prog f args W fun e W' => e = .returned (.bool true) ∧ Below W.heap.size W W' := by
  have := S.call W (fun _ => False) args.toList (fun _ h => h.elim) (fun g cs h => by cases h) R
  simp only [Array.toArray_toList] at this
  refine this.mono fun e w' ⟨v, h1, h2, h3⟩ => ⟨?_, h3⟩
  rw [h1, repV h2]
end Go.Proofs.YtdmdpkoapllkkaaGreat
