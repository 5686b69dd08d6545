/- Laws on which the proofs of this seat stand. No condition. -/
import Derived.Test.YtdmdpkoapllkkaaGreatOrd3
import Derived.Shelf.SlSortCmp.WholeK
import Derived.Shelf.SlSortCmp.NoneTotal
import Derived.Shelf.Spec.SlicesGrow
namespace Go.Ab
open Go Go.RowKit Go.Shelf Go.Proofs Go.Sort
theorem fk_get {α : Type} {β : Type} {enc : α → List β} {k : Nat} (hk : ∀ x, (enc x).length = k) (h0 : 0 < k) : ∀ (d : List α) (t : Nat), (d.flatMap enc)[t]? = (d[t / k]?).bind fun x => (enc x)[t % k]?
  | [], t => by simp
  | x :: d, t => by
    rw [List.flatMap_cons]
    by_cases h : t < k
    · rw [List.getElem?_append_left (by rw [hk]; exact h), Nat.div_eq_of_lt h, Nat.mod_eq_of_lt h]; simp
    · rw [List.getElem?_append_right (by rw [hk]; omega), hk, fk_get hk h0 d (t - k), Nat.div_eq_sub_div h0 (Nat.le_of_not_lt h), Nat.mod_eq_sub_mod (Nat.le_of_not_lt h)]; simp
theorem fk_len {α : Type} {β : Type} {enc : α → List β} {k : Nat} (hk : ∀ x, (enc x).length = k) : ∀ (d : List α), (d.flatMap enc).length = d.length * k
  | [] => by simp
  | x :: d => by rw [List.flatMap_cons, List.length_append, hk, fk_len hk d, List.length_cons, Nat.add_mul]; omega
section
variable {α : Type} [Inhabited α] {enc : α → List Value} {k : Nat}
theorem flatK_list (hk : ∀ x, (enc x).length = k) (h0 : 0 < k) (d : List α) : (flatK enc k d.toArray).toList = d.flatMap enc := by
  apply List.ext_getElem?
  intro t
  rw [fk_get hk h0]
  by_cases h : t < d.length * k
  · have hd : t / k < d.length := Nat.div_lt_of_lt_mul (by rw [Nat.mul_comm]; exact h)
    have hm : t % k < (enc d[t / k]).length := by rw [hk]; exact Nat.mod_lt _ h0
    have := get_flatK enc k d.toArray t (by simpa using h)
    rw [getElem!_pos _ _ (by simpa using h)] at this
    rw [Array.getElem?_toList, Array.getElem?_eq_getElem (by simpa using h), this, List.getElem?_eq_getElem hd]
    simp [hd, List.getElem?_eq_getElem hm, List.getElem!_eq_getElem?_getD]
  · rw [Array.getElem?_toList, Array.getElem?_eq_none (by simpa using h), List.getElem?_eq_none (by
      have : d.length ≤ t / k := (Nat.le_div_iff_mul_le h0).2 (by omega)
      exact this)]
    rfl
def sortL (cf : α → α → Int) (d : List α) : List α := (pdq (ltOf cf) d.toArray 0 d.length (Lib.bitLen d.length) true true).toList
theorem sortL_spec {cf : α → α → Int} (hO : SWO (ltOf cf)) (d : List α) : PermIn 0 d.length d.toArray (sortL cf d).toArray ∧ SortedIn (ltOf cf) 0 d.length (sortL cf d).toArray := by
  have h := pdq_sorts (ltOf cf) hO d.toArray 0 d.length (Lib.bitLen d.length) true true (Nat.zero_le _) (by simp) (Or.inl rfl)
  unfold sortL
  exact ⟨by simpa using h.1, by simpa using h.2⟩
theorem sortL_len {cf : α → α → Int} (hO : SWO (ltOf cf)) (d : List α) : (sortL cf d).length = d.length := by
  have := (sortL_spec hO d).1.1
  simpa using this
theorem sortL_nil {cf : α → α → Int} (hO : SWO (ltOf cf)) : sortL cf ([] : List α) = [] := List.eq_nil_of_length_eq_zero (sortL_len hO [])
theorem sortL_perm {cf : α → α → Int} (hO : SWO (ltOf cf)) (d : List α) : (sortL cf d).Perm d := by
  obtain ⟨h1, _, h2⟩ := (sortL_spec hO d).1
  have e1 : (sortL cf d).toArray.extract 0 d.length = (sortL cf d).toArray := by
    have : d.length = (sortL cf d).toArray.size := by rw [h1]; simp
    rw [this]; exact Array.extract_size
  have e2 : d.toArray.extract 0 d.length = d.toArray := by
    have : d.length = d.toArray.size := by simp
    rw [this]; exact Array.extract_size
  rw [e1, e2] at h2
  simpa using h2
theorem sortL_pw {cf : α → α → Int} (hO : SWO (ltOf cf)) (d : List α) : (sortL cf d).Pairwise fun x y => ¬ cf y x < 0 := by
  have hs := (sortL_spec hO d).2
  have hl := sortL_len hO d
  rw [List.pairwise_iff_getElem]
  intro i j hi hj hij
  have := hs i j (Nat.zero_le _) hij (by omega)
  rw [getElem!_pos _ j (by simpa using hj), getElem!_pos _ i (by simpa using hi)] at this
  simpa [ltOf] using this
theorem repL_v {w : World} {M : Nat → Prop} {xs vs : List Value} (h : RepL w M xs (vs.map FV.v)) : xs = vs := by
  apply List.ext_getElem?
  intro i
  by_cases hi : i < xs.length
  · have hv : i < vs.length := by have := h.1; simp at this; omega
    have hr := h.2 i xs[i] (.v vs[i]) (List.getElem?_eq_getElem hi) (by simp [hv])
    rw [List.getElem?_eq_getElem hi, List.getElem?_eq_getElem hv]
    generalize xs[i] = a at hr ⊢
    generalize vs[i] = b at hr ⊢
    cases hr
    rfl
  · have := h.1; simp at this
    rw [List.getElem?_eq_none (by omega), List.getElem?_eq_none (by omega)]
theorem repL_ofA {C : Ctx} {w : World} {h : Nat → Option Blk} {J : Nat → Value} {xs : List Value} {cs : List FV} (q : xs.length = (cs.map AV.f).length ∧ ∀ (k : Nat) (u : Value) (x : AV), xs[k]? = some u → (cs.map AV.f)[k]? = some x → RepA C w h J u x) : RepL w (Mb C h J) xs cs :=
  ⟨by simpa using q.1, fun k u x h1 h2 => q.2 k u (.f x) h1 (by simp [h2])⟩
theorem repA_ofL {C : Ctx} {w : World} {h : Nat → Option Blk} {J : Nat → Value} {xs : List Value} {cs : List FV} (q : RepL w (Mb C h J) xs cs) : xs.length = (cs.map AV.f).length ∧ ∀ (k : Nat) (u : Value) (x : AV), xs[k]? = some u → (cs.map AV.f)[k]? = some x → RepA C w h J u x :=
  ⟨by simpa using q.1, fun k u x h1 h2 => by
    rw [List.getElem?_map] at h2
    cases hk : cs[k]? with
    | none => simp [hk] at h2
    | some y => simp [hk] at h2; subst h2; exact q.2 k u y h1 hk⟩
theorem arr_ren (σ : Nat → Nat) (e sz n : Nat) (cs : List FV) : (Blk.arr e sz n (cs.map .f)).ren σ = .arr e sz n (cs.map .f) := by
  show Blk.arr e sz n ((cs.map .f).map (AV.ren σ)) = _
  rw [List.map_map]; rfl
theorem repL_of {w : World} {M : Nat → Prop} (vs : List Value) : RepL w M vs (vs.map FV.v) := ⟨by simp, fun i u x h1 h2 => by
  rw [List.getElem?_map, h1] at h2; cases h2; exact .v u⟩
theorem sortG {P : Program} {G : Nat → Option (List FV)} {ρ : Ren} (L : SlLaysF0.n6 P ρ) (aE : ∀ w, (isAgg (ρ.t 24)).run P w = .ok true w) (zE : ∀ w, (Go.sizeOf (ρ.t 24)).run P w = .ok k w) (hk : ∀ x, (enc x).length = k) (h0 : 0 < k) (h1 : ∀ x, ∀ v ∈ enc x, v.oneCell' = true) (cf : α → α → Int) (hO : SWO (ltOf cf)) (g : Nat)
    (eg : ∀ args w, (callFunc g args).run P w = .ok (.enter g args) w) (hcmp : ∀ (x y : α) (W : World), Calls P g #[.agg (enc x).toArray, .agg (enc y).toArray] W fun e w' => e = .returned (.int .i64 (cf x y)) ∧ ∃ q os', w' = grow (W.drewN q) os')
    (hnone : ∀ (p : Option Addr) (cap : Nat) (fv : Value) (w : World), Calls P (ρ.f 6) #[.slice p 0 cap, fv] w fun e w' => e = .returned (.tuple #[]) ∧ w' = w) (hent : Enters P (ρ.f 6)) (d : List α) (hd : d.length < 4611686018427387904) (T : TypeId) {n : Nat} (hn : n = d.length) {cs cs' : List FV} (hcs : (d.flatMap enc).map FV.v = cs) (hcs' : ((sortL cf d).flatMap enc).map FV.v = cs') :
    SummG P G (ρ.f 6) [.arr T k n (cs.map .f)] [.ow 0, .f (.fn g [])] (.f (.tup [])) [.arr T k n (cs'.map .f)] := by
  subst hn; subst hcs; subst hcs'
  refine ⟨hent, Nat.le_refl _, fun i B B' h1 h2 => by
    rcases i with _ | i
    · cases h1; cases h2; rfl
    · simp at h1, fun w M X us J hX hM hG hA hL => ?_⟩
  obtain ⟨v0, v1, rfl⟩ : ∃ v0 v1, us = [v0, v1] := by
    obtain ⟨e, _⟩ := hA
    match us, e with
    | [a, b], _ => exact ⟨a, b, rfl⟩
  obtain ⟨-, hv0⟩ : _ ∧ v0 = J 0 := hA.2 0 v0 (.ow 0) rfl rfl
  have hv1 : RepF w _ v1 (.fn g []) := hA.2 1 v1 (.f (.fn g [])) rfl rfl
  obtain rfl : v1 = .func (.func g) #[] #[] := by
    cases hv1 with
    | fn _ _ us h1 _ => cases us with
      | nil => rfl
      | cons => cases h1
  subst hv0
  obtain ⟨xs, hrow, hbk, hone, hrep⟩ := hL.blk 0 _ rfl
  have exs := repL_v (repL_ofA hrep)
  subst exs
  have hlen := sortL_len hO d
  obtain ⟨-, ⟨ev, en⟩ | ⟨b, cap, cur, ev, -, hb, hcap, hmax, hsz, htk⟩⟩ := hrow
  · have ed : d = [] := List.eq_nil_of_length_eq_zero en
    rw [ev]
    refine (hnone none 0 (.func (.func g) #[] #[]) w).mono ?_
    rintro e w' ⟨rfl, rfl⟩
    refine ⟨_, J, rfl, RepF.tup [] [] rfl (fun k u x h => by simp at h), ⟨fun i B hB => ?_, fun i j _ hi hj _ _ => by simp at hi hj; omega⟩, Grew.refl _ _, fun i B hB hs => rfl⟩
    rcases i with _ | i
    · cases hB
      have hr : w'.ownsRow 0 T k (J 0) d.length [] := ⟨by rw [ed]; simp, .inl ⟨ev, en⟩⟩
      have hl : RepL w' (Mb (cxG P G M X [Blk.arr T k d.length (List.map AV.f (List.map FV.v (List.flatMap enc d)))] J) (blkL [Blk.arr T k d.length (List.map AV.f (List.map FV.v (List.flatMap enc (sortL cf d))))]) J) [] (List.map FV.v (List.flatMap enc (sortL cf d))) := by
        have e0 : sortL cf d = [] := by rw [ed]; exact sortL_nil hO
        rw [e0]; exact RepL.nil _ _
      exact ⟨[], hr, hbk, (fun u hu => by simp at hu), repA_ofL hl⟩
    · cases hB
  · have hXb : X b := (hX b).2 ⟨0, by simp, by rw [ev]; rfl⟩
    have hbw : b < w.heap.size := (Array.getElem?_eq_some_iff.1 hb).1
    have hfl := flatK_list hk h0 d
    have hH : HoldsK enc k w b 0 d.toArray := by
      intro j hj
      have hj' : j < d.length * k := by simpa using hj
      have hc : cur[j]? = some ((flatK enc k d.toArray)[j]!) := by
        have h2 : (cur.toList.take (d.length * k))[j]? = (flatK enc k d.toArray).toList[j]? := by rw [htk, hfl]
        rw [List.getElem?_take, if_pos hj'] at h2
        rw [← Array.getElem?_toList, h2, Array.getElem?_toList, Array.getElem?_eq_getElem (by simpa using hj'), getElem!_pos _ _ (by simpa using hj')]
      refine ⟨?_, ?_⟩
      · unfold World.cell?
        simp only [hb]
        simpa using hc
      · unfold World.frozen?
        simp only [hb]
        simp
    have hS := AnyQ.slices_SortFunc_eq L k aE zE enc hk h1 cf hO g #[] b 0 cap d.toArray w eg (fun m os dk _ x y => by simpa using hcmp x y _) hH hbw (by simpa using hd)
    rw [ev]
    have e0 : d.toArray.size = d.length := by simp
    rw [e0] at hS
    refine hS.mono ?_
    rintro e w' ⟨rfl, m, os, rfl⟩
    obtain ⟨F, hF⟩ : ∃ F, F = flatK enc k (sortL cf d).toArray := ⟨_, rfl⟩
    have hFl : F.toList = (sortL cf d).flatMap enc := by rw [hF]; exact flatK_list hk h0 _
    have hFs : F.size = d.length * k := by rw [hF]; simp [hlen]
    have hw : sortWorldK enc k w b 0 m (pdq (ltOf cf) d.toArray 0 d.length (Lib.bitLen d.length) true true) os = grow (putRow id (Sort.ahead w m) b 0 F) os := by rw [hF]; unfold sortWorldK putRowK sortL; rfl
    rw [hw]
    have hsize : (putRow id (Sort.ahead w m) b 0 F).heap.size = w.heap.size := by simp [putRow, mapBlock, Sort.ahead]
    have hat : ∀ i, i < w.heap.size → (grow (putRow id (Sort.ahead w m) b 0 F) os).heap[i]? = if b = i then (w.heap[i]?).map (onCells (putCells id 0 F)) else w.heap[i]? := fun i hi => by
      show ((putRow id (Sort.ahead w m) b 0 F).heap ++ os)[i]? = _
      rw [Array.getElem?_append_left (by rw [hsize]; exact hi)]
      simp only [putRow, mapBlock, Sort.ahead, Array.getElem?_modify]
    have hpc : (putCells id 0 F cur).toList.take (d.length * k) = (sortL cf d).flatMap enc := by
      rw [← hFl]
      apply List.ext_getElem?
      intro j
      rw [List.getElem?_take]
      by_cases hj : j < d.length * k
      · rw [if_pos hj, Array.getElem?_toList, Array.getElem?_toList, putCells, Array.getElem?_mapIdx]
        have hcu : j < cur.size := by rw [hsz]; exact Nat.lt_of_lt_of_le hj (Nat.mul_le_mul_right _ hcap)
        rw [Array.getElem?_eq_getElem hcu, Array.getElem?_eq_getElem (by rw [hFs]; exact hj)]
        simp [hFs, hj]
      · rw [if_neg hj, Array.getElem?_toList, Array.getElem?_eq_none (by omega)]
    have hnew : (grow (putRow id (Sort.ahead w m) b 0 F) os).heap[b]? = some (.cells (putCells id 0 F cur) T (0, 0)) := by
      rw [hat b hbw, if_pos rfl, hb]; rfl
    refine ⟨_, J, rfl, RepF.tup [] [] rfl (fun k u x h => by simp at h), ⟨fun i B hB => ?_, fun i j _ hi hj _ _ => by simp at hi hj; omega⟩, ⟨rfl, rfl, rfl, ?_, fun i hi hx => ?_⟩, fun i B hB hs => rfl⟩
    · rcases i with _ | i
      · cases hB
        refine ⟨(sortL cf d).flatMap enc, ⟨by rw [fk_len hk, hlen], .inr ⟨b, cap, putCells id 0 F cur, ev, Nat.zero_le _, hnew, hcap, hmax, by simp [putCells, hsz], hpc⟩⟩, hbk, fun u hu => ?_, repA_ofL (repL_of _)⟩
        obtain ⟨x, _, hx⟩ := List.mem_flatMap.1 hu
        exact h1 x u hx
      · cases hB
    · show _ ≤ ((putRow id (Sort.ahead w m) b 0 F).heap ++ os).size
      rw [Array.size_append, hsize]; omega
    · rw [hat i hi, if_neg (fun (e : b = i) => hx (e ▸ hXb))]
end
end Go.Ab
namespace Go.Proofs.YtdmdpkoapllkkaaGreat
open Go.Proofs Go.Shelf
def sortR_ren : Go.Shelf.Ren := ⟨fun | 6 => 161 | 15 => 155 | 14 => 178 | 28 => 173 | 29 => 174 | 20 => 184 | 21 => 185 | 22 => 186 | 23 => 187 | 24 => 188 | 25 => 189 | 26 => 190 | 27 => 191 | 46 => 193 | 47 => 180 | 48 => 181 | 49 => 194 | 50 => 195 | 57 => 196 | n => n, fun | 22 => 107 | 24 => 65 | 25 => 181 | 3 => 3 | 39 => 199 | 0 => 0 | 53 => 215 | 55 => 217 | 4 => 4 | 46 => 209 | 45 => 208 | 50 => 168 | 5 => 5 | 9 => 9 | 66 => 221 | 70 => 225 | 76 => 232 | 77 => 73 | n => n, fun | n => n⟩
theorem sortR : Go.Proofs.SlLaysF0.n6 Tryz.prog sortR_ren := {
  mixed := by kernel_rfl
  f6 := ⟨Tryz.f161.name, by decide, Tryz.func161.trans (congrArg some (by kernel_rfl))⟩
  f14 := ⟨Tryz.f178.name, by decide, Tryz.func178.trans (congrArg some (by kernel_rfl))⟩
  f15 := Tryz.func155.trans (congrArg some (by kernel_rfl))
  f20 := ⟨Tryz.f184.name, by decide, Tryz.func184.trans (congrArg some (by kernel_rfl))⟩
  f21 := ⟨Tryz.f185.name, by decide, Tryz.func185.trans (congrArg some (by kernel_rfl))⟩
  f22 := ⟨Tryz.f186.name, by decide, Tryz.func186.trans (congrArg some (by kernel_rfl))⟩
  f23 := ⟨Tryz.f187.name, by decide, Tryz.func187.trans (congrArg some (by kernel_rfl))⟩
  f24 := ⟨Tryz.f188.name, by decide, Tryz.func188.trans (congrArg some (by kernel_rfl))⟩
  f25 := ⟨Tryz.f189.name, by decide, Tryz.func189.trans (congrArg some (by kernel_rfl))⟩
  f26 := ⟨Tryz.f190.name, by decide, Tryz.func190.trans (congrArg some (by kernel_rfl))⟩
  f27 := ⟨Tryz.f191.name, by decide, Tryz.func191.trans (congrArg some (by kernel_rfl))⟩
  f28 := Tryz.func173.trans (congrArg some (by kernel_rfl))
  f29 := Tryz.func174.trans (congrArg some (by kernel_rfl))
  f46 := ⟨Tryz.f193.name, by decide, Tryz.func193.trans (congrArg some (by kernel_rfl))⟩
  f47 := Tryz.func180.trans (congrArg some (by kernel_rfl))
  f48 := Tryz.func181.trans (congrArg some (by kernel_rfl))
  f49 := ⟨Tryz.f194.name, by decide, Tryz.func194.trans (congrArg some (by kernel_rfl))⟩
  f50 := ⟨Tryz.f195.name, by decide, Tryz.func195.trans (congrArg some (by kernel_rfl))⟩
  f57 := ⟨Tryz.f196.name, by decide, Tryz.func196.trans (congrArg some (by kernel_rfl))⟩
  t0 := Tryz.underlying0
  a0 := Tryz.isAgg0
  z0 := Tryz.sizeOf0
  v0 := Tryz.zeroValue0
  t3 := Tryz.underlying3
  a3 := Tryz.isAgg3
  z3 := Tryz.sizeOf3
  v3 := Tryz.zeroValue3
  t4 := Tryz.underlying4
  a4 := Tryz.isAgg4
  z4 := Tryz.sizeOf4
  v4 := Tryz.zeroValue4
  t5 := Tryz.underlying5
  a5 := Tryz.isAgg5
  z5 := Tryz.sizeOf5
  v5 := Tryz.zeroValue5
  t9 := Tryz.underlying9
  a9 := Tryz.isAgg9
  z9 := Tryz.sizeOf9
  v9 := Tryz.zeroValue9
  t22 := Tryz.underlying107
  a22 := Tryz.isAgg107
  z22 := Tryz.sizeOf107
  v22 := Tryz.zeroValue107
  t25 := Tryz.underlying181
  a25 := Tryz.isAgg181
  z25 := Tryz.sizeOf181
  v25 := Tryz.zeroValue181
  t39 := Tryz.underlying199
  a39 := Tryz.isAgg199
  z39 := Tryz.sizeOf199
  v39 := Tryz.zeroValue199
  t45 := Tryz.underlying208
  a45 := Tryz.isAgg208
  z45 := Tryz.sizeOf208
  v45 := Tryz.zeroValue208
  t46 := Tryz.underlying209
  a46 := Tryz.isAgg209
  z46 := Tryz.sizeOf209
  v46 := Tryz.zeroValue209
  t50 := Tryz.underlying168
  a50 := Tryz.isAgg168
  z50 := Tryz.sizeOf168
  v50 := Tryz.zeroValue168
  t53 := Tryz.underlying215
  a53 := Tryz.isAgg215
  z53 := Tryz.sizeOf215
  v53 := Tryz.zeroValue215
  t55 := Tryz.underlying217
  a55 := Tryz.isAgg217
  z55 := Tryz.sizeOf217
  v55 := Tryz.zeroValue217
  t66 := Tryz.underlying221
  a66 := Tryz.isAgg221
  z66 := Tryz.sizeOf221
  v66 := Tryz.zeroValue221
  t70 := Tryz.underlying225
  a70 := Tryz.isAgg225
  z70 := Tryz.sizeOf225
  v70 := Tryz.zeroValue225
  t76 := Tryz.underlying232
  a76 := Tryz.isAgg232
  z76 := Tryz.sizeOf232
  v76 := Tryz.zeroValue232
  t77 := Tryz.underlying73
  a77 := Tryz.isAgg73
  z77 := Tryz.sizeOf73
  v77 := Tryz.zeroValue73 }
def sortH_ren : Go.Shelf.Ren := ⟨fun | 6 => 121 | 15 => 155 | 14 => 154 | 28 => 173 | 29 => 174 | 20 => 165 | 21 => 166 | 22 => 167 | 23 => 168 | 24 => 169 | 25 => 170 | 26 => 171 | 27 => 172 | 46 => 179 | 47 => 180 | 48 => 181 | 49 => 182 | 50 => 183 | 57 => 192 | n => n, fun | 22 => 27 | 24 => 29 | 25 => 171 | 3 => 3 | 39 => 199 | 0 => 0 | 53 => 215 | 55 => 217 | 4 => 4 | 46 => 209 | 45 => 208 | 50 => 168 | 5 => 5 | 9 => 9 | 66 => 221 | 70 => 225 | 76 => 232 | 77 => 73 | n => n, fun | n => n⟩
theorem sortH : Go.Proofs.SlLaysF0.n6 Tryz.prog sortH_ren := {
  mixed := by kernel_rfl
  f6 := ⟨Tryz.f121.name, by decide, Tryz.func121.trans (congrArg some (by kernel_rfl))⟩
  f14 := ⟨Tryz.f154.name, by decide, Tryz.func154.trans (congrArg some (by kernel_rfl))⟩
  f15 := Tryz.func155.trans (congrArg some (by kernel_rfl))
  f20 := ⟨Tryz.f165.name, by decide, Tryz.func165.trans (congrArg some (by kernel_rfl))⟩
  f21 := ⟨Tryz.f166.name, by decide, Tryz.func166.trans (congrArg some (by kernel_rfl))⟩
  f22 := ⟨Tryz.f167.name, by decide, Tryz.func167.trans (congrArg some (by kernel_rfl))⟩
  f23 := ⟨Tryz.f168.name, by decide, Tryz.func168.trans (congrArg some (by kernel_rfl))⟩
  f24 := ⟨Tryz.f169.name, by decide, Tryz.func169.trans (congrArg some (by kernel_rfl))⟩
  f25 := ⟨Tryz.f170.name, by decide, Tryz.func170.trans (congrArg some (by kernel_rfl))⟩
  f26 := ⟨Tryz.f171.name, by decide, Tryz.func171.trans (congrArg some (by kernel_rfl))⟩
  f27 := ⟨Tryz.f172.name, by decide, Tryz.func172.trans (congrArg some (by kernel_rfl))⟩
  f28 := Tryz.func173.trans (congrArg some (by kernel_rfl))
  f29 := Tryz.func174.trans (congrArg some (by kernel_rfl))
  f46 := ⟨Tryz.f179.name, by decide, Tryz.func179.trans (congrArg some (by kernel_rfl))⟩
  f47 := Tryz.func180.trans (congrArg some (by kernel_rfl))
  f48 := Tryz.func181.trans (congrArg some (by kernel_rfl))
  f49 := ⟨Tryz.f182.name, by decide, Tryz.func182.trans (congrArg some (by kernel_rfl))⟩
  f50 := ⟨Tryz.f183.name, by decide, Tryz.func183.trans (congrArg some (by kernel_rfl))⟩
  f57 := ⟨Tryz.f192.name, by decide, Tryz.func192.trans (congrArg some (by kernel_rfl))⟩
  t0 := Tryz.underlying0
  a0 := Tryz.isAgg0
  z0 := Tryz.sizeOf0
  v0 := Tryz.zeroValue0
  t3 := Tryz.underlying3
  a3 := Tryz.isAgg3
  z3 := Tryz.sizeOf3
  v3 := Tryz.zeroValue3
  t4 := Tryz.underlying4
  a4 := Tryz.isAgg4
  z4 := Tryz.sizeOf4
  v4 := Tryz.zeroValue4
  t5 := Tryz.underlying5
  a5 := Tryz.isAgg5
  z5 := Tryz.sizeOf5
  v5 := Tryz.zeroValue5
  t9 := Tryz.underlying9
  a9 := Tryz.isAgg9
  z9 := Tryz.sizeOf9
  v9 := Tryz.zeroValue9
  t22 := Tryz.underlying27
  a22 := Tryz.isAgg27
  z22 := Tryz.sizeOf27
  v22 := Tryz.zeroValue27
  t25 := Tryz.underlying171
  a25 := Tryz.isAgg171
  z25 := Tryz.sizeOf171
  v25 := Tryz.zeroValue171
  t39 := Tryz.underlying199
  a39 := Tryz.isAgg199
  z39 := Tryz.sizeOf199
  v39 := Tryz.zeroValue199
  t45 := Tryz.underlying208
  a45 := Tryz.isAgg208
  z45 := Tryz.sizeOf208
  v45 := Tryz.zeroValue208
  t46 := Tryz.underlying209
  a46 := Tryz.isAgg209
  z46 := Tryz.sizeOf209
  v46 := Tryz.zeroValue209
  t50 := Tryz.underlying168
  a50 := Tryz.isAgg168
  z50 := Tryz.sizeOf168
  v50 := Tryz.zeroValue168
  t53 := Tryz.underlying215
  a53 := Tryz.isAgg215
  z53 := Tryz.sizeOf215
  v53 := Tryz.zeroValue215
  t55 := Tryz.underlying217
  a55 := Tryz.isAgg217
  z55 := Tryz.sizeOf217
  v55 := Tryz.zeroValue217
  t66 := Tryz.underlying221
  a66 := Tryz.isAgg221
  z66 := Tryz.sizeOf221
  v66 := Tryz.zeroValue221
  t70 := Tryz.underlying225
  a70 := Tryz.isAgg225
  z70 := Tryz.sizeOf225
  v70 := Tryz.zeroValue225
  t76 := Tryz.underlying232
  a76 := Tryz.isAgg232
  z76 := Tryz.sizeOf232
  v76 := Tryz.zeroValue232
  t77 := Tryz.underlying73
  a77 := Tryz.isAgg73
  z77 := Tryz.sizeOf73
  v77 := Tryz.zeroValue73 }
end Go.Proofs.YtdmdpkoapllkkaaGreat
namespace Go.Proofs.YtdmdpkoapllkkaaGreat
open Go Go.RowKit Go.Proofs Go.Shelf Go.Ab Go.Sort
attribute [local go_sem] Oper.semAt_some
def encRng (r : Rng) : Array Value := #[.agg #[.int .i64 r.lo, .int .i64 r.hi]]
structure ValRd (Bx ox : Nat) (la : Option Addr) (lc : Nat) (L : List Rng) (w : World) : Prop where
  c0 : w.cell? ⟨Bx, ox, none⟩ = some (.slice la L.length lc)
  at_ : ∀ (j : Nat) (hj : j < L.length), ∃ b o, la = some ⟨b, o, none⟩ ∧ w.cell? ⟨b, o + j * 2, none⟩ = some (.int .i64 L[j].lo) ∧ w.cell? ⟨b, o + j * 2 + 1, none⟩ = some (.int .i64 L[j].hi)
set_option maxRecDepth 100000 in
set_option maxHeartbeats 2000000 in
theorem values_seqR (Bx ox : Nat) (la : Option Addr) (lc : Nat) (L : List Rng) (h60 : L.length < 1000000) : SeqL Tryz.prog 162 #[.pointer (some ⟨Bx, ox, none⟩)] encRng L (ValRd Bx ox la lc L) := by
  intro l J Jx W hJ hJx hRd hY h0
  have HJ := Lib.hid hJ
  have HY := Lib.hid hY
  have HRD := Lib.hid hRd
  have H0 := Lib.hid h0
  have c0 := (hRd 0 W h0).c0
  clear hJ hJx hY hRd h0
  refine callsIn_of_wp Tryz.func162 rfl trivial ?_ rfl
  simp only [Tryz.ntmps162, List.size_toArray, List.length_cons, List.length_nil, Nat.reduceAdd, Nat.reduceSub, Array.replicate_succ, Array.replicate_zero, List.push_toArray, List.append_toArray, List.nil_append, List.cons_append]
  gi_wp2
  clear c0
  gi_loopw [7] (fun i wr => ∃ k : Nat, k ≤ L.length ∧ i = .int .i64 k ∧ Hid (J k wr)) (fun i _ => L.length - (intOf i).toNat)
  case atStart => exact ⟨0, Nat.zero_le _, rfl, H0⟩
  case round =>
    obtain ⟨k, hk, rfl, Hj⟩ := hrel
    by_cases hlt : k < L.length
    · obtain ⟨b, o, rfl, e0, e1⟩ := (HRD.out _ wr Hj.out).at_ k hlt
      have Hj2 : Hid (J k (wr.alloc (.cells #[.int .i64 L[k].lo, .int .i64 L[k].hi] 65))) := Lib.hid (HJ.out _ _ _ (Ext.alloc _ _) Hj.out)
      have HYk := HY.out _ hlt _ Hj2.out
      rw [encRng] at HYk
      obtain ⟨fn, tmps, assign, body, hy, hR⟩ := HYk
      replace hR := Lib.hid hR
      gi_wp2
      refine hR.out.mono ?_
      rintro e W' (⟨rfl, hJ'⟩ | ⟨rfl, hJx'⟩)
      · have Hj3 := Lib.hid hJ'
        clear hJ' hy
        gi_wp2
        go_roundw
        case rel => exact ⟨k + 1, by omega, by go_num, Hj3⟩
        case measure => simp [intOf]; omega
      · have Hx3 := Lib.hid hJx'
        clear hJx' hy
        gi_wp2
        refine bodyPost_ret (results_none rfl _ _ _) rfl ?_
        exact ⟨⟨_, rfl⟩, .inr ⟨_, hlt, Hx3.out⟩⟩
    · have HE : Hid (J L.length wr) := Lib.hid (by have := Hj.out; rwa [show k = L.length by omega] at this)
      gi_wp2
      refine bodyPost_end (results_none rfl _ _ _) rfl ?_
      exact ⟨⟨_, rfl⟩, .inl HE.out⟩
theorem lies_cell {w : World} {M : Nat → Prop} {b off k : Nat} {us : List Value} {v : Value} (h : Lies w M b off us) (hv : us[k]? = some v) : w.cell? ⟨b, off + k, none⟩ = some v := (h.at_ k (List.getElem?_eq_some_iff.1 hv).1).trans hv
theorem values_SR (L : List Rng) (h60 : L.length < 1000000) : SeqS Tryz.prog GG 162 [.pt [.sl L.length (rngsF L)] 0] encRng L := by
  refine ⟨enters_of Tryz.func162 (by kernel_rfl) rfl, fun w M us hM hG R => ?_⟩
  obtain ⟨u2, us2, rfl, r2, R2⟩ := R.head
  have := R2.end; subst this
  cases r2 with
  | pt Bx ox _ _ gv g1 g2 g3 g4 =>
  obtain ⟨v0, rfl⟩ : ∃ v0, gv = [v0] := by
    match gv, g1 with
    | [a], _ => exact ⟨a, rfl⟩
  have r0 := g4 0 v0 (.sl L.length (rngsF L)) rfl rfl
  cases r0 with
  | sl a n c cs us q1 q2 q3 q4 q5 =>
  have eu : us = L.flatMap fun x => [.int .i64 x.lo, .int .i64 x.hi] := repL_v (w := w) (M := M) (by
    have : rngsF L = (L.flatMap fun x => [Value.int .i64 x.lo, .int .i64 x.hi]).map FV.v := by
      unfold rngsF; rw [List.map_flatMap]; rfl
    rw [← this]; exact ⟨q2, q5⟩)
  intro l J Jx W hJ hJx hRd hY h0
  refine values_seqR Bx ox a c L h60 l J Jx W hJ hJx (fun k A hA => ?_) hY h0
  obtain ⟨hs, hk⟩ := hRd k A hA
  have lg := g3.mono (M' := M) hk hs (fun _ _ h => h)
  refine ⟨lies_cell (k := 0) lg rfl, fun j hj => ?_⟩
  have hl : us.length = L.length * 2 := by rw [q2, rngsF_len]
  obtain ⟨b, o, ea, li⟩ := q4 (by intro e; rw [e] at hl; simp at hl; omega)
  have lb := li.mono (M' := M) hk hs (fun _ _ h => h)
  have hat : ∀ t, t < 2 → us[j * 2 + t]? = [Value.int .i64 L[j].lo, .int .i64 L[j].hi][t]? := fun t ht => by
    rw [eu, Go.Ab.fk_get (k := 2) (fun _ => rfl) (by decide), show (j * 2 + t) / 2 = j by omega, show (j * 2 + t) % 2 = t by omega, List.getElem?_eq_getElem hj]; rfl
  exact ⟨b, o, ea, lies_cell lb (hat 0 (by decide)), by rw [Nat.add_assoc]; exact lies_cell lb (hat 1 (by decide))⟩
def clB (z : Int) : Int := max (-1152921504606846976) (min z 1152921504606846976)
theorem clB_id {z : Int} (h : -1152921504606846976 ≤ z) (h' : z ≤ 1152921504606846976) : clB z = z := by unfold clB; omega
def encLo (r : Rng) : List Value := [.int .i64 (clB r.lo), .int .i64 r.hi]
def cfLo (x y : Rng) : Int := clB x.lo - clB y.lo
theorem ltLo (x y : Rng) : ltOf cfLo x y = decide (clB x.lo < clB y.lo) := by
  unfold ltOf cfLo
  exact decide_eq_decide.2 (by omega)
theorem swoLo : SWO (ltOf cfLo) where
  irrefl x := by rw [ltLo]; simp
  trans x y z h1 h2 := by
    rw [ltLo] at *
    have a := of_decide_eq_true h1
    have b := of_decide_eq_true h2
    exact decide_eq_true (by omega)
  ntrans x y z h1 h2 := by
    rw [ltLo] at *
    have a := of_decide_eq_false h1
    have b := of_decide_eq_false h2
    exact decide_eq_false (by omega)
def sortRng (l : List Rng) : List Rng := sortL cfLo l
theorem sortRng_perm (l : List Rng) : (sortRng l).Perm l := sortL_perm swoLo l
theorem sortRng_len (l : List Rng) : (sortRng l).length = l.length := sortL_len swoLo l
def LoOk (l : List Rng) : Prop := ∀ r, r ∈ l → -1152921504606846976 ≤ r.lo ∧ r.lo ≤ 1152921504606846976
theorem sortRng_pw (l : List Rng) (h : LoOk l) : (sortRng l).Pairwise fun x y => x.lo ≤ y.lo := by
  refine (sortL_pw swoLo l).imp_of_mem fun {x y} hx hy hxy => ?_
  have bx := h x ((sortRng_perm l).mem_iff.1 hx)
  have by' := h y ((sortRng_perm l).mem_iff.1 hy)
  unfold cfLo at hxy
  rw [clB_id bx.1 bx.2, clB_id by'.1 by'.2] at hxy
  omega
theorem encLo_F {l : List Rng} (h : LoOk l) : (l.flatMap encLo).map FV.v = rngsF l := by
  induction l with
  | nil => rfl
  | cons r l ih =>
    have hr := h r (List.mem_cons_self ..)
    rw [List.flatMap_cons, List.map_append, ih fun x hx => h x (List.mem_cons_of_mem _ hx), encLo, clB_id hr.1 hr.2]
    simp [rngsF, rngF, iv]
set_option maxHeartbeats 1000000 in
theorem cmpLo (x y : Rng) (W : World) : Calls Tryz.prog 130 #[.agg (encLo x).toArray, .agg (encLo y).toArray] W fun e w' => e = .returned (.int .i64 (cfLo x y)) ∧ ∃ q os', w' = grow (W.drewN q) os' := by
  unfold encLo cfLo
  have b1 : -1152921504606846976 ≤ clB x.lo ∧ clB x.lo ≤ 1152921504606846976 := by unfold clB; omega
  have b2 : -1152921504606846976 ≤ clB y.lo ∧ clB y.lo ≤ 1152921504606846976 := by unfold clB; omega
  generalize clB x.lo = a at b1 ⊢
  generalize clB y.lo = b at b2 ⊢
  generalize x.hi = c
  generalize y.hi = d
  go_enter Tryz.func130, Tryz.ntmps130
  go_wp2
  go_ret
  exact ⟨rfl, 0, _, by rw [alloc_eq_grow, alloc_eq_grow, grow_grow]; rfl⟩
theorem sortFunc_s (l : List Rng) (hb : LoOk l) (h60 : l.length < 1000000) : SummG Tryz.prog GG 161 [.arr 65 2 l.length ((rngsF l).map .f)] [.ow 0, .f (.fn 130 [])] (.f (.tup [])) [.arr 65 2 l.length ((rngsF (sortRng l)).map .f)] :=
  sortG (ρ := sortR_ren) sortR Tryz.isAgg65 Tryz.sizeOf65 (enc := encLo) (k := 2) (fun _ => rfl) (by decide) (fun x v hv => by simp [encLo] at hv; rcases hv with rfl | rfl <;> rfl) cfLo swoLo 130 (enters_of Tryz.func130 (by kernel_rfl) rfl) cmpLo
    (fun pp cap fv w => AnyF.slices_SortFunc_none (P := Tryz.prog) (ρ := sortR_ren) { sortR with } pp cap fv w) (enters_of Tryz.func161 (by kernel_rfl) rfl) l (by omega) 65 rfl (encLo_F hb) (encLo_F fun r hr => hb r ((sortRng_perm l).mem_iff.1 hr))
end Go.Proofs.YtdmdpkoapllkkaaGreat
namespace Go.Ab
open Go Go.RowKit Go.Shelf Go.Proofs
section
variable {C : Ctx} {N : Nat} {st : St}
theorem gh_one (i r : Nat) {e sz n : Nat} {cs : List FV} (hs : st.s r = .ow i) (hi : st.h i = some (.row e sz n cs)) : Gh C N st ⟨upd (fun _ => .bot) r (.ow 0), blkL [.row e sz n cs], 1⟩ := fun w0 a w ⟨J, S⟩ => ⟨fun _ => J i, by
  have live : ∀ j, (blkL [Blk.row e sz n cs] j).isSome = true → j = 0 := fun j hj => by
    have := blkL_live.1 hj; simp at this; exact this
  have hM : ∀ b, b < w.heap.size → Mb C (blkL [Blk.row e sz n cs]) (fun _ => J i) b → Mb C st.h J b := fun b _ q => q.imp id fun ⟨j, _, hb⟩ => ⟨i, by rw [hi]; rfl, hb⟩
  refine ⟨S.ext, S.size, S.defs, fun t => ?_, fun j D hD => ?_, fun j k b hj hk _ _ => by rw [live j hj, live k hk], S.old, fun g cs hg => RepF.ext (S.glob g cs hg) (Ext.refl _) hM, fun j p B hp hc hst => ?_⟩
  · by_cases e : t = r
    · subst e
      show RepA C w _ _ _ (upd (fun _ => AV.bot) t (.ow 0) t)
      rw [upd_same]
      have := S.slot t
      rw [hs] at this
      exact ⟨rfl, this.2⟩
    · show RepA C w _ _ _ (upd (fun _ => AV.bot) r (.ow 0) t)
      rw [upd_other _ _ e]; trivial
  · have hj := live j (by show (blkL _ j).isSome = true; rw [show blkL [Blk.row e sz n cs] j = some D from hD]; rfl)
    subst hj
    have : D = .row e sz n cs := by have h : blkL [Blk.row e sz n cs] 0 = some D := hD; rw [blkL_eq] at h; simp at h; exact h.symm
    subst this
    obtain ⟨xs, q1, q0, q2, q3⟩ := S.blk i _ hi
    exact ⟨xs, q1, q0, q2, q3.1, fun k u x h1 h2 => RepF.ext (q3.2 k u x h1 h2) (Ext.refl _) hM⟩
  · have hj := live j (by show (blkL _ j).isSome = true; rw [show blkL [Blk.row e sz n cs] j = some B from hc]; rfl)
    subst hj
    have h : blkL [Blk.row e sz n cs] 0 = some B := hc
    rw [blkL_eq] at h; simp at h; subst h; cases hst⟩
end
end Go.Ab
namespace Go.Proofs.YtdmdpkoapllkkaaGreat
open Go Go.RowKit Go.Proofs Go.Shelf Go.Ab
theorem rng_en (p : Rng) (w : World) (M : Nat → Prop) : RepL w M (encRng p).toList [.agg (rngF p)] :=
  RepL.cons (RepF.agg (rngF p) [.int .i64 p.lo, .int .i64 p.hi] rfl (fun u hu => by simp at hu; rcases hu with rfl | rfl <;> rfl) (fun k u x h1 h2 => by
    match k, h1, h2 with
    | 0, h1, h2 => cases h1; cases h2; exact .v _
    | 1, h1, h2 => cases h1; cases h2; exact .v _)) (RepL.nil _ _)
theorem row_tkRng {L : List Rng} {k : Nat} (h : k < L.length) : some (Blk.row 65 2 ((L.take k).length + 1) (rngsF (L.take k) ++ rngF L[k])) = some (Blk.row 65 2 (L.take (k + 1)).length (rngsF (L.take (k + 1)))) := by
  rw [rngsF_tk h, List.take_succ_eq_append_getElem h, List.length_append]; rfl
set_option maxRecDepth 100000 in
set_option maxHeartbeats 1600000 in
theorem appendSeq_g (L : List Rng) (h60 : L.length < 1000000) : SummG Tryz.prog GG 177 [] [.f (.v (.slice none 0 0)), .f (.fn 162 [.pt [.sl L.length (rngsF L)] 0])] (.ow 0) [.row 65 2 L.length (rngsF L)] := by
  refine summG_of Tryz.func177 rfl rfl 13 rfl (by simp) (by simp) (fun i B B' h1 h2 => by simp at h1) (fun M X J => ?_)
  repeat (first
    | (apply s_boxw; exact rfl; exact rfl; exact rfl; exact rfl)
    | (apply s_a TY; exact rfl)
    | apply w_seq
    | apply w_region
    | apply s_nil
    | apply t_norm
    | apply w_block)
  apply w_gh (gh_ownB 0 0 65 2 rfl rfl rfl)
  refine w_range (s := (Ab.upd (Ab.upd (fun _ => .bot) 2 (.bx 0 0)) 6 (.f (.fn 162 [.pt [.sl L.length (rngsF L)] 0])))) ((values_SR L h60)) (fun k => (Ab.upd (Ab.upd (fun _ => none) 0 (some (.box [.ow 1]))) 1 (some (.row 65 2 (L.take k).length (rngsF (L.take k)))))) (fun (k : Nat) (p : Rng) => (Ab.upd (Ab.upd (Ab.upd (fun _ => none) 0 (some (.box [.ow 1]))) 1 (some (.row 65 2 (L.take k).length (rngsF (L.take k))))) 2 (some (.box [.f (iv p.lo), .f (iv p.hi)])))) (fun (k : Nat) (p : Rng) => (Ab.upd (Ab.upd (Ab.upd (fun _ => .bot) 2 (.bx 0 0)) 6 (.f (.fn 162 [.pt [.sl L.length (rngsF L)] 0]))) 5 (.bx 2 0))) 2 3 (fun i => i = 0) (fun p => [.agg (rngF p)]) (fun _ => True) (trivial) rfl (fun _ => rfl) (gh_le ⟨le_upd rfl trivial (le_upd rfl rfl (le_nil _)), le_hupd rfl trivial (le_hupd rfl (fun y hy => by simp at hy; subst hy; first | trivial | rfl) (le_h0 _ _))⟩) rfl (fun _ => rfl) (fun _ => rfl) (fun q hq => by simp at hq; subst hq; rfl) rng_en (kept_f (kept_x rfl (by simp) (kept_nil _ _))) (by rintro k i (rfl) <;> exact ⟨_, rfl, rfl⟩) (fun k p => ⟨le_nil _, le_hupd rfl trivial (le_hupd rfl (fun y hy => by simp at hy; subst hy; first | trivial | rfl) (le_h0 _ _))⟩) (fun k p => ⟨mo_upd rfl (mo_upd rfl (mo_nil)), mo_upd rfl (mo_upd rfl (mo_upd rfl (mo_nil)))⟩) ?_ ?_ ?_
  · intro k hkL X l p
    repeat (first
    | apply w_region
    | apply s_nil
    | apply t_norm
    | (apply s_alloc TY; exact rfl; exact rfl; exact rfl)
    | (apply s_store TY; exact rfl; exact rfl; exact rfl; exact rfl; exact rfl; exact rfl))
    exact gh_le ⟨le_upd rfl rfl (le_upd rfl trivial (le_upd rfl rfl (le_nil _))), le_hupd rfl (fun y hy => by simp at hy; rcases hy with rfl | rfl <;> first | trivial | rfl) (le_hupd rfl trivial (le_hupd rfl (fun y hy => by simp at hy; subst hy; first | trivial | rfl) (le_h0 _ _)))⟩
  · intro k hkL _ X l p
    have hlt : (L.take k).length = k := by rw [List.length_take]; omega
    repeat (first
    | (apply s_a TY; exact rfl)
    | apply w_region
    | apply s_nil
    | apply k_norm
    | apply w_block
    | (apply s_store TY; exact rfl; exact rfl; exact rfl; exact rfl; exact rfl; exact rfl)
    | (apply s_append TY; exact rfl; exact rfl; exact rfl; exact rfl; exact rfl; exact rfl; exact rfl; exact rfl; exact rfl; (unfold maxLen; omega); omega))
    exact ⟨trivial, gh_le ⟨le_nil _, le_hupd (row_tkRng hkL) trivial (le_hupd rfl (fun y hy => by simp at hy; subst hy; first | trivial | rfl) (le_h0 _ _))⟩⟩
  intro _
  rw [List.take_length]
  repeat (first
    | (apply s_a TY; exact rfl)
    | apply w_seq
    | apply w_region
    | apply s_nil
    | apply t_norm
    | apply k_norm
    | apply w_ret)
  exact lvG_ret (gh_one 1 4 rfl rfl) (rg1 rfl (rv_tmp rfl))
set_option maxRecDepth 100000 in
theorem collect_g (L : List Rng) (h60 : L.length < 1000000) : SummG Tryz.prog GG 160 [] [.f (.fn 162 [.pt [.sl L.length (rngsF L)] 0])] (.ow 0) [.row 65 2 L.length (rngsF L)] := by
  refine summG_of Tryz.func160 rfl rfl 5 rfl (by simp) (by simp) (fun i B B' h1 h2 => by simp at h1) (fun M X J => ?_)
  repeat (first
    | (apply s_a TY; exact rfl)
    | apply w_seq
    | apply w_region
    | apply s_nil
    | apply t_norm
    | apply w_ret
    | (apply s_callG [] (appendSeq_g L h60); exact rfl; exact rfl; exact rfl; exact trivial; exact rfl; (first | exact ⟨rfl, rfl⟩ | exact ⟨⟨rfl, rfl⟩, ⟨rfl, rfl⟩⟩ | exact ⟨⟨rfl, rfl⟩, ⟨rfl, rfl⟩, ⟨rfl, rfl⟩⟩)))
  exact lvG_ret (gh_one 0 2 rfl rfl) (rg1 rfl (rv_tmp rfl))
set_option maxRecDepth 100000 in
theorem sortedFunc_s (L : List Rng) (hb : LoOk L) (h60 : L.length < 1000000) : Summ Tryz.prog GG 128 [.fn 162 [.pt [.sl L.length (rngsF L)] 0], .fn 130 []] (.sl L.length (rngsF (sortRng L))) := by
  refine summW Tryz.func128 rfl rfl 12 rfl (by simp) (fun M0 => ?_)
  repeat (first
    | (refine s_ghost rfl (gh_arr 0 (cs := rngsF L) rfl rfl) ?_)
    | (apply s_callG [0] (sortFunc_s L hb h60); exact rfl; exact rfl; exact rfl; exact ⟨congrArg some (arr_ren _ _ _ _ _).symm, trivial⟩; exact rfl; exact ⟨rfl, rfl⟩)
    | (apply s_a TY; exact rfl)
    | apply w_seq
    | apply w_region
    | apply s_nil
    | apply t_norm
    | apply w_ret
    | (apply s_callG [] (collect_g L h60); exact rfl; exact rfl; exact rfl; exact trivial; exact rfl; (first | exact ⟨rfl, rfl⟩ | exact ⟨⟨rfl, rfl⟩, ⟨rfl, rfl⟩⟩ | exact ⟨⟨rfl, rfl⟩, ⟨rfl, rfl⟩, ⟨rfl, rfl⟩⟩)))
  exact lv_ret (ret_gh (gh_trans (gh_trans (b := _) (c := ⟨(Ab.upd (fun _ => .bot) 4 (.ow 0)), (Ab.upd (fun _ => none) 0 (some (.row 65 2 L.length (rngsF (sortRng L))))), 1⟩) (gh_unarr 0 (e := 65) (sz := 2) (n := L.length) (cs := rngsF (sortRng L)) (congrArg some (arr_ren _ _ _ _ _))) (gh_le ⟨le_upd rfl rfl (le_nil _), le_hupd rfl trivial (le_h0 _ _)⟩)) (gh_row 0 rfl)) (ret1 rfl (res_tmp rfl)))
end Go.Proofs.YtdmdpkoapllkkaaGreat
namespace Go.Proofs.YtdmdpkoapllkkaaGreat
open Go Go.RowKit Go.Proofs Go.Shelf Go.Ab
def mrg (o : List Rng) (r : Rng) : List Rng := match o.getLast? with
  | some x => if r.lo ≤ x.hi + 1 then o.dropLast ++ [⟨x.lo, max x.hi r.hi⟩] else o ++ [r]
  | none => [r]
def mergeV (l : List Rng) : List Rng := l.foldl mrg []
def joinedV (l : List Rng) : List Rng := mergeV (sortRng l)
theorem mrg_nil (r : Rng) : mrg [] r = [r] := rfl
theorem mrg_snoc (pre : List Rng) (x r : Rng) : mrg (pre ++ [x]) r = if r.lo ≤ x.hi + 1 then pre ++ [⟨x.lo, max x.hi r.hi⟩] else pre ++ [x] ++ [r] := by
  unfold mrg; simp
theorem mrg_len (o : List Rng) (r : Rng) : (mrg o r).length ≤ o.length + 1 := by
  rcases List.eq_nil_or_concat o with rfl | ⟨pre, x, rfl⟩
  · simp [mrg_nil]
  · rw [List.concat_eq_append, mrg_snoc]; split <;> simp
def mgK (l : List Rng) (k : Nat) : List Rng := (l.take k).foldl mrg []
theorem mgK_succ {l : List Rng} {k : Nat} (h : k < l.length) : mgK l (k + 1) = mrg (mgK l k) l[k] := by
  unfold mgK; rw [List.take_succ_eq_append_getElem h, List.foldl_append]; rfl
theorem mgK_all (l : List Rng) : mgK l l.length = mergeV l := by unfold mgK mergeV; rw [List.take_length]
theorem mgK_len (l : List Rng) : ∀ k, (mgK l k).length ≤ k
  | 0 => by simp [mgK]
  | k + 1 => by
    by_cases h : k < l.length
    · rw [mgK_succ h]
      have := mrg_len (mgK l k) l[k]
      have := mgK_len l k
      omega
    · have : mgK l (k + 1) = mgK l k := by unfold mgK; rw [List.take_of_length_le (by omega), List.take_of_length_le (by omega)]
      rw [this]; have := mgK_len l k; omega
def HiOk (l : List Rng) : Prop := ∀ r, r ∈ l → -1152921504606846976 ≤ r.hi ∧ r.hi ≤ 1152921504606846976
theorem mrg_hi {o : List Rng} {r : Rng} (h : HiOk o) (hr : -1152921504606846976 ≤ r.hi ∧ r.hi ≤ 1152921504606846976) : HiOk (mrg o r) := by
  rcases List.eq_nil_or_concat o with rfl | ⟨pre, x, rfl⟩
  · intro y hy; simp [mrg_nil] at hy; subst hy; exact hr
  · rw [List.concat_eq_append] at *
    have hx := h x (by simp)
    intro y hy
    rw [mrg_snoc] at hy
    split at hy
    · simp at hy
      rcases hy with hy | rfl
      · exact h y (by simp [hy])
      · show _ ≤ max x.hi r.hi ∧ max x.hi r.hi ≤ _
        omega
    · simp at hy
      rcases hy with hy | rfl | rfl
      · exact h y (by simp [hy])
      · exact hx
      · exact hr
theorem mgK_hi {l : List Rng} (h : HiOk l) : ∀ k, HiOk (mgK l k)
  | 0 => fun r hr => by simp [mgK] at hr
  | k + 1 => by
    by_cases hk : k < l.length
    · rw [mgK_succ hk]; exact mrg_hi (mgK_hi h k) (h _ (List.getElem_mem hk))
    · have : mgK l (k + 1) = mgK l k := by unfold mgK; rw [List.take_of_length_le (by omega), List.take_of_length_le (by omega)]
      rw [this]; exact mgK_hi h k
set_option maxRecDepth 100000 in
theorem values_s (L : List Rng) : Summ Tryz.prog GG 129 [.sl L.length (rngsF L)] (.fn 162 [.pt [.sl L.length (rngsF L)] 0]) := by
  refine summW Tryz.func129 rfl rfl 4 rfl (by simp) (fun M0 => ?_)
  repeat (first
    | (apply s_a TY; exact rfl)
    | (apply s_makefn; exact rfl; exact rfl)
    | apply w_seq
    | apply w_region
    | apply s_nil
    | apply t_norm
    | apply w_ret)
  exact lv_ret (ret1 rfl (res_tmp rfl))
theorem rowR (a b : List Rng) (h : a = b) : some (Blk.row 65 2 a.length (rngsF a)) = some (Blk.row 65 2 b.length (rngsF b)) := by rw [h]
theorem rngs_setHi {L : List Rng} (pre : List Rng) (x : Rng) {o : Nat} (ho : o = pre.length) (z : Int) (h : L = pre ++ [⟨x.lo, z⟩]) : some (Blk.row 65 2 (pre.length + 1) (setAt (rngsF (pre ++ [x])) (o * 2 + 1) [iv z])) = some (Blk.row 65 2 L.length (rngsF L)) := by
  subst ho; subst h
  have : setAt (rngsF (pre ++ [x])) (pre.length * 2 + 1) [iv z] = rngsF (pre ++ [⟨x.lo, z⟩]) := by
    rw [rngsF_snoc, rngsF_snoc]
    show ((rngsF pre ++ rngF x).set (pre.length * 2 + 1) (iv z)) = _
    rw [List.set_append_right _ _ (by rw [rngsF_len]; omega), rngsF_len, show pre.length * 2 + 1 - pre.length * 2 = 1 by omega]
    rfl
  rw [this, List.length_append]; rfl
theorem row_app2 {L a : List Rng} {r : Rng} (h : L = a ++ [r]) : some (Blk.row 65 2 (a.length + 1) (rngsF a ++ rngF r)) = some (Blk.row 65 2 L.length (rngsF L)) := by
  rw [h, rngsF_snoc, List.length_append]; rfl
theorem row_app3 {L pre : List Rng} {x r : Rng} (h : L = pre ++ [x] ++ [r]) : some (Blk.row 65 2 (pre.length + 1 + 1) (rngsF (pre ++ [x]) ++ rngF r)) = some (Blk.row 65 2 L.length (rngsF L)) := by
  rw [h, rngsF_snoc (pre ++ [x]) r, List.length_append, List.length_append]; rfl
set_option maxRecDepth 100000 in
set_option maxHeartbeats 1600000 in
theorem joined_s (l : List Rng) (hb : LoOk l) (hh : HiOk l) (h60 : l.length < 1000000) : Summ Tryz.prog GG 82 [.sl l.length (rngsF l)] (.sl (joinedV l).length (rngsF (joinedV l))) := by
  have hsl := sortRng_len l
  have hlo : LoOk (sortRng l) := fun r hr => hb r ((sortRng_perm l).mem_iff.1 hr)
  have hhi : HiOk (sortRng l) := fun r hr => hh r ((sortRng_perm l).mem_iff.1 hr)
  have HS : Summ Tryz.prog GG 128 [.fn 162 [.pt [.sl l.length (rngsF l)] 0], .fn 130 []] (.sl (sortRng l).length (rngsF (sortRng l))) := by
    rw [hsl]; exact sortedFunc_s l hb h60
  refine summW Tryz.func82 rfl rfl 52 rfl (by simp) (fun M0 => ?_)
  repeat (first
    | (apply s_a TY; exact rfl)
    | apply w_seq
    | apply w_region
    | apply s_nil
    | apply t_norm
    | apply w_block
    | (apply s_k (values_s l); exact rfl)
    | (apply s_k (HS); exact rfl))
  apply w_gh (gh_own 3 65 2 rfl rfl)
  apply w_loop (fun k : Nat => ⟨(Ab.upd (Ab.upd (Ab.upd (Ab.upd (fun _ => .bot) 3 (.ow 0)) 10 (.f (.sl (sortRng l).length (rngsF (sortRng l))))) 11 (.f (iv (sortRng l).length))) 12 (.f (iv (k : Nat)))), (Ab.upd (fun _ => none) 0 (some (.row 65 2 (mgK (sortRng l) k).length (rngsF (mgK (sortRng l) k))))), 1⟩) (fun k => k ≤ (sortRng l).length) (fun k => (sortRng l).length - k) 0 (Nat.zero_le _) (gh_le ⟨le_upd rfl trivial (le_upd rfl trivial (le_upd rfl trivial (le_upd rfl rfl (le_nil _)))), le_hupd rfl trivial (le_h0 _ _)⟩)
  intro k hk
  by_cases hc : k < (sortRng l).length
  · have hs := mgK_succ hc
    have hlk := mgK_len (sortRng l) k
    have hhk := mgK_hi hhi k
    have h1 := hlo _ (List.getElem_mem hc)
    have h2 := hhi _ (List.getElem_mem hc)
    rcases List.eq_nil_or_concat (mgK (sortRng l) k) with e | ⟨pre, x, e⟩
    · rw [e, mrg_nil] at hs
      rw [e]
      have hn0 : ([] : List Rng).length = 0 := rfl
      repeat (first
    | (apply s_a TY; exact rfl)
    | (apply s_t; exact rfl; (first | assumption | omega))
    | (apply s_f; exact rfl; (first | assumption | omega))
    | apply w_seq
    | apply w_region
    | (apply w_draw (id := 7) 12 rfl (by kernel_rfl))
    | apply s_nil
    | apply t_norm
    | apply k_norm
    | apply w_block
    | apply w_skip
    | (apply w_condT; exact rfl; exact rfl)
    | (apply w_condF; exact rfl; exact rfl)
    | (apply s_s; exact rfl)
    | (apply s_c TY; exact rfl; (first | omega | exact ⟨by omega, by (first | with_reducible assumption | ((with_reducible apply rngsF_ne); omega) | assumption)⟩))
    | (apply s_m TY; exact rfl; (first | with_reducible assumption | ((with_reducible apply rngsF_sub); omega) | exact rfl); exact rfl)
    | (apply s_alloc TY; exact rfl; exact rfl; exact rfl)
    | (apply s_store TY; exact rfl; exact rfl; exact rfl; exact rfl; exact rfl; exact rfl)
    | (apply s_append TY; exact rfl; exact rfl; exact rfl; exact rfl; exact rfl; exact rfl; exact rfl; exact rfl; exact rfl; (unfold maxLen; omega); omega))
      exact ⟨k + 1, by omega, by omega, gh_le ⟨le_upd rfl trivial (le_upd rfl trivial (le_upd rfl trivial (le_upd rfl rfl (le_nil _)))), le_hupd ((rowR _ _ hs).symm) trivial (le_h0 _ _)⟩⟩
    · rw [List.concat_eq_append] at e
      rw [e, mrg_snoc] at hs
      rw [e] at hlk hhk ⊢
      have h3 := hhk x (by simp)
      have hpl : (pre ++ [x]).length = pre.length + 1 := by simp
      have hat : (rngsF (pre ++ [x]))[(((pre.length + 1 : Nat) : Int) - 1).toNat * 2 + 1]? = some (iv x.hi) := by
        rw [show (((pre.length + 1 : Nat) : Int) - 1).toNat = pre.length by omega, rngsF_f1 (show pre.length < (pre ++ [x]).length by omega)]
        simp
      rw [hpl]
      by_cases hj : (sortRng l)[k].lo ≤ x.hi + 1
      · rw [if_pos hj] at hs
        have hrl : (rngsF (pre ++ [x])).length = (pre.length + 1) * 2 := by rw [rngsF_len, hpl]
        repeat (first
    | (apply s_storeR TY; exact rfl; exact rfl; exact rfl; exact rfl; exact rfl; (show _ + 1 ≤ _; omega))
    | (apply s_a TY; exact rfl)
    | (apply s_t; exact rfl; (first | assumption | omega))
    | apply w_seq
    | apply w_region
    | (apply w_draw (id := 7) 12 rfl (by kernel_rfl))
    | (apply w_draw (id := 8) 12 rfl (by kernel_rfl))
    | apply s_nil
    | apply t_norm
    | apply t_exit
    | apply k_hit
    | apply w_block
    | apply w_exit
    | apply w_skip
    | (apply w_condT; exact rfl; exact rfl)
    | (apply s_c TY; exact rfl; (first | omega | exact ⟨by omega, by (first | with_reducible assumption | ((with_reducible apply rngsF_ne); omega) | assumption)⟩))
    | (apply s_z TY; exact rfl; (first | omega | exact ⟨by omega, by (first | with_reducible assumption | ((with_reducible apply rngsF_ne); omega) | assumption)⟩))
    | (apply s_m TY; exact rfl; (first | with_reducible assumption | ((with_reducible apply rngsF_sub); omega) | exact rfl); exact rfl)
    | (apply s_r TY; exact rfl; (first | exact rfl | with_reducible assumption | ((with_reducible apply rngsF_f0); omega) | ((with_reducible apply rngsF_f1); omega) | assumption))
    | (apply s_alloc TY; exact rfl; exact rfl; exact rfl)
    | (apply s_store TY; exact rfl; exact rfl; exact rfl; exact rfl; exact rfl; exact rfl))
        exact ⟨k + 1, by omega, by omega, gh_le ⟨le_upd rfl trivial (le_upd rfl trivial (le_upd rfl trivial (le_upd rfl rfl (le_nil _)))), le_hupd ((rngs_setHi pre x (show (((pre.length + 1 : Nat) : Int) - 1).toNat = pre.length by omega) _ hs)) trivial (le_h0 _ _)⟩⟩
      · rw [if_neg hj] at hs
        repeat (first
    | (apply s_a TY; exact rfl)
    | (apply s_t; exact rfl; (first | assumption | omega))
    | (apply s_f; exact rfl; (first | assumption | omega))
    | apply w_seq
    | apply w_region
    | (apply w_draw (id := 7) 12 rfl (by kernel_rfl))
    | apply s_nil
    | apply t_norm
    | apply k_norm
    | apply w_block
    | apply w_skip
    | (apply w_condT; exact rfl; exact rfl)
    | (apply w_condF; exact rfl; exact rfl)
    | (apply s_c TY; exact rfl; (first | omega | exact ⟨by omega, by (first | with_reducible assumption | ((with_reducible apply rngsF_ne); omega) | assumption)⟩))
    | (apply s_z TY; exact rfl; (first | omega | exact ⟨by omega, by (first | with_reducible assumption | ((with_reducible apply rngsF_ne); omega) | assumption)⟩))
    | (apply s_m TY; exact rfl; (first | with_reducible assumption | ((with_reducible apply rngsF_sub); omega) | exact rfl); exact rfl)
    | (apply s_r TY; exact rfl; (first | exact rfl | with_reducible assumption | ((with_reducible apply rngsF_f0); omega) | ((with_reducible apply rngsF_f1); omega) | assumption))
    | (apply s_alloc TY; exact rfl; exact rfl; exact rfl)
    | (apply s_store TY; exact rfl; exact rfl; exact rfl; exact rfl; exact rfl; exact rfl)
    | (apply s_append TY; exact rfl; exact rfl; exact rfl; exact rfl; exact rfl; exact rfl; exact rfl; exact rfl; exact rfl; (unfold maxLen; omega); omega))
        exact ⟨k + 1, by omega, by omega, gh_le ⟨le_upd rfl trivial (le_upd rfl trivial (le_upd rfl trivial (le_upd rfl rfl (le_nil _)))), le_hupd (row_app3 hs) trivial (le_h0 _ _)⟩⟩
  · have hke : k = (sortRng l).length := by omega
    subst hke
    rw [mgK_all]
    repeat (first
    | (apply s_a TY; exact rfl)
    | (apply s_f; exact rfl; (first | assumption | omega))
    | apply w_seq
    | apply w_region
    | apply s_nil
    | apply t_norm
    | apply t_exit
    | apply k_hit
    | apply w_exit
    | apply w_ret
    | (apply w_condF; exact rfl; exact rfl))
    exact lv_ret (ret_gh (gh_row 0 rfl) (ret1 rfl (res_tmp rfl)))
end Go.Proofs.YtdmdpkoapllkkaaGreat
namespace Go.Proofs.YtdmdpkoapllkkaaGreat
open Go Go.RowKit Go.Proofs Go.Shelf Go.Ab
structure SetOk (s : Setup) : Prop where
  pos : 1 ≤ s.rules.length
  len : s.rules.length ≤ 4
  rule : ∀ k (hk : k < s.rules.length), ruleErr s.rules[k] = 0
  before : 0 ≤ s.before ∧ s.before ≤ 1000000
  after : 0 ≤ s.after ∧ s.after ≤ 1000000
  dead : 0 ≤ s.dead ∧ s.dead ≤ 1000000
theorem setOk_of {s : Setup} (h : (setupChk s).2 = 0) : SetOk s := by
  have hn : ¬ s.rules.length = 0 := fun hn => by unfold setupChk at h; rw [if_pos hn] at h; cases h
  have h4 : ¬ 4 < s.rules.length := fun h3 => by unfold setupChk at h; rw [if_neg hn, if_pos h3] at h; cases h
  unfold setupChk at h
  rw [if_neg hn, if_neg h4] at h
  rcases eachE_cases s.rules.length (fun i => ruleErr (s.rules.getD i default)) with ⟨he, hz⟩ | ⟨q, _, _, hne, he⟩
  · rw [he] at h
    simp only [ne_eq, not_true_eq_false, if_false] at h
    by_cases hb : ¬ (0 ≤ s.before ∧ s.before ≤ 1000000) ∨ ¬ (0 ≤ s.after ∧ s.after ≤ 1000000) ∨ ¬ (0 ≤ s.dead ∧ s.dead ≤ 1000000)
    · rw [if_pos hb] at h; cases h
    · exact ⟨by omega, by omega, fun k hk => by have := hz k hk; rwa [getD_at hk] at this, by omega, by omega, by omega⟩
  · rw [he, if_pos hne] at h; exact absurd h hne
theorem minA_mem {P : Int → Prop} {acc : Option Int} {z e : Int} (ha : ∀ x, acc = some x → P x) (hz : P z) (h : minA acc z = some e) : P e := by
  unfold minA at h
  split at h
  · cases h; exact hz
  · split at h
    · cases h; exact hz
    · cases h; exact ha _ rfl
theorem endA_mem {P : Int → Prop} {h : List Hit} : ∀ {l : List Nat} {acc : Option Int} {e : Int}, (∀ x, acc = some x → P x) → (∀ k, k ∈ l → P (h.getD k default).tm) → endA h acc l = some e → P e
  | [], _, e, ha, _, he => ha e he
  | k :: l, _, _, ha, hl, he => endA_mem (l := l) (fun _ hx => minA_mem ha (hl k (List.mem_cons_self ..)) hx) (fun q hq => hl q (List.mem_cons_of_mem _ hq)) he
theorem accW_mem {r : Rule} {h : List Hit} {a : Nat} (ha : a < h.length) : ∀ {q : Nat} {e : Int}, accW r h a q = some e → ∃ k, k < h.length ∧ e = (h.getD k default).tm
  | 0, e, he => by cases he
  | q + 1, e, he => endA_mem (P := fun e => ∃ k, k < h.length ∧ e = (h.getD k default).tm) (fun x hx => accW_mem ha hx) (fun k hk => ⟨k, layL_lt ha hk, rfl⟩) he
theorem fireL_mem {nr : Hit → Bool} {t0 w : Int} : ∀ {l : List Hit} {left e : Int}, fireL nr t0 w left l = some e → ∃ x, x ∈ l ∧ e = x.tm
  | [], _, _, h => by cases h
  | x :: l, left, e, h => by
    unfold fireL at h
    by_cases h1 : w < x.tm - t0
    · rw [if_pos h1] at h; cases h
    · rw [if_neg h1] at h
      generalize (if nr x = true then left - 1 else left) = lf at h
      by_cases h2 : lf = 0
      · rw [if_pos h2] at h; cases h; exact ⟨x, List.mem_cons_self .., rfl⟩
      · rw [if_neg h2] at h
        obtain ⟨y, hy, he⟩ := fireL_mem h
        exact ⟨y, List.mem_cons_of_mem _ hy, he⟩
theorem fireV_mem {l : List Site} {r : Rule} {h : List Hit} {a : Nat} {e : Int} (ha : a < h.length) (he : fireV l r h a = some e) : ∃ k, k < h.length ∧ e = (h.getD k default).tm := by
  unfold fireV at he
  split at he
  · exact accW_mem ha he
  · obtain ⟨x, hx, e⟩ := fireL_mem he
    obtain ⟨k, hk, hkx⟩ := List.getElem_of_mem (List.mem_of_mem_drop hx)
    exact ⟨k, hk, by rw [e, getD_at hk, hkx]⟩
theorem firesV_mem {l : List Site} {r : Rule} {h : List Hit} {n : Nat} {f : Fire} (hf : f ∈ firesV l r h n) : ∃ i e, i < n ∧ fireV l r h i = some e ∧ f = ⟨i, (h.getD i default).tm, e⟩ := by
  unfold firesV at hf
  obtain ⟨i, hi, hm⟩ := List.mem_filterMap.1 hf
  cases he : fireV l r h i with
  | none => rw [he] at hm; cases hm
  | some e => rw [he] at hm; simp at hm; exact ⟨i, e, List.mem_range.1 hi, he, hm.symm⟩
theorem firesV_bd {l : List Site} {r : Rule} {h : List Hit} (ho : HitsOk l h) {n : Nat} (hn : n ≤ h.length) {f : Fire} (hf : f ∈ firesV l r h n) : (0 ≤ f.lo ∧ f.lo ≤ 1000000000000) ∧ (0 ≤ f.hi ∧ f.hi ≤ 1000000000000) := by
  obtain ⟨i, e, hi, he, rfl⟩ := firesV_mem hf
  obtain ⟨k, hk, rfl⟩ := fireV_mem (by omega) he
  have a := (ho.hit i (by omega)).tm
  have b := (ho.hit k hk).tm
  rw [getD_at (show i < h.length by omega), getD_at hk]
  exact ⟨a, b⟩
def winF (s : Setup) (f : Fire) : Rng := ⟨f.lo - s.before, f.hi + s.after⟩
def winsR (l : List Site) (s : Setup) (h : List Hit) (r : Rule) : List Rng := (firesV l r h h.length).map (winF s)
def singleV (l : List Site) (s : Setup) (h : List Hit) : List Rng := s.rules.flatMap (winsR l s h)
def singK (l : List Site) (s : Setup) (h : List Hit) (k : Nat) : List Rng := (s.rules.take k).flatMap (winsR l s h)
theorem singK_succ {l : List Site} {s : Setup} {h : List Hit} {k : Nat} (hk : k < s.rules.length) : singK l s h (k + 1) = singK l s h k ++ winsR l s h s.rules[k] := by
  unfold singK; rw [List.take_succ_eq_append_getElem hk, List.flatMap_append]; simp
theorem winsR_len (l : List Site) (s : Setup) (h : List Hit) (r : Rule) : (winsR l s h r).length ≤ h.length := by
  unfold winsR; rw [List.length_map]; exact firesV_len l r h h.length
theorem singK_len (l : List Site) (s : Setup) (h : List Hit) : ∀ k, (singK l s h k).length ≤ k * h.length
  | 0 => by simp [singK]
  | k + 1 => by
    by_cases hk : k < s.rules.length
    · rw [singK_succ hk, List.length_append, Nat.add_mul]
      have := singK_len l s h k
      have := winsR_len l s h s.rules[k]
      omega
    · have : singK l s h (k + 1) = singK l s h k := by unfold singK; rw [List.take_of_length_le (by omega), List.take_of_length_le (by omega)]
      rw [this, Nat.add_mul]; have := singK_len l s h k; omega
theorem singK_all (l : List Site) (s : Setup) (h : List Hit) : singK l s h s.rules.length = singleV l s h := by unfold singK singleV; rw [List.take_length]
theorem singleV_bd {l : List Site} {s : Setup} {h : List Hit} (hs : SetOk s) (ho : HitsOk l h) {w : Rng} (hw : w ∈ singleV l s h) : (-1000000 ≤ w.lo ∧ w.lo ≤ 1000000000000) ∧ (0 ≤ w.hi ∧ w.hi ≤ 1000001000000) := by
  obtain ⟨r, _, hr⟩ := List.mem_flatMap.1 hw
  obtain ⟨f, hf, rfl⟩ := List.mem_map.1 hr
  have := firesV_bd ho (Nat.le_refl _) hf
  have b := hs.before
  have c := hs.after
  unfold winF
  simp only
  omega
def hitsInN (h : List Hit) (w : Rng) (n : Nat) : List Int := natsL ((List.range n).filter fun i => withinB (h.getD i default).tm w.lo w.hi)
def hitsInV (h : List Hit) (w : Rng) : List Int := hitsInN h w h.length
theorem hitsInN_succ (h : List Hit) (w : Rng) (n : Nat) : hitsInN h w (n + 1) = hitsInN h w n ++ (if withinB (h.getD n default).tm w.lo w.hi = true then [(n : Int)] else []) := by
  unfold hitsInN natsL
  rw [List.range_succ, List.filter_append, List.map_append]
  congr 1
  cases e : withinB (h.getD n default).tm w.lo w.hi with
  | true => simp only [List.filter, e, if_true]; rfl
  | false => simp only [List.filter, e]; rfl
theorem hitsInN_len (h : List Hit) (w : Rng) (n : Nat) : (hitsInN h w n).length ≤ n := by
  unfold hitsInN natsL
  rw [List.length_map]
  exact Nat.le_trans (List.length_filter_le _ _) (by simp)
theorem rowI (a b : List Int) (h : a = b) : some (Blk.row 3 1 a.length (intsF a)) = some (Blk.row 3 1 b.length (intsF b)) := by rw [h]
theorem rowI_app {L a : List Int} {z : Int} (h : L = a ++ [z]) : some (Blk.row 3 1 (a.length + 1) (intsF a ++ [iv z])) = some (Blk.row 3 1 L.length (intsF L)) := by
  rw [h, intsF_snoc, List.length_append]; rfl
set_option maxRecDepth 100000 in
set_option maxHeartbeats 1600000 in
theorem hitsIn_s (h : List Hit) (w : Rng) (hh : h.length ≤ 1000000) : Summ Tryz.prog GG 81 [.sl h.length (hitsF h), .agg (rngF w)] (.sl (hitsInV h w).length (intsF (hitsInV h w))) := by
  unfold hitsInV
  refine summW Tryz.func81 rfl rfl 28 rfl (by simp) (fun M0 => ?_)
  repeat (first
    | (apply s_a TY; exact rfl)
    | apply w_seq
    | apply w_region
    | apply s_nil
    | apply t_norm
    | apply w_block)
  apply w_gh (gh_own 5 3 1 rfl rfl)
  apply w_loop (fun k : Nat => ⟨(Ab.upd (Ab.upd (Ab.upd (Ab.upd (Ab.upd (Ab.upd (fun _ => .bot) 0 (.f (.sl h.length (hitsF h)))) 3 (.f (.pt (rngF w) 0))) 5 (.ow 0)) 8 (.f (.sl h.length (hitsF h)))) 9 (.f (iv h.length))) 10 (.f (iv (k : Nat)))), (Ab.upd (fun _ => none) 0 (some (.row 3 1 (hitsInN h w k).length (intsF (hitsInN h w k))))), 1⟩) (fun k => k ≤ h.length) (fun k => h.length - k) 0 (Nat.zero_le _) (gh_le ⟨le_upd rfl trivial (le_upd rfl trivial (le_upd rfl trivial (le_upd rfl rfl (le_upd rfl trivial (le_upd rfl trivial (le_nil _)))))), le_hupd rfl trivial (le_h0 _ _)⟩)
  intro k hk
  have hln := hitsInN_len h w k
  by_cases hc : k < h.length
  · have hs := hitsInN_succ h w k
    have HW := within_s h[k].tm w.lo w.hi
    rw [getD_at hc] at hs
    cases hv : withinB h[k].tm w.lo w.hi with
    | true =>
      rw [hv] at hs HW
      rw [if_pos rfl] at hs
      repeat (first
    | (apply s_a TY; exact rfl)
    | (apply s_t; exact rfl; (first | assumption | omega))
    | apply w_seq
    | apply w_region
    | apply s_nil
    | apply t_norm
    | apply k_norm
    | apply w_block
    | apply w_skip
    | (apply w_condT; exact rfl; exact rfl)
    | (apply s_k (HW); exact rfl)
    | (apply s_c TY; exact rfl; (first | omega | exact ⟨by omega, by (first | with_reducible assumption | ((with_reducible apply hitsF_ne); omega) | assumption)⟩))
    | (apply s_m TY; exact rfl; (first | with_reducible assumption | ((with_reducible apply hitsF_sub); omega) | exact rfl); exact rfl)
    | (apply s_alloc TY; exact rfl; exact rfl; exact rfl)
    | (apply s_store TY; exact rfl; exact rfl; exact rfl; exact rfl; exact rfl; exact rfl)
    | (apply s_append TY; exact rfl; exact rfl; exact rfl; exact rfl; exact rfl; exact rfl; exact rfl; exact rfl; exact rfl; (unfold maxLen; omega); omega))
      exact ⟨k + 1, by omega, by omega, gh_le ⟨le_upd rfl trivial (le_upd rfl trivial (le_upd rfl trivial (le_upd rfl rfl (le_upd rfl trivial (le_upd rfl trivial (le_nil _)))))), le_hupd (rowI_app hs) trivial (le_h0 _ _)⟩⟩
    | false =>
      rw [hv] at hs HW
      rw [if_neg (by decide), List.append_nil] at hs
      repeat (first
    | (apply s_a TY; exact rfl)
    | (apply s_t; exact rfl; (first | assumption | omega))
    | apply w_seq
    | apply w_region
    | apply s_nil
    | apply t_norm
    | apply k_norm
    | apply w_block
    | apply w_skip
    | (apply w_condT; exact rfl; exact rfl)
    | (apply w_condF; exact rfl; exact rfl)
    | (apply s_k (HW); exact rfl)
    | (apply s_c TY; exact rfl; (first | omega | exact ⟨by omega, by (first | with_reducible assumption | ((with_reducible apply hitsF_ne); omega) | assumption)⟩))
    | (apply s_m TY; exact rfl; (first | with_reducible assumption | ((with_reducible apply hitsF_sub); omega) | exact rfl); exact rfl)
    | (apply s_alloc TY; exact rfl; exact rfl; exact rfl)
    | (apply s_store TY; exact rfl; exact rfl; exact rfl; exact rfl; exact rfl; exact rfl))
      exact ⟨k + 1, by omega, by omega, gh_le ⟨le_upd rfl trivial (le_upd rfl trivial (le_upd rfl trivial (le_upd rfl rfl (le_upd rfl trivial (le_upd rfl trivial (le_nil _)))))), le_hupd (rowI _ _ hs.symm) trivial (le_h0 _ _)⟩⟩
  · have hke : k = h.length := by omega
    subst hke
    repeat (first
    | (apply s_a TY; exact rfl)
    | (apply s_f; exact rfl; (first | assumption | omega))
    | apply w_seq
    | apply w_region
    | apply s_nil
    | apply t_norm
    | apply t_exit
    | apply k_hit
    | apply w_exit
    | apply w_ret
    | (apply w_condF; exact rfl; exact rfl))
    exact lv_ret (ret_gh (gh_row 0 rfl) (ret1 rfl (res_tmp rfl)))
set_option maxRecDepth 100000 in
set_option maxHeartbeats 1600000 in
theorem single_s (l : List Site) (s : Setup) (h : List Hit) (hs : SetOk s) (hl0 : ArrOk l) (ho : HitsOk l h) : Summ Tryz.prog GG 77 [readoutV l s, .sl h.length (hitsF h)] (.sl (singleV l s h).length (rngsF (singleV l s h))) := by
  have h40 := ho.len
  have hs4 := hs.len
  have hsb := hs.before
  have hsa := hs.after
  unfold readoutV setL
  refine summW Tryz.func77 rfl rfl 49 rfl (by simp) (fun M0 => ?_)
  repeat (first
    | (apply s_a TY; exact rfl)
    | apply w_seq
    | apply w_region
    | apply s_nil
    | apply t_norm
    | apply w_block)
  apply w_gh (gh_own 5 65 2 rfl rfl)
  apply w_loop (fun k : Nat => ⟨(Ab.upd (Ab.upd (Ab.upd (Ab.upd (Ab.upd (Ab.upd (fun _ => .bot) 1 (.f (.sl h.length (hitsF h)))) 2 (.f (.pt [.sl l.length (sitesF l), .mp (mapS l l.length), .sl s.rules.length (rulesF s.rules), iv s.before, iv s.after, iv s.dead] 0))) 5 (.ow 0)) 12 (.f (.sl s.rules.length (rulesF s.rules)))) 13 (.f (iv s.rules.length))) 14 (.f (iv (k : Nat)))), (Ab.upd (fun _ => none) 0 (some (.row 65 2 (singK l s h k).length (rngsF (singK l s h k))))), 1⟩) (fun k => k ≤ s.rules.length) (fun k => s.rules.length - k) 0 (Nat.zero_le _) (gh_le ⟨le_upd rfl trivial (le_upd rfl trivial (le_upd rfl trivial (le_upd rfl rfl (le_upd rfl trivial (le_upd rfl trivial (le_nil _)))))), le_hupd rfl trivial (le_h0 _ _)⟩)
  intro k hk
  by_cases hc : k < s.rules.length
  · have HF := fires_s l s.rules[k] h (hs.rule k hc) hl0 ho
    have hsk := singK_len l s h k
    have hfl := firesV_len l s.rules[k] h h.length
    have hks : k * h.length ≤ 4 * h.length := Nat.mul_le_mul_right _ (by omega)
    repeat (first
    | (apply s_a TY; exact rfl)
    | (apply s_t; exact rfl; (first | assumption | omega))
    | apply w_seq
    | apply w_region
    | apply s_nil
    | apply t_norm
    | apply w_block
    | apply w_skip
    | (apply w_condT; exact rfl; exact rfl)
    | (apply s_k (HF); exact rfl)
    | (apply s_c TY; exact rfl; (first | omega | exact ⟨by omega, by (first | with_reducible assumption | ((with_reducible apply firesF_ne); omega) | ((with_reducible apply rulesF_ne); omega) | assumption)⟩))
    | (apply s_m TY; exact rfl; (first | with_reducible assumption | ((with_reducible apply firesF_sub); omega) | ((with_reducible apply rulesF_sub); omega) | exact rfl); exact rfl)
    | (apply s_alloc TY; exact rfl; exact rfl; exact rfl)
    | (apply s_store TY; exact rfl; exact rfl; exact rfl; exact rfl; exact rfl; exact rfl))
    apply w_loop (fun j : Nat => ⟨(Ab.upd (Ab.upd (Ab.upd (Ab.upd (Ab.upd (Ab.upd (Ab.upd (Ab.upd (Ab.upd (fun _ => .bot) 1 (.f (.sl h.length (hitsF h)))) 2 (.f (.pt [.sl l.length (sitesF l), .mp (mapS l l.length), .sl s.rules.length (rulesF s.rules), iv s.before, iv s.after, iv s.dead] 0))) 5 (.ow 0)) 12 (.f (.sl s.rules.length (rulesF s.rules)))) 13 (.f (iv s.rules.length))) 14 (.f (iv (k : Nat)))) 22 (.f (.sl (firesV l s.rules[k] h h.length).length (firesF (firesV l s.rules[k] h h.length))))) 23 (.f (iv (firesV l s.rules[k] h h.length).length))) 24 (.f (iv (j : Nat)))), (Ab.upd (fun _ => none) 0 (some (.row 65 2 (singK l s h k ++ ((firesV l s.rules[k] h h.length).take j).map (winF s)).length (rngsF (singK l s h k ++ ((firesV l s.rules[k] h h.length).take j).map (winF s)))))), 1⟩) (fun j => j ≤ (firesV l s.rules[k] h h.length).length) (fun j => (firesV l s.rules[k] h h.length).length - j) 0 (Nat.zero_le _) (gh_le ⟨le_upd rfl trivial (le_upd rfl trivial (le_upd rfl trivial (le_upd rfl trivial (le_upd rfl trivial (le_upd rfl trivial (le_upd rfl rfl (le_upd rfl trivial (le_upd rfl trivial (le_nil _))))))))), le_hupd (rowR _ _ (by simp)) trivial (le_h0 _ _)⟩)
    intro j hj
    by_cases hd : j < (firesV l s.rules[k] h h.length).length
    · have hfb := firesV_bd (r := s.rules[k]) ho (Nat.le_refl _) (List.getElem_mem hd)
      have hol : (singK l s h k ++ ((firesV l s.rules[k] h h.length).take j).map (winF s)).length ≤ 1000 := by rw [List.length_append, List.length_map, List.length_take]; omega
      have htk : (singK l s h k ++ ((firesV l s.rules[k] h h.length).take (j + 1)).map (winF s)) = (singK l s h k ++ ((firesV l s.rules[k] h h.length).take j).map (winF s)) ++ [winF s (firesV l s.rules[k] h h.length)[j]] := by rw [List.take_succ_eq_append_getElem hd, List.map_append, List.append_assoc]; rfl
      repeat (first
    | (apply s_a TY; exact rfl)
    | (apply s_t; exact rfl; (first | assumption | omega))
    | apply w_seq
    | apply w_region
    | apply s_nil
    | apply t_norm
    | apply k_norm
    | apply w_block
    | apply w_skip
    | (apply w_condT; exact rfl; exact rfl)
    | (apply s_c TY; exact rfl; (first | omega | exact ⟨by omega, by (first | with_reducible assumption | ((with_reducible apply firesF_ne); omega) | ((with_reducible apply rulesF_ne); omega) | assumption)⟩))
    | (apply s_m TY; exact rfl; (first | with_reducible assumption | ((with_reducible apply firesF_sub); omega) | ((with_reducible apply rulesF_sub); omega) | exact rfl); exact rfl)
    | (apply s_alloc TY; exact rfl; exact rfl; exact rfl)
    | (apply s_store TY; exact rfl; exact rfl; exact rfl; exact rfl; exact rfl; exact rfl)
    | (apply s_append TY; exact rfl; exact rfl; exact rfl; exact rfl; exact rfl; exact rfl; exact rfl; exact rfl; exact rfl; (unfold maxLen; omega); omega))
      exact ⟨j + 1, by omega, by omega, gh_le ⟨le_upd rfl trivial (le_upd rfl trivial (le_upd rfl trivial (le_upd rfl trivial (le_upd rfl trivial (le_upd rfl trivial (le_upd rfl rfl (le_upd rfl trivial (le_upd rfl trivial (le_nil _))))))))), le_hupd (row_app2 htk) trivial (le_h0 _ _)⟩⟩
    · have hje : j = (firesV l s.rules[k] h h.length).length := by omega
      subst hje
      have hse : singK l s h (k + 1) = (singK l s h k ++ ((firesV l s.rules[k] h h.length).take (firesV l s.rules[k] h h.length).length).map (winF s)) := by rw [singK_succ hc, List.take_length]; rfl
      repeat (first
    | (apply s_a TY; exact rfl)
    | (apply s_f; exact rfl; (first | assumption | omega))
    | apply w_seq
    | apply w_region
    | apply s_nil
    | apply t_norm
    | apply t_exit
    | apply k_hit
    | apply k_norm
    | apply w_exit
    | (apply w_condF; exact rfl; exact rfl)
    | (apply s_c TY; exact rfl; (first | omega | exact ⟨by omega, by (first | with_reducible assumption | ((with_reducible apply firesF_ne); omega) | ((with_reducible apply rulesF_ne); omega) | assumption)⟩)))
      exact ⟨k + 1, by omega, by omega, gh_le ⟨le_upd rfl trivial (le_upd rfl trivial (le_upd rfl trivial (le_upd rfl rfl (le_upd rfl trivial (le_upd rfl trivial (le_nil _)))))), le_hupd (rowR _ _ hse.symm) trivial (le_h0 _ _)⟩⟩
  · have hke : k = s.rules.length := by omega
    subst hke
    rw [singK_all]
    repeat (first
    | (apply s_a TY; exact rfl)
    | (apply s_f; exact rfl; (first | assumption | omega))
    | apply w_seq
    | apply w_region
    | apply s_nil
    | apply t_norm
    | apply t_exit
    | apply k_hit
    | apply w_exit
    | apply w_ret
    | (apply w_condF; exact rfl; exact rfl))
    exact lv_ret (ret_gh (gh_row 0 rfl) (ret1 rfl (res_tmp rfl)))
end Go.Proofs.YtdmdpkoapllkkaaGreat
namespace Go.Proofs.YtdmdpkoapllkkaaGreat
open Go Go.RowKit Go.Proofs Go.Shelf Go.Ab
def windowsV (l : List Site) (s : Setup) (h : List Hit) : List Rng := joinedV (singleV l s h)
theorem single_lo {l : List Site} {s : Setup} {h : List Hit} (hs : SetOk s) (ho : HitsOk l h) : LoOk (singleV l s h) := fun r hr => by have := singleV_bd hs ho hr; omega
theorem single_hi {l : List Site} {s : Setup} {h : List Hit} (hs : SetOk s) (ho : HitsOk l h) : HiOk (singleV l s h) := fun r hr => by have := singleV_bd hs ho hr; omega
theorem single_len {l : List Site} {s : Setup} {h : List Hit} (hs : SetOk s) (ho : HitsOk l h) : (singleV l s h).length ≤ 160 := by
  have a := singK_len l s h s.rules.length
  rw [singK_all] at a
  have b := hs.len
  have c := ho.len
  have : s.rules.length * h.length ≤ 4 * 40 := Nat.mul_le_mul b c
  omega
theorem mergeV_len (l : List Rng) : (mergeV l).length ≤ l.length := by rw [← mgK_all]; exact mgK_len l _
theorem joinedV_len (l : List Rng) : (joinedV l).length ≤ l.length := by
  unfold joinedV
  have := mergeV_len (sortRng l)
  rwa [sortRng_len] at this
def evOf (h : List Hit) (w : Rng) : Ev := ⟨w.lo, w.hi, hitsInV h w⟩
def eventsV (l : List Site) (s : Setup) (h : List Hit) : List Ev := (windowsV l s h).map (evOf h)
def evK (l : List Site) (s : Setup) (h : List Hit) (k : Nat) : List Ev := ((windowsV l s h).take k).map (evOf h)
theorem evK_succ {l : List Site} {s : Setup} {h : List Hit} {k : Nat} (hk : k < (windowsV l s h).length) : evK l s h (k + 1) = evK l s h k ++ [evOf h (windowsV l s h)[k]] := by
  unfold evK; rw [List.take_succ_eq_append_getElem hk, List.map_append]; rfl
theorem evK_len (l : List Site) (s : Setup) (h : List Hit) (k : Nat) : (evK l s h k).length ≤ k := by unfold evK; rw [List.length_map, List.length_take]; omega
theorem evK_all (l : List Site) (s : Setup) (h : List Hit) : evK l s h (windowsV l s h).length = eventsV l s h := by unfold evK eventsV; rw [List.take_length]
set_option maxRecDepth 100000 in
theorem windows_s (l : List Site) (s : Setup) (h : List Hit) (hs : SetOk s) (hl0 : ArrOk l) (ho : HitsOk l h) : Summ Tryz.prog GG 133 [readoutV l s, .sl h.length (hitsF h)] (.sl (windowsV l s h).length (rngsF (windowsV l s h))) := by
  have h1 := single_len hs ho
  have HS := single_s l s h hs hl0 ho
  have HJ := joined_s (singleV l s h) (single_lo hs ho) (single_hi hs ho) (by omega)
  refine summW Tryz.func133 rfl rfl 9 rfl (by simp) (fun M0 => ?_)
  repeat (first
    | (apply s_a TY; exact rfl)
    | apply w_seq
    | apply w_region
    | apply s_nil
    | apply t_norm
    | apply w_ret
    | (apply s_k (HS); exact rfl)
    | (apply s_k (HJ); exact rfl))
  exact lv_ret (ret1 rfl (res_tmp rfl))
theorem rowEv_app {L a : List Ev} {w : Rng} {h : List Hit} (e : L = a ++ [evOf h w]) : some (Blk.row 67 3 (a.length + 1) (evsF a ++ [iv w.lo, iv w.hi, .sl (hitsInV h w).length (intsF (hitsInV h w))])) = some (Blk.row 67 3 L.length (evsF L)) := by
  rw [e, evsF_snoc, List.length_append]; rfl
set_option maxRecDepth 100000 in
set_option maxHeartbeats 1600000 in
theorem events_s (l : List Site) (s : Setup) (h : List Hit) (hs : SetOk s) (hl0 : ArrOk l) (ho : HitsOk l h) : Summ Tryz.prog GG 95 [readoutV l s, .sl h.length (hitsF h)] (.sl (eventsV l s h).length (evsF (eventsV l s h))) := by
  have h40 := ho.len
  have h1 := single_len hs ho
  have h2 : (windowsV l s h).length ≤ 160 := Nat.le_trans (joinedV_len _) h1
  have HW := windows_s l s h hs hl0 ho
  refine summW Tryz.func95 rfl rfl 26 rfl (by simp) (fun M0 => ?_)
  repeat (first
    | (apply s_a TY; exact rfl)
    | apply w_seq
    | apply w_region
    | apply s_nil
    | apply t_norm
    | apply w_block
    | (apply s_k (HW); exact rfl))
  apply w_gh (gh_own 5 67 3 rfl rfl)
  apply w_loop (fun k : Nat => ⟨(Ab.upd (Ab.upd (Ab.upd (Ab.upd (Ab.upd (fun _ => .bot) 1 (.f (.sl h.length (hitsF h)))) 5 (.ow 0)) 10 (.f (.sl (windowsV l s h).length (rngsF (windowsV l s h))))) 11 (.f (iv (windowsV l s h).length))) 12 (.f (iv (k : Nat)))), (Ab.upd (fun _ => none) 0 (some (.row 67 3 (evK l s h k).length (evsF (evK l s h k))))), 1⟩) (fun k => k ≤ (windowsV l s h).length) (fun k => (windowsV l s h).length - k) 0 (Nat.zero_le _) (gh_le ⟨le_upd rfl trivial (le_upd rfl trivial (le_upd rfl trivial (le_upd rfl rfl (le_upd rfl trivial (le_nil _))))), le_hupd rfl trivial (le_h0 _ _)⟩)
  intro k hk
  have hln := evK_len l s h k
  by_cases hc : k < (windowsV l s h).length
  · have hsu := evK_succ hc
    have HI := hitsIn_s h (windowsV l s h)[k] (by omega)
    repeat (first
    | (apply s_a TY; exact rfl)
    | (apply s_t; exact rfl; (first | assumption | omega))
    | apply w_seq
    | apply w_region
    | (apply w_draw (id := 5) 7 rfl (by kernel_rfl))
    | apply s_nil
    | apply t_norm
    | apply k_norm
    | apply w_block
    | apply w_skip
    | (apply w_condT; exact rfl; exact rfl)
    | (apply s_k (HI); exact rfl)
    | (apply s_c TY; exact rfl; (first | omega | exact ⟨by omega, by (first | with_reducible assumption | ((with_reducible apply rngsF_ne); omega) | assumption)⟩))
    | (apply s_m TY; exact rfl; (first | with_reducible assumption | ((with_reducible apply rngsF_sub); omega) | exact rfl); exact rfl)
    | (apply s_alloc TY; exact rfl; exact rfl; exact rfl)
    | (apply s_store TY; exact rfl; exact rfl; exact rfl; exact rfl; exact rfl; exact rfl)
    | (apply s_append TY; exact rfl; exact rfl; exact rfl; exact rfl; exact rfl; exact rfl; exact rfl; exact rfl; exact rfl; (unfold maxLen; omega); omega))
    exact ⟨k + 1, by omega, by omega, gh_le ⟨le_upd rfl trivial (le_upd rfl trivial (le_upd rfl trivial (le_upd rfl rfl (le_upd rfl trivial (le_nil _))))), le_hupd (rowEv_app hsu) trivial (le_h0 _ _)⟩⟩
  · have hke : k = (windowsV l s h).length := by omega
    subst hke
    rw [evK_all]
    repeat (first
    | (apply s_a TY; exact rfl)
    | (apply s_f; exact rfl; (first | assumption | omega))
    | apply w_seq
    | apply w_region
    | apply s_nil
    | apply t_norm
    | apply t_exit
    | apply k_hit
    | apply w_exit
    | apply w_ret
    | (apply w_condF; exact rfl; exact rfl))
    exact lv_ret (ret_gh (gh_row 0 rfl) (ret1 rfl (res_tmp rfl)))
theorem setErr_parts {l : List Site} {s : Setup} {h : List Hit} (e : setErr l s h = 0) : (arrChk l).2 = 0 ∧ (setupChk s).2 = 0 ∧ (hitsChk l h).2 = 0 := by
  unfold setErr at e
  have h1 : (arrChk l).2 = 0 := Classical.byContradiction fun h1 => by rw [if_pos h1] at e; exact h1 e
  rw [if_neg (by simpa using h1)] at e
  have h2 : (setupChk s).2 = 0 := Classical.byContradiction fun h2 => by rw [if_pos h2] at e; exact h2 e
  rw [if_neg (by simpa using h2)] at e
  exact ⟨h1, h2, e⟩
set_option maxRecDepth 100000 in
theorem EventsOf_ok (l : List Site) (s : Setup) (h : List Hit) (hl : l.length ≤ 1000000) (hsl : s.rules.length ≤ 1000000) (hh : h.length ≤ 1000000) (e : setErr l s h = 0) : Summ Tryz.prog GG 32 [arrF l, setF s, .sl h.length (hitsF h)] (.tup [.sl (eventsV l s h).length (evsF (eventsV l s h)), iv 0]) := by
  obtain ⟨e1, e2, e3⟩ := setErr_parts e
  have hl0 := arrOk_of e1
  have hs := setOk_of e2
  have ho := hitsOk_of hl0 e3
  have HO := openSetup_ok l s h hl hsl hh e
  have HE := events_s l s h hs hl0 ho
  refine summW Tryz.func32 rfl rfl 23 rfl (by simp) (fun M0 => ?_)
  repeat (first
    | (apply s_a TY; exact rfl)
    | (apply s_t; exact rfl; (first | assumption | omega))
    | apply w_seq
    | apply w_region
    | apply s_nil
    | apply t_norm
    | apply w_ret
    | apply w_skip
    | (apply w_condF; exact rfl; exact rfl)
    | (apply s_k (HO); exact rfl)
    | (apply s_k (HE); exact rfl)
    | (apply s_alloc TY; exact rfl; exact rfl; exact rfl)
    | (apply s_store TY; exact rfl; exact rfl; exact rfl; exact rfl; exact rfl; exact rfl))
  exact lv_ret (ret2 rfl (res_tmp rfl) (res_tmp rfl))
end Go.Proofs.YtdmdpkoapllkkaaGreat
namespace Go.Proofs.YtdmdpkoapllkkaaGreat
open Go Go.RowKit Go.Proofs Go.Shelf Go.Ab
theorem stood_rng : Tryz.prog.stoodInHeld 65 = false := by kernel_rfl
theorem fields_rng : Tryz.prog.fieldsOf 65 = #[{ name := "Lo", type := 3, offset := 0, embedded := false, tag := "", pkgPath := "", byteOffset := 0 }, { name := "Hi", type := 3, offset := 1, embedded := false, tag := "", pkgPath := "", byteOffset := 8 }] := by kernel_rfl
theorem equalIn_rng (d : Nat) (a b : Rng) (W : World) : (Op.equalIn (d + 2) 65 (.agg #[.int .i64 a.lo, .int .i64 a.hi]) (.agg #[.int .i64 b.lo, .int .i64 b.hi])).run Tryz.prog W = .ok (decide (a = b)) W := by
  rw [run_equalIn_agg W (d + 1) 65 _ _ (by rw [fields_rng]; exact Tryz.underlying65) stood_rng, fields_rng]
  have e : decide (a = b) = (a.lo == b.lo && a.hi == b.hi) := by
    cases a; cases b; simp [Rng.mk.injEq]
    try simp [Bool.and_assoc]
    try rfl
  rw [e]
  cases h0 : a.lo == b.lo <;> cases h1 : a.hi == b.hi <;> simp [Op.eqFields, part, run_equalIn_int W d 3 _ _ _ _ Tryz.underlying3, h0, h1]
theorem guard_rng : Tryz.prog.eqGuardType Tryz.prog.depth 65 = false := by kernel_rfl
theorem ne_rng {x y : Operand} {a b : Rng} {c : Bool} (h : decide (a = b) = !c) : ∀ w, (do eqGuard .neq 65 x y (.agg #[.int .i64 a.lo, .int .i64 a.hi]) (.agg #[.int .i64 b.lo, .int .i64 b.hi]); binOp .neq 65 (.agg #[.int .i64 a.lo, .int .i64 a.hi]) (.agg #[.int .i64 b.lo, .int .i64 b.hi]) : Sem Value).run Tryz.prog w = .ok (.bool c) w := fun w => by
  have h1 := equalIn_rng 9998 a b w
  rw [h] at h1
  first
  | (simp [eqGuard, run_neq_struct, h1]; done)
  | simp [eqGuard, guard_rng, run_neq_struct, h1]
theorem stood_hit : Tryz.prog.stoodInHeld 29 = false := by kernel_rfl
theorem fields_hit : Tryz.prog.fieldsOf 29 = #[{ name := "At", type := 3, offset := 0, embedded := false, tag := "", pkgPath := "", byteOffset := 0 }, { name := "Line", type := 3, offset := 1, embedded := false, tag := "", pkgPath := "", byteOffset := 8 }, { name := "Sensor", type := 3, offset := 2, embedded := false, tag := "", pkgPath := "", byteOffset := 16 }] := by kernel_rfl
theorem equalIn_hit (d : Nat) (a b : Hit) (W : World) : (Op.equalIn (d + 2) 29 (.agg #[.int .i64 a.tm, .int .i64 a.line, .int .i64 a.sensor]) (.agg #[.int .i64 b.tm, .int .i64 b.line, .int .i64 b.sensor])).run Tryz.prog W = .ok (decide (a = b)) W := by
  rw [run_equalIn_agg W (d + 1) 29 _ _ (by rw [fields_hit]; exact Tryz.underlying29) stood_hit, fields_hit]
  have e : decide (a = b) = (a.tm == b.tm && a.line == b.line && a.sensor == b.sensor) := by
    cases a; cases b; simp [Hit.mk.injEq]
    try simp [Bool.and_assoc]
    try rfl
  rw [e]
  cases h0 : a.tm == b.tm <;> cases h1 : a.line == b.line <;> cases h2 : a.sensor == b.sensor <;> simp [Op.eqFields, part, run_equalIn_int W d 3 _ _ _ _ Tryz.underlying3, h0, h1, h2]
theorem guard_hit : Tryz.prog.eqGuardType Tryz.prog.depth 29 = false := by kernel_rfl
theorem ne_hit {x y : Operand} {a b : Hit} {c : Bool} (h : decide (a = b) = !c) : ∀ w, (do eqGuard .neq 29 x y (.agg #[.int .i64 a.tm, .int .i64 a.line, .int .i64 a.sensor]) (.agg #[.int .i64 b.tm, .int .i64 b.line, .int .i64 b.sensor]); binOp .neq 29 (.agg #[.int .i64 a.tm, .int .i64 a.line, .int .i64 a.sensor]) (.agg #[.int .i64 b.tm, .int .i64 b.line, .int .i64 b.sensor]) : Sem Value).run Tryz.prog w = .ok (.bool c) w := fun w => by
  have h1 := equalIn_hit 9998 a b w
  rw [h] at h1
  first
  | (simp [eqGuard, run_neq_struct, h1]; done)
  | simp [eqGuard, guard_hit, run_neq_struct, h1]
theorem stood_fire : Tryz.prog.stoodInHeld 110 = false := by kernel_rfl
theorem fields_fire : Tryz.prog.fieldsOf 110 = #[{ name := "Hit", type := 3, offset := 0, embedded := false, tag := "", pkgPath := "", byteOffset := 0 }, { name := "Span", type := 65, offset := 1, embedded := false, tag := "", pkgPath := "", byteOffset := 8 }] := by kernel_rfl
set_option maxRecDepth 100000 in
theorem equalIn_fire (d : Nat) (a b : Fire) (W : World) : (Op.equalIn (d + 3) 110 (.agg #[.int .i64 a.hit, .int .i64 a.lo, .int .i64 a.hi]) (.agg #[.int .i64 b.hit, .int .i64 b.lo, .int .i64 b.hi])).run Tryz.prog W = .ok (decide (a = b)) W := by
  rw [run_equalIn_agg W (d + 2) 110 _ _ (by rw [fields_fire]; exact Tryz.underlying110) stood_fire, fields_fire]
  have e : decide (a = b) = (a.hit == b.hit && a.lo == b.lo && a.hi == b.hi) := by
    cases a; cases b; simp [Fire.mk.injEq]
    try simp [Bool.and_assoc]
    try rfl
  rw [e]
  have hr := equalIn_rng d ⟨a.lo, a.hi⟩ ⟨b.lo, b.hi⟩ W
  simp only at hr
  have e2 : decide ((⟨a.lo, a.hi⟩ : Rng) = ⟨b.lo, b.hi⟩) = (a.lo == b.lo && a.hi == b.hi) := by simp [Rng.mk.injEq]; try rfl
  rw [e2] at hr
  cases h0 : a.hit == b.hit <;> cases h1 : a.lo == b.lo <;> cases h2 : a.hi == b.hi <;> (rw [h1, h2] at hr; simp [Op.eqFields, part, run_equalIn_int W (d + 1) 3 _ _ _ _ Tryz.underlying3, Tryz.isAgg65, Tryz.sizeOf65, h0]; try (rw [hr]; rfl))
theorem guard_fire : Tryz.prog.eqGuardType Tryz.prog.depth 110 = false := by kernel_rfl
theorem ne_fire {x y : Operand} {a b : Fire} {c : Bool} (h : decide (a = b) = !c) : ∀ w, (do eqGuard .neq 110 x y (.agg #[.int .i64 a.hit, .int .i64 a.lo, .int .i64 a.hi]) (.agg #[.int .i64 b.hit, .int .i64 b.lo, .int .i64 b.hi]); binOp .neq 110 (.agg #[.int .i64 a.hit, .int .i64 a.lo, .int .i64 a.hi]) (.agg #[.int .i64 b.hit, .int .i64 b.lo, .int .i64 b.hi]) : Sem Value).run Tryz.prog w = .ok (.bool c) w := fun w => by
  have h1 := equalIn_fire 9997 a b w
  rw [h] at h1
  first
  | (simp [eqGuard, run_neq_struct, h1]; done)
  | simp [eqGuard, guard_fire, run_neq_struct, h1]
theorem take_eq_succ {α : Type} {a b : List α} {k : Nat} (ha : k < a.length) (hb : k < b.length) (ht : a.take k = b.take k) (he : a[k] = b[k]) : a.take (k + 1) = b.take (k + 1) := by
  rw [List.take_succ_eq_append_getElem ha, List.take_succ_eq_append_getElem hb, ht, he]
theorem take_all_eq {α : Type} {a b : List α} {k : Nat} (hl : a.length = b.length) (hk : a.length ≤ k) (ht : a.take k = b.take k) : a = b := by
  rwa [List.take_of_length_le hk, List.take_of_length_le (by omega)] at ht
set_option maxRecDepth 100000 in
set_option maxHeartbeats 1600000 in
theorem Ints_s (a b : List Int) (ha : a.length ≤ 1000000) (_hb : b.length ≤ 1000000) : Summ Tryz.prog GG 22 [.sl a.length (intsF a), .sl b.length (intsF b)] (bv (decide (a = b))) := by
  by_cases hl : a.length = b.length
  · refine summW Tryz.func22 rfl rfl 26 rfl (by simp) (fun M0 => ?_)
    repeat (first
    | (apply s_a TY; exact rfl)
    | (apply s_t; exact rfl; (first | assumption | omega))
    | apply w_seq
    | apply w_region
    | apply s_nil
    | apply t_norm
    | apply w_block
    | apply w_skip
    | (apply w_condF; exact rfl; exact rfl))
    apply w_loop (fun k : Nat => ⟨(Ab.upd (Ab.upd (Ab.upd (fun _ => .bot) 0 (.f (.sl a.length (intsF a)))) 1 (.f (.sl b.length (intsF b)))) 5 (.f (iv (k : Nat)))), (fun _ => none), 0⟩) (fun k => k ≤ a.length ∧ a.take k = b.take k) (fun k => a.length - k) 0 (⟨Nat.zero_le _, by simp⟩) (gh_le ⟨le_upd rfl trivial (le_upd rfl trivial (le_upd rfl trivial (le_nil _))), le_h0 _ _⟩)
    intro k ⟨hk, ht⟩
    by_cases hc : k < a.length
    · have hcb : k < b.length := by omega
      by_cases he : a[k] = b[k]
      · have hd : decide (a[k] = b[k]) = !false := by simp [he]
        repeat (first
    | (apply s_a TY; exact rfl)
    | (apply s_t; exact rfl; (first | assumption | omega))
    | apply w_seq
    | apply w_region
    | (apply w_draw (id := 6) 8 rfl (by kernel_rfl))
    | apply s_nil
    | apply t_norm
    | apply k_norm
    | apply w_block
    | apply w_skip
    | (apply w_condT; exact rfl; exact rfl)
    | (apply w_condF; exact rfl; exact rfl)
    | (apply s_c TY; exact rfl; (first | omega | exact ⟨by omega, by (first | with_reducible assumption | ((with_reducible apply intsF_ne); omega) | assumption)⟩))
    | (apply s_l TY; exact rfl; (first | exact rfl | with_reducible assumption | ((with_reducible apply intsF_at); omega) | assumption)))
        exact ⟨k + 1, ⟨by omega, take_eq_succ hc hcb ht he⟩, by omega, gh_le ⟨le_upd rfl trivial (le_upd rfl trivial (le_upd rfl trivial (le_nil _))), le_h0 _ _⟩⟩
      · have hd : decide (a[k] = b[k]) = !true := by simp [he]
        have hne : ¬ a = b := fun e => he (by simp [e])
        rw [decide_eq_false hne]
        repeat (first
    | (apply s_a TY; exact rfl)
    | (apply s_t; exact rfl; (first | assumption | omega))
    | (apply s_f; exact rfl; (first | assumption | omega))
    | apply w_seq
    | apply w_region
    | (apply w_draw (id := 6) 8 rfl (by kernel_rfl))
    | apply s_nil
    | apply t_norm
    | apply t_ret
    | apply k_ret
    | apply w_block
    | apply w_ret
    | apply w_skip
    | (apply w_condT; exact rfl; exact rfl)
    | (apply s_c TY; exact rfl; (first | omega | exact ⟨by omega, by (first | with_reducible assumption | ((with_reducible apply intsF_ne); omega) | assumption)⟩))
    | (apply s_l TY; exact rfl; (first | exact rfl | with_reducible assumption | ((with_reducible apply intsF_at); omega) | assumption)))
        exact lv_ret (ret1 rfl (res_tmp rfl))
    · rw [decide_eq_true (take_all_eq hl (by omega) ht)]
      repeat (first
    | (apply s_a TY; exact rfl)
    | (apply s_f; exact rfl; (first | assumption | omega))
    | apply w_seq
    | apply w_region
    | apply s_nil
    | apply t_norm
    | apply t_exit
    | apply k_hit
    | apply w_exit
    | apply w_ret
    | (apply w_condF; exact rfl; exact rfl))
      exact lv_ret (ret1 rfl (res_tmp rfl))
  · have hne : ¬ a = b := fun e => hl (by rw [e])
    rw [decide_eq_false hne]
    refine summW Tryz.func22 rfl rfl 26 rfl (by simp) (fun M0 => ?_)
    repeat (first
    | (apply s_a TY; exact rfl)
    | (apply s_f; exact rfl; (first | assumption | omega))
    | apply w_seq
    | apply w_region
    | apply s_nil
    | apply t_norm
    | apply t_ret
    | apply w_ret
    | (apply w_condT; exact rfl; exact rfl))
    exact lv_ret (ret1 rfl (res_tmp rfl))
set_option maxRecDepth 100000 in
set_option maxHeartbeats 1600000 in
theorem SameFires_s (a b : List Fire) (ha : a.length ≤ 1000000) (_hb : b.length ≤ 1000000) : Summ Tryz.prog GG 58 [.sl a.length (firesF a), .sl b.length (firesF b)] (bv (decide (a = b))) := by
  by_cases hl : a.length = b.length
  · refine summW Tryz.func58 rfl rfl 26 rfl (by simp) (fun M0 => ?_)
    repeat (first
    | (apply s_a TY; exact rfl)
    | (apply s_t; exact rfl; (first | assumption | omega))
    | apply w_seq
    | apply w_region
    | apply s_nil
    | apply t_norm
    | apply w_block
    | apply w_skip
    | (apply w_condF; exact rfl; exact rfl))
    apply w_loop (fun k : Nat => ⟨(Ab.upd (Ab.upd (Ab.upd (fun _ => .bot) 0 (.f (.sl a.length (firesF a)))) 1 (.f (.sl b.length (firesF b)))) 5 (.f (iv (k : Nat)))), (fun _ => none), 0⟩) (fun k => k ≤ a.length ∧ a.take k = b.take k) (fun k => a.length - k) 0 (⟨Nat.zero_le _, by simp⟩) (gh_le ⟨le_upd rfl trivial (le_upd rfl trivial (le_upd rfl trivial (le_nil _))), le_h0 _ _⟩)
    intro k ⟨hk, ht⟩
    by_cases hc : k < a.length
    · have hcb : k < b.length := by omega
      by_cases he : a[k] = b[k]
      · have hd : decide (a[k] = b[k]) = !false := by simp [he]
        repeat (first
    | (apply s_bind; exact rfl; exact rfl; exact rfl; exact rfl; exact rfl; exact rfl; exact ne_fire (by assumption))
    | (apply s_a TY; exact rfl)
    | (apply s_t; exact rfl; (first | assumption | omega))
    | apply w_seq
    | apply w_region
    | (apply w_draw (id := 6) 8 rfl (by kernel_rfl))
    | apply s_nil
    | apply t_norm
    | apply k_norm
    | apply w_block
    | apply w_skip
    | (apply w_condT; exact rfl; exact rfl)
    | (apply w_condF; exact rfl; exact rfl)
    | (apply s_c TY; exact rfl; (first | omega | exact ⟨by omega, by (first | with_reducible assumption | ((with_reducible apply firesF_ne); omega) | assumption)⟩))
    | (apply s_m TY; exact rfl; (first | with_reducible assumption | ((with_reducible apply firesF_sub); omega) | exact rfl); exact rfl))
        exact ⟨k + 1, ⟨by omega, take_eq_succ hc hcb ht he⟩, by omega, gh_le ⟨le_upd rfl trivial (le_upd rfl trivial (le_upd rfl trivial (le_nil _))), le_h0 _ _⟩⟩
      · have hd : decide (a[k] = b[k]) = !true := by simp [he]
        have hne : ¬ a = b := fun e => he (by simp [e])
        rw [decide_eq_false hne]
        repeat (first
    | (apply s_bind; exact rfl; exact rfl; exact rfl; exact rfl; exact rfl; exact rfl; exact ne_fire (by assumption))
    | (apply s_a TY; exact rfl)
    | (apply s_t; exact rfl; (first | assumption | omega))
    | apply w_seq
    | apply w_region
    | (apply w_draw (id := 6) 8 rfl (by kernel_rfl))
    | apply s_nil
    | apply t_norm
    | apply t_ret
    | apply k_ret
    | apply w_block
    | apply w_ret
    | apply w_skip
    | (apply w_condT; exact rfl; exact rfl)
    | (apply s_c TY; exact rfl; (first | omega | exact ⟨by omega, by (first | with_reducible assumption | ((with_reducible apply firesF_ne); omega) | assumption)⟩))
    | (apply s_m TY; exact rfl; (first | with_reducible assumption | ((with_reducible apply firesF_sub); omega) | exact rfl); exact rfl))
        exact lv_ret (ret1 rfl (res_tmp rfl))
    · rw [decide_eq_true (take_all_eq hl (by omega) ht)]
      repeat (first
    | (apply s_a TY; exact rfl)
    | (apply s_f; exact rfl; (first | assumption | omega))
    | apply w_seq
    | apply w_region
    | apply s_nil
    | apply t_norm
    | apply t_exit
    | apply k_hit
    | apply w_exit
    | apply w_ret
    | (apply w_condF; exact rfl; exact rfl))
      exact lv_ret (ret1 rfl (res_tmp rfl))
  · have hne : ¬ a = b := fun e => hl (by rw [e])
    rw [decide_eq_false hne]
    refine summW Tryz.func58 rfl rfl 26 rfl (by simp) (fun M0 => ?_)
    repeat (first
    | (apply s_a TY; exact rfl)
    | (apply s_f; exact rfl; (first | assumption | omega))
    | apply w_seq
    | apply w_region
    | apply s_nil
    | apply t_norm
    | apply t_ret
    | apply w_ret
    | (apply w_condT; exact rfl; exact rfl))
    exact lv_ret (ret1 rfl (res_tmp rfl))
set_option maxRecDepth 100000 in
set_option maxHeartbeats 1600000 in
theorem SameHits_s (a b : List Hit) (ha : a.length ≤ 1000000) (_hb : b.length ≤ 1000000) : Summ Tryz.prog GG 47 [.sl a.length (hitsF a), .sl b.length (hitsF b)] (bv (decide (a = b))) := by
  by_cases hl : a.length = b.length
  · refine summW Tryz.func47 rfl rfl 26 rfl (by simp) (fun M0 => ?_)
    repeat (first
    | (apply s_a TY; exact rfl)
    | (apply s_t; exact rfl; (first | assumption | omega))
    | apply w_seq
    | apply w_region
    | apply s_nil
    | apply t_norm
    | apply w_block
    | apply w_skip
    | (apply w_condF; exact rfl; exact rfl))
    apply w_loop (fun k : Nat => ⟨(Ab.upd (Ab.upd (Ab.upd (fun _ => .bot) 0 (.f (.sl a.length (hitsF a)))) 1 (.f (.sl b.length (hitsF b)))) 5 (.f (iv (k : Nat)))), (fun _ => none), 0⟩) (fun k => k ≤ a.length ∧ a.take k = b.take k) (fun k => a.length - k) 0 (⟨Nat.zero_le _, by simp⟩) (gh_le ⟨le_upd rfl trivial (le_upd rfl trivial (le_upd rfl trivial (le_nil _))), le_h0 _ _⟩)
    intro k ⟨hk, ht⟩
    by_cases hc : k < a.length
    · have hcb : k < b.length := by omega
      by_cases he : a[k] = b[k]
      · have hd : decide (a[k] = b[k]) = !false := by simp [he]
        repeat (first
    | (apply s_bind; exact rfl; exact rfl; exact rfl; exact rfl; exact rfl; exact rfl; exact ne_hit (by assumption))
    | (apply s_a TY; exact rfl)
    | (apply s_t; exact rfl; (first | assumption | omega))
    | apply w_seq
    | apply w_region
    | (apply w_draw (id := 6) 8 rfl (by kernel_rfl))
    | apply s_nil
    | apply t_norm
    | apply k_norm
    | apply w_block
    | apply w_skip
    | (apply w_condT; exact rfl; exact rfl)
    | (apply w_condF; exact rfl; exact rfl)
    | (apply s_c TY; exact rfl; (first | omega | exact ⟨by omega, by (first | with_reducible assumption | ((with_reducible apply hitsF_ne); omega) | assumption)⟩))
    | (apply s_m TY; exact rfl; (first | with_reducible assumption | ((with_reducible apply hitsF_sub); omega) | exact rfl); exact rfl))
        exact ⟨k + 1, ⟨by omega, take_eq_succ hc hcb ht he⟩, by omega, gh_le ⟨le_upd rfl trivial (le_upd rfl trivial (le_upd rfl trivial (le_nil _))), le_h0 _ _⟩⟩
      · have hd : decide (a[k] = b[k]) = !true := by simp [he]
        have hne : ¬ a = b := fun e => he (by simp [e])
        rw [decide_eq_false hne]
        repeat (first
    | (apply s_bind; exact rfl; exact rfl; exact rfl; exact rfl; exact rfl; exact rfl; exact ne_hit (by assumption))
    | (apply s_a TY; exact rfl)
    | (apply s_t; exact rfl; (first | assumption | omega))
    | apply w_seq
    | apply w_region
    | (apply w_draw (id := 6) 8 rfl (by kernel_rfl))
    | apply s_nil
    | apply t_norm
    | apply t_ret
    | apply k_ret
    | apply w_block
    | apply w_ret
    | apply w_skip
    | (apply w_condT; exact rfl; exact rfl)
    | (apply s_c TY; exact rfl; (first | omega | exact ⟨by omega, by (first | with_reducible assumption | ((with_reducible apply hitsF_ne); omega) | assumption)⟩))
    | (apply s_m TY; exact rfl; (first | with_reducible assumption | ((with_reducible apply hitsF_sub); omega) | exact rfl); exact rfl))
        exact lv_ret (ret1 rfl (res_tmp rfl))
    · rw [decide_eq_true (take_all_eq hl (by omega) ht)]
      repeat (first
    | (apply s_a TY; exact rfl)
    | (apply s_f; exact rfl; (first | assumption | omega))
    | apply w_seq
    | apply w_region
    | apply s_nil
    | apply t_norm
    | apply t_exit
    | apply k_hit
    | apply w_exit
    | apply w_ret
    | (apply w_condF; exact rfl; exact rfl))
      exact lv_ret (ret1 rfl (res_tmp rfl))
  · have hne : ¬ a = b := fun e => hl (by rw [e])
    rw [decide_eq_false hne]
    refine summW Tryz.func47 rfl rfl 26 rfl (by simp) (fun M0 => ?_)
    repeat (first
    | (apply s_a TY; exact rfl)
    | (apply s_f; exact rfl; (first | assumption | omega))
    | apply w_seq
    | apply w_region
    | apply s_nil
    | apply t_norm
    | apply t_ret
    | apply w_ret
    | (apply w_condT; exact rfl; exact rfl))
    exact lv_ret (ret1 rfl (res_tmp rfl))
set_option maxRecDepth 100000 in
set_option maxHeartbeats 1600000 in
theorem SameEvents_s (a b : List Ev) (ha : a.length ≤ 1000000) (_hb : b.length ≤ 1000000) (h1 : ∀ x, x ∈ a → x.hits.length ≤ 1000000) (h2 : ∀ x, x ∈ b → x.hits.length ≤ 1000000) : Summ Tryz.prog GG 34 [.sl a.length (evsF a), .sl b.length (evsF b)] (bv (decide (a = b))) := by
  by_cases hl : a.length = b.length
  · refine summW Tryz.func34 rfl rfl 42 rfl (by simp) (fun M0 => ?_)
    repeat (first
    | (apply s_a TY; exact rfl)
    | (apply s_t; exact rfl; (first | assumption | omega))
    | apply w_seq
    | apply w_region
    | apply s_nil
    | apply t_norm
    | apply w_block
    | apply w_skip
    | (apply w_condF; exact rfl; exact rfl))
    apply w_loop (fun k : Nat => ⟨(Ab.upd (Ab.upd (Ab.upd (fun _ => .bot) 0 (.f (.sl a.length (evsF a)))) 1 (.f (.sl b.length (evsF b)))) 5 (.f (iv (k : Nat)))), (fun _ => none), 0⟩) (fun k => k ≤ a.length ∧ a.take k = b.take k) (fun k => a.length - k) 0 (⟨Nat.zero_le _, by simp⟩) (gh_le ⟨le_upd rfl trivial (le_upd rfl trivial (le_upd rfl trivial (le_nil _))), le_h0 _ _⟩)
    intro k ⟨hk, ht⟩
    by_cases hc : k < a.length
    · have hcb : k < b.length := by omega
      have hwa : ((evsF a).drop (k * 3 + 0)).take 2 = [iv a[k].lo, iv a[k].hi] := by rw [Nat.add_zero, evsF_drop, List.drop_eq_getElem_cons hc]; rfl
      have hwb : ((evsF b).drop (k * 3 + 0)).take 2 = [iv b[k].lo, iv b[k].hi] := by rw [Nat.add_zero, evsF_drop, List.drop_eq_getElem_cons hcb]; rfl
      have h1a := h1 a[k] (List.getElem_mem hc)
      have h1b := h2 b[k] (List.getElem_mem hcb)
      by_cases hr : (⟨a[k].lo, a[k].hi⟩ : Rng) = ⟨b[k].lo, b[k].hi⟩
      · have hd : decide ((⟨a[k].lo, a[k].hi⟩ : Rng) = ⟨b[k].lo, b[k].hi⟩) = !false := by rw [decide_eq_true hr]; rfl
        have HI := Ints_s a[k].hits b[k].hits h1a h1b
        by_cases hh : a[k].hits = b[k].hits
        · have he : a[k] = b[k] := by
            generalize a[k] = x at hr hh ⊢
            generalize b[k] = y at hr hh ⊢
            cases x; cases y
            simp only [Rng.mk.injEq] at hr
            simp only at hh
            rw [hr.1, hr.2, hh]
          rw [decide_eq_true hh] at HI
          repeat (first
    | (apply s_bind; exact rfl; exact rfl; exact rfl; exact rfl; exact rfl; exact rfl; exact ne_rng (by assumption))
    | (apply s_a TY; exact rfl)
    | (apply s_t; exact rfl; (first | assumption | omega))
    | apply w_seq
    | apply w_region
    | (apply w_draw (id := 6) 22 rfl (by kernel_rfl))
    | apply s_nil
    | apply t_norm
    | apply k_norm
    | apply w_block
    | apply w_skip
    | (apply w_condT; exact rfl; exact rfl)
    | (apply w_condF; exact rfl; exact rfl)
    | (apply s_k (HI); exact rfl)
    | (apply s_c TY; exact rfl; (first | omega | exact ⟨by omega, by (first | with_reducible assumption | ((with_reducible apply evsF_ne); omega) | assumption)⟩))
    | (apply s_l TY; exact rfl; (first | exact rfl | with_reducible assumption | ((with_reducible apply evsF_f0); omega) | ((with_reducible apply evsF_f1); omega) | ((with_reducible apply evsF_f2); omega) | assumption))
    | (apply s_m TY; exact rfl; (first | with_reducible assumption | ((with_reducible apply evsF_sub); omega) | exact rfl); exact rfl))
          exact ⟨k + 1, ⟨by omega, take_eq_succ hc hcb ht he⟩, by omega, gh_le ⟨le_upd rfl trivial (le_upd rfl trivial (le_upd rfl trivial (le_nil _))), le_h0 _ _⟩⟩
        · have hne : ¬ a = b := fun e => hh (by simp [e])
          rw [decide_eq_false hh] at HI
          rw [decide_eq_false hne]
          repeat (first
    | (apply s_bind; exact rfl; exact rfl; exact rfl; exact rfl; exact rfl; exact rfl; exact ne_rng (by assumption))
    | (apply s_a TY; exact rfl)
    | (apply s_t; exact rfl; (first | assumption | omega))
    | apply w_seq
    | apply w_region
    | (apply w_draw (id := 6) 22 rfl (by kernel_rfl))
    | apply s_nil
    | apply t_norm
    | apply t_ret
    | apply k_ret
    | apply w_block
    | apply w_ret
    | apply w_skip
    | (apply w_condT; exact rfl; exact rfl)
    | (apply s_k (HI); exact rfl)
    | (apply s_c TY; exact rfl; (first | omega | exact ⟨by omega, by (first | with_reducible assumption | ((with_reducible apply evsF_ne); omega) | assumption)⟩))
    | (apply s_l TY; exact rfl; (first | exact rfl | with_reducible assumption | ((with_reducible apply evsF_f0); omega) | ((with_reducible apply evsF_f1); omega) | ((with_reducible apply evsF_f2); omega) | assumption))
    | (apply s_m TY; exact rfl; (first | with_reducible assumption | ((with_reducible apply evsF_sub); omega) | exact rfl); exact rfl))
          exact lv_ret (ret1 rfl (res_tmp rfl))
      · have hd : decide ((⟨a[k].lo, a[k].hi⟩ : Rng) = ⟨b[k].lo, b[k].hi⟩) = !true := by rw [decide_eq_false hr]; rfl
        have hne : ¬ a = b := fun e => hr (by simp [e])
        rw [decide_eq_false hne]
        repeat (first
    | (apply s_bind; exact rfl; exact rfl; exact rfl; exact rfl; exact rfl; exact rfl; exact ne_rng (by assumption))
    | (apply s_a TY; exact rfl)
    | (apply s_t; exact rfl; (first | assumption | omega))
    | apply w_seq
    | apply w_region
    | (apply w_draw (id := 6) 22 rfl (by kernel_rfl))
    | apply s_nil
    | apply t_norm
    | apply t_ret
    | apply k_ret
    | apply w_block
    | apply w_ret
    | apply w_skip
    | (apply w_condT; exact rfl; exact rfl)
    | (apply s_s; exact rfl)
    | (apply s_c TY; exact rfl; (first | omega | exact ⟨by omega, by (first | with_reducible assumption | ((with_reducible apply evsF_ne); omega) | assumption)⟩))
    | (apply s_m TY; exact rfl; (first | with_reducible assumption | ((with_reducible apply evsF_sub); omega) | exact rfl); exact rfl))
        exact lv_ret (ret1 rfl (res_tmp rfl))
    · rw [decide_eq_true (take_all_eq hl (by omega) ht)]
      repeat (first
    | (apply s_a TY; exact rfl)
    | (apply s_f; exact rfl; (first | assumption | omega))
    | apply w_seq
    | apply w_region
    | apply s_nil
    | apply t_norm
    | apply t_exit
    | apply k_hit
    | apply w_exit
    | apply w_ret
    | (apply w_condF; exact rfl; exact rfl))
      exact lv_ret (ret1 rfl (res_tmp rfl))
  · have hne : ¬ a = b := fun e => hl (by rw [e])
    rw [decide_eq_false hne]
    refine summW Tryz.func34 rfl rfl 42 rfl (by simp) (fun M0 => ?_)
    repeat (first
    | (apply s_a TY; exact rfl)
    | (apply s_f; exact rfl; (first | assumption | omega))
    | apply w_seq
    | apply w_region
    | apply s_nil
    | apply t_norm
    | apply t_ret
    | apply w_ret
    | (apply w_condT; exact rfl; exact rfl))
    exact lv_ret (ret1 rfl (res_tmp rfl))
end Go.Proofs.YtdmdpkoapllkkaaGreat
namespace Go.Proofs.YtdmdpkoapllkkaaGreat
open Go Go.RowKit Go.Proofs Go.Shelf Go.Ab
def wA (ws : List Rng) (i : Nat) : Int := if (-2000000000000 ≤ (ws.getD i default).lo ∧ (ws.getD i default).lo ≤ 2000000000000) ∧ (-2000000000000 ≤ (ws.getD i default).hi ∧ (ws.getD i default).hi ≤ 2000000000000) then 0 else 2
def wB (ws : List Rng) (i : Nat) : Int := if (ws.getD i default).lo ≤ (ws.getD i default).hi ∧ (i = 0 ∨ (ws.getD (i - 1) default).hi < (ws.getD i default).lo) then 0 else 9
def lerrK (ws : List Rng) (e : Int) : Nat → Int
  | 0 => e
  | i + 1 => firstE [lerrK ws e i, wA ws i, wB ws i]
def runA (r : Rng) : Int := if (0 ≤ r.lo ∧ r.lo ≤ 1000000000000) ∧ (0 ≤ r.hi ∧ r.hi ≤ 1000000000000) then 0 else 2
def runB (r : Rng) : Int := if r.lo ≤ r.hi then 0 else 9
def lenE (n : Nat) : Int := if n ≤ 40 then 0 else 8
def liveErrV (s : Setup) (ws : List Rng) (r : Rng) : Int := firstE [lerrK ws (firstE [(setupChk s).2, lenE ws.length]) ws.length, runA r, runB r]
def liveStep (s : Setup) (r : Rng) (p : Int × Int) (w : Rng) : Int × Int :=
  if max p.2 (w.hi + 1) ≤ min r.hi (w.hi + s.dead) then (p.1 - (min r.hi (w.hi + s.dead) - max p.2 (w.hi + 1) + 1), min r.hi (w.hi + s.dead) + 1) else p
def liveK (s : Setup) (ws : List Rng) (r : Rng) : Nat → Int × Int
  | 0 => (r.hi - r.lo + 1, r.lo)
  | k + 1 => liveStep s r (liveK s ws r k) (ws.getD k default)
def liveV (s : Setup) (ws : List Rng) (r : Rng) : Int := (liveK s ws r ws.length).1
theorem firstE3_zero {a b c : Int} (h : firstE [a, b, c] = 0) : a = 0 ∧ b = 0 ∧ c = 0 := by
  simp only [firstE] at h
  split at h
  · split at h
    · split at h
      · exact ⟨by assumption, by assumption, by assumption⟩
      · exact absurd h (by assumption)
    · exact absurd h (by assumption)
  · exact absurd h (by assumption)
theorem firstE2_zero {a b : Int} (h : firstE [a, b] = 0) : a = 0 ∧ b = 0 := by
  simp only [firstE] at h
  split at h
  · split at h
    · exact ⟨by assumption, by assumption⟩
    · exact absurd h (by assumption)
  · exact absurd h (by assumption)
theorem lerrK_zero {ws : List Rng} {e : Int} : ∀ {n : Nat}, lerrK ws e n = 0 → e = 0 ∧ ∀ i, i < n → wA ws i = 0 ∧ wB ws i = 0
  | 0, h => ⟨h, fun i hi => by omega⟩
  | n + 1, h => by
    obtain ⟨h1, h2, h3⟩ := firstE3_zero h
    obtain ⟨h4, h5⟩ := lerrK_zero h1
    refine ⟨h4, fun i hi => ?_⟩
    by_cases e : i = n
    · subst e; exact ⟨h2, h3⟩
    · exact h5 i (by omega)
theorem wA_zero {ws : List Rng} {i : Nat} (hi : i < ws.length) (h : wA ws i = 0) : (-2000000000000 ≤ ws[i].lo ∧ ws[i].lo ≤ 2000000000000) ∧ (-2000000000000 ≤ ws[i].hi ∧ ws[i].hi ≤ 2000000000000) := by
  unfold wA at h
  rw [getD_at hi] at h
  by_cases c : (-2000000000000 ≤ ws[i].lo ∧ ws[i].lo ≤ 2000000000000) ∧ (-2000000000000 ≤ ws[i].hi ∧ ws[i].hi ≤ 2000000000000)
  · exact c
  · rw [if_neg c] at h; cases h
theorem liveErr_parts {s : Setup} {ws : List Rng} {r : Rng} (h : liveErrV s ws r = 0) : (setupChk s).2 = 0 ∧ ws.length ≤ 40 ∧ (∀ i, i < ws.length → wA ws i = 0 ∧ wB ws i = 0) ∧ ((0 ≤ r.lo ∧ r.lo ≤ 1000000000000) ∧ (0 ≤ r.hi ∧ r.hi ≤ 1000000000000)) ∧ r.lo ≤ r.hi := by
  obtain ⟨h1, h2, h3⟩ := firstE3_zero h
  obtain ⟨h4, h5⟩ := lerrK_zero h1
  obtain ⟨h6, h7⟩ := firstE2_zero h4
  refine ⟨h6, ?_, h5, ?_, ?_⟩
  · unfold lenE at h7
    by_cases c : ws.length ≤ 40
    · exact c
    · rw [if_neg c] at h7; cases h7
  · unfold runA at h2
    by_cases c : (0 ≤ r.lo ∧ r.lo ≤ 1000000000000) ∧ (0 ≤ r.hi ∧ r.hi ≤ 1000000000000)
    · exact c
    · rw [if_neg c] at h2; cases h2
  · unfold runB at h3
    by_cases c : r.lo ≤ r.hi
    · exact c
    · rw [if_neg c] at h3; cases h3
theorem liveStep_bd {s : Setup} {r : Rng} {p : Int × Int} {w : Rng} (h : (r.lo ≤ p.2 ∧ p.2 ≤ r.hi + 1) ∧ (r.hi + 1 - p.2 ≤ p.1 ∧ p.1 ≤ r.hi - r.lo + 1)) : (r.lo ≤ (liveStep s r p w).2 ∧ (liveStep s r p w).2 ≤ r.hi + 1) ∧ (r.hi + 1 - (liveStep s r p w).2 ≤ (liveStep s r p w).1 ∧ (liveStep s r p w).1 ≤ r.hi - r.lo + 1) := by
  unfold liveStep
  split
  · simp only; omega
  · exact h
theorem liveK_bd {s : Setup} {ws : List Rng} {r : Rng} (hr : r.lo ≤ r.hi) : ∀ k, (r.lo ≤ (liveK s ws r k).2 ∧ (liveK s ws r k).2 ≤ r.hi + 1) ∧ (r.hi + 1 - (liveK s ws r k).2 ≤ (liveK s ws r k).1 ∧ (liveK s ws r k).1 ≤ r.hi - r.lo + 1)
  | 0 => by simp only [liveK]; omega
  | k + 1 => liveStep_bd (liveK_bd hr k)
set_option maxRecDepth 100000 in
set_option maxHeartbeats 6400000 in
theorem LiveIn_s (s : Setup) (ws : List Rng) (r : Rng) (hsl : s.rules.length ≤ 1000000) (hw : ws.length ≤ 1000000) : Summ Tryz.prog GG 57 [setF s, .sl ws.length (rngsF ws), .agg (rngF r)] (.tup [iv (if liveErrV s ws r = 0 then liveV s ws r else 0), iv (liveErrV s ws r)]) := by
  unfold liveV
  have HU : Summ Tryz.prog GG 68 [.v (.bool (decide (((ws.length : Nat) : Int) ≤ 40))), iv 8] (iv (lenE ws.length)) := by
    unfold lenE
    by_cases hL : ws.length ≤ 40
    · rw [if_pos hL, decide_eq_true (by omega)]; exact unless_T 8
    · rw [if_neg hL, decide_eq_false (by omega)]; exact unless_F 8
  have H1 := first2_s (setupChk s).2 (lenE ws.length)
  refine summW Tryz.func57 rfl rfl 135 rfl (by simp) (fun M0 => ?_)
  repeat (first
    | (apply s_leq; exact rfl; exact rfl; exact rfl)
    | (apply s_a TY; exact rfl)
    | apply w_seq
    | apply w_region
    | apply s_nil
    | apply t_norm
    | apply w_block
    | (apply s_k (HU); exact rfl)
    | (apply s_k (H1); exact rfl)
    | (apply s_k1 (CheckSetup_s _); exact rfl; (first | assumption | omega | decide)))
  apply w_loop (fun k : Nat => ⟨(Ab.upd (Ab.upd (Ab.upd (Ab.upd (Ab.upd (Ab.upd (Ab.upd (fun _ => .bot) 1 (.f (.sl ws.length (rngsF ws)))) 3 (.f (.pt (setL s) 0))) 5 (.f (.pt (rngF r) 0))) 9 (.f (iv (lerrK ws (firstE [(setupChk s).2, lenE ws.length]) k)))) 31 (.f (.sl ws.length (rngsF ws)))) 32 (.f (iv ws.length))) 33 (.f (iv (k : Nat)))), (fun _ => none), 0⟩) (fun k => k ≤ ws.length) (fun k => ws.length - k) 0 (Nat.zero_le _) (gh_le ⟨le_upd rfl trivial (le_upd rfl trivial (le_upd rfl trivial (le_upd rfl trivial (le_upd rfl trivial (le_upd rfl trivial (le_upd rfl trivial (le_nil _))))))), le_h0 _ _⟩)
  intro k hk
  by_cases hc : k < ws.length
  · have hp : k - 1 < ws.length := by omega
    have hat : (rngsF ws)[(max 0 ((k : Int) - 1)).toNat * 2 + 1]? = some (iv ws[k - 1].hi) := by
      rw [show (max 0 ((k : Int) - 1)).toNat = k - 1 by omega]; exact rngsF_f1 hp
    by_cases hA : ws[k].lo ≤ ws[k].hi
    · by_cases hB : k = 0
      · by_cases hD : -2000000000000 ≤ ws[k].lo ∧ ws[k].lo ≤ 2000000000000
        · by_cases hE : -2000000000000 ≤ ws[k].hi ∧ ws[k].hi ≤ 2000000000000
          · have hwA : wA ws k = 0 := by unfold wA; rw [getD_at hc]; exact if_pos (by omega)
            have hwB : wB ws k = 0 := by unfold wB; rw [getD_at hc, getD_at hp]; exact if_pos (by omega)
            have hl : lerrK ws (firstE [(setupChk s).2, lenE ws.length]) (k + 1) = firstE [lerrK ws (firstE [(setupChk s).2, lenE ws.length]) k, 0, 0] := by rw [lerrK, hwA, hwB]
            repeat (first
    | (apply s_a TY; exact rfl)
    | (apply s_t; exact rfl; (first | assumption | omega))
    | apply w_seq
    | apply w_region
    | (apply w_draw (id := 6) 18 rfl (by kernel_rfl))
    | apply s_nil
    | apply t_norm
    | apply k_norm
    | apply w_block
    | apply w_skip
    | (apply w_condT; exact rfl; exact rfl)
    | (apply s_k (first3_s _ _ _); exact rfl)
    | (apply s_k (unless_T _); exact rfl)
    | (apply s_k2 (isSized_T _ _); exact rfl; (first | assumption | omega | decide); (first | assumption | omega | decide))
    | (apply s_s; exact rfl)
    | (apply s_c TY; exact rfl; (first | omega | exact ⟨by omega, by (first | with_reducible assumption | ((with_reducible apply rngsF_ne); omega) | assumption)⟩))
    | (apply s_m TY; exact rfl; (first | with_reducible assumption | ((with_reducible apply rngsF_sub); omega) | exact rfl); exact rfl)
    | (apply s_alloc TY; exact rfl; exact rfl; exact rfl)
    | (apply s_store TY; exact rfl; exact rfl; exact rfl; exact rfl; exact rfl; exact rfl))
            exact ⟨k + 1, by omega, by omega, gh_le ⟨le_upd rfl trivial (le_upd rfl trivial (le_upd rfl trivial (le_upd (congrArg (fun z : Int => AV.f (iv z)) hl) trivial (le_upd rfl trivial (le_upd rfl trivial (le_upd rfl trivial (le_nil _))))))), le_h0 _ _⟩⟩
          · have hwA : wA ws k = 2 := by unfold wA; rw [getD_at hc]; exact if_neg (by omega)
            have hwB : wB ws k = 0 := by unfold wB; rw [getD_at hc, getD_at hp]; exact if_pos (by omega)
            have hl : lerrK ws (firstE [(setupChk s).2, lenE ws.length]) (k + 1) = firstE [lerrK ws (firstE [(setupChk s).2, lenE ws.length]) k, 2, 0] := by rw [lerrK, hwA, hwB]
            repeat (first
    | (apply s_a TY; exact rfl)
    | (apply s_t; exact rfl; (first | assumption | omega))
    | apply w_seq
    | apply w_region
    | (apply w_draw (id := 6) 18 rfl (by kernel_rfl))
    | apply s_nil
    | apply t_norm
    | apply k_norm
    | apply w_block
    | apply w_skip
    | (apply w_condT; exact rfl; exact rfl)
    | (apply s_k (first3_s _ _ _); exact rfl)
    | (apply s_k (unless_T _); exact rfl)
    | (apply s_k (unless_F _); exact rfl)
    | (apply s_k2 (isSized_T _ _); exact rfl; (first | assumption | omega | decide); (first | assumption | omega | decide))
    | (apply s_k2 (isSized_F _ _); exact rfl; (first | assumption | omega | decide); (first | assumption | omega | decide))
    | (apply s_s; exact rfl)
    | (apply s_c TY; exact rfl; (first | omega | exact ⟨by omega, by (first | with_reducible assumption | ((with_reducible apply rngsF_ne); omega) | assumption)⟩))
    | (apply s_m TY; exact rfl; (first | with_reducible assumption | ((with_reducible apply rngsF_sub); omega) | exact rfl); exact rfl)
    | (apply s_alloc TY; exact rfl; exact rfl; exact rfl)
    | (apply s_store TY; exact rfl; exact rfl; exact rfl; exact rfl; exact rfl; exact rfl))
            exact ⟨k + 1, by omega, by omega, gh_le ⟨le_upd rfl trivial (le_upd rfl trivial (le_upd rfl trivial (le_upd (congrArg (fun z : Int => AV.f (iv z)) hl) trivial (le_upd rfl trivial (le_upd rfl trivial (le_upd rfl trivial (le_nil _))))))), le_h0 _ _⟩⟩
        · have hwA : wA ws k = 2 := by unfold wA; rw [getD_at hc]; exact if_neg (by omega)
          have hwB : wB ws k = 0 := by unfold wB; rw [getD_at hc, getD_at hp]; exact if_pos (by omega)
          have hl : lerrK ws (firstE [(setupChk s).2, lenE ws.length]) (k + 1) = firstE [lerrK ws (firstE [(setupChk s).2, lenE ws.length]) k, 2, 0] := by rw [lerrK, hwA, hwB]
          repeat (first
    | (apply s_a TY; exact rfl)
    | (apply s_t; exact rfl; (first | assumption | omega))
    | apply w_seq
    | apply w_region
    | (apply w_draw (id := 6) 18 rfl (by kernel_rfl))
    | apply s_nil
    | apply t_norm
    | apply k_norm
    | apply w_block
    | apply w_skip
    | (apply w_condT; exact rfl; exact rfl)
    | (apply s_k (first3_s _ _ _); exact rfl)
    | (apply s_k (unless_T _); exact rfl)
    | (apply s_k (unless_F _); exact rfl)
    | (apply s_k2 (isSized_F _ _); exact rfl; (first | assumption | omega | decide); (first | assumption | omega | decide))
    | (apply s_s; exact rfl)
    | (apply s_c TY; exact rfl; (first | omega | exact ⟨by omega, by (first | with_reducible assumption | ((with_reducible apply rngsF_ne); omega) | assumption)⟩))
    | (apply s_m TY; exact rfl; (first | with_reducible assumption | ((with_reducible apply rngsF_sub); omega) | exact rfl); exact rfl)
    | (apply s_alloc TY; exact rfl; exact rfl; exact rfl)
    | (apply s_store TY; exact rfl; exact rfl; exact rfl; exact rfl; exact rfl; exact rfl))
          exact ⟨k + 1, by omega, by omega, gh_le ⟨le_upd rfl trivial (le_upd rfl trivial (le_upd rfl trivial (le_upd (congrArg (fun z : Int => AV.f (iv z)) hl) trivial (le_upd rfl trivial (le_upd rfl trivial (le_upd rfl trivial (le_nil _))))))), le_h0 _ _⟩⟩
      · by_cases hC : ws[k - 1].hi < ws[k].lo
        · by_cases hD : -2000000000000 ≤ ws[k].lo ∧ ws[k].lo ≤ 2000000000000
          · by_cases hE : -2000000000000 ≤ ws[k].hi ∧ ws[k].hi ≤ 2000000000000
            · have hwA : wA ws k = 0 := by unfold wA; rw [getD_at hc]; exact if_pos (by omega)
              have hwB : wB ws k = 0 := by unfold wB; rw [getD_at hc, getD_at hp]; exact if_pos (by omega)
              have hl : lerrK ws (firstE [(setupChk s).2, lenE ws.length]) (k + 1) = firstE [lerrK ws (firstE [(setupChk s).2, lenE ws.length]) k, 0, 0] := by rw [lerrK, hwA, hwB]
              repeat (first
    | (apply s_a TY; exact rfl)
    | (apply s_t; exact rfl; (first | assumption | omega))
    | (apply s_f; exact rfl; (first | assumption | omega))
    | apply w_seq
    | apply w_region
    | (apply w_draw (id := 6) 18 rfl (by kernel_rfl))
    | apply s_nil
    | apply t_norm
    | apply k_norm
    | apply w_block
    | apply w_skip
    | (apply w_condT; exact rfl; exact rfl)
    | (apply s_k (first3_s _ _ _); exact rfl)
    | (apply s_k (unless_T _); exact rfl)
    | (apply s_k2 (isSized_T _ _); exact rfl; (first | assumption | omega | decide); (first | assumption | omega | decide))
    | (apply s_c TY; exact rfl; (first | omega | exact ⟨by omega, by (first | with_reducible assumption | ((with_reducible apply rngsF_ne); omega) | assumption)⟩))
    | (apply s_z TY; exact rfl; (first | omega | exact ⟨by omega, by (first | with_reducible assumption | ((with_reducible apply rngsF_ne); omega) | assumption)⟩))
    | (apply s_l TY; exact rfl; (first | exact rfl | with_reducible assumption | ((with_reducible apply rngsF_f0); omega) | ((with_reducible apply rngsF_f1); omega) | assumption))
    | (apply s_m TY; exact rfl; (first | with_reducible assumption | ((with_reducible apply rngsF_sub); omega) | exact rfl); exact rfl)
    | (apply s_alloc TY; exact rfl; exact rfl; exact rfl)
    | (apply s_store TY; exact rfl; exact rfl; exact rfl; exact rfl; exact rfl; exact rfl))
              exact ⟨k + 1, by omega, by omega, gh_le ⟨le_upd rfl trivial (le_upd rfl trivial (le_upd rfl trivial (le_upd (congrArg (fun z : Int => AV.f (iv z)) hl) trivial (le_upd rfl trivial (le_upd rfl trivial (le_upd rfl trivial (le_nil _))))))), le_h0 _ _⟩⟩
            · have hwA : wA ws k = 2 := by unfold wA; rw [getD_at hc]; exact if_neg (by omega)
              have hwB : wB ws k = 0 := by unfold wB; rw [getD_at hc, getD_at hp]; exact if_pos (by omega)
              have hl : lerrK ws (firstE [(setupChk s).2, lenE ws.length]) (k + 1) = firstE [lerrK ws (firstE [(setupChk s).2, lenE ws.length]) k, 2, 0] := by rw [lerrK, hwA, hwB]
              repeat (first
    | (apply s_a TY; exact rfl)
    | (apply s_t; exact rfl; (first | assumption | omega))
    | (apply s_f; exact rfl; (first | assumption | omega))
    | apply w_seq
    | apply w_region
    | (apply w_draw (id := 6) 18 rfl (by kernel_rfl))
    | apply s_nil
    | apply t_norm
    | apply k_norm
    | apply w_block
    | apply w_skip
    | (apply w_condT; exact rfl; exact rfl)
    | (apply s_k (first3_s _ _ _); exact rfl)
    | (apply s_k (unless_T _); exact rfl)
    | (apply s_k (unless_F _); exact rfl)
    | (apply s_k2 (isSized_T _ _); exact rfl; (first | assumption | omega | decide); (first | assumption | omega | decide))
    | (apply s_k2 (isSized_F _ _); exact rfl; (first | assumption | omega | decide); (first | assumption | omega | decide))
    | (apply s_c TY; exact rfl; (first | omega | exact ⟨by omega, by (first | with_reducible assumption | ((with_reducible apply rngsF_ne); omega) | assumption)⟩))
    | (apply s_z TY; exact rfl; (first | omega | exact ⟨by omega, by (first | with_reducible assumption | ((with_reducible apply rngsF_ne); omega) | assumption)⟩))
    | (apply s_l TY; exact rfl; (first | exact rfl | with_reducible assumption | ((with_reducible apply rngsF_f0); omega) | ((with_reducible apply rngsF_f1); omega) | assumption))
    | (apply s_m TY; exact rfl; (first | with_reducible assumption | ((with_reducible apply rngsF_sub); omega) | exact rfl); exact rfl)
    | (apply s_alloc TY; exact rfl; exact rfl; exact rfl)
    | (apply s_store TY; exact rfl; exact rfl; exact rfl; exact rfl; exact rfl; exact rfl))
              exact ⟨k + 1, by omega, by omega, gh_le ⟨le_upd rfl trivial (le_upd rfl trivial (le_upd rfl trivial (le_upd (congrArg (fun z : Int => AV.f (iv z)) hl) trivial (le_upd rfl trivial (le_upd rfl trivial (le_upd rfl trivial (le_nil _))))))), le_h0 _ _⟩⟩
          · have hwA : wA ws k = 2 := by unfold wA; rw [getD_at hc]; exact if_neg (by omega)
            have hwB : wB ws k = 0 := by unfold wB; rw [getD_at hc, getD_at hp]; exact if_pos (by omega)
            have hl : lerrK ws (firstE [(setupChk s).2, lenE ws.length]) (k + 1) = firstE [lerrK ws (firstE [(setupChk s).2, lenE ws.length]) k, 2, 0] := by rw [lerrK, hwA, hwB]
            repeat (first
    | (apply s_a TY; exact rfl)
    | (apply s_t; exact rfl; (first | assumption | omega))
    | (apply s_f; exact rfl; (first | assumption | omega))
    | apply w_seq
    | apply w_region
    | (apply w_draw (id := 6) 18 rfl (by kernel_rfl))
    | apply s_nil
    | apply t_norm
    | apply k_norm
    | apply w_block
    | apply w_skip
    | (apply w_condT; exact rfl; exact rfl)
    | (apply s_k (first3_s _ _ _); exact rfl)
    | (apply s_k (unless_T _); exact rfl)
    | (apply s_k (unless_F _); exact rfl)
    | (apply s_k2 (isSized_F _ _); exact rfl; (first | assumption | omega | decide); (first | assumption | omega | decide))
    | (apply s_s; exact rfl)
    | (apply s_c TY; exact rfl; (first | omega | exact ⟨by omega, by (first | with_reducible assumption | ((with_reducible apply rngsF_ne); omega) | assumption)⟩))
    | (apply s_z TY; exact rfl; (first | omega | exact ⟨by omega, by (first | with_reducible assumption | ((with_reducible apply rngsF_ne); omega) | assumption)⟩))
    | (apply s_l TY; exact rfl; (first | exact rfl | with_reducible assumption | ((with_reducible apply rngsF_f0); omega) | ((with_reducible apply rngsF_f1); omega) | assumption))
    | (apply s_m TY; exact rfl; (first | with_reducible assumption | ((with_reducible apply rngsF_sub); omega) | exact rfl); exact rfl)
    | (apply s_alloc TY; exact rfl; exact rfl; exact rfl)
    | (apply s_store TY; exact rfl; exact rfl; exact rfl; exact rfl; exact rfl; exact rfl))
            exact ⟨k + 1, by omega, by omega, gh_le ⟨le_upd rfl trivial (le_upd rfl trivial (le_upd rfl trivial (le_upd (congrArg (fun z : Int => AV.f (iv z)) hl) trivial (le_upd rfl trivial (le_upd rfl trivial (le_upd rfl trivial (le_nil _))))))), le_h0 _ _⟩⟩
        · by_cases hD : -2000000000000 ≤ ws[k].lo ∧ ws[k].lo ≤ 2000000000000
          · by_cases hE : -2000000000000 ≤ ws[k].hi ∧ ws[k].hi ≤ 2000000000000
            · have hwA : wA ws k = 0 := by unfold wA; rw [getD_at hc]; exact if_pos (by omega)
              have hwB : wB ws k = 9 := by unfold wB; rw [getD_at hc, getD_at hp]; exact if_neg (by omega)
              have hl : lerrK ws (firstE [(setupChk s).2, lenE ws.length]) (k + 1) = firstE [lerrK ws (firstE [(setupChk s).2, lenE ws.length]) k, 0, 9] := by rw [lerrK, hwA, hwB]
              repeat (first
    | (apply s_a TY; exact rfl)
    | (apply s_t; exact rfl; (first | assumption | omega))
    | (apply s_f; exact rfl; (first | assumption | omega))
    | apply w_seq
    | apply w_region
    | (apply w_draw (id := 6) 18 rfl (by kernel_rfl))
    | apply s_nil
    | apply t_norm
    | apply k_norm
    | apply w_block
    | apply w_skip
    | (apply w_condT; exact rfl; exact rfl)
    | (apply s_k (first3_s _ _ _); exact rfl)
    | (apply s_k (unless_T _); exact rfl)
    | (apply s_k (unless_F _); exact rfl)
    | (apply s_k2 (isSized_T _ _); exact rfl; (first | assumption | omega | decide); (first | assumption | omega | decide))
    | (apply s_c TY; exact rfl; (first | omega | exact ⟨by omega, by (first | with_reducible assumption | ((with_reducible apply rngsF_ne); omega) | assumption)⟩))
    | (apply s_z TY; exact rfl; (first | omega | exact ⟨by omega, by (first | with_reducible assumption | ((with_reducible apply rngsF_ne); omega) | assumption)⟩))
    | (apply s_l TY; exact rfl; (first | exact rfl | with_reducible assumption | ((with_reducible apply rngsF_f0); omega) | ((with_reducible apply rngsF_f1); omega) | assumption))
    | (apply s_m TY; exact rfl; (first | with_reducible assumption | ((with_reducible apply rngsF_sub); omega) | exact rfl); exact rfl)
    | (apply s_alloc TY; exact rfl; exact rfl; exact rfl)
    | (apply s_store TY; exact rfl; exact rfl; exact rfl; exact rfl; exact rfl; exact rfl))
              exact ⟨k + 1, by omega, by omega, gh_le ⟨le_upd rfl trivial (le_upd rfl trivial (le_upd rfl trivial (le_upd (congrArg (fun z : Int => AV.f (iv z)) hl) trivial (le_upd rfl trivial (le_upd rfl trivial (le_upd rfl trivial (le_nil _))))))), le_h0 _ _⟩⟩
            · have hwA : wA ws k = 2 := by unfold wA; rw [getD_at hc]; exact if_neg (by omega)
              have hwB : wB ws k = 9 := by unfold wB; rw [getD_at hc, getD_at hp]; exact if_neg (by omega)
              have hl : lerrK ws (firstE [(setupChk s).2, lenE ws.length]) (k + 1) = firstE [lerrK ws (firstE [(setupChk s).2, lenE ws.length]) k, 2, 9] := by rw [lerrK, hwA, hwB]
              repeat (first
    | (apply s_a TY; exact rfl)
    | (apply s_t; exact rfl; (first | assumption | omega))
    | (apply s_f; exact rfl; (first | assumption | omega))
    | apply w_seq
    | apply w_region
    | (apply w_draw (id := 6) 18 rfl (by kernel_rfl))
    | apply s_nil
    | apply t_norm
    | apply k_norm
    | apply w_block
    | apply w_skip
    | (apply w_condT; exact rfl; exact rfl)
    | (apply s_k (first3_s _ _ _); exact rfl)
    | (apply s_k (unless_F _); exact rfl)
    | (apply s_k2 (isSized_T _ _); exact rfl; (first | assumption | omega | decide); (first | assumption | omega | decide))
    | (apply s_k2 (isSized_F _ _); exact rfl; (first | assumption | omega | decide); (first | assumption | omega | decide))
    | (apply s_c TY; exact rfl; (first | omega | exact ⟨by omega, by (first | with_reducible assumption | ((with_reducible apply rngsF_ne); omega) | assumption)⟩))
    | (apply s_z TY; exact rfl; (first | omega | exact ⟨by omega, by (first | with_reducible assumption | ((with_reducible apply rngsF_ne); omega) | assumption)⟩))
    | (apply s_l TY; exact rfl; (first | exact rfl | with_reducible assumption | ((with_reducible apply rngsF_f0); omega) | ((with_reducible apply rngsF_f1); omega) | assumption))
    | (apply s_m TY; exact rfl; (first | with_reducible assumption | ((with_reducible apply rngsF_sub); omega) | exact rfl); exact rfl)
    | (apply s_alloc TY; exact rfl; exact rfl; exact rfl)
    | (apply s_store TY; exact rfl; exact rfl; exact rfl; exact rfl; exact rfl; exact rfl))
              exact ⟨k + 1, by omega, by omega, gh_le ⟨le_upd rfl trivial (le_upd rfl trivial (le_upd rfl trivial (le_upd (congrArg (fun z : Int => AV.f (iv z)) hl) trivial (le_upd rfl trivial (le_upd rfl trivial (le_upd rfl trivial (le_nil _))))))), le_h0 _ _⟩⟩
          · have hwA : wA ws k = 2 := by unfold wA; rw [getD_at hc]; exact if_neg (by omega)
            have hwB : wB ws k = 9 := by unfold wB; rw [getD_at hc, getD_at hp]; exact if_neg (by omega)
            have hl : lerrK ws (firstE [(setupChk s).2, lenE ws.length]) (k + 1) = firstE [lerrK ws (firstE [(setupChk s).2, lenE ws.length]) k, 2, 9] := by rw [lerrK, hwA, hwB]
            repeat (first
    | (apply s_a TY; exact rfl)
    | (apply s_t; exact rfl; (first | assumption | omega))
    | (apply s_f; exact rfl; (first | assumption | omega))
    | apply w_seq
    | apply w_region
    | (apply w_draw (id := 6) 18 rfl (by kernel_rfl))
    | apply s_nil
    | apply t_norm
    | apply k_norm
    | apply w_block
    | apply w_skip
    | (apply w_condT; exact rfl; exact rfl)
    | (apply s_k (first3_s _ _ _); exact rfl)
    | (apply s_k (unless_F _); exact rfl)
    | (apply s_k2 (isSized_F _ _); exact rfl; (first | assumption | omega | decide); (first | assumption | omega | decide))
    | (apply s_s; exact rfl)
    | (apply s_c TY; exact rfl; (first | omega | exact ⟨by omega, by (first | with_reducible assumption | ((with_reducible apply rngsF_ne); omega) | assumption)⟩))
    | (apply s_z TY; exact rfl; (first | omega | exact ⟨by omega, by (first | with_reducible assumption | ((with_reducible apply rngsF_ne); omega) | assumption)⟩))
    | (apply s_l TY; exact rfl; (first | exact rfl | with_reducible assumption | ((with_reducible apply rngsF_f0); omega) | ((with_reducible apply rngsF_f1); omega) | assumption))
    | (apply s_m TY; exact rfl; (first | with_reducible assumption | ((with_reducible apply rngsF_sub); omega) | exact rfl); exact rfl)
    | (apply s_alloc TY; exact rfl; exact rfl; exact rfl)
    | (apply s_store TY; exact rfl; exact rfl; exact rfl; exact rfl; exact rfl; exact rfl))
            exact ⟨k + 1, by omega, by omega, gh_le ⟨le_upd rfl trivial (le_upd rfl trivial (le_upd rfl trivial (le_upd (congrArg (fun z : Int => AV.f (iv z)) hl) trivial (le_upd rfl trivial (le_upd rfl trivial (le_upd rfl trivial (le_nil _))))))), le_h0 _ _⟩⟩
    · by_cases hD : -2000000000000 ≤ ws[k].lo ∧ ws[k].lo ≤ 2000000000000
      · by_cases hE : -2000000000000 ≤ ws[k].hi ∧ ws[k].hi ≤ 2000000000000
        · have hwA : wA ws k = 0 := by unfold wA; rw [getD_at hc]; exact if_pos (by omega)
          have hwB : wB ws k = 9 := by unfold wB; rw [getD_at hc, getD_at hp]; exact if_neg (by omega)
          have hl : lerrK ws (firstE [(setupChk s).2, lenE ws.length]) (k + 1) = firstE [lerrK ws (firstE [(setupChk s).2, lenE ws.length]) k, 0, 9] := by rw [lerrK, hwA, hwB]
          repeat (first
    | (apply s_a TY; exact rfl)
    | (apply s_t; exact rfl; (first | assumption | omega))
    | (apply s_f; exact rfl; (first | assumption | omega))
    | apply w_seq
    | apply w_region
    | (apply w_draw (id := 6) 18 rfl (by kernel_rfl))
    | apply s_nil
    | apply t_norm
    | apply k_norm
    | apply w_block
    | apply w_skip
    | (apply w_condT; exact rfl; exact rfl)
    | (apply s_k (first3_s _ _ _); exact rfl)
    | (apply s_k (unless_T _); exact rfl)
    | (apply s_k (unless_F _); exact rfl)
    | (apply s_k2 (isSized_T _ _); exact rfl; (first | assumption | omega | decide); (first | assumption | omega | decide))
    | (apply s_s; exact rfl)
    | (apply s_c TY; exact rfl; (first | omega | exact ⟨by omega, by (first | with_reducible assumption | ((with_reducible apply rngsF_ne); omega) | assumption)⟩))
    | (apply s_m TY; exact rfl; (first | with_reducible assumption | ((with_reducible apply rngsF_sub); omega) | exact rfl); exact rfl)
    | (apply s_alloc TY; exact rfl; exact rfl; exact rfl)
    | (apply s_store TY; exact rfl; exact rfl; exact rfl; exact rfl; exact rfl; exact rfl))
          exact ⟨k + 1, by omega, by omega, gh_le ⟨le_upd rfl trivial (le_upd rfl trivial (le_upd rfl trivial (le_upd (congrArg (fun z : Int => AV.f (iv z)) hl) trivial (le_upd rfl trivial (le_upd rfl trivial (le_upd rfl trivial (le_nil _))))))), le_h0 _ _⟩⟩
        · have hwA : wA ws k = 2 := by unfold wA; rw [getD_at hc]; exact if_neg (by omega)
          have hwB : wB ws k = 9 := by unfold wB; rw [getD_at hc, getD_at hp]; exact if_neg (by omega)
          have hl : lerrK ws (firstE [(setupChk s).2, lenE ws.length]) (k + 1) = firstE [lerrK ws (firstE [(setupChk s).2, lenE ws.length]) k, 2, 9] := by rw [lerrK, hwA, hwB]
          repeat (first
    | (apply s_a TY; exact rfl)
    | (apply s_t; exact rfl; (first | assumption | omega))
    | (apply s_f; exact rfl; (first | assumption | omega))
    | apply w_seq
    | apply w_region
    | (apply w_draw (id := 6) 18 rfl (by kernel_rfl))
    | apply s_nil
    | apply t_norm
    | apply k_norm
    | apply w_block
    | apply w_skip
    | (apply w_condT; exact rfl; exact rfl)
    | (apply s_k (first3_s _ _ _); exact rfl)
    | (apply s_k (unless_F _); exact rfl)
    | (apply s_k2 (isSized_T _ _); exact rfl; (first | assumption | omega | decide); (first | assumption | omega | decide))
    | (apply s_k2 (isSized_F _ _); exact rfl; (first | assumption | omega | decide); (first | assumption | omega | decide))
    | (apply s_s; exact rfl)
    | (apply s_c TY; exact rfl; (first | omega | exact ⟨by omega, by (first | with_reducible assumption | ((with_reducible apply rngsF_ne); omega) | assumption)⟩))
    | (apply s_m TY; exact rfl; (first | with_reducible assumption | ((with_reducible apply rngsF_sub); omega) | exact rfl); exact rfl)
    | (apply s_alloc TY; exact rfl; exact rfl; exact rfl)
    | (apply s_store TY; exact rfl; exact rfl; exact rfl; exact rfl; exact rfl; exact rfl))
          exact ⟨k + 1, by omega, by omega, gh_le ⟨le_upd rfl trivial (le_upd rfl trivial (le_upd rfl trivial (le_upd (congrArg (fun z : Int => AV.f (iv z)) hl) trivial (le_upd rfl trivial (le_upd rfl trivial (le_upd rfl trivial (le_nil _))))))), le_h0 _ _⟩⟩
      · have hwA : wA ws k = 2 := by unfold wA; rw [getD_at hc]; exact if_neg (by omega)
        have hwB : wB ws k = 9 := by unfold wB; rw [getD_at hc, getD_at hp]; exact if_neg (by omega)
        have hl : lerrK ws (firstE [(setupChk s).2, lenE ws.length]) (k + 1) = firstE [lerrK ws (firstE [(setupChk s).2, lenE ws.length]) k, 2, 9] := by rw [lerrK, hwA, hwB]
        repeat (first
    | (apply s_a TY; exact rfl)
    | (apply s_t; exact rfl; (first | assumption | omega))
    | (apply s_f; exact rfl; (first | assumption | omega))
    | apply w_seq
    | apply w_region
    | (apply w_draw (id := 6) 18 rfl (by kernel_rfl))
    | apply s_nil
    | apply t_norm
    | apply k_norm
    | apply w_block
    | apply w_skip
    | (apply w_condT; exact rfl; exact rfl)
    | (apply s_k (first3_s _ _ _); exact rfl)
    | (apply s_k (unless_F _); exact rfl)
    | (apply s_k2 (isSized_F _ _); exact rfl; (first | assumption | omega | decide); (first | assumption | omega | decide))
    | (apply s_s; exact rfl)
    | (apply s_c TY; exact rfl; (first | omega | exact ⟨by omega, by (first | with_reducible assumption | ((with_reducible apply rngsF_ne); omega) | assumption)⟩))
    | (apply s_m TY; exact rfl; (first | with_reducible assumption | ((with_reducible apply rngsF_sub); omega) | exact rfl); exact rfl)
    | (apply s_alloc TY; exact rfl; exact rfl; exact rfl)
    | (apply s_store TY; exact rfl; exact rfl; exact rfl; exact rfl; exact rfl; exact rfl))
        exact ⟨k + 1, by omega, by omega, gh_le ⟨le_upd rfl trivial (le_upd rfl trivial (le_upd rfl trivial (le_upd (congrArg (fun z : Int => AV.f (iv z)) hl) trivial (le_upd rfl trivial (le_upd rfl trivial (le_upd rfl trivial (le_nil _))))))), le_h0 _ _⟩⟩
  · have hke : k = ws.length := by omega
    subst hke
    by_cases hF : 0 ≤ r.lo ∧ r.lo ≤ 1000000000000
    · by_cases hG : 0 ≤ r.hi ∧ r.hi ≤ 1000000000000
      · by_cases hH : r.lo ≤ r.hi
        · have hrA : runA r = 0 := by unfold runA; exact if_pos (by omega)
          have hrB : runB r = 0 := by unfold runB; exact if_pos (by omega)
          have hv : liveErrV s ws r = firstE [lerrK ws (firstE [(setupChk s).2, lenE ws.length]) ws.length, 0, 0] := by unfold liveErrV; rw [hrA, hrB]
          by_cases h0 : liveErrV s ws r = 0
          · rw [if_pos h0, h0]
            rw [hv] at h0
            have h0' := h0
            rw [← hv] at h0
            obtain ⟨z1, z2, z3, z4, z5⟩ := liveErr_parts h0
            have hs := setOk_of z1
            have hdd := hs.dead
            repeat (first
    | (apply s_a TY; exact rfl)
    | (apply s_t; exact rfl; (first | assumption | omega))
    | (apply s_f; exact rfl; (first | assumption | omega))
    | apply w_seq
    | apply w_region
    | (apply w_draw (id := 9) 16 rfl (by kernel_rfl))
    | apply s_nil
    | apply t_norm
    | apply t_exit
    | apply k_hit
    | apply w_block
    | apply w_exit
    | apply w_skip
    | (apply w_condF; exact rfl; exact rfl)
    | (apply s_k (first3_s _ _ _); exact rfl)
    | (apply s_k (unless_T _); exact rfl)
    | (apply s_k1 (isTick_T _); exact rfl; (first | assumption | omega | decide))
    | (apply s_c TY; exact rfl; (first | omega | exact ⟨by omega, by (first | with_reducible assumption | ((with_reducible apply rngsF_ne); omega) | assumption)⟩)))
            apply w_loop (fun k : Nat => ⟨(Ab.upd (Ab.upd (Ab.upd (Ab.upd (Ab.upd (Ab.upd (Ab.upd (fun _ => .bot) 3 (.f (.pt (setL s) 0))) 5 (.f (.pt (rngF r) 0))) 13 (.f (iv (liveK s ws r k).1))) 14 (.f (iv (liveK s ws r k).2))) 103 (.f (.sl ws.length (rngsF ws)))) 104 (.f (iv ws.length))) 105 (.f (iv (k : Nat)))), (fun _ => none), 0⟩) (fun k => k ≤ ws.length) (fun k => ws.length - k) 0 (Nat.zero_le _) (gh_le ⟨le_upd rfl trivial (le_upd rfl trivial (le_upd rfl trivial (le_upd rfl trivial (le_upd rfl trivial (le_upd rfl trivial (le_upd rfl trivial (le_nil _))))))), le_h0 _ _⟩)
            intro k hk
            have hbd := liveK_bd (s := s) (ws := ws) z5 k
            by_cases hc : k < ws.length
            · have hwz := wA_zero hc (z3 k hc).1
              by_cases hm : max (liveK s ws r k).2 (ws[k].hi + 1) ≤ min r.hi (ws[k].hi + s.dead)
              · have hl : liveK s ws r (k + 1) = ((liveK s ws r k).1 - (min r.hi (ws[k].hi + s.dead) - max (liveK s ws r k).2 (ws[k].hi + 1) + 1), min r.hi (ws[k].hi + s.dead) + 1) := by rw [liveK, getD_at hc, liveStep, if_pos hm]
                repeat (first
    | (apply s_a TY; exact rfl)
    | (apply s_t; exact rfl; (first | assumption | omega))
    | apply w_seq
    | apply w_region
    | (apply w_draw (id := 17) 14 rfl (by kernel_rfl))
    | apply s_nil
    | apply t_norm
    | apply k_norm
    | apply w_block
    | apply w_skip
    | (apply w_condT; exact rfl; exact rfl)
    | (apply s_c TY; exact rfl; (first | omega | exact ⟨by omega, by (first | with_reducible assumption | ((with_reducible apply rngsF_ne); omega) | assumption)⟩))
    | (apply s_m TY; exact rfl; (first | with_reducible assumption | ((with_reducible apply rngsF_sub); omega) | exact rfl); exact rfl)
    | (apply s_alloc TY; exact rfl; exact rfl; exact rfl)
    | (apply s_store TY; exact rfl; exact rfl; exact rfl; exact rfl; exact rfl; exact rfl))
                exact ⟨k + 1, by omega, by omega, gh_le ⟨le_upd rfl trivial (le_upd rfl trivial (le_upd rfl trivial (le_upd (congrArg (fun z : Int × Int => AV.f (iv z.2)) hl) trivial (le_upd (congrArg (fun z : Int × Int => AV.f (iv z.1)) hl) trivial (le_upd rfl trivial (le_upd rfl trivial (le_nil _))))))), le_h0 _ _⟩⟩
              · have hl : liveK s ws r (k + 1) = liveK s ws r k := by rw [liveK, getD_at hc, liveStep, if_neg hm]
                repeat (first
    | (apply s_a TY; exact rfl)
    | (apply s_t; exact rfl; (first | assumption | omega))
    | (apply s_f; exact rfl; (first | assumption | omega))
    | apply w_seq
    | apply w_region
    | (apply w_draw (id := 17) 14 rfl (by kernel_rfl))
    | apply s_nil
    | apply t_norm
    | apply k_norm
    | apply w_block
    | apply w_skip
    | (apply w_condT; exact rfl; exact rfl)
    | (apply w_condF; exact rfl; exact rfl)
    | (apply s_c TY; exact rfl; (first | omega | exact ⟨by omega, by (first | with_reducible assumption | ((with_reducible apply rngsF_ne); omega) | assumption)⟩))
    | (apply s_m TY; exact rfl; (first | with_reducible assumption | ((with_reducible apply rngsF_sub); omega) | exact rfl); exact rfl)
    | (apply s_alloc TY; exact rfl; exact rfl; exact rfl)
    | (apply s_store TY; exact rfl; exact rfl; exact rfl; exact rfl; exact rfl; exact rfl))
                exact ⟨k + 1, by omega, by omega, gh_le ⟨le_upd rfl trivial (le_upd rfl trivial (le_upd rfl trivial (le_upd (congrArg (fun z : Int × Int => AV.f (iv z.2)) hl) trivial (le_upd (congrArg (fun z : Int × Int => AV.f (iv z.1)) hl) trivial (le_upd rfl trivial (le_upd rfl trivial (le_nil _))))))), le_h0 _ _⟩⟩
            · have hke : k = ws.length := by omega
              subst hke
              repeat (first
    | (apply s_a TY; exact rfl)
    | (apply s_f; exact rfl; (first | assumption | omega))
    | apply w_seq
    | apply w_region
    | apply s_nil
    | apply t_norm
    | apply t_exit
    | apply k_hit
    | apply w_exit
    | apply w_ret
    | (apply w_condF; exact rfl; exact rfl))
              exact lv_ret (ret2 rfl (res_tmp rfl) (res_tmp rfl))
          · rw [if_neg h0]
            have h0' := h0
            rw [hv] at h0' ⊢
            repeat (first
    | (apply s_a TY; exact rfl)
    | (apply s_t; exact rfl; (first | assumption | omega))
    | (apply s_f; exact rfl; (first | assumption | omega))
    | apply w_seq
    | apply w_region
    | (apply w_draw (id := 9) 16 rfl (by kernel_rfl))
    | apply s_nil
    | apply t_norm
    | apply t_exit
    | apply t_ret
    | apply k_hit
    | apply w_exit
    | apply w_ret
    | (apply w_condT; exact rfl; exact rfl)
    | (apply w_condF; exact rfl; exact rfl)
    | (apply s_k (first3_s _ _ _); exact rfl)
    | (apply s_k (unless_T _); exact rfl)
    | (apply s_k1 (isTick_T _); exact rfl; (first | assumption | omega | decide)))
            exact lv_ret (ret2 rfl (res_tmp rfl) (res_tmp rfl))
        · have hrA : runA r = 0 := by unfold runA; exact if_pos (by omega)
          have hrB : runB r = 9 := by unfold runB; exact if_neg (by omega)
          have hv : liveErrV s ws r = firstE [lerrK ws (firstE [(setupChk s).2, lenE ws.length]) ws.length, 0, 9] := by unfold liveErrV; rw [hrA, hrB]
          by_cases h0 : liveErrV s ws r = 0
          · rw [if_pos h0, h0]
            rw [hv] at h0
            have h0' := h0
            rw [← hv] at h0
            exact absurd (firstE3_zero h0').2 (by decide)
          · rw [if_neg h0]
            have h0' := h0
            rw [hv] at h0' ⊢
            repeat (first
    | (apply s_a TY; exact rfl)
    | (apply s_f; exact rfl; (first | assumption | omega))
    | apply w_seq
    | apply w_region
    | (apply w_draw (id := 9) 16 rfl (by kernel_rfl))
    | apply s_nil
    | apply t_norm
    | apply t_exit
    | apply t_ret
    | apply k_hit
    | apply w_exit
    | apply w_ret
    | (apply w_condT; exact rfl; exact rfl)
    | (apply w_condF; exact rfl; exact rfl)
    | (apply s_k (first3_s _ _ _); exact rfl)
    | (apply s_k (unless_T _); exact rfl)
    | (apply s_k (unless_F _); exact rfl)
    | (apply s_k1 (isTick_T _); exact rfl; (first | assumption | omega | decide)))
            exact lv_ret (ret2 rfl (res_tmp rfl) (res_tmp rfl))
      · by_cases hH : r.lo ≤ r.hi
        · have hrA : runA r = 2 := by unfold runA; exact if_neg (by omega)
          have hrB : runB r = 0 := by unfold runB; exact if_pos (by omega)
          have hv : liveErrV s ws r = firstE [lerrK ws (firstE [(setupChk s).2, lenE ws.length]) ws.length, 2, 0] := by unfold liveErrV; rw [hrA, hrB]
          by_cases h0 : liveErrV s ws r = 0
          · rw [if_pos h0, h0]
            rw [hv] at h0
            have h0' := h0
            rw [← hv] at h0
            exact absurd (firstE3_zero h0').2 (by decide)
          · rw [if_neg h0]
            have h0' := h0
            rw [hv] at h0' ⊢
            repeat (first
    | (apply s_a TY; exact rfl)
    | (apply s_t; exact rfl; (first | assumption | omega))
    | (apply s_f; exact rfl; (first | assumption | omega))
    | apply w_seq
    | apply w_region
    | (apply w_draw (id := 9) 16 rfl (by kernel_rfl))
    | apply s_nil
    | apply t_norm
    | apply t_exit
    | apply t_ret
    | apply k_hit
    | apply w_exit
    | apply w_ret
    | (apply w_condT; exact rfl; exact rfl)
    | (apply w_condF; exact rfl; exact rfl)
    | (apply s_k (first3_s _ _ _); exact rfl)
    | (apply s_k (unless_T _); exact rfl)
    | (apply s_k (unless_F _); exact rfl)
    | (apply s_k1 (isTick_T _); exact rfl; (first | assumption | omega | decide))
    | (apply s_k1 (isTick_F _); exact rfl; (first | assumption | omega | decide)))
            exact lv_ret (ret2 rfl (res_tmp rfl) (res_tmp rfl))
        · have hrA : runA r = 2 := by unfold runA; exact if_neg (by omega)
          have hrB : runB r = 9 := by unfold runB; exact if_neg (by omega)
          have hv : liveErrV s ws r = firstE [lerrK ws (firstE [(setupChk s).2, lenE ws.length]) ws.length, 2, 9] := by unfold liveErrV; rw [hrA, hrB]
          by_cases h0 : liveErrV s ws r = 0
          · rw [if_pos h0, h0]
            rw [hv] at h0
            have h0' := h0
            rw [← hv] at h0
            exact absurd (firstE3_zero h0').2 (by decide)
          · rw [if_neg h0]
            have h0' := h0
            rw [hv] at h0' ⊢
            repeat (first
    | (apply s_a TY; exact rfl)
    | (apply s_f; exact rfl; (first | assumption | omega))
    | apply w_seq
    | apply w_region
    | (apply w_draw (id := 9) 16 rfl (by kernel_rfl))
    | apply s_nil
    | apply t_norm
    | apply t_exit
    | apply t_ret
    | apply k_hit
    | apply w_exit
    | apply w_ret
    | (apply w_condT; exact rfl; exact rfl)
    | (apply w_condF; exact rfl; exact rfl)
    | (apply s_k (first3_s _ _ _); exact rfl)
    | (apply s_k (unless_F _); exact rfl)
    | (apply s_k1 (isTick_T _); exact rfl; (first | assumption | omega | decide))
    | (apply s_k1 (isTick_F _); exact rfl; (first | assumption | omega | decide)))
            exact lv_ret (ret2 rfl (res_tmp rfl) (res_tmp rfl))
    · by_cases hH : r.lo ≤ r.hi
      · have hrA : runA r = 2 := by unfold runA; exact if_neg (by omega)
        have hrB : runB r = 0 := by unfold runB; exact if_pos (by omega)
        have hv : liveErrV s ws r = firstE [lerrK ws (firstE [(setupChk s).2, lenE ws.length]) ws.length, 2, 0] := by unfold liveErrV; rw [hrA, hrB]
        by_cases h0 : liveErrV s ws r = 0
        · rw [if_pos h0, h0]
          rw [hv] at h0
          have h0' := h0
          rw [← hv] at h0
          exact absurd (firstE3_zero h0').2 (by decide)
        · rw [if_neg h0]
          have h0' := h0
          rw [hv] at h0' ⊢
          repeat (first
    | (apply s_a TY; exact rfl)
    | (apply s_t; exact rfl; (first | assumption | omega))
    | (apply s_f; exact rfl; (first | assumption | omega))
    | apply w_seq
    | apply w_region
    | (apply w_draw (id := 9) 16 rfl (by kernel_rfl))
    | apply s_nil
    | apply t_norm
    | apply t_exit
    | apply t_ret
    | apply k_hit
    | apply w_exit
    | apply w_ret
    | (apply w_condT; exact rfl; exact rfl)
    | (apply w_condF; exact rfl; exact rfl)
    | (apply s_k (first3_s _ _ _); exact rfl)
    | (apply s_k (unless_T _); exact rfl)
    | (apply s_k (unless_F _); exact rfl)
    | (apply s_k1 (isTick_F _); exact rfl; (first | assumption | omega | decide))
    | (apply s_s; exact rfl))
          exact lv_ret (ret2 rfl (res_tmp rfl) (res_tmp rfl))
      · have hrA : runA r = 2 := by unfold runA; exact if_neg (by omega)
        have hrB : runB r = 9 := by unfold runB; exact if_neg (by omega)
        have hv : liveErrV s ws r = firstE [lerrK ws (firstE [(setupChk s).2, lenE ws.length]) ws.length, 2, 9] := by unfold liveErrV; rw [hrA, hrB]
        by_cases h0 : liveErrV s ws r = 0
        · rw [if_pos h0, h0]
          rw [hv] at h0
          have h0' := h0
          rw [← hv] at h0
          exact absurd (firstE3_zero h0').2 (by decide)
        · rw [if_neg h0]
          have h0' := h0
          rw [hv] at h0' ⊢
          repeat (first
    | (apply s_a TY; exact rfl)
    | (apply s_f; exact rfl; (first | assumption | omega))
    | apply w_seq
    | apply w_region
    | (apply w_draw (id := 9) 16 rfl (by kernel_rfl))
    | apply s_nil
    | apply t_norm
    | apply t_exit
    | apply t_ret
    | apply k_hit
    | apply w_exit
    | apply w_ret
    | (apply w_condT; exact rfl; exact rfl)
    | (apply w_condF; exact rfl; exact rfl)
    | (apply s_k (first3_s _ _ _); exact rfl)
    | (apply s_k (unless_F _); exact rfl)
    | (apply s_k1 (isTick_F _); exact rfl; (first | assumption | omega | decide))
    | (apply s_s; exact rfl))
          exact lv_ret (ret2 rfl (res_tmp rfl) (res_tmp rfl))
end Go.Proofs.YtdmdpkoapllkkaaGreat
namespace Go.Ab
open Go Go.RowKit Go.Shelf Go.Proofs Go.Lib
theorem growG {P : Program} {G : Nat → Option (List FV)} {ρ : Ren} (L : Lays8.n4 P ρ) (i0 : TypeInfo) (z : Value) (hi0 : P.info? (ρ.t 25) = some i0) (hz0 : i0.zero = some z) (hs0 : 0 < i0.size) (hzs : z.cells.size = i0.size) (hent : Enters P (ρ.f 4)) (n : Nat) (hbig : n * i0.bytes ≤ 140737488355328) (h63 : n ≤ 4611686018427387904) :
    SummG P G (ρ.f 4) [] [.f (.v (.slice none 0 0)), .f (.v (.int .i64 n))] (.ow 0) [.row (ρ.t 25) i0.size 0 []] := by
  refine ⟨hent, by simp, fun i B B' h1 h2 => by simp at h1, fun w M X us J hX hM hG hA hL => ?_⟩
  obtain ⟨v0, v1, rfl⟩ : ∃ v0 v1, us = [v0, v1] := by
    obtain ⟨e, _⟩ := hA
    match us, e with
    | [a, b], _ => exact ⟨a, b, rfl⟩
  have hv0 : RepF w _ v0 (.v (.slice none 0 0)) := hA.2 0 v0 (.f _) rfl rfl
  have hv1 : RepF w _ v1 (.v (.int .i64 n)) := hA.2 1 v1 (.f _) rfl rfl
  cases hv0
  cases hv1
  by_cases hn : n = 0
  · subst hn
    refine (Any8.slices_Grow_room L none 0 0 0 w (Nat.le_refl _) (by omega) (by omega) (Nat.le_refl _)).mono ?_
    rintro e w' ⟨rfl, rfl⟩
    refine ⟨_, fun _ => .slice none 0 0, rfl, ⟨rfl, rfl⟩, ⟨fun i B hB => ?_, fun i j b hi hj _ _ => by simp at hi hj; omega⟩, Grew.refl _ _, fun i B hB => by simp at hB⟩
    match i, hB with
    | 0, hB => cases hB; exact ⟨[], ⟨by simp, .inl ⟨rfl, rfl⟩⟩, fun b hb => (by cases hb), fun u hu => by simp at hu, RepL.nil _ _⟩
    | _ + 1, hB => simp at hB
  · refine (Any8.slices_Grow_grow L i0 z hi0 hz0 hs0 none 0 0 n [] w (Nat.le_refl _) (by omega) (by simpa using hbig) (by omega) (by simp) (fun _ => rfl) (fun a h => by cases h)).mono ?_
    rintro e w' ⟨rfl, rfl⟩
    have hge : n ≤ grownCap w n 0 (ρ.t 25) := by have := grownCap_ge w (0 + n) 0 (ρ.t 25); simpa using this
    have hmx : grownCap w n 0 (ρ.t 25) ≤ maxLen := grownCap_le_maxLen w n 0 (ρ.t 25) (by unfold maxLen; omega)
    rw [Nat.zero_add]
    generalize grownCap w n 0 (ρ.t 25) = c at hge hmx ⊢
    obtain ⟨cur, hcur⟩ : ∃ cur, cur = (([] : List Value).toArray ++ Builtin.zeroCells z.cells (n - 0) ++ Builtin.zeroCells z.cells (c - n)) := ⟨_, rfl⟩
    rw [← hcur]
    have hsz : cur.size = c * i0.size := by
      rw [hcur]
      have hz : ∀ m, (Builtin.zeroCells z.cells m).size = m * i0.size := fun m => by rw [← hzs]; simp [Builtin.zeroCells]
      simp only [Array.size_append, hz]
      simp only [List.size_toArray, List.length_nil, Nat.zero_add, Nat.sub_zero]
      rw [← Nat.add_mul]; congr 1; omega
    have hheap : (w.drew.alloc (.cells cur (ρ.t 25))).heap[w.heap.size]? = some (.cells cur (ρ.t 25) (0, 0)) := by
      show (w.heap.push (.cells cur (ρ.t 25) (0, 0)))[w.heap.size]? = _
      exact Array.getElem?_push_size
    refine ⟨_, fun _ => .slice (some ⟨w.heap.size, 0, none⟩) 0 c, rfl, ⟨rfl, rfl⟩, ⟨fun i B hB => ?_, fun i j b hi hj _ _ => by simp at hi hj; omega⟩, ?_, fun i B hB => by simp at hB⟩
    · match i, hB with
      | 0, hB =>
        cases hB
        have hr : (w.drew.alloc (.cells cur (ρ.t 25))).ownsRow 0 (ρ.t 25) i0.size (.slice (some ⟨w.heap.size, 0, none⟩) 0 c) 0 [] := ⟨by simp, .inr ⟨w.heap.size, c, cur, rfl, Nat.zero_le _, hheap, Nat.zero_le _, hmx, hsz, by simp⟩⟩
        exact ⟨[], hr, fun b hb => .inl (by simp [bk] at hb; omega), fun u hu => by simp at hu, RepL.nil _ _⟩
      | _ + 1, hB => simp at hB
    · exact Grew.ofExt (Ext.trans (b := w.drew) ⟨rfl, rfl, rfl, Nat.le_refl _, fun _ _ => rfl⟩ (Ext.alloc _ _))
end Go.Ab
namespace Go.Proofs.YtdmdpkoapllkkaaGreat
open Go.Proofs Go.Shelf
def growH_ren : Go.Shelf.Ren := ⟨fun | 4 => 124 | n => n, fun | 22 => 27 | 25 => 29 | 3 => 3 | 4 => 4 | 9 => 9 | 20 => 20 | 0 => 0 | n => n, fun | n => n⟩
theorem growH : Go.Proofs.Lays8.n4 Tryz.prog growH_ren := {
  mixed := by kernel_rfl
  f4 := ⟨Tryz.f124.name, by decide, Tryz.func124.trans (congrArg some (by kernel_rfl))⟩
  t0 := Tryz.underlying0
  a0 := Tryz.isAgg0
  z0 := Tryz.sizeOf0
  v0 := Tryz.zeroValue0
  t3 := Tryz.underlying3
  a3 := Tryz.isAgg3
  z3 := Tryz.sizeOf3
  v3 := Tryz.zeroValue3
  t4 := Tryz.underlying4
  a4 := Tryz.isAgg4
  z4 := Tryz.sizeOf4
  v4 := Tryz.zeroValue4
  t9 := Tryz.underlying9
  a9 := Tryz.isAgg9
  z9 := Tryz.sizeOf9
  v9 := Tryz.zeroValue9
  t20 := Tryz.underlying20
  a20 := Tryz.isAgg20
  z20 := Tryz.sizeOf20
  v20 := Tryz.zeroValue20
  t22 := Tryz.underlying27
  a22 := Tryz.isAgg27
  z22 := Tryz.sizeOf27
  v22 := Tryz.zeroValue27 }
end Go.Proofs.YtdmdpkoapllkkaaGreat
namespace Go.Proofs.YtdmdpkoapllkkaaGreat
open Go Go.RowKit Go.Proofs Go.Shelf Go.Ab
set_option maxRecDepth 100000 in
theorem growH_g (n : Nat) (h : n ≤ 1000000) : SummG Tryz.prog GG 124 [] [.f (.v (.slice none 0 0)), .f (iv (n : Int))] (.ow 0) [.row 29 3 0 []] := by
  obtain ⟨i0, z, hi, hz, hs, hb, hc⟩ : ∃ (i0 : TypeInfo) (z : Value), Tryz.prog.info? 29 = some i0 ∧ i0.zero = some z ∧ i0.size = 3 ∧ i0.bytes ≤ 1000 ∧ z.cells.size = 3 := ⟨_, _, rfl, rfl, rfl, by decide, rfl⟩
  have := growG (G := GG) growH i0 z hi hz (by omega) (by omega) (enters_of Tryz.func124 (by kernel_rfl) rfl) n (by have := Nat.mul_le_mul h hb; omega) (by omega)
  rw [hs] at this
  exact this
def partN (a b : List Hit) : Nat → List Hit
  | 0 => []
  | 1 => a
  | _ + 2 => a ++ b
theorem rowH_part (a b c : List Hit) {k : Nat} (h : partN a b (k + 1) = partN a b k ++ c) : some (Blk.row 29 3 (partN a b (k + 1)).length (hitsF (partN a b (k + 1)))) = some (Blk.row 29 3 ((partN a b k).length + c.length) (hitsF (partN a b k) ++ hitsF c)) := by
  rw [h, hitsF_app, List.length_append]
set_option maxRecDepth 100000 in
set_option maxHeartbeats 1600000 in
theorem concat_s (a b : List Hit) (ha : a.length ≤ 1000) (hb : b.length ≤ 1000) : Summ Tryz.prog GG 64 [.sl 2 [.sl a.length (hitsF a), .sl b.length (hitsF b)]] (.sl (a ++ b).length (hitsF (a ++ b))) := by
  have q0 : ((partN a b (0 + 1)).length : Int) = ((partN a b 0).length : Int) + (a.length : Int) := by simp [partN]
  have q1 : ((partN a b (1 + 1)).length : Int) = ((partN a b 1).length : Int) + (b.length : Int) := by simp [partN]
  have r0 : (partN a b 0).length = 0 := rfl
  have r1 : (partN a b 1).length = a.length := rfl
  have r2 : (partN a b 2).length ≤ 2000 := by have : (partN a b 2).length = a.length + b.length := by simp [partN]
                                              omega
  have hne : ([.sl a.length (hitsF a), .sl b.length (hitsF b)] : List FV) ≠ [] := by simp
  have hx0 : ([.sl a.length (hitsF a), .sl b.length (hitsF b)] : List FV)[0 * 1]? = some (FV.sl a.length (hitsF a)) := rfl
  have hx1 : ([.sl a.length (hitsF a), .sl b.length (hitsF b)] : List FV)[1 * 1]? = some (FV.sl b.length (hitsF b)) := rfl
  refine summW Tryz.func64 rfl rfl 36 rfl (by simp) (fun M0 => ?_)
  repeat (first
    | (apply s_a TY; exact rfl)
    | apply w_seq
    | apply w_region
    | apply s_nil
    | apply t_norm
    | apply w_block)
  apply w_loop (fun k : Nat => ⟨(Ab.upd (Ab.upd (Ab.upd (Ab.upd (Ab.upd (fun _ => .bot) 0 (.f (.sl 2 [.sl a.length (hitsF a), .sl b.length (hitsF b)]))) 3 (.f (iv (((partN a b k).length : Nat) : Int)))) 9 (.f (.sl 2 [.sl a.length (hitsF a), .sl b.length (hitsF b)]))) 10 (.f (iv 2))) 11 (.f (iv (k : Nat)))), (fun _ => none), 0⟩) (fun k => k ≤ 2) (fun k => 2 - k) 0 (Nat.zero_le _) (gh_le ⟨le_upd rfl trivial (le_upd rfl trivial (le_upd rfl trivial (le_upd rfl trivial (le_upd rfl trivial (le_nil _))))), le_h0 _ _⟩)
  intro k hk
  rcases (by omega : k = 0 ∨ k = 1 ∨ k = 2) with rfl | rfl | rfl
  · repeat (first
    | (apply s_a TY; exact rfl)
    | (apply s_t; exact rfl; (first | assumption | omega))
    | (apply s_f; exact rfl; (first | assumption | omega))
    | apply w_seq
    | apply w_region
    | apply s_nil
    | apply t_norm
    | apply k_norm
    | apply w_block
    | apply w_skip
    | (apply w_condT; exact rfl; exact rfl)
    | (apply w_condF; exact rfl; exact rfl)
    | (apply s_c TY; exact rfl; (first | omega | exact ⟨by omega, by (first | with_reducible assumption | assumption)⟩)))
    exact ⟨0 + 1, by omega, by omega, gh_le ⟨le_upd rfl trivial (le_upd rfl trivial (le_upd rfl trivial (le_upd (congrArg (fun z : Int => AV.f (iv z)) q0) trivial (le_upd rfl trivial (le_nil _))))), le_h0 _ _⟩⟩
  · repeat (first
    | (apply s_a TY; exact rfl)
    | (apply s_t; exact rfl; (first | assumption | omega))
    | (apply s_f; exact rfl; (first | assumption | omega))
    | apply w_seq
    | apply w_region
    | apply s_nil
    | apply t_norm
    | apply k_norm
    | apply w_block
    | apply w_skip
    | (apply w_condT; exact rfl; exact rfl)
    | (apply w_condF; exact rfl; exact rfl)
    | (apply s_c TY; exact rfl; (first | omega | exact ⟨by omega, by (first | with_reducible assumption | assumption)⟩)))
    exact ⟨1 + 1, by omega, by omega, gh_le ⟨le_upd rfl trivial (le_upd rfl trivial (le_upd rfl trivial (le_upd (congrArg (fun z : Int => AV.f (iv z)) q1) trivial (le_upd rfl trivial (le_nil _))))), le_h0 _ _⟩⟩
  · repeat (first
    | (apply s_a TY; exact rfl)
    | (apply s_f; exact rfl; (first | assumption | omega))
    | apply w_seq
    | apply w_region
    | apply s_nil
    | apply t_norm
    | apply t_exit
    | apply k_hit
    | apply w_block
    | apply w_exit
    | (apply w_condF; exact rfl; exact rfl)
    | (apply s_callG [] (growH_g (partN a b 2).length (by omega)); exact rfl; exact rfl; exact rfl; exact trivial; exact rfl; (first | exact ⟨rfl, rfl⟩ | exact ⟨⟨rfl, rfl⟩, ⟨rfl, rfl⟩⟩ | exact ⟨⟨rfl, rfl⟩, ⟨rfl, rfl⟩, ⟨rfl, rfl⟩⟩)))
    apply w_loop (fun k : Nat => ⟨(Ab.upd (Ab.upd (Ab.upd (Ab.upd (fun _ => .bot) 6 (.ow 0)) 25 (.f (.sl 2 [.sl a.length (hitsF a), .sl b.length (hitsF b)]))) 26 (.f (iv 2))) 27 (.f (iv (k : Nat)))), (Ab.upd (fun _ => none) 0 (some (.row 29 3 (partN a b k).length (hitsF (partN a b k))))), 1⟩) (fun k => k ≤ 2) (fun k => 2 - k) 0 (Nat.zero_le _) (gh_le ⟨le_upd rfl trivial (le_upd rfl trivial (le_upd rfl trivial (le_upd rfl rfl (le_nil _)))), le_hupd rfl trivial (le_h0 _ _)⟩)
    intro k hk
    rcases (by omega : k = 0 ∨ k = 1 ∨ k = 2) with rfl | rfl | rfl
    · repeat (first
    | (apply s_append TY; exact rfl; exact rfl; exact rfl; exact rfl; exact rfl; exact rfl; exact rfl; exact rfl; (first | exact rfl | exact hitsF_len _); (unfold maxLen; omega); omega)
    | (apply s_a TY; exact rfl)
    | (apply s_t; exact rfl; (first | assumption | omega))
    | apply w_seq
    | apply w_region
    | apply s_nil
    | apply t_norm
    | apply k_norm
    | apply w_block
    | apply w_skip
    | (apply w_condT; exact rfl; exact rfl)
    | (apply s_c TY; exact rfl; (first | omega | exact ⟨by omega, by (first | with_reducible assumption | assumption)⟩)))
      exact ⟨0 + 1, by omega, by omega, gh_le ⟨le_upd rfl trivial (le_upd rfl trivial (le_upd rfl trivial (le_upd rfl rfl (le_nil _)))), le_hupd (rowH_part a b a rfl).symm trivial (le_h0 _ _)⟩⟩
    · repeat (first
    | (apply s_append TY; exact rfl; exact rfl; exact rfl; exact rfl; exact rfl; exact rfl; exact rfl; exact rfl; (first | exact rfl | exact hitsF_len _); (unfold maxLen; omega); omega)
    | (apply s_a TY; exact rfl)
    | (apply s_t; exact rfl; (first | assumption | omega))
    | apply w_seq
    | apply w_region
    | apply s_nil
    | apply t_norm
    | apply k_norm
    | apply w_block
    | apply w_skip
    | (apply w_condT; exact rfl; exact rfl)
    | (apply s_c TY; exact rfl; (first | omega | exact ⟨by omega, by (first | with_reducible assumption | assumption)⟩)))
      exact ⟨1 + 1, by omega, by omega, gh_le ⟨le_upd rfl trivial (le_upd rfl trivial (le_upd rfl trivial (le_upd rfl rfl (le_nil _)))), le_hupd (rowH_part a b b rfl).symm trivial (le_h0 _ _)⟩⟩
    · repeat (first
    | (apply s_a TY; exact rfl)
    | (apply s_f; exact rfl; (first | assumption | omega))
    | apply w_seq
    | apply w_region
    | apply s_nil
    | apply t_norm
    | apply t_exit
    | apply k_hit
    | apply w_exit
    | apply w_ret
    | (apply w_condF; exact rfl; exact rfl))
      exact lv_ret (ret_gh (gh_row 0 rfl) (ret1 rfl (res_tmp rfl)))
end Go.Proofs.YtdmdpkoapllkkaaGreat
namespace Go.Proofs.YtdmdpkoapllkkaaGreat
open Go Go.RowKit Go.Proofs Go.Shelf Go.Ab
def woH (h : List Hit) (i : Nat) : List Hit := h.take i ++ h.drop (i + 1)
theorem woH_sub (h : List Hit) (i : Nat) : (woH h i).Sublist h := by
  have h1 : (h.take i ++ h.drop (i + 1)).Sublist (h.take i ++ h.drop i) := List.Sublist.append_left (by
    rw [show i + 1 = i + 1 from rfl, ← List.drop_drop]
    exact List.drop_sublist 1 _) _
  rw [List.take_append_drop] at h1
  exact h1
theorem hits_pw {l : List Site} {h : List Hit} (ho : HitsOk l h) : h.Pairwise before := by
  rw [List.pairwise_iff_getElem]
  intro i j hi hj hij
  obtain ⟨d, rfl⟩ : ∃ d, j = i + 1 + d := ⟨j - (i + 1), by omega⟩
  induction d with
  | zero => exact ho.next i hj
  | succ d ih => exact before_trans (ih (by omega) (by omega)) (ho.next (i + 1 + d) hj)
theorem hitsOk_sub {l : List Site} {h h' : List Hit} (ho : HitsOk l h) (hs : h'.Sublist h) : HitsOk l h' := by
  have hp := (hits_pw ho).sublist hs
  rw [List.pairwise_iff_getElem] at hp
  refine ⟨Nat.le_trans hs.length_le ho.len, fun i hi => ?_, fun i hi => hp i (i + 1) (by omega) hi (by omega)⟩
  obtain ⟨j, hj, e⟩ := List.getElem_of_mem (hs.subset (List.getElem_mem hi))
  rw [← e]; exact ho.hit j hj
def critN (l : List Site) (r : Rule) (h : List Hit) (n : Nat) : List Int := natsL ((List.range n).filter fun i => (firesV l r (woH h i) (woH h i).length).isEmpty)
def critV (l : List Site) (r : Rule) (h : List Hit) : List Int := if (firesV l r h h.length).isEmpty then [] else critN l r h h.length
theorem critN_succ (l : List Site) (r : Rule) (h : List Hit) (n : Nat) : critN l r h (n + 1) = critN l r h n ++ (if (firesV l r (woH h n) (woH h n).length).isEmpty = true then [(n : Int)] else []) := by
  unfold critN natsL
  rw [List.range_succ, List.filter_append, List.map_append]
  congr 1
  cases e : (firesV l r (woH h n) (woH h n).length).isEmpty with
  | true => simp only [List.filter, e, if_true]; rfl
  | false => simp only [List.filter, e]; rfl
theorem critN_len (l : List Site) (r : Rule) (h : List Hit) (n : Nat) : (critN l r h n).length ≤ n := by
  unfold critN natsL
  rw [List.length_map]
  exact Nat.le_trans (List.length_filter_le _ _) (by simp)
set_option maxRecDepth 100000 in
set_option maxHeartbeats 1600000 in
theorem Critical_ok (l : List Site) (r : Rule) (h : List Hit) (hl : l.length ≤ 1000000) (hh : h.length ≤ 1000000) (e : ruledErr l r h = 0) : Summ Tryz.prog GG 20 [arrF l, .agg (ruleF r), .sl h.length (hitsF h)] (.tup [if (firesV l r h h.length).isEmpty = true then .v (.slice none 0 0) else .sl (critV l r h).length (intsF (critV l r h)), iv 0]) := by
  obtain ⟨e1, e2, e3⟩ := ruledErr_parts e
  have hl0 := arrOk_of e1
  have ho := hitsOk_of hl0 e3
  have h40 := ho.len
  have HF := fires_s l r h e2 hl0 ho
  cases hf : (firesV l r h h.length).isEmpty with
  | true =>
    have h0 : (firesV l r h h.length).length = 0 := by rw [List.isEmpty_iff.1 hf]; rfl
    rw [if_pos rfl]
    refine summW Tryz.func20 rfl rfl 53 rfl (by simp) (fun M0 => ?_)
    repeat (first
    | (apply s_a TY; exact rfl)
    | (apply s_t; exact rfl; (first | assumption | omega))
    | apply w_seq
    | apply w_region
    | apply s_nil
    | apply t_norm
    | apply t_ret
    | apply w_ret
    | apply w_skip
    | (apply w_condT; exact rfl; exact rfl)
    | (apply w_condF; exact rfl; exact rfl)
    | (apply s_k (HF); exact rfl)
    | (apply s_k3 (openRule_ok _ _ _); exact rfl; (first | assumption | omega | decide); (first | assumption | omega | decide); (first | assumption | omega | decide))
    | (apply s_alloc TY; exact rfl; exact rfl; exact rfl)
    | (apply s_store TY; exact rfl; exact rfl; exact rfl; exact rfl; exact rfl; exact rfl))
    exact lv_ret (ret2 rfl (res_tmp rfl) (res_tmp rfl))
  | false =>
    have h0 : 0 < (firesV l r h h.length).length := List.length_pos_iff.2 (fun e => by rw [e] at hf; cases hf)
    rw [if_neg (by decide), show critV l r h = critN l r h h.length by unfold critV; rw [if_neg (by simp [hf])]]
    refine summW Tryz.func20 rfl rfl 53 rfl (by simp) (fun M0 => ?_)
    repeat (first
    | (apply s_a TY; exact rfl)
    | (apply s_t; exact rfl; (first | assumption | omega))
    | (apply s_f; exact rfl; (first | assumption | omega))
    | apply w_seq
    | apply w_region
    | apply s_nil
    | apply t_norm
    | apply w_block
    | apply w_skip
    | (apply w_condF; exact rfl; exact rfl)
    | (apply s_k (HF); exact rfl)
    | (apply s_k3 (openRule_ok _ _ _); exact rfl; (first | assumption | omega | decide); (first | assumption | omega | decide); (first | assumption | omega | decide))
    | (apply s_alloc TY; exact rfl; exact rfl; exact rfl)
    | (apply s_store TY; exact rfl; exact rfl; exact rfl; exact rfl; exact rfl; exact rfl))
    apply w_gh (gh_own 10 3 1 rfl rfl)
    apply w_loop (fun k : Nat => ⟨(Ab.upd (Ab.upd (Ab.upd (Ab.upd (Ab.upd (Ab.upd (Ab.upd (fun _ => .bot) 2 (.f (.sl h.length (hitsF h)))) 4 (.f (.pt (ruleF r) 0))) 8 (.bx 0 0)) 10 (.ow 1)) 28 (.f (.sl h.length (hitsF h)))) 29 (.f (iv h.length))) 30 (.f (iv (k : Nat)))), (Ab.upd (Ab.upd (fun _ => none) 0 (some (.box [.f (.sl l.length (sitesF l)), .f (.mp (mapS l l.length))]))) 1 (some (.row 3 1 (critN l r h k).length (intsF (critN l r h k))))), 2⟩) (fun k => k ≤ h.length) (fun k => h.length - k) 0 (Nat.zero_le _) (gh_le ⟨le_upd rfl trivial (le_upd rfl trivial (le_upd rfl trivial (le_upd rfl rfl (le_upd rfl rfl (le_upd rfl trivial (le_upd rfl trivial (le_nil _))))))), le_hupd rfl trivial (le_hupd rfl (fun y hy => by simp at hy; rcases hy with rfl | rfl <;> first | trivial | rfl) (le_h0 _ _))⟩)
    intro k hk
    have hcl := critN_len l r h k
    by_cases hc : k < h.length
    · have how := hitsOk_sub ho (woH_sub h k)
      have HW := fires_s l r (woH h k) e2 hl0 how
      have hs := critN_succ l r h k
      have e1 : ((((k : Nat) : Int)).toNat - Int.toNat 0) = (h.take k).length := by rw [List.length_take]; omega
      have e2 : (List.take (((((k : Nat) : Int)).toNat - Int.toNat 0) * 3) (List.drop (Int.toNat 0 * 3) (hitsF h))) = hitsF (h.take k) := by rw [Int.toNat_natCast, show Int.toNat 0 = 0 from rfl, Nat.zero_mul, List.drop_zero, Nat.sub_zero, hitsF_take]
      have e3 : ((((h.length : Nat) : Int)).toNat - (((k : Nat) : Int) + 1).toNat) = (h.drop (k + 1)).length := by rw [List.length_drop]; omega
      have e4 : (List.take (((((h.length : Nat) : Int)).toNat - (((k : Nat) : Int) + 1).toNat) * 3) (List.drop ((((k : Nat) : Int) + 1).toNat * 3) (hitsF h))) = hitsF (h.drop (k + 1)) := by rw [e3, show (((k : Nat) : Int) + 1).toNat = k + 1 by omega, hitsF_drop, List.take_of_length_le (by rw [hitsF_len]; exact Nat.le_refl _)]
      have HC : Summ Tryz.prog GG 64 [.sl 2 [.sl ((((k : Nat) : Int)).toNat - Int.toNat 0) (List.take (((((k : Nat) : Int)).toNat - Int.toNat 0) * 3) (List.drop (Int.toNat 0 * 3) (hitsF h))), .sl ((((h.length : Nat) : Int)).toNat - (((k : Nat) : Int) + 1).toNat) (List.take (((((h.length : Nat) : Int)).toNat - (((k : Nat) : Int) + 1).toNat) * 3) (List.drop ((((k : Nat) : Int) + 1).toNat * 3) (hitsF h)))]] (.sl (woH h k).length (hitsF (woH h k))) := by
        rw [e2, e4, e1, e3]
        exact concat_s (h.take k) (h.drop (k + 1)) (by rw [List.length_take]; omega) (by rw [List.length_drop]; omega)
      clear e1 e2 e3 e4
      cases hw : (firesV l r (woH h k) (woH h k).length).isEmpty with
      | true =>
        have h1 : (firesV l r (woH h k) (woH h k).length).length = 0 := by rw [List.isEmpty_iff.1 hw]; rfl
        rw [hw, if_pos rfl] at hs
        repeat (first
    | (apply s_a TY; exact rfl)
    | (apply s_t; exact rfl; (first | assumption | omega))
    | apply w_seq
    | apply w_region
    | (apply w_draw (id := 10) 11 rfl (by kernel_rfl))
    | apply s_nil
    | apply t_norm
    | apply k_norm
    | apply w_block
    | apply w_skip
    | (apply w_condT; exact rfl; exact rfl)
    | (apply s_k (HC); exact rfl)
    | (apply s_k (HW); exact rfl)
    | (apply s_c TY; exact rfl; omega)
    | (apply s_append TY; exact rfl; exact rfl; exact rfl; exact rfl; exact rfl; exact rfl; exact rfl; exact rfl; exact rfl; (unfold maxLen; omega); omega)
    | (apply s_slice TY; exact rfl; exact rfl; exact rfl; (first | exact rfl | exact ⟨_, rfl⟩); (first | exact rfl | exact ⟨_, rfl⟩); omega; omega; omega))
        exact ⟨k + 1, by omega, by omega, gh_le ⟨le_upd rfl trivial (le_upd rfl trivial (le_upd rfl trivial (le_upd rfl rfl (le_upd rfl rfl (le_upd rfl trivial (le_upd rfl trivial (le_nil _))))))), le_hupd (rowI_app hs) trivial (le_hupd rfl (fun y hy => by simp at hy; rcases hy with rfl | rfl <;> first | trivial | rfl) (le_h0 _ _))⟩⟩
      | false =>
        have h1 : 0 < (firesV l r (woH h k) (woH h k).length).length := List.length_pos_iff.2 (fun e => by rw [e] at hw; cases hw)
        rw [hw, if_neg (by decide), List.append_nil] at hs
        repeat (first
    | (apply s_a TY; exact rfl)
    | (apply s_t; exact rfl; (first | assumption | omega))
    | (apply s_f; exact rfl; (first | assumption | omega))
    | apply w_seq
    | apply w_region
    | (apply w_draw (id := 10) 11 rfl (by kernel_rfl))
    | apply s_nil
    | apply t_norm
    | apply k_norm
    | apply w_block
    | apply w_skip
    | (apply w_condT; exact rfl; exact rfl)
    | (apply w_condF; exact rfl; exact rfl)
    | (apply s_k (HC); exact rfl)
    | (apply s_k (HW); exact rfl)
    | (apply s_c TY; exact rfl; omega)
    | (apply s_slice TY; exact rfl; exact rfl; exact rfl; (first | exact rfl | exact ⟨_, rfl⟩); (first | exact rfl | exact ⟨_, rfl⟩); omega; omega; omega))
        exact ⟨k + 1, by omega, by omega, gh_le ⟨le_upd rfl trivial (le_upd rfl trivial (le_upd rfl trivial (le_upd rfl rfl (le_upd rfl rfl (le_upd rfl trivial (le_upd rfl trivial (le_nil _))))))), le_hupd (rowI _ _ hs.symm) trivial (le_hupd rfl (fun y hy => by simp at hy; rcases hy with rfl | rfl <;> first | trivial | rfl) (le_h0 _ _))⟩⟩
    · have hke : k = h.length := by omega
      subst hke
      repeat (first
    | (apply s_a TY; exact rfl)
    | (apply s_f; exact rfl; (first | assumption | omega))
    | apply w_seq
    | apply w_region
    | apply s_nil
    | apply t_norm
    | apply t_exit
    | apply k_hit
    | apply w_exit
    | apply w_ret
    | (apply w_condF; exact rfl; exact rfl))
      exact lv_ret (ret_gh (gh_row 1 rfl) (ret2 rfl (res_tmp rfl) (res_tmp rfl)))
end Go.Proofs.YtdmdpkoapllkkaaGreat
namespace Go.Ab
open Go Go.RowKit Go.Shelf Go.Proofs
section
variable {C : Ctx} {N : Nat} {st : St}
theorem v_field {o : Oper} {T f : Nat} {fs : Array Field} {fd : Field} {x : Operand} {cs : List FV} {c : FV} (ty : Ty C.P) (ho : o.op = .field T x f) (hd : dstB N o.dst = true) (hu : C.P.underlying T = some (.struct fs)) (hf : fs[f]? = some fd) (hE : (ty.ty fd.type).scal = true) (hx : st.ev C x = .f (.agg cs)) (hc : cs[fd.offset]? = some c) : ValOp C N o st (.f c) :=
  valop_run hd fun w0 a w J st' hA S => by
    have e1 := evF S ((hA.ev x (by simp [ho, Op.operands])).trans hx)
    obtain ⟨p1, p2⟩ := scal_parts ((ty.ok fd.type).scal hE)
    generalize hxv : a.eval x = xv at e1
    cases e1 with
    | agg _ us h1 h2 h3 =>
      have hlt : fd.offset < us.length := by rw [h1]; exact (List.getElem?_eq_some_iff.1 hc).1
      refine ⟨us[fd.offset], w, ?_, Ext.refl _, h3 fd.offset _ c (List.getElem?_eq_getElem hlt) hc⟩
      simp [execOp, ho, hxv, Instr.field, run_underlying hu, hf, asAgg, part, p1, List.getElem?_eq_getElem hlt, Sem.run_pure]
variable {ops : Array Oper} {pr : Bool} {K : St → Prop} {rest : List Oper} {d : Option Tmp} {T0 : TypeId} {pos : String} {af : Array Edge} {g : Option (Nat × Bool)}
theorem s_field (ty : Ty C.P) {T f : Nat} {fs : Array Field} {fd : Field} {x : Operand} {cs : List FV} {c : FV} (hu : C.P.underlying T = some (.struct fs)) (hw : wantB st ops ⟨d, .field T x f, T0, pos, af, g⟩ = some true) (hd : dstB N d = true) (hf : fs[f]? = some fd) (hE : (ty.ty fd.type).scal = true) (hx : st.ev C x = .f (.agg cs)) (hc : cs[fd.offset]? = some c)
    (h : R C N ops pr K rest (st.put d (.f c))) : R C N ops pr K (⟨d, .field T x f, T0, pos, af, g⟩ :: rest) st := ⟨r_val hw (v_field ty rfl hd hu hf hE hx hc) h.out⟩
end
end Go.Ab
namespace Go.Proofs.YtdmdpkoapllkkaaGreat
open Go Go.RowKit Go.Proofs Go.Shelf Go.Ab
def exA : List Site := [⟨1, 1, 0, 0, 0⟩, ⟨1, 2, 0, 0, -17⟩, ⟨1, 3, 0, 0, -34⟩, ⟨2, 1, 100, 0, 0⟩]
def exH : List Hit := [⟨100, 1, 1⟩, ⟨110, 1, 2⟩, ⟨130, 1, 3⟩, ⟨135, 2, 1⟩, ⟨500, 2, 1⟩]
def exS : Setup := ⟨[⟨0, 3, 30, 0, 0⟩], 10, 20, 100⟩
def exR : Rule := ⟨2, 2, 40, 50, 20⟩
def exQ : Rule := ⟨3, 3, 25, 5, 0⟩
theorem ex1 : ruledErr exA exR exH = 0 := by decide
theorem ex2 : ruledErr exA exQ exH = 0 := by decide
theorem ex3 : setErr exA exS exH = 0 := by decide
theorem ex4 : firesV exA exR exH exH.length = [⟨0, 100, 110⟩, ⟨1, 110, 130⟩] := by decide
theorem ex5 : firesV exA exQ exH exH.length = [⟨0, 100, 130⟩] := by decide
theorem sortRng_id {l : List Rng} (hb : LoOk l) (h : l.Pairwise fun x y => x.lo ≤ y.lo) (hu : ∀ x, x ∈ l → ∀ y, y ∈ l → x.lo = y.lo → x = y) : sortRng l = l := by
  refine List.Perm.eq_of_pairwise (le := fun x y => x.lo ≤ y.lo) (fun a b ha hb' h1 h2 => ?_) (sortRng_pw l hb) h (sortRng_perm l)
  exact hu a ((sortRng_perm l).mem_iff.1 ha) b hb' (by omega)
theorem ex8 : sortRng [⟨90, 150⟩, ⟨100, 155⟩] = [⟨90, 150⟩, ⟨100, 155⟩] := sortRng_id (by unfold LoOk; decide) (by decide) (by decide)
theorem ex7 : singleV exA exS exH = [⟨90, 150⟩, ⟨100, 155⟩] := by decide
theorem ex9 : eventsV exA exS exH = [⟨90, 155, [0, 1, 2, 3]⟩] := by
  unfold eventsV windowsV joinedV
  rw [ex7, ex8]
  decide
def exT : Rule := ⟨0, 3, 30, 0, 0⟩
theorem ex10 : critV exA exT exH = [1, 2] := by decide
theorem ex11 : ruledErr exA exT exH = 0 := by decide
theorem ex12 : (firesV exA exT exH exH.length).isEmpty = false := by decide
theorem ex13 : liveErrV exS [⟨90, 155⟩] ⟨0, 299⟩ = 0 := by decide
theorem ex14 : liveV exS [⟨90, 155⟩] ⟨0, 299⟩ = 200 := by decide
set_option maxRecDepth 100000 in
theorem exA_s : Summ Tryz.prog GG 54 [] (arrF exA) := by
  refine summW Tryz.func54 rfl rfl 7 rfl (by simp) (fun M0 => ?_)
  repeat (first
    | (apply s_a TY; exact rfl)
    | apply w_seq
    | apply w_region
    | apply s_nil
    | apply t_norm
    | apply w_ret
    | (apply s_alloc TY; exact rfl; exact rfl; exact rfl)
    | (apply s_store TY; exact rfl; exact rfl; exact rfl; exact rfl; exact rfl; exact rfl))
  exact lv_ret (ret1 rfl (res_bxs TY rfl rfl rfl rfl rfl))
set_option maxRecDepth 100000 in
theorem exS_s : Summ Tryz.prog GG 56 [] (setF exS) := by
  refine summW Tryz.func56 rfl rfl 4 rfl (by simp) (fun M0 => ?_)
  repeat (first
    | (apply s_a TY; exact rfl)
    | apply w_seq
    | apply w_region
    | apply s_nil
    | apply t_norm
    | apply w_ret
    | (apply s_alloc TY; exact rfl; exact rfl; exact rfl)
    | (apply s_store TY; exact rfl; exact rfl; exact rfl; exact rfl; exact rfl; exact rfl))
  exact lv_ret (ret1 rfl (res_bxs TY rfl rfl rfl rfl rfl))
set_option maxRecDepth 100000 in
theorem exH_s : Summ Tryz.prog GG 55 [] (.sl exH.length (hitsF exH)) := by
  refine summW Tryz.func55 rfl rfl 7 rfl (by simp) (fun M0 => ?_)
  repeat (first
    | (apply s_a TY; exact rfl)
    | apply w_seq
    | apply w_region
    | apply s_nil
    | apply t_norm
    | apply w_ret)
  exact lv_ret (ret1 rfl (res_tmp rfl))
set_option maxRecDepth 100000 in
set_option maxHeartbeats 3200000 in
theorem awake_s : Summ Tryz.prog GG 10 [] (bv true) := by
  have HF1 : Summ Tryz.prog GG 14 [arrF exA, .agg (ruleF exR), .sl exH.length (hitsF exH)] (.tup [.sl 2 (firesF [⟨0, 100, 110⟩, ⟨1, 110, 130⟩]), iv 0]) := by
    have := FiresOf_ok exA exR exH (by decide) (by decide) ex1
    rw [ex4] at this; exact this
  have HF2 : Summ Tryz.prog GG 14 [arrF exA, .agg (ruleF exQ), .sl exH.length (hitsF exH)] (.tup [.sl 1 (firesF [⟨0, 100, 130⟩]), iv 0]) := by
    have := FiresOf_ok exA exQ exH (by decide) (by decide) ex2
    rw [ex5] at this; exact this
  have HE : Summ Tryz.prog GG 32 [arrF exA, setF exS, .sl exH.length (hitsF exH)] (.tup [.sl 1 (evsF [⟨90, 155, [0, 1, 2, 3]⟩]), iv 0]) := by
    have := EventsOf_ok exA exS exH (by decide) (by decide) (by decide) ex3
    rw [ex9] at this; exact this
  have HC : Summ Tryz.prog GG 20 [arrF exA, .agg (ruleF exT), .sl exH.length (hitsF exH)] (.tup [.sl 2 (intsF [1, 2]), iv 0]) := by
    have := Critical_ok exA exT exH (by decide) (by decide) ex11
    rw [ex12, if_neg (by decide), ex10] at this; exact this
  have HL : Summ Tryz.prog GG 57 [setF exS, .sl 1 (rngsF [⟨90, 155⟩]), .agg (rngF ⟨0, 299⟩)] (.tup [iv 200, iv 0]) := by
    have := LiveIn_s exS [⟨90, 155⟩] ⟨0, 299⟩ (by decide) (by decide)
    rw [ex13, if_pos rfl, ex14] at this; exact this
  have S1 := SameFires_s [⟨0, 100, 110⟩, ⟨1, 110, 130⟩] [⟨0, 100, 110⟩, ⟨1, 110, 130⟩] (by decide) (by decide)
  have S2 := SameFires_s [⟨0, 100, 130⟩] [⟨0, 100, 130⟩] (by decide) (by decide)
  have S3 := SameEvents_s [⟨90, 155, [0, 1, 2, 3]⟩] [⟨90, 155, [0, 1, 2, 3]⟩] (by decide) (by decide) (by decide) (by decide)
  have S4 := Ints_s [1, 2] [1, 2] (by decide) (by decide)
  rw [decide_eq_true rfl] at S1 S2 S3 S4
  have hx1 : exS.rules.length = 1 := rfl
  have hx2 : rulesF exS.rules ≠ [] := rulesF_ne (k := 0) (by decide)
  refine summW Tryz.func10 rfl rfl 101 rfl (by simp) (fun M0 => ?_)
  repeat (first
    | (apply s_field TY Tryz.underlying59; exact rfl; exact rfl; exact rfl; exact rfl; exact rfl; exact rfl)
    | (apply s_a TY; exact rfl)
    | (apply s_t; exact rfl; (first | assumption | omega))
    | apply w_seq
    | apply w_region
    | (apply w_draw (id := 4) 11 rfl (by kernel_rfl))
    | apply s_nil
    | apply t_norm
    | apply w_ret
    | (apply s_k (exA_s); exact rfl)
    | (apply s_k (exS_s); exact rfl)
    | (apply s_k (exH_s); exact rfl)
    | (apply s_k (HF1); exact rfl)
    | (apply s_k (HF2); exact rfl)
    | (apply s_k (HE); exact rfl)
    | (apply s_k (HC); exact rfl)
    | (apply s_k (HL); exact rfl)
    | (apply s_k (S1); exact rfl)
    | (apply s_k (S2); exact rfl)
    | (apply s_k (S3); exact rfl)
    | (apply s_k (S4); exact rfl)
    | (apply s_z TY; exact rfl; (first | omega | exact ⟨by omega, by (first | with_reducible assumption | ((with_reducible apply rulesF_ne); omega) | assumption)⟩)))
  exact lv_ret (ret1 rfl (res_tmp rfl))
end Go.Proofs.YtdmdpkoapllkkaaGreat
namespace Go.Proofs.YtdmdpkoapllkkaaGreat
open Go Go.RowKit Go.Proofs Go.Shelf Go.Ab
def lightB (r : Rule) : Bool := decide (r.kind ≠ 3) || decide (r.count ≤ 6) || decide (40 < r.count)
def fewRulesB (s : Setup) : Bool := decide (s.rules.length ≤ 6) && !anyP s.rules.length fun i => !lightB (s.rules.getD i default)
def fewB (n : Int) : Bool := decide (n ≤ 14) || (decide (40 < n) && decide (n ≤ 42))
theorem light_s (r : Rule) : Summ Tryz.prog GG 12 [.agg (ruleF r)] (bv (lightB r)) := by
  by_cases h1 : r.kind = 3
  · by_cases h2 : r.count ≤ 6
    · rw [show lightB r = true by unfold lightB; rw [decide_eq_false (fun h => h h1), decide_eq_true h2]; rfl]
      refine summW Tryz.func12 rfl rfl 16 rfl (by simp) (fun M0 => ?_)
      repeat (first
    | (apply s_a TY; exact rfl)
    | (apply s_t; exact rfl; (first | assumption | omega))
    | apply w_seq
    | apply w_region
    | apply s_nil
    | apply t_norm
    | apply w_ret
    | (apply s_s; exact rfl))
      exact lv_ret (ret1 rfl (res_tmp rfl))
    · by_cases h3 : 40 < r.count
      · rw [show lightB r = true by unfold lightB; rw [decide_eq_false (fun h => h h1), decide_eq_false h2, decide_eq_true h3]; rfl]
        refine summW Tryz.func12 rfl rfl 16 rfl (by simp) (fun M0 => ?_)
        repeat (first
    | (apply s_a TY; exact rfl)
    | (apply s_t; exact rfl; (first | assumption | omega))
    | (apply s_f; exact rfl; (first | assumption | omega))
    | apply w_seq
    | apply w_region
    | apply s_nil
    | apply t_norm
    | apply w_ret)
        exact lv_ret (ret1 rfl (res_tmp rfl))
      · rw [show lightB r = false by unfold lightB; rw [decide_eq_false (fun h => h h1), decide_eq_false h2, decide_eq_false h3]; rfl]
        refine summW Tryz.func12 rfl rfl 16 rfl (by simp) (fun M0 => ?_)
        repeat (first
    | (apply s_a TY; exact rfl)
    | (apply s_t; exact rfl; (first | assumption | omega))
    | (apply s_f; exact rfl; (first | assumption | omega))
    | apply w_seq
    | apply w_region
    | apply s_nil
    | apply t_norm
    | apply w_ret)
        exact lv_ret (ret1 rfl (res_tmp rfl))
  · rw [show lightB r = true by unfold lightB; rw [decide_eq_true h1]; rfl]
    refine summW Tryz.func12 rfl rfl 16 rfl (by simp) (fun M0 => ?_)
    repeat (first
    | (apply s_a TY; exact rfl)
    | (apply s_f; exact rfl; (first | assumption | omega))
    | apply w_seq
    | apply w_region
    | apply s_nil
    | apply t_norm
    | apply w_ret
    | (apply s_s; exact rfl))
    exact lv_ret (ret1 rfl (res_tmp rfl))
theorem few_s (n : Int) : Summ Tryz.prog GG 38 [iv n] (bv (fewB n)) := by
  by_cases h1 : n ≤ 14
  · rw [show fewB n = true by unfold fewB; rw [decide_eq_true h1]; rfl]
    refine summW Tryz.func38 rfl rfl 13 rfl (by simp) (fun M0 => ?_)
    repeat (first
    | (apply s_a TY; exact rfl)
    | (apply s_t; exact rfl; (first | assumption | omega))
    | apply w_seq
    | apply w_region
    | apply s_nil
    | apply t_norm
    | apply w_ret
    | (apply s_s; exact rfl))
    exact lv_ret (ret1 rfl (res_tmp rfl))
  · by_cases h2 : 40 < n
    · by_cases h3 : n ≤ 42
      · rw [show fewB n = true by unfold fewB; rw [decide_eq_false h1, decide_eq_true h2, decide_eq_true h3]; rfl]
        refine summW Tryz.func38 rfl rfl 13 rfl (by simp) (fun M0 => ?_)
        repeat (first
    | (apply s_a TY; exact rfl)
    | (apply s_t; exact rfl; (first | assumption | omega))
    | (apply s_f; exact rfl; (first | assumption | omega))
    | apply w_seq
    | apply w_region
    | apply s_nil
    | apply t_norm
    | apply w_ret)
        exact lv_ret (ret1 rfl (res_tmp rfl))
      · rw [show fewB n = false by unfold fewB; rw [decide_eq_false h1, decide_eq_true h2, decide_eq_false h3]; rfl]
        refine summW Tryz.func38 rfl rfl 13 rfl (by simp) (fun M0 => ?_)
        repeat (first
    | (apply s_a TY; exact rfl)
    | (apply s_t; exact rfl; (first | assumption | omega))
    | (apply s_f; exact rfl; (first | assumption | omega))
    | apply w_seq
    | apply w_region
    | apply s_nil
    | apply t_norm
    | apply w_ret)
        exact lv_ret (ret1 rfl (res_tmp rfl))
    · rw [show fewB n = false by unfold fewB; rw [decide_eq_false h1, decide_eq_false h2]; rfl]
      refine summW Tryz.func38 rfl rfl 13 rfl (by simp) (fun M0 => ?_)
      repeat (first
    | (apply s_a TY; exact rfl)
    | (apply s_f; exact rfl; (first | assumption | omega))
    | apply w_seq
    | apply w_region
    | apply s_nil
    | apply t_norm
    | apply w_ret
    | (apply s_s; exact rfl))
      exact lv_ret (ret1 rfl (res_tmp rfl))
def FewB (l : List Site) (h : List Hit) : Bool := decide (l.length ≤ 32) && fewB h.length
set_option maxRecDepth 100000 in
theorem Few_s (l : List Site) (h : List Hit) : Summ Tryz.prog GG 11 [arrF l, .sl h.length (hitsF h)] (bv (FewB l h)) := by
  unfold FewB
  by_cases h1 : l.length ≤ 32
  · rw [decide_eq_true h1, Bool.true_and]
    have Hf := few_s (h.length : Nat)
    cases hf : fewB (h.length : Nat) with
    | true =>
      rw [hf] at Hf
      refine summW Tryz.func11 rfl rfl 14 rfl (by simp) (fun M0 => ?_)
      repeat (first
    | (apply s_a TY; exact rfl)
    | (apply s_t; exact rfl; (first | assumption | omega))
    | apply w_seq
    | apply w_region
    | apply s_nil
    | apply t_norm
    | apply w_ret
    | (apply s_k (Hf); exact rfl))
      exact lv_ret (ret1 rfl (res_tmp rfl))
    | false =>
      rw [hf] at Hf
      refine summW Tryz.func11 rfl rfl 14 rfl (by simp) (fun M0 => ?_)
      repeat (first
    | (apply s_a TY; exact rfl)
    | (apply s_t; exact rfl; (first | assumption | omega))
    | apply w_seq
    | apply w_region
    | apply s_nil
    | apply t_norm
    | apply w_ret
    | (apply s_k (Hf); exact rfl))
      exact lv_ret (ret1 rfl (res_tmp rfl))
  · rw [decide_eq_false h1, Bool.false_and]
    refine summW Tryz.func11 rfl rfl 14 rfl (by simp) (fun M0 => ?_)
    repeat (first
    | (apply s_a TY; exact rfl)
    | (apply s_f; exact rfl; (first | assumption | omega))
    | apply w_seq
    | apply w_region
    | apply s_nil
    | apply t_norm
    | apply w_ret
    | (apply s_s; exact rfl))
    exact lv_ret (ret1 rfl (res_tmp rfl))
set_option maxRecDepth 100000 in
theorem FewRules_s (s : Setup) : Summ Tryz.prog GG 26 [setF s] (bv (fewRulesB s)) := by
  unfold fewRulesB
  by_cases h6 : s.rules.length ≤ 6
  · rw [decide_eq_true h6, Bool.true_and]
    rcases idxP_cases s.rules.length (fun i => !lightB (s.rules.getD i default)) with ⟨he, hz⟩ | ⟨q, hq, hz, hp, he⟩
    · rw [show anyP s.rules.length (fun i => !lightB (s.rules.getD i default)) = false from Bool.eq_false_iff.2 fun h => by have := (idxP_pos _ _).2 h; rw [he] at this; omega]
      refine summW Tryz.func26 rfl rfl 22 rfl (by simp) (fun M0 => ?_)
      repeat (first
    | (apply s_a TY; exact rfl)
    | (apply s_f; exact rfl; (first | assumption | omega))
    | apply w_seq
    | apply w_region
    | apply s_nil
    | apply t_norm
    | apply w_block
    | apply w_skip
    | (apply w_condF; exact rfl; exact rfl))
      apply w_loop (fun k : Nat => ⟨(Ab.upd (Ab.upd (fun _ => .bot) 1 (.f (.pt (setL s) 0))) 3 (.f (iv (k : Nat)))), (fun _ => none), 0⟩) (fun k => k ≤ s.rules.length) (fun k => s.rules.length - k) 0 (Nat.zero_le _) (gh_le ⟨le_upd rfl trivial (le_upd rfl trivial (le_nil _)), le_h0 _ _⟩)
      intro k hk
      by_cases hc : k < s.rules.length
      · have HL := light_s s.rules[k]
        have hb := hz k hc
        rw [getD_at hc] at hb
        rw [show lightB s.rules[k] = true by cases hx : lightB s.rules[k] with | true => rfl | false => rw [hx] at hb; cases hb] at HL
        repeat (first
    | (apply s_a TY; exact rfl)
    | (apply s_t; exact rfl; (first | assumption | omega))
    | apply w_seq
    | apply w_region
    | apply s_nil
    | apply t_norm
    | apply k_norm
    | apply w_block
    | apply w_skip
    | (apply w_condT; exact rfl; exact rfl)
    | (apply w_condF; exact rfl; exact rfl)
    | (apply s_k (HL); exact rfl)
    | (apply s_c TY; exact rfl; (first | omega | exact ⟨by omega, by (first | with_reducible assumption | ((with_reducible apply rulesF_ne); omega) | assumption)⟩))
    | (apply s_m TY; exact rfl; (first | with_reducible assumption | ((with_reducible apply rulesF_sub); omega) | exact rfl); exact rfl))
        exact ⟨k + 1, by omega, by omega, gh_le ⟨le_upd rfl trivial (le_upd rfl trivial (le_nil _)), le_h0 _ _⟩⟩
      · repeat (first
    | (apply s_a TY; exact rfl)
    | (apply s_f; exact rfl; (first | assumption | omega))
    | apply w_seq
    | apply w_region
    | apply s_nil
    | apply t_norm
    | apply t_exit
    | apply k_hit
    | apply w_exit
    | apply w_ret
    | (apply w_condF; exact rfl; exact rfl))
        exact lv_ret (ret1 rfl (res_tmp rfl))
    · rw [show anyP s.rules.length (fun i => !lightB (s.rules.getD i default)) = true from (idxP_pos _ _).1 (by rw [he]; omega)]
      refine summW Tryz.func26 rfl rfl 22 rfl (by simp) (fun M0 => ?_)
      repeat (first
    | (apply s_a TY; exact rfl)
    | (apply s_f; exact rfl; (first | assumption | omega))
    | apply w_seq
    | apply w_region
    | apply s_nil
    | apply t_norm
    | apply w_block
    | apply w_skip
    | (apply w_condF; exact rfl; exact rfl))
      apply w_loop (fun k : Nat => ⟨(Ab.upd (Ab.upd (fun _ => .bot) 1 (.f (.pt (setL s) 0))) 3 (.f (iv (k : Nat)))), (fun _ => none), 0⟩) (fun k => k ≤ q) (fun k => q - k) 0 (Nat.zero_le _) (gh_le ⟨le_upd rfl trivial (le_upd rfl trivial (le_nil _)), le_h0 _ _⟩)
      intro k hk
      have hc : k < s.rules.length := by omega
      have HL := light_s s.rules[k]
      by_cases hkq : k = q
      · subst hkq
        rw [getD_at hc] at hp
        rw [show lightB s.rules[k] = false by cases hx : lightB s.rules[k] with | false => rfl | true => rw [hx] at hp; cases hp] at HL
        repeat (first
    | (apply s_a TY; exact rfl)
    | (apply s_t; exact rfl; (first | assumption | omega))
    | apply w_seq
    | apply w_region
    | apply s_nil
    | apply t_norm
    | apply t_ret
    | apply k_ret
    | apply w_block
    | apply w_ret
    | apply w_skip
    | (apply w_condT; exact rfl; exact rfl)
    | (apply s_k (HL); exact rfl)
    | (apply s_c TY; exact rfl; (first | omega | exact ⟨by omega, by (first | with_reducible assumption | ((with_reducible apply rulesF_ne); omega) | assumption)⟩))
    | (apply s_m TY; exact rfl; (first | with_reducible assumption | ((with_reducible apply rulesF_sub); omega) | exact rfl); exact rfl))
        exact lv_ret (ret1 rfl (res_tmp rfl))
      · have hb := hz k (by omega)
        rw [getD_at hc] at hb
        rw [show lightB s.rules[k] = true by cases hx : lightB s.rules[k] with | true => rfl | false => rw [hx] at hb; cases hb] at HL
        repeat (first
    | (apply s_a TY; exact rfl)
    | (apply s_t; exact rfl; (first | assumption | omega))
    | apply w_seq
    | apply w_region
    | apply s_nil
    | apply t_norm
    | apply k_norm
    | apply w_block
    | apply w_skip
    | (apply w_condT; exact rfl; exact rfl)
    | (apply w_condF; exact rfl; exact rfl)
    | (apply s_k (HL); exact rfl)
    | (apply s_c TY; exact rfl; (first | omega | exact ⟨by omega, by (first | with_reducible assumption | ((with_reducible apply rulesF_ne); omega) | assumption)⟩))
    | (apply s_m TY; exact rfl; (first | with_reducible assumption | ((with_reducible apply rulesF_sub); omega) | exact rfl); exact rfl))
        exact ⟨k + 1, by omega, by omega, gh_le ⟨le_upd rfl trivial (le_upd rfl trivial (le_nil _)), le_h0 _ _⟩⟩
  · rw [decide_eq_false h6, Bool.false_and]
    refine summW Tryz.func26 rfl rfl 22 rfl (by simp) (fun M0 => ?_)
    repeat (first
    | (apply s_a TY; exact rfl)
    | (apply s_t; exact rfl; (first | assumption | omega))
    | apply w_seq
    | apply w_region
    | apply s_nil
    | apply t_norm
    | apply t_ret
    | apply w_ret
    | (apply w_condT; exact rfl; exact rfl))
    exact lv_ret (ret1 rfl (res_tmp rfl))
end Go.Proofs.YtdmdpkoapllkkaaGreat
namespace Go.Proofs.YtdmdpkoapllkkaaGreat
open Go Go.RowKit Go.Proofs Go.Shelf Go.Ab
theorem pw_snoc {α : Type} {R : α → α → Prop} {a : List α} {x : α} : (a ++ [x]).Pairwise R ↔ a.Pairwise R ∧ ∀ y ∈ a, R y x := by
  rw [List.pairwise_append]
  constructor
  · rintro ⟨h1, _, h3⟩; exact ⟨h1, fun y hy => h3 y hy x (by simp)⟩
  · rintro ⟨h1, h3⟩; exact ⟨h1, by simp, fun y hy z hz => by simp at hz; subst hz; exact h3 y hy⟩
def Apart (o : List Rng) : Prop := (∀ x, x ∈ o → x.lo ≤ x.hi) ∧ o.Pairwise fun x y => x.hi + 1 < y.lo
def Covers (o : List Rng) (r : Rng) : Prop := ∃ x, x ∈ o ∧ x.lo ≤ r.lo ∧ r.hi ≤ x.hi
theorem mrg_good {S : Rng → Prop} {o : List Rng} {r : Rng} (ha : Apart o) (hle : ∀ x, x ∈ o → x.lo ≤ r.lo) (hr : r.lo ≤ r.hi) (hS : ∀ x, x ∈ o → ∃ q, S q ∧ q.lo = x.lo ∧ q.hi ≤ x.hi) (hSr : S r) :
    Apart (mrg o r) ∧ (∀ x, x ∈ mrg o r → x.lo ≤ r.lo) ∧ Covers (mrg o r) r ∧ (∀ q, Covers o q → Covers (mrg o r) q) ∧ ∀ x, x ∈ mrg o r → ∃ q, S q ∧ q.lo = x.lo ∧ q.hi ≤ x.hi := by
  rcases List.eq_nil_or_concat o with rfl | ⟨pre, x, rfl⟩
  · rw [mrg_nil]
    refine ⟨⟨fun y hy => ?_, by simp⟩, fun y hy => ?_, ⟨r, by simp, Int.le_refl _, Int.le_refl _⟩, (fun q ⟨y, hy, _⟩ => by cases hy), fun y hy => ?_⟩
    · simp at hy; subst hy; exact hr
    · simp at hy; subst hy; exact Int.le_refl _
    · simp at hy; subst hy; exact ⟨y, hSr, rfl, Int.le_refl _⟩
  · rw [List.concat_eq_append] at *
    rw [mrg_snoc]
    obtain ⟨h1, h2⟩ := ha
    obtain ⟨h3, h4⟩ := pw_snoc.1 h2
    have hx := h1 x (by simp)
    have hxr := hle x (by simp)
    by_cases c : r.lo ≤ x.hi + 1
    · rw [if_pos c]
      refine ⟨⟨fun y hy => ?_, pw_snoc.2 ⟨h3, fun y hy => h4 y hy⟩⟩, fun y hy => ?_, ⟨⟨x.lo, max x.hi r.hi⟩, by simp, hxr, by simp only; omega⟩, fun q ⟨y, hy, e1, e2⟩ => ?_, fun y hy => ?_⟩
      · rcases List.mem_append.1 hy with hy | hy
        · exact h1 y (by simp [hy])
        · simp at hy; subst hy; simp only; omega
      · rcases List.mem_append.1 hy with hy | hy
        · exact hle y (by simp [hy])
        · simp at hy; subst hy; exact hxr
      · rcases List.mem_append.1 hy with hy | hy
        · exact ⟨y, by simp [hy], e1, e2⟩
        · simp at hy; subst hy; exact ⟨⟨y.lo, max y.hi r.hi⟩, by simp, e1, by simp only; omega⟩
      · rcases List.mem_append.1 hy with hy | hy
        · exact hS y (by simp [hy])
        · simp at hy; subst hy
          obtain ⟨q, q1, q2, q3⟩ := hS x (by simp)
          exact ⟨q, q1, q2, by simp only; omega⟩
    · rw [if_neg c]
      refine ⟨⟨fun y hy => ?_, pw_snoc.2 ⟨h2, fun y hy => ?_⟩⟩, fun y hy => ?_, ⟨r, by simp, Int.le_refl _, Int.le_refl _⟩, fun q ⟨y, hy, e1, e2⟩ => ⟨y, List.mem_append_left _ hy, e1, e2⟩, fun y hy => ?_⟩
      · rcases List.mem_append.1 hy with hy | hy
        · exact h1 y hy
        · simp at hy; subst hy; exact hr
      · rcases List.mem_append.1 hy with hy | hy
        · have := h4 y hy; omega
        · simp at hy; subst hy; omega
      · rcases List.mem_append.1 hy with hy | hy
        · exact hle y hy
        · simp at hy; subst hy; exact Int.le_refl _
      · rcases List.mem_append.1 hy with hy | hy
        · exact hS y hy
        · simp at hy; subst hy; exact ⟨y, hSr, rfl, Int.le_refl _⟩
theorem merge_good {S : Rng → Prop} : ∀ (L o : List Rng), Apart o → (∀ x, x ∈ o → ∀ r, r ∈ L → x.lo ≤ r.lo) → L.Pairwise (fun x y => x.lo ≤ y.lo) → (∀ r, r ∈ L → r.lo ≤ r.hi) → (∀ x, x ∈ o → ∃ q, S q ∧ q.lo = x.lo ∧ q.hi ≤ x.hi) → (∀ r, r ∈ L → S r) →
    Apart (L.foldl mrg o) ∧ (∀ q, Covers o q ∨ q ∈ L → Covers (L.foldl mrg o) q) ∧ ∀ x, x ∈ L.foldl mrg o → ∃ q, S q ∧ q.lo = x.lo ∧ q.hi ≤ x.hi
  | [], o, ha, _, _, _, hS, _ => ⟨ha, (fun q hq => by rcases hq with h | h; exact h; cases h), hS⟩
  | r :: L, o, ha, hle, hp, hl, hS, hL => by
    obtain ⟨p1, p2⟩ := List.pairwise_cons.1 hp
    obtain ⟨g1, g2, g3, g4, g5⟩ := mrg_good (S := S) ha (fun x hx => hle x hx r (List.mem_cons_self ..)) (hl r (List.mem_cons_self ..)) hS (hL r (List.mem_cons_self ..))
    obtain ⟨m1, m2, m3⟩ := merge_good (S := S) L (mrg o r) g1 (fun x hx q hq => by have := g2 x hx; have := p1 q hq; omega) p2 (fun q hq => hl q (List.mem_cons_of_mem _ hq)) g5 (fun q hq => hL q (List.mem_cons_of_mem _ hq))
    refine ⟨m1, fun q hq => ?_, m3⟩
    rcases hq with h | h
    · exact m2 q (.inl (g4 q h))
    · rcases List.mem_cons.1 h with rfl | h
      · exact m2 q (.inl g3)
      · exact m2 q (.inr h)
theorem layL_ge {r : Rule} {h : List Hit} {way : Int} {a : Nat} (hr : 0 ≤ r.reach) : ∀ {m k : Nat}, k ∈ layL r h way a m → (h.getD a default).tm ≤ (h.getD k default).tm
  | 0, k, hk => by simp only [layL, List.mem_singleton] at hk; subst hk; exact Int.le_refl _
  | m + 1, k, hk => by
    simp only [layL, nextL, List.mem_filter] at hk
    obtain ⟨i, hi, hf⟩ := List.any_eq_true.1 hk.2
    have := layL_ge hr hi
    unfold folB withinB at hf
    simp only [Bool.and_eq_true, decide_eq_true_eq] at hf
    omega
theorem accW_ge {r : Rule} {h : List Hit} {a : Nat} (hr : 0 ≤ r.reach) : ∀ {q : Nat} {e : Int}, accW r h a q = some e → (h.getD a default).tm ≤ e
  | 0, e, he => by cases he
  | q + 1, e, he => endA_mem (P := fun e => (h.getD a default).tm ≤ e) (fun x hx => accW_ge hr hx) (fun k hk => layL_ge hr hk) he
theorem fireV_ge {l : List Site} {r : Rule} {h : List Hit} {a : Nat} {e : Int} (hr : 0 ≤ r.reach) (ho : HitsOk l h) (ha : a < h.length) (he : fireV l r h a = some e) : (h.getD a default).tm ≤ e := by
  unfold fireV at he
  split at he
  · exact accW_ge hr he
  · obtain ⟨x, hx, rfl⟩ := fireL_mem he
    obtain ⟨k, hk, hkx⟩ := List.getElem_of_mem hx
    rw [List.getElem_drop] at hkx
    rw [getD_at ha, ← hkx]
    exact ho.tm a (a + k) (by omega) (by simp at hk; omega)
theorem fires_ge {l : List Site} {r : Rule} {h : List Hit} (hr : 0 ≤ r.reach) (ho : HitsOk l h) {f : Fire} (hf : f ∈ firesV l r h h.length) : f.lo ≤ f.hi := by
  obtain ⟨i, e, hi, he, rfl⟩ := firesV_mem hf
  exact fireV_ge hr ho hi he
theorem ruleOk_mem {s : Setup} (hs : SetOk s) {r : Rule} (hr : r ∈ s.rules) : ruleErr r = 0 := by
  obtain ⟨k, hk, rfl⟩ := List.getElem_of_mem hr
  exact hs.rule k hk
theorem single_le {l : List Site} {s : Setup} {h : List Hit} (hs : SetOk s) (ho : HitsOk l h) {w : Rng} (hw : w ∈ singleV l s h) : w.lo ≤ w.hi ∧ ∃ k, k < h.length ∧ w.lo ≤ (h.getD k default).tm ∧ (h.getD k default).tm ≤ w.hi := by
  obtain ⟨r, hr, hw⟩ := List.mem_flatMap.1 hw
  obtain ⟨f, hf, rfl⟩ := List.mem_map.1 hw
  have h1 := fires_ge (ruleOk_of (ruleOk_mem hs hr)).2.2.2.1.1 ho hf
  obtain ⟨i, e, hi, he, rfl⟩ := firesV_mem hf
  have b := hs.before
  have c := hs.after
  simp only at h1
  unfold winF
  simp only
  exact ⟨by omega, i, hi, by omega, by omega⟩
structure WinOk (h : List Hit) (W : List Rng) : Prop where
  apart : Apart W
  hit : ∀ i (hi : i < W.length), ∃ k, k < h.length ∧ W[i].lo ≤ (h.getD k default).tm ∧ (h.getD k default).tm ≤ W[i].hi
  asc : ∀ i j, i ≤ j → j < h.length → (h.getD i default).tm ≤ (h.getD j default).tm
  bd : ∀ i (hi : i < W.length), W[i].hi ≤ 1152921504606846976 ∧ -1152921504606846976 ≤ W[i].hi
theorem WinOk.lt {h : List Hit} {W : List Rng} (o : WinOk h W) {i j : Nat} (hij : i < j) (hj : j < W.length) : (W[i]'(by omega)).hi + 1 < W[j].lo := List.pairwise_iff_getElem.1 o.apart.2 i j (by omega) hj hij
theorem WinOk.le {h : List Hit} {W : List Rng} (o : WinOk h W) {i : Nat} (hi : i < W.length) : W[i].lo ≤ W[i].hi := o.apart.1 _ (List.getElem_mem hi)
theorem WinOk.ge {h : List Hit} {W : List Rng} (o : WinOk h W) : ∀ i (hi : i < W.length), ∃ k, i ≤ k ∧ k < h.length ∧ W[i].lo ≤ (h.getD k default).tm ∧ (h.getD k default).tm ≤ W[i].hi
  | 0, hi => by obtain ⟨k, h1, h2⟩ := o.hit 0 hi; exact ⟨k, Nat.zero_le _, h1, h2⟩
  | i + 1, hi => by
    obtain ⟨k, k1, k2, k3, k4⟩ := o.ge i (by omega)
    obtain ⟨q, q1, q2, q3⟩ := o.hit (i + 1) hi
    have hlt := o.lt (show i < i + 1 by omega) hi
    refine ⟨q, ?_, q1, q2, q3⟩
    by_cases hq : q ≤ k
    · have := o.asc q k hq k2; omega
    · omega
theorem WinOk.len {h : List Hit} {W : List Rng} (o : WinOk h W) : W.length ≤ h.length := by
  by_cases e : W.length = 0
  · omega
  · obtain ⟨k, k1, k2, _⟩ := o.ge (W.length - 1) (by omega)
    omega
def inW (h : List Hit) (W : List Rng) (k i : Nat) : Bool := withinB (h.getD k default).tm (W.getD i default).lo (W.getD i default).hi
theorem inW_iff {h : List Hit} {W : List Rng} {k i : Nat} (hi : i < W.length) : inW h W k i = true ↔ W[i].lo ≤ (h.getD k default).tm ∧ (h.getD k default).tm ≤ W[i].hi := by
  unfold inW withinB
  rw [getD_at hi]
  simp
theorem WinOk.one {h : List Hit} {W : List Rng} (o : WinOk h W) {k i j : Nat} (hi : i < W.length) (hj : j < W.length) (h1 : inW h W k i = true) (h2 : inW h W k j = true) : i = j := by
  rw [inW_iff hi] at h1
  rw [inW_iff hj] at h2
  rcases Nat.lt_trichotomy i j with e | e | e
  · have := o.lt e hj; omega
  · exact e
  · have := o.lt e hi; omega
def ownK (h : List Hit) (W : List Rng) (n k : Nat) : Int := idxP n (inW h W k) + 1
def ownM (h : List Hit) (W : List Rng) (n : Nat) (done : List Nat) : List Int := (List.range h.length).map fun k => if k ∈ done then (n : Int) + 1 else ownK h W n k
def hN (h : List Hit) (w : Rng) : List Nat := (List.range h.length).filter fun i => withinB (h.getD i default).tm w.lo w.hi
end Go.Proofs.YtdmdpkoapllkkaaGreat
namespace Go.Proofs.YtdmdpkoapllkkaaGreat
open Go Go.RowKit Go.Proofs Go.Shelf Go.Ab
def EndP (r : Rule) (h : List Hit) (way : Int) (a m : Nat) (x : Int) : Prop := ∃ k, k ∈ layL r h way a m ∧ x = (h.getD k default).tm
def IsMinO (P : Int → Prop) : Option Int → Prop
  | none => ∀ x, ¬ P x
  | some e => P e ∧ ∀ x, P x → e ≤ x
theorem endA_spec {h : List Hit} : ∀ (l : List Nat) (acc : Option Int) (P : Int → Prop), IsMinO P acc → IsMinO (fun x => P x ∨ ∃ k, k ∈ l ∧ x = (h.getD k default).tm) (endA h acc l)
  | [], none, P, hP => fun x hx => by
    rcases hx with hx | ⟨k, hk, _⟩
    · exact hP x hx
    · cases hk
  | [], some e, P, hP => ⟨.inl hP.1, fun x hx => by
    rcases hx with hx | ⟨k, hk, _⟩
    · exact hP.2 x hx
    · cases hk⟩
  | q :: l, acc, P, hP => by
    have h1 : IsMinO (fun x => P x ∨ x = (h.getD q default).tm) (minA acc (h.getD q default).tm) := by
      unfold minA
      split
      · exact ⟨.inr rfl, fun x hx => hx.elim (fun hx => absurd hx (hP x)) (fun hx => by omega)⟩
      · rename_i e
        split
        · exact ⟨.inr rfl, fun x hx => hx.elim (fun hx => by have := hP.2 x hx; omega) (fun hx => by omega)⟩
        · exact ⟨.inl hP.1, fun x hx => hx.elim (hP.2 x) (fun hx => by omega)⟩
    have h2 := endA_spec (h := h) l (minA acc (h.getD q default).tm) _ h1
    have hiff : ∀ x, ((P x ∨ x = (h.getD q default).tm) ∨ ∃ k, k ∈ l ∧ x = (h.getD k default).tm) ↔ (P x ∨ ∃ k, k ∈ q :: l ∧ x = (h.getD k default).tm) := fun x => by
      constructor
      · rintro ((hx | hx) | ⟨k, hk, hx⟩)
        · exact .inl hx
        · exact .inr ⟨q, List.mem_cons_self .., hx⟩
        · exact .inr ⟨k, List.mem_cons_of_mem _ hk, hx⟩
      · rintro (hx | ⟨k, hk, hx⟩)
        · exact .inl (.inl hx)
        · rcases List.mem_cons.1 hk with rfl | hk
          · exact .inl (.inr hx)
          · exact .inr ⟨k, hk, hx⟩
    rw [show endA h acc (q :: l) = endA h (minA acc (h.getD q default).tm) l from rfl]
    cases he : endA h (minA acc (h.getD q default).tm) l with
    | none => rw [he] at h2; exact fun x hx => h2 x ((hiff x).2 hx)
    | some e => rw [he] at h2; exact ⟨(hiff e).1 h2.1, fun x hx => h2.2 x ((hiff x).2 hx)⟩
theorem hits_tm {l : List Site} {h : List Hit} (ho : HitsOk l h) : h.Pairwise fun x y => x.tm ≤ y.tm := List.pairwise_iff_getElem.2 fun i j hi hj hij => ho.tm i j (by omega) hj
theorem drop_tm {l : List Site} {h : List Hit} (ho : HitsOk l h) (a : Nat) : (h.drop a).Pairwise fun x y => x.tm ≤ y.tm := (hits_tm ho).sublist (List.drop_sublist _ _)
end Go.Proofs.YtdmdpkoapllkkaaGreat
namespace Go.Proofs.YtdmdpkoapllkkaaGreat
open Go Go.RowKit Go.Proofs Go.Shelf Go.Ab
def cntE (nr : Hit → Bool) (e : Int) (L : List Hit) : Nat := (L.filter fun x => nr x && decide (x.tm ≤ e)).length
theorem cntE_cons (nr : Hit → Bool) (e : Int) (x : Hit) (L : List Hit) : cntE nr e (x :: L) = cntE nr e L + (if nr x = true ∧ x.tm ≤ e then 1 else 0) := by
  unfold cntE
  rw [List.filter_cons]
  by_cases h : nr x = true ∧ x.tm ≤ e
  · rw [if_pos (by simp [h.1, h.2]), if_pos h, List.length_cons]
  · rw [if_neg (by simpa using h), if_neg h]; rfl
theorem cntE_zero {nr : Hit → Bool} {e : Int} {L : List Hit} (h : ∀ y, y ∈ L → e < y.tm) : cntE nr e L = 0 := by
  unfold cntE
  rw [List.length_eq_zero_iff, List.filter_eq_nil_iff]
  intro y hy
  have := h y hy
  simp; intro _; omega
theorem cntE_sub {nr : Hit → Bool} {e : Int} {L M : List Hit} (h : L.Sublist M) : cntE nr e L ≤ cntE nr e M := (h.filter _).length_le
theorem fireL_cnt {nr : Hit → Bool} {t0 w : Int} : ∀ (L : List Hit) (left e : Int), 1 ≤ left → L.Pairwise (fun x y => x.tm ≤ y.tm) → fireL nr t0 w left L = some e → left ≤ (cntE nr e L : Int) ∧ e - t0 ≤ w
  | [], left, e, _, _, h => by simp [fireL] at h
  | x :: L, left, e, hl, hp, h => by
    obtain ⟨p1, p2⟩ := List.pairwise_cons.1 hp
    have hxe : x.tm ≤ e := by
      obtain ⟨y, hy, rfl⟩ := fireL_mem h
      rcases List.mem_cons.1 hy with rfl | hy
      · exact Int.le_refl _
      · exact p1 y hy
    rw [fireL] at h
    by_cases hw : w < x.tm - t0
    · rw [if_pos hw] at h; cases h
    rw [if_neg hw] at h
    rw [cntE_cons]
    by_cases hn : nr x = true
    · rw [if_pos ⟨hn, hxe⟩]
      rw [if_pos hn] at h
      by_cases h0 : left - 1 = 0
      · rw [if_pos h0] at h; cases h; omega
      · rw [if_neg h0] at h
        have := fireL_cnt L (left - 1) e (by omega) p2 h
        omega
    · rw [if_neg hn, if_neg (by omega)] at h
      have := fireL_cnt L left e hl p2 h
      omega
theorem cnt_fireL {nr : Hit → Bool} {t0 w : Int} : ∀ (L : List Hit) (left e : Int), 1 ≤ left → L.Pairwise (fun x y => x.tm ≤ y.tm) → left ≤ (cntE nr e L : Int) → e - t0 ≤ w → ∃ e', fireL nr t0 w left L = some e' ∧ e' ≤ e
  | [], left, e, hl, _, h, _ => by simp [cntE] at h; omega
  | x :: L, left, e, hl, hp, h, hw => by
    obtain ⟨p1, p2⟩ := List.pairwise_cons.1 hp
    by_cases hxe : x.tm ≤ e
    · rw [cntE_cons] at h
      rw [fireL, if_neg (by omega)]
      by_cases hn : nr x = true
      · rw [if_pos ⟨hn, hxe⟩] at h
        rw [if_pos hn]
        by_cases h0 : left - 1 = 0
        · rw [if_pos h0]; exact ⟨_, rfl, hxe⟩
        · rw [if_neg h0]; exact cnt_fireL L (left - 1) e (by omega) p2 (by omega) hw
      · rw [if_neg (fun q => hn q.1)] at h
        rw [if_neg hn, if_neg (by omega)]
        exact cnt_fireL L left e hl p2 (by omega) hw
    · rw [cntE_zero (fun y hy => by
        rcases List.mem_cons.1 hy with rfl | hy
        · omega
        · have := p1 y hy; omega)] at h
      omega
def Asc (h : List Hit) : Prop := h.Pairwise before
theorem HitsOk.asc {l : List Site} {h : List Hit} (o : HitsOk l h) : Asc h := List.pairwise_iff_getElem.2 fun i j _ hj hij => o.lt j i hj hij
theorem sub_of_asc : ∀ (M L : List Hit), Asc L → Asc M → (∀ x, x ∈ L → x ∈ M) → L.Sublist M
  | M, [], _, _, _ => List.nil_sublist _
  | [], x :: L, _, _, h => by have := h x (List.mem_cons_self ..); cases this
  | y :: M, x :: L, hL, hM, h => by
    obtain ⟨l1, l2⟩ := List.pairwise_cons.1 hL
    obtain ⟨m1, m2⟩ := List.pairwise_cons.1 hM
    rcases List.mem_cons.1 (h x (List.mem_cons_self ..)) with rfl | hx
    · refine List.Sublist.cons_cons _ (sub_of_asc M L l2 m2 fun z hz => ?_)
      rcases List.mem_cons.1 (h z (List.mem_cons_of_mem _ hz)) with rfl | hz2
      · exact absurd (l1 _ hz) before_irr
      · exact hz2
    · refine List.Sublist.cons _ (sub_of_asc M (x :: L) hL m2 fun z hz => ?_)
      rcases List.mem_cons.1 (h z hz) with rfl | hz2
      · rcases List.mem_cons.1 hz with rfl | hz3
        · exact absurd (m1 _ hx) before_irr
        · exact absurd (before_trans (m1 _ hx) (l1 _ hz3)) before_irr
      · exact hz2
theorem asc_uniq {L M : List Hit} (hL : Asc L) (hM : Asc M) (h : ∀ x, x ∈ L ↔ x ∈ M) : L = M :=
  (sub_of_asc M L hL hM fun x hx => (h x).1 hx).eq_of_length_le (sub_of_asc L M hM hL fun x hx => (h x).2 hx).length_le
theorem mem_idx {g : List Hit} {x : Hit} (h : x ∈ g) : ∃ b, b < g.length ∧ g.getD b default = x := by
  obtain ⟨b, hb, rfl⟩ := List.getElem_of_mem h
  exact ⟨b, hb, by simp [List.getD_eq_getElem?_getD, List.getElem?_eq_getElem hb]⟩
theorem getD_e {h : List Hit} {a : Nat} (ha : a < h.length) : h.getD a default = h[a] := by simp [List.getD_eq_getElem?_getD, List.getElem?_eq_getElem ha]
theorem getD_mem {h : List Hit} {a : Nat} (ha : a < h.length) : h.getD a default ∈ h := by
  rw [List.getD_eq_getElem?_getD, List.getElem?_eq_getElem ha]; exact List.getElem_mem ha
theorem drop_sub {l : List Site} {h g : List Hit} {M : Int} (oh : HitsOk l h) (og : HitsOk l g) (hsub : ∀ x, x ∈ h → x.tm ≤ M → x ∈ g) {a b : Nat} (ha : a < h.length) (hb : b < g.length) (e : g.getD b default = h.getD a default) : ((h.drop a).filter fun x => decide (x.tm ≤ M)).Sublist (g.drop b) := by
  have ea : h.getD a default = h[a] := by simp [List.getD_eq_getElem?_getD, List.getElem?_eq_getElem ha]
  have eb : g.getD b default = g[b] := by simp [List.getD_eq_getElem?_getD, List.getElem?_eq_getElem hb]
  refine sub_of_asc _ _ (oh.asc.sublist (List.filter_sublist.trans (List.drop_sublist _ _))) (og.asc.sublist (List.drop_sublist _ _)) fun x hx => ?_
  obtain ⟨hx, hxM⟩ := List.mem_filter.1 hx
  obtain ⟨j, hj, rfl⟩ := List.getElem_of_mem hx
  rw [List.length_drop] at hj
  rw [List.getElem_drop] at hxM ⊢
  obtain ⟨k, hk, e2⟩ := List.getElem_of_mem (hsub _ (List.getElem_mem (h := (by omega : a + j < h.length))) (of_decide_eq_true hxM))
  rw [← e2]
  have hbk : b ≤ k := by
    refine Nat.le_of_not_lt fun hlt => ?_
    have h1 := og.lt b k hb hlt
    rw [e2, ← eb, e, ea] at h1
    by_cases hj0 : j = 0
    · subst hj0; exact before_irr h1
    · exact before_irr (before_trans (oh.lt (a + j) a (by omega) (by omega)) h1)
  have : g[k] = (g.drop b)[k - b]'(by rw [List.length_drop]; omega) := by rw [List.getElem_drop]; congr 1; omega
  rw [this]; exact List.getElem_mem _
theorem cntE_filter {nr : Hit → Bool} {e M : Int} (he : e ≤ M) : ∀ L : List Hit, cntE nr e L = cntE nr e (L.filter fun x => decide (x.tm ≤ M))
  | [] => rfl
  | x :: L => by
    by_cases hx : x.tm ≤ M
    · rw [List.filter_cons_of_pos (by simpa using hx), cntE_cons, cntE_cons, cntE_filter he L]
    · rw [List.filter_cons_of_neg (by simpa using hx), cntE_cons, cntE_filter he L, if_neg (fun q => hx (Int.le_trans q.2 he)), Nat.add_zero]
theorem slow_min (r : Rule) (h : List Hit) (a : Nat) : IsMinO (fun x => EndP r h 1 a (r.count - 1).toNat x ∨ EndP r h (-1) a (r.count - 1).toNat x) (slowV r h a) := by
  have s1 := endA_spec (h := h) (layL r h 1 a (r.count - 1).toNat) none (fun _ => False) (fun x hx => hx)
  have s2 := endA_spec (h := h) (layL r h (-1) a (r.count - 1).toNat) _ _ s1
  have e : slowV r h a = endA h (endA h none (layL r h 1 a (r.count - 1).toNat)) (layL r h (-1) a (r.count - 1).toNat) := rfl
  rw [← e] at s2
  cases hv : slowV r h a with
  | none => rw [hv] at s2; exact fun x hx => s2 x (hx.elim (fun hx => .inl (.inr hx)) (fun hx => .inr hx))
  | some v =>
    rw [hv] at s2
    refine ⟨?_, fun x hx => s2.2 x (hx.elim (fun hx => .inl (.inr hx)) (fun hx => .inr hx))⟩
    rcases s2.1 with (hx | hx) | hx
    · exact hx.elim
    · exact .inl hx
    · exact .inr hx
theorem minO_less {P Q : Int → Prop} {e : Int} {o : Option Int} (h : IsMinO P (some e)) (k : IsMinO Q o) (hpq : ∀ x, P x → ∃ y, y ≤ x ∧ Q y) : ∃ e', o = some e' ∧ e' ≤ e := by
  obtain ⟨y, hy, hq⟩ := hpq e h.1
  cases o with
  | none => exact absurd hq (k y)
  | some e' => exact ⟨e', rfl, Int.le_trans (k.2 y hq) hy⟩
theorem folB_iff {r : Rule} {h : List Hit} {way : Int} {i k : Nat} : folB r h way i k = true ↔ (h.getD k default).line = (h.getD i default).line ∧ (h.getD k default).sensor = (h.getD i default).sensor + way ∧ r.reach ≤ (h.getD k default).tm - (h.getD i default).tm ∧ (h.getD k default).tm - (h.getD i default).tm ≤ r.window := by
  unfold folB withinB
  simp only [Bool.and_eq_true, decide_eq_true_eq, and_assoc]
theorem layL_tm {r : Rule} {h : List Hit} {way : Int} {a : Nat} : ∀ {m k : Nat}, k ∈ layL r h way a m → (h.getD k default).tm ≤ (h.getD a default).tm + (m : Int) * r.window
  | 0, k, hk => by
    simp only [layL, List.mem_singleton] at hk
    subst hk; simp
  | m + 1, k, hk => by
    rw [show layL r h way a (m + 1) = nextL r h way (layL r h way a m) h.length from rfl] at hk
    simp only [nextL, List.mem_filter, List.mem_range, List.any_eq_true] at hk
    obtain ⟨_, j, hj, hf⟩ := hk
    have := layL_tm hj
    rw [folB_iff] at hf
    have e : ((m + 1 : Nat) : Int) * r.window = (m : Int) * r.window + r.window := by rw [Int.natCast_succ, Int.add_mul, Int.one_mul]
    rw [e]; omega
theorem layL_more {r r' : Rule} {h g : List Hit} {way M : Int} {a b : Nat} (hw0 : 0 ≤ r.window) (hreach : r'.reach = r.reach) (hwin : r'.window = r.window) (hsub : ∀ x, x ∈ h → x.tm ≤ M → x ∈ g) (e : g.getD b default = h.getD a default) :
    ∀ {m k : Nat}, (h.getD a default).tm + (m : Int) * r.window ≤ M → k ∈ layL r h way a m → ∃ k', k' ∈ layL r' g way b m ∧ g.getD k' default = h.getD k default
  | 0, k, _, hk => by
    simp only [layL, List.mem_singleton] at hk
    subst hk
    exact ⟨b, by simp [layL], e⟩
  | m + 1, k, hM, hk => by
    have hkM := Int.le_trans (layL_tm hk) hM
    have e1 : ((m + 1 : Nat) : Int) * r.window = (m : Int) * r.window + r.window := by rw [Int.natCast_succ, Int.add_mul, Int.one_mul]
    rw [e1] at hM
    rw [show layL r h way a (m + 1) = nextL r h way (layL r h way a m) h.length from rfl] at hk
    simp only [nextL, List.mem_filter, List.mem_range, List.any_eq_true] at hk
    obtain ⟨hkl, j, hj, hf⟩ := hk
    obtain ⟨j', hj', ej⟩ := layL_more hw0 hreach hwin hsub e (m := m) (by omega) hj
    obtain ⟨k', hk', ek⟩ := mem_idx (hsub _ (getD_mem hkl) hkM)
    refine ⟨k', ?_, ek⟩
    rw [show layL r' g way b (m + 1) = nextL r' g way (layL r' g way b m) g.length from rfl]
    simp only [nextL, List.mem_filter, List.mem_range, List.any_eq_true]
    refine ⟨hk', j', hj', ?_⟩
    rw [folB_iff] at hf ⊢
    rw [ej, ek, hreach, hwin]; exact hf
theorem layL_less {r : Rule} {h : List Hit} {way : Int} {a m : Nat} (h0 : 0 ≤ r.reach) : ∀ {d k : Nat}, k ∈ layL r h way a (m + d) → ∃ k', k' ∈ layL r h way a m ∧ (h.getD k' default).tm ≤ (h.getD k default).tm
  | 0, k, hk => ⟨k, hk, Int.le_refl _⟩
  | d + 1, k, hk => by
    rw [show layL r h way a (m + (d + 1)) = nextL r h way (layL r h way a (m + d)) h.length from rfl] at hk
    simp only [nextL, List.mem_filter, List.mem_range, List.any_eq_true] at hk
    obtain ⟨hkl, j, hj, hf⟩ := hk
    obtain ⟨k', h1, h2⟩ := layL_less h0 hj
    rw [folB_iff] at hf
    exact ⟨k', h1, by omega⟩
theorem endP_less {r r' : Rule} {h g : List Hit} {way M : Int} {a b m m' : Nat} (hw0 : 0 ≤ r.window) (h0 : 0 ≤ r.reach) (hreach : r'.reach = r.reach) (hwin : r'.window = r.window) (hsub : ∀ x, x ∈ h → x.tm ≤ M → x ∈ g) (e : g.getD b default = h.getD a default) (hm : m' ≤ m) (hM : (h.getD a default).tm + (m : Int) * r.window ≤ M) {x : Int} (hx : EndP r h way a m x) : ∃ y, y ≤ x ∧ EndP r' g way b m' y := by
  obtain ⟨k, hk, rfl⟩ := hx
  obtain ⟨d, rfl⟩ : ∃ d, m = m' + d := ⟨m - m', by omega⟩
  obtain ⟨k1, h1, h2⟩ := layL_less h0 hk
  have h5 : (m' : Int) * r.window ≤ ((m' + d : Nat) : Int) * r.window := Int.mul_le_mul_of_nonneg_right (by omega) hw0
  obtain ⟨k2, h3, h4⟩ := layL_more hw0 hreach hwin hsub e (by omega) h1
  exact ⟨_, h2, k2, h3, by rw [h4]⟩
def lenR (r : Rule) : Int := if r.kind = 3 then r.window * (r.count - 1) else r.window
theorem lenR_pos {r : Rule} (hr : ruleErr r = 0) : 0 ≤ lenR r := by
  obtain ⟨_, h1, h2, _, _⟩ := ruleOk_of hr
  unfold lenR
  split
  · exact Int.mul_nonneg (by omega) (by omega)
  · omega
theorem nearB_rule {l : List Site} {r r' : Rule} (hk : r'.kind = r.kind) (hr : r'.reach = r.reach) (hh : r'.height = r.height) (x : Hit) : nearB l r' x = nearB l r x := by
  funext y; unfold nearB; rw [hk, hr, hh]
structure Eases (M : Int) (r r' : Rule) (h g : List Hit) : Prop where
  kind : r'.kind = r.kind
  reach : r'.reach = r.reach
  height : r'.height = r.height
  count : 1 ≤ r'.count ∧ r'.count ≤ r.count
  window : r.window ≤ r'.window
  slow : r.kind = 3 → r'.window = r.window
  sub : ∀ x, x ∈ h → x.tm ≤ M → x ∈ g
theorem fire_less {l : List Site} {r r' : Rule} {h g : List Hit} {a : Nat} {e M : Int} (oh : HitsOk l h) (og : HitsOk l g) (hr : ruleErr r = 0) (E : Eases M r r' h g) (ha : a < h.length) (hM : (h.getD a default).tm + lenR r ≤ M) (he : fireV l r h a = some e) :
    ∃ b, b < g.length ∧ g.getD b default = h.getD a default ∧ ∃ e', fireV l r' g b = some e' ∧ e' ≤ e := by
  obtain ⟨_, hcc, hww, hre, _⟩ := ruleOk_of hr
  have hlp := lenR_pos hr
  obtain ⟨b, hb, eb⟩ := mem_idx (E.sub _ (getD_mem ha) (by omega))
  refine ⟨b, hb, eb, ?_⟩
  have hc := E.count
  unfold fireV at he ⊢
  rw [E.kind]
  by_cases h3 : r.kind = 3
  · rw [if_pos h3] at he ⊢
    have hM2 : (h.getD a default).tm + (((r.count - 1).toNat : Nat) : Int) * r.window ≤ M := by
      unfold lenR at hM
      rw [if_pos h3, Int.mul_comm] at hM
      rw [Int.toNat_of_nonneg (by omega)]; exact hM
    have m1 := slow_min r h a
    rw [he] at m1
    refine minO_less m1 (slow_min r' g b) fun x hx => ?_
    rcases hx with hx | hx
    · obtain ⟨y, y1, y2⟩ := endP_less hww.1 hre.1 E.reach (E.slow h3) E.sub eb (show (r'.count - 1).toNat ≤ (r.count - 1).toNat by omega) hM2 hx
      exact ⟨y, y1, .inl y2⟩
    · obtain ⟨y, y1, y2⟩ := endP_less hww.1 hre.1 E.reach (E.slow h3) E.sub eb (show (r'.count - 1).toNat ≤ (r.count - 1).toNat by omega) hM2 hx
      exact ⟨y, y1, .inr y2⟩
  · rw [if_neg h3] at he ⊢
    have hM2 : (h.getD a default).tm + r.window ≤ M := by unfold lenR at hM; rwa [if_neg h3] at hM
    rw [nearB_rule E.kind E.reach E.height, eb]
    have h1 := fireL_cnt _ _ _ (by omega) (drop_tm oh a) he
    rw [cntE_filter (M := M) (by omega)] at h1
    have h2 := cntE_sub (nr := nearB l r (h.getD a default)) (e := e) (drop_sub oh og E.sub ha hb eb)
    have h3 := E.window
    exact cnt_fireL _ _ _ hc.1 (drop_tm og b) (by omega) (by omega)
theorem fire_tm {l : List Site} {r : Rule} {h : List Hit} {a : Nat} (oh : HitsOk l h) (hr : ruleErr r = 0) (ha : a < h.length) : (h.getD a default).tm + lenR r ≤ 1000000000000000 := by
  obtain ⟨_, h1, h2, _, _⟩ := ruleOk_of hr
  have ht := (oh.hit a ha).tm
  rw [← getD_e ha] at ht
  unfold lenR
  split
  · have : r.window * (r.count - 1) ≤ 1000000 * 39 := Int.mul_le_mul (by omega) (by omega) (by omega) (by omega)
    omega
  · omega
end Go.Proofs.YtdmdpkoapllkkaaGreat
namespace Go.Proofs.YtdmdpkoapllkkaaGreat
open Go Go.RowKit Go.Proofs Go.Shelf Go.Ab
def insH : List Hit → Hit → List Hit
  | [], h => [h]
  | y :: o, h => if before y h then y :: insH o h else if y = h then y :: o else h :: y :: o
theorem insH_mem {h x : Hit} : ∀ {o : List Hit}, x ∈ insH o h ↔ x = h ∨ x ∈ o
  | [] => by simp [insH]
  | y :: o => by
    unfold insH
    split
    · rw [List.mem_cons, insH_mem, List.mem_cons, or_left_comm]
    · split
      · rename_i e
        subst e
        simp
      · simp
theorem insH_asc {h : Hit} : ∀ {o : List Hit}, Asc o → Asc (insH o h)
  | [], _ => List.pairwise_singleton _ _
  | y :: o, ha => by
    obtain ⟨a1, a2⟩ := List.pairwise_cons.1 ha
    unfold insH
    split
    · rename_i hb
      refine List.pairwise_cons.2 ⟨fun z hz => ?_, insH_asc a2⟩
      rcases insH_mem.1 hz with rfl | hz
      · exact hb
      · exact a1 z hz
    · rename_i hb
      split
      · exact ha
      · rename_i hne
        have hyh : before h y := by
          rcases before_tot (a := y) (b := h) with h1 | h1 | h1
          · exact absurd h1 hb
          · exact absurd h1 hne
          · exact h1
        refine List.pairwise_cons.2 ⟨fun z hz => ?_, ha⟩
        rcases List.mem_cons.1 hz with rfl | hz
        · exact hyh
        · exact before_trans hyh (a1 z hz)
def allH (l : List Stm) : List Hit := l.flatMap fun s => s.hits
def mergeH (l : List Hit) : List Hit := l.foldl insH []
theorem foldl_insH_mem {x : Hit} : ∀ {l : List Hit} {o : List Hit}, x ∈ l.foldl insH o ↔ x ∈ o ∨ x ∈ l
  | [], o => by simp
  | y :: l, o => by
    rw [List.foldl_cons, foldl_insH_mem, insH_mem, List.mem_cons]
    constructor
    · rintro ((h | h) | h)
      · exact .inr (.inl h)
      · exact .inl h
      · exact .inr (.inr h)
    · rintro (h | h | h)
      · exact .inl (.inr h)
      · exact .inl (.inl h)
      · exact .inr h
theorem foldl_insH_asc : ∀ {l : List Hit} {o : List Hit}, Asc o → Asc (l.foldl insH o)
  | [], _, h => h
  | _ :: l, _, h => foldl_insH_asc (l := l) (insH_asc h)
theorem mergeH_mem {l : List Hit} {x : Hit} : x ∈ mergeH l ↔ x ∈ l := by unfold mergeH; rw [foldl_insH_mem]; simp
theorem mergeH_asc (l : List Hit) : Asc (mergeH l) := foldl_insH_asc List.Pairwise.nil
def keepK (s : List Hit) (n : Nat) : List Hit := ((List.range n).filter fun i => decide (i = 0) || decide (s.getD i default ≠ s.getD (i - 1) default)).map fun i => s.getD i default
theorem keepK_zero (s : List Hit) : keepK s 0 = [] := rfl
theorem keepK_succ (s : List Hit) (n : Nat) : keepK s (n + 1) = keepK s n ++ (if n = 0 ∨ s.getD n default ≠ s.getD (n - 1) default then [s.getD n default] else []) := by
  unfold keepK
  rw [List.range_succ, List.filter_append, List.map_append]
  congr 1
  by_cases h : n = 0 ∨ s.getD n default ≠ s.getD (n - 1) default
  · rw [if_pos h, List.filter_cons, if_pos (by simpa using h)]; rfl
  · rw [if_neg h, List.filter_cons, if_neg (by simpa using h)]; rfl
theorem getD_eq {s : List Hit} {i : Nat} (h : i < s.length) : s.getD i default = s[i] := by simp [List.getD_eq_getElem?_getD, List.getElem?_eq_getElem h]
theorem keepK_take {s : List Hit} : ∀ {n : Nat}, n ≤ s.length → (∀ i, 0 < i → i < n → s.getD i default ≠ s.getD (i - 1) default) → keepK s n = s.take n
  | 0, _, _ => rfl
  | n + 1, hn, h => by
    rw [keepK_succ, keepK_take (by omega) (fun i h0 hi => h i h0 (by omega)), List.take_succ_eq_append_getElem (by omega), getD_eq (by omega), if_pos]
    by_cases h0 : n = 0
    · exact .inl h0
    · right; rw [← getD_eq]; exact h n (by omega) (by omega)
theorem keepK_mem {s : List Hit} : ∀ {n : Nat}, n ≤ s.length → ∀ {x : Hit}, x ∈ keepK s n ↔ ∃ i, i < n ∧ s.getD i default = x
  | 0, _, x => by simp [keepK_zero]
  | n + 1, hn, x => by
    rw [keepK_succ, List.mem_append, keepK_mem (by omega)]
    constructor
    · rintro (⟨i, hi, e⟩ | h)
      · exact ⟨i, by omega, e⟩
      · split at h
        · simp at h; exact ⟨n, by omega, by simpa using h.symm⟩
        · cases h
    · rintro ⟨i, hi, e⟩
      by_cases hin : i < n
      · exact .inl ⟨i, hin, e⟩
      · have : i = n := by omega
        subst this
        by_cases hc : i = 0 ∨ s.getD i default ≠ s.getD (i - 1) default
        · right; rw [if_pos hc]; simp [← e]
        · left
          have h0 : i ≠ 0 := fun h => hc (.inl h)
          exact ⟨i - 1, by omega, by rw [← Classical.not_not.1 (fun h => hc (.inr h))]; exact e⟩
def Weak (s : List Hit) : Prop := s.Pairwise fun x y => ¬ before y x
theorem keepK_asc {s : List Hit} (hw : Weak s) : ∀ {n : Nat}, n ≤ s.length → Asc (keepK s n)
  | 0, _ => List.Pairwise.nil
  | n + 1, hn => by
    rw [keepK_succ]
    split
    · rename_i hc
      refine List.pairwise_append.2 ⟨keepK_asc hw (by omega), List.pairwise_singleton _ _, fun x hx y hy => ?_⟩
      rw [List.mem_singleton] at hy
      subst hy
      obtain ⟨i, hi, rfl⟩ := (keepK_mem (by omega)).1 hx
      have h0 : n ≠ 0 := by omega
      have hne := hc.resolve_left h0
      have hp := List.pairwise_iff_getElem.1 hw
      have h1 := hp (n - 1) n (by omega) (by omega) (by omega)
      rw [← getD_eq (by omega), ← getD_eq (by omega)] at h1
      have hlt : before (s.getD (n - 1) default) (s.getD n default) := by
        rcases before_tot (a := s.getD (n - 1) default) (b := s.getD n default) with h | h | h
        · exact h
        · exact absurd h.symm hne
        · exact absurd h h1
      by_cases hi1 : i = n - 1
      · subst hi1; exact hlt
      · have h2 := hp i (n - 1) (by omega) (by omega) (by omega)
        rw [← getD_eq (by omega), ← getD_eq (by omega)] at h2
        rcases before_tot (a := s.getD i default) (b := s.getD (n - 1) default) with h | h | h
        · exact before_trans h hlt
        · rw [h]; exact hlt
        · exact absurd h h2
    · rw [List.append_nil]; exact keepK_asc hw (by omega)
theorem keepK_merge {s l : List Hit} (hw : Weak s) (hp : s.Perm l) : keepK s s.length = mergeH l :=
  asc_uniq (keepK_asc hw (Nat.le_refl _)) (mergeH_asc l) fun x => by
    rw [keepK_mem (Nat.le_refl _), mergeH_mem, ← hp.mem_iff]
    constructor
    · rintro ⟨i, hi, rfl⟩; exact getD_mem hi
    · exact mem_idx
end Go.Proofs.YtdmdpkoapllkkaaGreat
namespace Go.Proofs.YtdmdpkoapllkkaaGreat
open Go Go.RowKit Go.Proofs Go.Shelf Go.Ab
def InO (o : List Rng) (t : Int) : Prop := ∃ x, x ∈ o ∧ x.lo ≤ t ∧ t ≤ x.hi
theorem mrg_in {o : List Rng} {r : Rng} (ha : Apart o) (hle : ∀ x, x ∈ o → x.lo ≤ r.lo) (hr : r.lo ≤ r.hi) (t : Int) : InO (mrg o r) t ↔ InO o t ∨ (r.lo ≤ t ∧ t ≤ r.hi) := by
  rcases List.eq_nil_or_concat o with rfl | ⟨pre, x, rfl⟩
  · rw [mrg_nil]
    constructor
    · rintro ⟨y, hy, h1⟩; simp at hy; subst hy; exact .inr h1
    · rintro (⟨y, hy, _⟩ | h1)
      · cases hy
      · exact ⟨r, by simp, h1⟩
  · rw [List.concat_eq_append] at *
    rw [mrg_snoc]
    have hx := ha.1 x (by simp)
    have hxr := hle x (by simp)
    by_cases c : r.lo ≤ x.hi + 1
    · rw [if_pos c]
      constructor
      · rintro ⟨y, hy, h1, h2⟩
        rcases List.mem_append.1 hy with hy | hy
        · exact .inl ⟨y, by simp [hy], h1, h2⟩
        · simp at hy; subst hy
          simp only at h1 h2
          by_cases d : t ≤ x.hi
          · exact .inl ⟨x, by simp, h1, d⟩
          · exact .inr ⟨by omega, by omega⟩
      · rintro (⟨y, hy, h1, h2⟩ | ⟨h1, h2⟩)
        · rcases List.mem_append.1 hy with hy | hy
          · exact ⟨y, by simp [hy], h1, h2⟩
          · simp at hy; subst hy; exact ⟨⟨y.lo, max y.hi r.hi⟩, by simp, h1, by simp only; omega⟩
        · exact ⟨⟨x.lo, max x.hi r.hi⟩, by simp, by simp only; omega, by simp only; omega⟩
    · rw [if_neg c]
      constructor
      · rintro ⟨y, hy, h1⟩
        rcases List.mem_append.1 hy with hy | hy
        · exact .inl ⟨y, hy, h1⟩
        · simp at hy; subst hy; exact .inr h1
      · rintro (⟨y, hy, h1⟩ | h1)
        · exact ⟨y, List.mem_append_left _ hy, h1⟩
        · exact ⟨r, by simp, h1⟩
theorem merge_in : ∀ (L o : List Rng), Apart o → (∀ x, x ∈ o → ∀ r, r ∈ L → x.lo ≤ r.lo) → L.Pairwise (fun x y => x.lo ≤ y.lo) → (∀ r, r ∈ L → r.lo ≤ r.hi) → ∀ t, InO (L.foldl mrg o) t ↔ InO o t ∨ InO L t
  | [], o, _, _, _, _, t => ⟨.inl, fun h => h.elim id fun ⟨y, hy, _⟩ => by cases hy⟩
  | r :: L, o, ha, hle, hp, hl, t => by
    obtain ⟨p1, p2⟩ := List.pairwise_cons.1 hp
    have hr := hl r (List.mem_cons_self ..)
    have hro : ∀ x, x ∈ o → x.lo ≤ r.lo := fun x hx => hle x hx r (List.mem_cons_self ..)
    obtain ⟨g1, g2, _⟩ := mrg_good (S := fun _ => True) ha hro hr (fun x _ => ⟨x, trivial, rfl, Int.le_refl _⟩) trivial
    rw [List.foldl_cons, merge_in L (mrg o r) g1 (fun x hx q hq => by have := g2 x hx; have := p1 q hq; omega) p2 (fun q hq => hl q (List.mem_cons_of_mem _ hq)) t, mrg_in ha hro hr]
    constructor
    · rintro ((h | h) | ⟨y, hy, h⟩)
      · exact .inl h
      · exact .inr ⟨r, List.mem_cons_self .., h⟩
      · exact .inr ⟨y, List.mem_cons_of_mem _ hy, h⟩
    · rintro (h | ⟨y, hy, h⟩)
      · exact .inl (.inl h)
      · rcases List.mem_cons.1 hy with rfl | hy
        · exact .inl (.inr h)
        · exact .inr ⟨y, hy, h⟩
theorem apart_cons {x : Rng} {o : List Rng} (h : Apart (x :: o)) : x.lo ≤ x.hi ∧ (∀ y, y ∈ o → x.hi + 1 < y.lo) ∧ Apart o := by
  obtain ⟨h1, h2⟩ := h
  obtain ⟨h3, h4⟩ := List.pairwise_cons.1 h2
  exact ⟨h1 x (List.mem_cons_self ..), h3, fun y hy => h1 y (List.mem_cons_of_mem _ hy), h4⟩
theorem apart_head {x : Rng} {o : List Rng} (h : Apart (x :: o)) {t : Int} (ht : InO (x :: o) t) : x.lo ≤ t := by
  obtain ⟨a, b, c⟩ := apart_cons h
  obtain ⟨y, hy, h1, h2⟩ := ht
  rcases List.mem_cons.1 hy with rfl | hy
  · exact h1
  · have := b y hy; omega
theorem apart_step {x y : Rng} {o p : List Rng} (ho : Apart (x :: o)) (hp : Apart (y :: p)) (hi : ∀ t, InO (x :: o) t ↔ InO (y :: p) t) (hlo : x.lo = y.lo) : y.hi ≤ x.hi := by
  obtain ⟨a, b, c⟩ := apart_cons ho
  obtain ⟨a', b', c'⟩ := apart_cons hp
  refine Classical.byContradiction fun hc => ?_
  have : InO (y :: p) (x.hi + 1) := ⟨y, List.mem_cons_self .., by omega, by omega⟩
  obtain ⟨z, hz, h1, h2⟩ := (hi _).2 this
  rcases List.mem_cons.1 hz with rfl | hz
  · omega
  · have := b z hz; omega
theorem apart_uniq : ∀ {o p : List Rng}, Apart o → Apart p → (∀ t, InO o t ↔ InO p t) → o = p
  | [], [], _, _, _ => rfl
  | [], y :: p, _, hp, hi => by
    obtain ⟨z, hz, _⟩ := (hi y.lo).2 ⟨y, List.mem_cons_self .., Int.le_refl _, (apart_cons hp).1⟩
    cases hz
  | x :: o, [], ho, _, hi => by
    obtain ⟨z, hz, _⟩ := (hi x.lo).1 ⟨x, List.mem_cons_self .., Int.le_refl _, (apart_cons ho).1⟩
    cases hz
  | x :: o, y :: p, ho, hp, hi => by
    obtain ⟨a, b, c⟩ := apart_cons ho
    obtain ⟨a', b', c'⟩ := apart_cons hp
    have h1 := apart_head hp ((hi x.lo).1 ⟨x, List.mem_cons_self .., Int.le_refl _, a⟩)
    have h2 := apart_head ho ((hi y.lo).2 ⟨y, List.mem_cons_self .., Int.le_refl _, a'⟩)
    have hlo : x.lo = y.lo := by omega
    have h3 := apart_step ho hp hi hlo
    have h4 := apart_step hp ho (fun t => (hi t).symm) hlo.symm
    have hxy : x = y := by
      cases x; cases y; simp only [Rng.mk.injEq]; simp only at hlo h3 h4; omega
    subst hxy
    rw [apart_uniq c c' fun t => ?_]
    constructor
    · rintro ⟨z, hz, e1, e2⟩
      obtain ⟨u, hu, f1, f2⟩ := (hi t).1 ⟨z, List.mem_cons_of_mem _ hz, e1, e2⟩
      rcases List.mem_cons.1 hu with rfl | hu
      · have := b z hz; omega
      · exact ⟨u, hu, f1, f2⟩
    · rintro ⟨z, hz, e1, e2⟩
      obtain ⟨u, hu, f1, f2⟩ := (hi t).2 ⟨z, List.mem_cons_of_mem _ hz, e1, e2⟩
      rcases List.mem_cons.1 hu with rfl | hu
      · have := b' z hz; omega
      · exact ⟨u, hu, f1, f2⟩
theorem merge_apart {L : List Rng} (hp : L.Pairwise fun x y => x.lo ≤ y.lo) (hl : ∀ r, r ∈ L → r.lo ≤ r.hi) : Apart (mergeV L) ∧ ∀ t, InO (mergeV L) t ↔ InO L t := by
  obtain ⟨m1, _, _⟩ := merge_good (S := fun _ => True) L [] ⟨by simp, List.Pairwise.nil⟩ (by simp) hp hl (by simp) (fun _ _ => trivial)
  refine ⟨m1, fun t => ?_⟩
  unfold mergeV
  rw [merge_in L [] ⟨by simp, List.Pairwise.nil⟩ (by simp) hp hl]
  exact ⟨fun h => h.elim (fun ⟨_, hx, _⟩ => by cases hx) id, .inr⟩
end Go.Proofs.YtdmdpkoapllkkaaGreat
namespace Go.Proofs.YtdmdpkoapllkkaaGreat
open Go Go.RowKit Go.Proofs Go.Shelf Go.Ab
end Go.Proofs.YtdmdpkoapllkkaaGreat
namespace Go.Proofs.YtdmdpkoapllkkaaGreat
open Go Go.RowKit Go.Proofs Go.Shelf Go.Ab
end Go.Proofs.YtdmdpkoapllkkaaGreat
namespace Go.Proofs.YtdmdpkoapllkkaaGreat
open Go Go.RowKit Go.Proofs Go.Shelf Go.Ab
theorem hitsChk_ok {l : List Site} {h : List Hit} (ho : HitsOk l h) : (hitsChk l h).2 = 0 := by
  have h40 := ho.len
  unfold hitsChk
  rw [if_neg (by omega), eachE_ok fun i hi => ?_]
  obtain ⟨k, _, hk, _⟩ := (ho.hit i hi).site
  unfold hitE
  rw [getD_at hi, show withinB h[i].tm 0 1000000000000 = true by unfold withinB; have := (ho.hit i hi).tm; simp; omega, hk]
  by_cases e : i = 0
  · rw [decide_eq_true e]; rfl
  · have hb := ho.next (i - 1) (by omega)
    simp only [show i - 1 + 1 = i by omega] at hb
    rw [getD_at (show i - 1 < h.length by omega), decide_eq_true hb, Bool.or_true]; rfl
end Go.Proofs.YtdmdpkoapllkkaaGreat
namespace Go.Proofs.YtdmdpkoapllkkaaGreat
open Go Go.RowKit Go.Proofs Go.Shelf Go.Ab
structure Arrived (l : List Site) (s : Setup) (h g : List Hit) (T M : Int) : Prop where
  oh : HitsOk l h
  og : HitsOk l g
  set : SetOk s
  sub : ∀ x, x ∈ g → x ∈ h
  come : ∀ x, x ∈ h → x.tm ≤ M → x ∈ g
  late : ∀ k (hk : k < s.rules.length), T + s.before + lenR s.rules[k] ≤ M
theorem eases_self {M : Int} {r : Rule} {h g : List Hit} (hr : ruleErr r = 0) (sub : ∀ x, x ∈ h → x.tm ≤ M → x ∈ g) : Eases M r r h g :=
  ⟨rfl, rfl, rfl, ⟨(ruleOk_of hr).2.1.1, Int.le_refl _⟩, Int.le_refl _, fun _ => rfl, sub⟩
theorem single_mem {l : List Site} {s : Setup} {h : List Hit} {w : Rng} : w ∈ singleV l s h ↔ ∃ k, ∃ (hk : k < s.rules.length), ∃ a e, a < h.length ∧ fireV l s.rules[k] h a = some e ∧ w = ⟨(h.getD a default).tm - s.before, e + s.after⟩ := by
  unfold singleV winsR
  simp only [List.mem_flatMap, List.mem_map]
  constructor
  · rintro ⟨r, hr, f, hf, rfl⟩
    obtain ⟨k, hk, rfl⟩ := List.getElem_of_mem hr
    obtain ⟨i, e, hi, he, rfl⟩ := firesV_mem hf
    exact ⟨k, hk, i, e, hi, he, rfl⟩
  · rintro ⟨k, hk, a, e, ha, he, rfl⟩
    refine ⟨s.rules[k], List.getElem_mem hk, ⟨(a : Nat), (h.getD a default).tm, e⟩, ?_, rfl⟩
    unfold firesV
    rw [List.mem_filterMap]
    exact ⟨a, List.mem_range.2 ha, by rw [he]; rfl⟩
theorem Arrived.single {l : List Site} {s : Setup} {h g : List Hit} {T M : Int} (A : Arrived l s h g T M) {w : Rng} (hw : w.lo ≤ T) : w ∈ singleV l s g ↔ w ∈ singleV l s h := by
  rw [single_mem, single_mem]
  constructor
  · rintro ⟨k, hk, b, e, hb, he, rfl⟩
    simp only at hw
    have hr := A.set.rule k hk
    have hl := A.late k hk
    obtain ⟨a, ha, ea, e1, he1, hle1⟩ := fire_less A.og A.oh hr (eases_self hr fun x hx _ => A.sub x hx) hb (fire_tm A.og hr hb) he
    obtain ⟨b2, hb2, eb2, e2, he2, hle2⟩ := fire_less A.oh A.og hr (eases_self hr A.come) ha (by rw [ea]; omega) he1
    have hbb : b2 = b := by
      rw [ea] at eb2
      rw [getD_e hb2, getD_e hb] at eb2
      rcases Nat.lt_trichotomy b2 b with h1 | h1 | h1
      · have := A.og.lt b b2 hb h1; rw [eb2] at this; exact absurd this before_irr
      · exact h1
      · have := A.og.lt b2 b hb2 h1; rw [eb2] at this; exact absurd this before_irr
    subst hbb
    rw [he] at he2
    cases he2
    have : e1 = e := by omega
    subst this
    exact ⟨k, hk, a, e1, ha, he1, by rw [ea]⟩
  · rintro ⟨k, hk, a, e, ha, he, rfl⟩
    simp only at hw
    have hr := A.set.rule k hk
    have hl := A.late k hk
    obtain ⟨b, hb, eb, e1, he1, hle1⟩ := fire_less A.oh A.og hr (eases_self hr A.come) ha (by omega) he
    obtain ⟨a2, ha2, ea2, e2, he2, hle2⟩ := fire_less A.og A.oh hr (eases_self hr fun x hx _ => A.sub x hx) hb (fire_tm A.og hr hb) he1
    have haa : a2 = a := by
      rw [eb] at ea2
      rw [getD_e ha2, getD_e ha] at ea2
      rcases Nat.lt_trichotomy a2 a with h1 | h1 | h1
      · have := A.oh.lt a a2 ha h1; rw [ea2] at this; exact absurd this before_irr
      · exact h1
      · have := A.oh.lt a2 a ha2 h1; rw [ea2] at this; exact absurd this before_irr
    subst haa
    rw [he] at he2
    cases he2
    have : e1 = e := by omega
    subst this
    exact ⟨k, hk, b, e1, hb, he1, by rw [eb]⟩
def endsB (T : Int) (o : List Rng) : List Rng := o.filter fun w => decide (w.hi < T)
theorem endsB_pre {T : Int} : ∀ {o : List Rng}, Apart o → endsB T o <+: o
  | [], _ => List.prefix_rfl
  | x :: o, ha => by
    obtain ⟨h1, h2, h3⟩ := apart_cons ha
    unfold endsB
    rw [List.filter_cons]
    split
    · exact (List.prefix_cons_inj x).2 (endsB_pre h3)
    · rename_i hx
      rw [List.filter_eq_nil_iff.2 fun y hy => ?_]
      · exact List.nil_prefix
      · have a := h2 y hy
        have b := h3.1 y hy
        simp at hx ⊢; omega
theorem endsB_apart {T : Int} {o : List Rng} (ha : Apart o) : Apart (endsB T o) := ⟨fun x hx => ha.1 x ((List.mem_filter.1 hx).1), ha.2.sublist List.filter_sublist⟩
theorem endsB_in {T : Int} {o : List Rng} (ha : Apart o) (t : Int) : InO (endsB T o) t ↔ ∃ u, t ≤ u ∧ u < T ∧ (∀ v, t ≤ v → v ≤ u → InO o v) ∧ ¬ InO o (u + 1) := by
  constructor
  · rintro ⟨x, hx, h1, h2⟩
    obtain ⟨hx1, hx2⟩ := List.mem_filter.1 hx
    refine ⟨x.hi, h2, of_decide_eq_true hx2, fun v hv1 hv2 => ⟨x, hx1, by omega, hv2⟩, ?_⟩
    rintro ⟨y, hy, h3, h4⟩
    obtain ⟨i, hi, rfl⟩ := List.getElem_of_mem hx1
    obtain ⟨j, hj, rfl⟩ := List.getElem_of_mem hy
    have hp := List.pairwise_iff_getElem.1 ha.2
    rcases Nat.lt_trichotomy i j with h | h | h
    · have := hp i j hi hj h; omega
    · subst h; omega
    · have := hp j i hj hi h
      have := ha.1 _ (List.getElem_mem hi)
      omega
  · rintro ⟨u, h1, h2, h3, h4⟩
    obtain ⟨x, hx, g1, g2⟩ := h3 t (Int.le_refl _) h1
    refine ⟨x, List.mem_filter.2 ⟨hx, decide_eq_true ?_⟩, g1, g2⟩
    refine Int.not_le.1 fun hT => ?_
    exact h4 ⟨x, hx, by omega, by omega⟩
theorem Arrived.inO {l : List Site} {s : Setup} {h g : List Hit} {T M : Int} (A : Arrived l s h g T M) {t : Int} (ht : t ≤ T) : InO (windowsV l s g) t ↔ InO (windowsV l s h) t := by
  have e : ∀ (q : List Hit), HitsOk l q → (InO (windowsV l s q) t ↔ InO (singleV l s q) t) := fun q hq => by
    have := (merge_apart (sortRng_pw _ (single_lo A.set hq)) (fun r hr => (single_le A.set hq ((sortRng_perm _).mem_iff.1 hr)).1)).2 t
    rw [show windowsV l s q = mergeV (sortRng (singleV l s q)) from rfl, this]
    exact ⟨fun ⟨x, hx, h⟩ => ⟨x, (sortRng_perm _).mem_iff.1 hx, h⟩, fun ⟨x, hx, h⟩ => ⟨x, (sortRng_perm _).mem_iff.2 hx, h⟩⟩
  rw [e g A.og, e h A.oh]
  exact ⟨fun ⟨x, hx, h1, h2⟩ => ⟨x, (A.single (by omega)).1 hx, h1, h2⟩, fun ⟨x, hx, h1, h2⟩ => ⟨x, (A.single (by omega)).2 hx, h1, h2⟩⟩
theorem windows_apart {l : List Site} {s : Setup} {h : List Hit} (hs : SetOk s) (ho : HitsOk l h) : Apart (windowsV l s h) :=
  (merge_apart (sortRng_pw _ (single_lo hs ho)) (fun _ hr => (single_le hs ho ((sortRng_perm _).mem_iff.1 hr)).1)).1
theorem Arrived.windows {l : List Site} {s : Setup} {h g : List Hit} {T M : Int} (A : Arrived l s h g T M) : endsB T (windowsV l s g) = endsB T (windowsV l s h) := by
  refine apart_uniq (endsB_apart (windows_apart A.set A.og)) (endsB_apart (windows_apart A.set A.oh)) fun t => ?_
  rw [endsB_in (windows_apart A.set A.og), endsB_in (windows_apart A.set A.oh)]
  constructor
  · rintro ⟨u, h1, h2, h3, h4⟩
    exact ⟨u, h1, h2, fun v a b => (A.inO (by omega)).1 (h3 v a b), fun q => h4 ((A.inO (by omega)).2 q)⟩
  · rintro ⟨u, h1, h2, h3, h4⟩
    exact ⟨u, h1, h2, fun v a b => (A.inO (by omega)).2 (h3 v a b), fun q => h4 ((A.inO (by omega)).1 q)⟩
theorem hitsInV_map (h : List Hit) (w : Rng) : (hitsInV h w).map (fun z => h.getD z.toNat default) = h.filter fun x => withinB x.tm w.lo w.hi := by
  have key : ∀ n, n ≤ h.length → (hitsInN h w n).map (fun z => h.getD z.toNat default) = (h.take n).filter fun x => withinB x.tm w.lo w.hi := by
    intro n
    induction n with
    | zero => intro _; rfl
    | succ n ih =>
      intro hn
      rw [hitsInN_succ, List.map_append, ih (by omega), List.take_succ_eq_append_getElem (by omega), List.filter_append, getD_e (by omega)]
      congr 1
      split
      · rename_i hw
        rw [List.filter_cons, if_pos hw]
        simp [List.getElem?_eq_getElem (show n < h.length by omega)]
      · rename_i hw
        rw [List.filter_cons, if_neg hw]; rfl
  have := key h.length (Nat.le_refl _)
  rwa [List.take_length] at this
theorem hitsInV_lt {h : List Hit} {w : Rng} {z : Int} (hz : z ∈ hitsInV h w) : 0 ≤ z ∧ z < h.length := by
  unfold hitsInV hitsInN natsL at hz
  obtain ⟨i, hi, rfl⟩ := List.mem_map.1 hz
  have := List.mem_range.1 ((List.mem_filter.1 hi).1)
  omega
theorem Arrived.filter {l : List Site} {s : Setup} {h g : List Hit} {T M : Int} (A : Arrived l s h g T M) {w : Rng} (hw : w.hi < T) : (g.filter fun x => withinB x.tm w.lo w.hi) = h.filter fun x => withinB x.tm w.lo w.hi := by
  have hr := A.set.pos
  have hl := A.late 0 hr
  have hb := A.set.before
  have hlp := lenR_pos (A.set.rule 0 hr)
  refine asc_uniq (A.og.asc.sublist List.filter_sublist) (A.oh.asc.sublist List.filter_sublist) fun x => ?_
  rw [List.mem_filter, List.mem_filter]
  constructor
  · rintro ⟨h1, h2⟩; exact ⟨A.sub x h1, h2⟩
  · rintro ⟨h1, h2⟩
    refine ⟨A.come x h1 ?_, h2⟩
    unfold withinB at h2
    simp only [Bool.and_eq_true, decide_eq_true_eq] at h2
    omega
theorem Arrived.hits {l : List Site} {s : Setup} {h g : List Hit} {T M : Int} (A : Arrived l s h g T M) {w : Rng} (hw : w.hi < T) : (hitsInV g w).length = (hitsInV h w).length ∧ ∀ k, k < (hitsInV g w).length → g.getD ((hitsInV g w).getD k default).toNat default = h.getD ((hitsInV h w).getD k default).toNat default := by
  have e : (hitsInV g w).map (fun z => g.getD z.toNat default) = (hitsInV h w).map (fun z => h.getD z.toNat default) := by
    rw [hitsInV_map, hitsInV_map, A.filter hw]
  have hl : (hitsInV g w).length = (hitsInV h w).length := by simpa using congrArg List.length e
  refine ⟨hl, fun k hk => ?_⟩
  have := congrArg (fun L => L[k]?) e
  simp only [List.getElem?_map, List.getElem?_eq_getElem hk, List.getElem?_eq_getElem (show k < (hitsInV h w).length by omega), Option.map_some, Option.some.injEq] at this
  rw [getD_at hk, getD_at (show k < (hitsInV h w).length by omega)]
  exact this
def settledE (l : List Site) (s : Setup) (h : List Hit) (T : Int) : List Ev := (eventsV l s h).filter fun e => decide (e.hi < T)
theorem settledE_win (l : List Site) (s : Setup) (h : List Hit) (T : Int) : settledE l s h T = (endsB T (windowsV l s h)).map (evOf h) := by
  unfold settledE eventsV endsB
  rw [List.filter_map]; rfl
theorem prefix_getD {α : Type} [Inhabited α] {a b : List α} (h : a <+: b) {i : Nat} (hi : i < a.length) : b.getD i default = a[i] := by
  obtain ⟨c, rfl⟩ := h
  rw [List.getD_eq_getElem?_getD, List.getElem?_append_left hi, List.getElem?_eq_getElem hi]; rfl
theorem Arrived.events {l : List Site} {s : Setup} {h g : List Hit} {T M : Int} (A : Arrived l s h g T M) : (settledE l s g T).length ≤ (eventsV l s h).length ∧ ∀ i (hi : i < (settledE l s g T).length) (hj : i < (eventsV l s h).length),
    (settledE l s g T)[i].lo = (eventsV l s h)[i].lo ∧ (settledE l s g T)[i].hi = (eventsV l s h)[i].hi ∧ (settledE l s g T)[i].hits.length = (eventsV l s h)[i].hits.length ∧ ∀ k (hk : k < (settledE l s g T)[i].hits.length) (hk' : k < (eventsV l s h)[i].hits.length),
      ((0 ≤ (settledE l s g T)[i].hits[k] ∧ (settledE l s g T)[i].hits[k] < g.length) ∧ (0 ≤ (eventsV l s h)[i].hits[k] ∧ (eventsV l s h)[i].hits[k] < h.length)) ∧ g.getD ((settledE l s g T)[i].hits[k]).toNat default = h.getD ((eventsV l s h)[i].hits[k]).toNat default := by
  have e := settledE_win l s g T
  rw [A.windows] at e
  have hp := endsB_pre (T := T) (windows_apart A.set A.oh)
  have hlen : (settledE l s g T).length = (endsB T (windowsV l s h)).length := by rw [e, List.length_map]
  have hle : (endsB T (windowsV l s h)).length ≤ (windowsV l s h).length := hp.length_le
  have hev : (eventsV l s h).length = (windowsV l s h).length := by unfold eventsV; rw [List.length_map]
  refine ⟨by omega, fun i hi hj => ?_⟩
  have hi1 : i < (endsB T (windowsV l s h)).length := by omega
  have e1 : (settledE l s g T)[i] = evOf g (endsB T (windowsV l s h))[i] := by
    have : (settledE l s g T)[i]? = some (evOf g (endsB T (windowsV l s h))[i]) := by rw [e, List.getElem?_map, List.getElem?_eq_getElem hi1]; rfl
    rw [List.getElem?_eq_getElem hi] at this
    exact Option.some.inj this
  have ew : (windowsV l s h)[i]'(by omega) = (endsB T (windowsV l s h))[i] := by
    have := prefix_getD hp hi1
    rwa [List.getD_eq_getElem?_getD, List.getElem?_eq_getElem (show i < (windowsV l s h).length by omega)] at this
  have e2 : (eventsV l s h)[i] = evOf h (endsB T (windowsV l s h))[i] := by
    have q : (eventsV l s h)[i]? = some (evOf h (endsB T (windowsV l s h))[i]) := by
      unfold eventsV; rw [List.getElem?_map, List.getElem?_eq_getElem (show i < (windowsV l s h).length by omega), ew]; rfl
    rw [List.getElem?_eq_getElem hj] at q
    exact Option.some.inj q
  rw [e1, e2]
  obtain ⟨w, hw⟩ : ∃ w, w = (endsB T (windowsV l s h))[i] := ⟨_, rfl⟩
  rw [← hw]
  have hwT : w.hi < T := by
    have := List.getElem_mem hi1
    rw [← hw] at this
    exact of_decide_eq_true (List.mem_filter.1 this).2
  obtain ⟨c1, c2⟩ := A.hits hwT
  refine ⟨rfl, rfl, c1, fun k hk hk' => ?_⟩
  have := c2 k hk
  have k1 : (hitsInV g w).getD k default = (evOf g w).hits[k] := getD_at (l := hitsInV g w) hk
  have k2 : (hitsInV h w).getD k default = (evOf h w).hits[k] := getD_at (l := hitsInV h w) hk'
  rw [k1, k2] at this
  exact ⟨⟨hitsInV_lt (List.getElem_mem hk), hitsInV_lt (List.getElem_mem hk')⟩, this⟩
end Go.Proofs.YtdmdpkoapllkkaaGreat
namespace Go.Proofs.YtdmdpkoapllkkaaGreat
open Go Go.RowKit Go.Proofs Go.Shelf Go.Ab
def ordE (c : List Ev) (i : Nat) : Prop := (c.getD i default).lo ≤ (c.getD i default).hi ∧ (i = 0 ∨ (c.getD (i - 1) default).hi + 1 < (c.getD i default).lo)
instance (c : List Ev) (i : Nat) : Decidable (ordE c i) := by unfold ordE; infer_instance
theorem eachE_ok0 {n : Nat} {er : Nat → Int} : (eachE n er).2 = 0 ↔ ∀ i, i < n → er i = 0 := by
  rcases eachE_cases n er with ⟨he, hz⟩ | ⟨q, hq, hz, hne, he⟩
  · rw [he]; exact ⟨fun _ => hz, fun _ => rfl⟩
  · rw [he]; exact ⟨fun h => absurd h hne, fun h => h q hq⟩
theorem eachE_fst {n : Nat} {er : Nat → Int} (h : (eachE n er).2 = 0) : eachE n er = (0, 0) := by
  rcases eachE_cases n er with ⟨he, hz⟩ | ⟨q, hq, hz, hne, he⟩
  · rw [he]
  · rw [he] at h; exact absurd h hne
end Go.Proofs.YtdmdpkoapllkkaaGreat
namespace Go.Proofs.YtdmdpkoapllkkaaGreat
open Go Go.RowKit Go.Proofs Go.Shelf Go.Ab
end Go.Proofs.YtdmdpkoapllkkaaGreat
namespace Go.Proofs.YtdmdpkoapllkkaaGreat
open Go Go.RowKit Go.Proofs Go.Shelf Go.Ab
end Go.Proofs.YtdmdpkoapllkkaaGreat
namespace Go.Proofs.YtdmdpkoapllkkaaGreat
open Go Go.RowKit Go.Proofs Go.Shelf Go.Ab
end Go.Proofs.YtdmdpkoapllkkaaGreat
namespace Go.Proofs.YtdmdpkoapllkkaaGreat
open Go Go.RowKit Go.Proofs Go.Shelf Go.Ab
end Go.Proofs.YtdmdpkoapllkkaaGreat
namespace Go.Ab
open Go Go.RowKit Go.Shelf Go.Proofs
section
variable {C : Ctx} {N : Nat}
variable {Q : Exit → St → Prop} {st : St} {ops : Array Oper} {pr : Bool} {K : St → Prop} {rest : List Oper}
end
end Go.Ab
namespace Go.Ab
open Go Go.RowKit Go.Shelf Go.Proofs
section
variable {C : Ctx} {N : Nat}
theorem v_load_rows {o : Oper} {st : St} {T : TypeId} {x : Operand} {cs sub : List FV} {e sz m i off n : Nat} (ty : Ty C.P) (ho : o.op = .load T x) (hd : dstB N o.dst = true) (hT : (ty.ty T).agg = some n) (hx : st.ev C x = .bx i off) (hi : st.h i = some (.row e sz m cs)) (hc : (cs.drop off).take n = sub) (hl : sub.length = n) : ValOp C N o st (.f (.agg sub)) :=
  valop_run hd fun w0 a w J st' hA S => by
    have e1 := S.eval x
    rw [hA.ev x (by simp [ho, Op.operands]), hx] at e1
    obtain ⟨hlv, b, hb, hv⟩ := e1
    obtain ⟨xs, q1, q0, q2, q3⟩ := blkOf hA S hi hlv
    have hown : (J i).ownBlock = some b := by
      obtain ⟨a1, c1, e2⟩ := q1.isSlice
      rw [e2] at hb ⊢
      cases a1 <;> simp [bk, Value.ownBlock] at hb ⊢; exact hb
    have R := (RepL.drop (n := off) q3).take n
    rw [hc] at R
    have hlen : ((xs.drop off).take n).length = n := R.1.trans hl
    refine ⟨.agg ((xs.drop off).take n).toArray, w, ?_, Ext.refl _, RepF.agg _ _ R.1 (fun u hu => q2 u (List.mem_of_mem_drop (List.mem_of_mem_take hu))) R.2⟩
    simp only [execOp, ho, hv, Sem.run_bind]
    rw [run_load_agg ((ty.ok T).agg n hT) ((xs.drop off).take n) hlen (fun k hk => ?_)]
    · rfl
    · rw [hlen] at hk
      have hl2 : off + k < xs.length := by simp [List.length_take, List.length_drop] at hlen; omega
      have hcell := q1.cells hown (off + k) xs[off + k] (List.getElem?_eq_getElem hl2)
      rw [addr_add, Nat.zero_add] at hcell
      rw [hcell, List.getElem?_take, if_pos hk, List.getElem?_drop, List.getElem?_eq_getElem hl2]
theorem v_slice_ow {o : Oper} {st : St} {T E s bs : Nat} {x y : Operand} {cs : List FV} {n i e sz : Nat} {l : Int} {k : IntKind} (ty : Ty C.P) (ho : o.op = .slice T x (some y) none none) (hd : dstB N o.dst = true) (hT : (ty.ty T).sl = some (E, s, bs)) (hx : st.ev C x = .ow i) (hi : st.h i = some (.row e sz n cs))
    (hy : st.ev C y = .f (.v (.int k l))) (h0 : 0 ≤ l) (hlh : l ≤ n) : ValOp C N o st (.sv i (l.toNat * s) (n - l.toNat)) :=
  valop_run hd fun w0 a w J st' hA S => by
    have e1 := S.eval x
    rw [hA.ev x (by simp [ho, Op.operands]), hx] at e1
    obtain ⟨hlv, hv⟩ := e1
    have e2 := evV S ((hA.ev y (by simp [ho, Op.operands])).trans hy)
    obtain ⟨hu, it, hi1, rfl, _⟩ := slE_spec ((ty.ok T).sl _ hT)
    obtain ⟨xs, q1, q0, q2, q3⟩ := blkOf hA S hi hlv
    rcases q1.2 with ⟨hj, rfl⟩ | ⟨g, cap, cur, hj, g1, g2, g3, g4, g5, g6⟩
    · have hl0 : l = 0 := by omega
      subst hl0
      refine ⟨.slice none 0 0, w, ?_, Ext.refl _, hlv, none, 0, by simp, Nat.le_refl _, fun h => absurd rfl h⟩
      simp [execOp, ho, hv, hj, e2, Instr.sliceAt, Instr.slice, run_underlying hu, Instr.sliceBounds, Instr.sliceBound, asIntOf, sizeOf, typeInfo, hi1]
    · refine ⟨.slice (if cap = l.toNat then some ⟨g, 0, none⟩ else some ((⟨g, 0, none⟩ : Addr).add (l.toNat * it.size))) (n - l.toNat) (cap - l.toNat), w, ?_, Ext.refl _, hlv, _, _, rfl, by omega, fun h => ⟨g, by rw [hj]; rfl, ?_⟩⟩
      · simp [execOp, ho, hv, hj, e2, Instr.sliceAt, Instr.slice, run_underlying hu, Instr.sliceBounds, Instr.sliceBound, asIntOf, sizeOf, typeInfo, hi1, h0, hlh]
      · have : ¬ cap = l.toNat := by omega
        rw [if_neg this, addr_add, Nat.zero_add]
theorem v_len_sv {o : Oper} {st : St} {T : TypeId} {x : Operand} {i off n E s bs : Nat} (ty : Ty C.P) (ho : o.op = .call { callee := .builtin .len, args := #[x], argTypes := #[T] }) (hd : dstB N o.dst = true) (hT : (ty.ty T).sl = some (E, s, bs)) (hx : st.ev C x = .sv i off n) : ValOp C N o st (.f (.v (.int .i64 n))) :=
  valop_run hd fun w0 a w J st' hA S => by
    have e1 := S.eval x
    rw [hA.ev x (by simp [ho, Op.operands, Call.operands]), hx] at e1
    obtain ⟨_, ad, c, hv, _⟩ := e1
    have hu := (slE_spec ((ty.ok T).sl _ hT)).1
    exact ⟨_, w, by simp [execOp, ho, resolve, invoke, builtin, Builtin.len_, hv, run_underlying hu, goInt], Ext.refl _, RepF.v _⟩
theorem v_idx_sv {o : Oper} {st : St} {T : TypeId} {x y : Operand} {i off n E s bs : Nat} {k : IntKind} {z : Int} (ty : Ty C.P) (ho : o.op = .indexAddr T x y) (hd : dstB N o.dst = true) (hT : (ty.ty T).sl = some (E, s, bs)) (hx : st.ev C x = .sv i off n) (hy : st.ev C y = .f (.v (.int k z)))
    (h0 : 0 ≤ z) (hn : z < n) : ValOp C N o st (.bx i (off + z.toNat * s)) :=
  valop_run hd fun w0 a w J st' hA S => by
    have e1 := S.eval x
    rw [hA.ev x (by simp [ho, Op.operands]), hx] at e1
    have e2 := evV S ((hA.ev y (by simp [ho, Op.operands])).trans hy)
    obtain ⟨hlv, ad, c, hv, hc, hb⟩ := e1
    obtain ⟨b, hb1, rfl⟩ := hb (by omega)
    exact ⟨_, w, by simp [execOp, ho, hv, e2, run_idx ((ty.ok T).sl _ hT) h0 hn], Ext.refl _, hlv, b, hb1, rfl⟩
def zerosF (zs : List Value) (n : Nat) : List FV := (Builtin.zeroCells zs.toArray n).toList.map FV.v
theorem repL_vs {w : World} {M : Nat → Prop} (us : List Value) : RepL w M us (us.map FV.v) := ⟨by simp, fun k u x h1 h2 => by
  rw [List.getElem?_map, h1] at h2
  simp at h2; subst h2; exact RepF.v _⟩
theorem setAt_nil {α : Type} (cs : List α) (o : Nat) : setAt cs o [] = cs := rfl
theorem take_setAt_ge {α : Type} : ∀ (r cs : List α) (o k : Nat), k ≤ o → (setAt cs o r).take k = cs.take k
  | [], _, _, _, _ => rfl
  | x :: r, cs, o, k, h => by rw [setAt, take_setAt_ge r _ _ _ (by omega), List.take_set_of_le h]
theorem e_clear_sv {o : Oper} {st : St} {T i off n e sz m E s bs : Nat} {x : Operand} {cs : List FV} {zs : List Value} (ty : Ty C.P) (ho : o.op = .call { callee := .builtin .clear, args := #[x], argTypes := #[T] }) (hd : o.dst = none) (hT : (ty.ty T).sl = some (E, s, bs)) (hz : (ty.ty E).zero = some zs) (h1c : zs.all Value.oneCell' = true)
    (hx : st.ev C x = .sv i off n) (hi : st.h i = some (.row e sz m cs)) (hl : off + n * zs.length ≤ cs.length) :
    EffOp C N o st { st with h := upd st.h i (some (.row e sz m (setAt cs off (zerosF zs n)))) } :=
  effop_run fun w0 a w J S => by
    have e1 := S.eval x
    rw [hx] at e1
    obtain ⟨hlv, ad, c, hv, hc, hb⟩ := e1
    obtain ⟨hu, it, hi1, rfl, _⟩ := slE_spec ((ty.ok T).sl _ hT)
    obtain ⟨it', z, hi4, hzz, hzl'⟩ := zero_spec ((ty.ok E).zero zs hz)
    rw [hi1] at hi4; cases hi4
    by_cases hn0 : n = 0
    · subst hn0
      have e0 : zerosF zs 0 = [] := by simp [zerosF, Builtin.zeroCells]
      refine ⟨.value (.tuple #[]), .tuple #[], w, ?_, .inl rfl, J, ?_⟩
      · cases ad <;> simp [execOp, ho, resolve, invoke, builtin, Builtin.clear_, hv, run_underlying hu]
      · rw [hd, e0, setAt_nil]
        have : (fun j => upd st.h i (some (.row e sz m cs)) j) = st.h := by
          funext j
          by_cases ej : j = i
          · subst ej; rw [upd_same, hi]
          · rw [upd_other _ _ ej]
        show Sim C w0 N { st with h := fun j => upd st.h i (some (.row e sz m cs)) j } a w J
        rw [this]; exact S
    · obtain ⟨b, hb1, rfl⟩ := hb hn0
      obtain ⟨xs, q1, q0, q2, q3⟩ := S.blk i _ hi
      rcases q1.2 with ⟨hj, _⟩ | ⟨g, cap, cur, hj, h1, h2, h3, h4, h5, h6⟩
      · rw [hj] at hb1; simp [bk] at hb1
      have hbg : b = g := by rw [hj] at hb1; simpa [bk] using hb1.symm
      subst hbg
      have hxl : xs.length ≤ cur.size := by rw [← h6]; simp [List.length_take]; omega
      have hzc : z.cells = zs.toArray := by rw [← hzl']
      have hZ : (Builtin.zeroCells z.cells n).toList.length = n * zs.length := by rw [hzc]; simp [Builtin.zeroCells]
      have r2 : ∀ u ∈ (Builtin.zeroCells z.cells n).toList, u.oneCell' = true := fun u hu => by
        rw [hzc] at hu
        simp only [Builtin.zeroCells, Array.toList_map, List.mem_map] at hu
        obtain ⟨j, hj, rfl⟩ := hu
        have hj' : j < n * zs.length := by simpa using hj
        have h0 : 0 < zs.length := by
          rcases Nat.eq_zero_or_pos zs.length with h | h
          · rw [h] at hj'; simp at hj'
          · exact h
        have hlt := Nat.mod_lt j h0
        have := List.all_eq_true.1 h1c zs[j % zs.length] (List.getElem_mem hlt)
        simpa [hlt] using this
      have hst := run_storeCells_cells (P := C.P) b off (Builtin.zeroCells z.cells n).toList 0 w (fun j hj => by
        have : off + 0 + j < cur.size := by have := q3.1; rw [hZ] at hj; omega
        simp [World.cell?, h2]; omega) (fun j hj => by simp [World.frozen?, h2]) r2
      have hrun : (execOp a.eval o).run C.P w = .ok (.value (.tuple #[])) (w.setCells b off (Builtin.zeroCells z.cells n).toList) := by
        simp only [Nat.add_zero] at hst
        cases n with
        | zero => exact absurd rfl hn0
        | succ n => simp [execOp, ho, resolve, invoke, builtin, Builtin.clear_, hv, run_underlying hu, zeroValue, typeInfo, hi1, hzz, hst]
      refine ⟨_, _, _, hrun, .inl rfl, J, ?_⟩
      rw [hd]
      obtain ⟨us', g1, g2⟩ := setCells_heap (vs := (Builtin.zeroCells z.cells n).toList) (o := off) h2
      have gr : w.grownBy (w.setCells b off (Builtin.zeroCells z.cells n).toList) (some b) := setCells_grown _ _ _
      have us_len : us'.size = cur.size := by
        have := congrArg List.length g2
        rw [setAt_length] at this
        simpa using this
      have live : ∀ j, (upd st.h i (some (.row e sz m (setAt cs off (zerosF zs n)))) j).isSome = (st.h j).isSome := fun j => by
        by_cases e : j = i
        · subst e; rw [upd_same, hlv]; rfl
        · rw [upd_other _ _ e]
      refine S.write (B := .row e sz m (setAt cs off (zerosF zs n))) hlv hb1 gr ⟨setAt xs off (Builtin.zeroCells z.cells n).toList, ⟨by rw [setAt_length]; exact q1.1, .inr ⟨b, cap, us', hj, h1, g1, h3, h4, by rw [us_len, h5], ?_⟩⟩, q0, setAt_mem q2 r2, ?_⟩ (fun e => by cases e)
      · rw [g2, take_setAt _ _ _ _ (by rw [hZ, ← q1.1, q3.1]; exact hl), h6]
      · refine RepL.setAt off ?_ ?_
        · exact q3.mono (fun c hcl hm => gr.block c hcl (fun e => by cases e; exact hm (.inr ⟨i, hlv, hb1⟩))) gr.size (fun c _ h => h.imp id fun ⟨j, hj, hjb⟩ => ⟨j, by rw [← live]; exact hj, hjb⟩)
        · rw [zerosF, ← hzc]; exact repL_vs _
theorem e_slice_head {o : Oper} {st : St} {T E s bs d : Nat} {x y : Operand} {cs : List FV} {n i e sz : Nat} {h : Int} {k : IntKind} (ty : Ty C.P) (ho : o.op = .slice T x none (some y) none) (hd : o.dst = some d) (hdN : dstB N o.dst = true) (hT : (ty.ty T).sl = some (E, s, bs)) (hx : st.ev C x = .ow i) (hi : st.h i = some (.row e sz n cs))
    (hy : st.ev C y = .f (.v (.int k h))) (h0 : 0 ≤ h) (hn : h ≤ n) (hp : 0 < n) (_hsz : 0 < sz) : EffOp C N o st ((st.grow i (.row e sz h.toNat (cs.take (h.toNat * sz)))).put (some d) (.ow i)) :=
  effop_run fun w0 a w J S => by
    have e1 := S.eval x
    rw [hx] at e1
    obtain ⟨hlv, hv⟩ := e1
    have e2 := evV S hy
    obtain ⟨hu, it, hi1, rfl, _⟩ := slE_spec ((ty.ok T).sl _ hT)
    obtain ⟨xs, q1, q0, q2, q3⟩ := S.blk i _ hi
    rcases q1.2 with ⟨_, rfl⟩ | ⟨g, cap, cur, hj, g1, g2, g3, g4, g5, g6⟩
    · exact absurd hp (by omega)
    have hle : h.toNat ≤ n := by omega
    have hle2 : h.toNat * sz ≤ n * sz := Nat.mul_le_mul_right _ hle
    have hle3 : n * sz ≤ cap * sz := Nat.mul_le_mul_right _ g3
    have hhc : h ≤ (cap : Int) := by omega
    have hrun : (execOp a.eval o).run C.P w = .ok (.value (.slice (if cap = 0 then some ⟨g, 0, none⟩ else some ((⟨g, 0, none⟩ : Addr).add 0)) h.toNat cap)) w := by
      simp [execOp, ho, hv, hj, e2, Instr.sliceAt, Instr.slice, run_underlying hu, Instr.sliceBounds, Instr.sliceBound, asIntOf, sizeOf, typeInfo, hi1, h0, hhc]
    have hva : (if cap = 0 then some (⟨g, 0, none⟩ : Addr) else some ((⟨g, 0, none⟩ : Addr).add 0)) = some ⟨g, 0, none⟩ := by
      split
      · rfl
      · rw [addr_add, Nat.zero_add]
    rw [hva] at hrun
    refine ⟨_, _, w, hrun, .inl rfl, upd J i (.slice (some ⟨g, 0, none⟩) h.toNat cap), ?_⟩
    have hbk : bk (J i) = some g := by rw [hj]; rfl
    have G : Sim C w0 N (st.grow i (.row e sz h.toNat (cs.take (h.toNat * sz)))) a w (upd J i (.slice (some ⟨g, 0, none⟩) h.toNat cap)) := S.regrow hlv (World.grownBy.refl _ _) (fun c hc => .inl (by rw [hbk]; simpa [bk] using hc)) ⟨xs.take (h.toNat * sz), ⟨?_, .inr ⟨g, cap, cur, rfl, g1, g2, by omega, g4, g5, ?_⟩⟩, fun b hb => q0 b (by rw [hbk]; simpa [bk] using hb), fun u hu => q2 u (List.mem_of_mem_take hu), ?_⟩ rfl
    · rw [hd] at hdN ⊢
      refine G.put hdN ⟨?_, ?_⟩
      · show ((st.grow i _).h i).isSome = true
        simp [St.grow]
      · rw [upd_same]
    · rw [List.length_take, q1.1]; omega
    · rw [← g6, List.take_take, Nat.min_eq_left hle2]
    · refine (q3.take _).mono (fun _ _ _ => rfl) (Nat.le_refl _) (fun b hb hm => ?_)
      rcases hm with h0 | ⟨j, hj', hjb⟩
      · exact .inl h0
      by_cases ej : j = i
      · subst ej
        rw [upd_same] at hjb
        exact .inr ⟨j, hlv, by rw [hbk]; simpa [bk] using hjb⟩
      · rw [upd_other _ _ ej] at hjb
        exact .inr ⟨j, by simpa [St.grow, killA_ne ej] using hj', hjb⟩
theorem ev_frz {st : St} {i : Nat} {r : Option FV} {cs : List FV} (x : Operand) : (st.frz i r cs).ev C x = frzA i r cs (st.ev C x) := by
  cases x with
  | tmp t => rfl
  | const v => rfl
  | global g => show (match C.G g with | some cs => AV.f (.pt cs 0) | none => .bot) = frzA i r cs (match C.G g with | some cs => .f (.pt cs 0) | none => .bot); cases C.G g <;> rfl
  | func f => rfl
theorem v_callR {o : Oper} {st : St} {f x0 : Operand} {args : Array Operand} {ts : Array TypeId} {g i e sz n : Nat} {cs : List FV} {caps xs ys : List FV} {r : Value} (K : Summ C.P C.G g ys (.v r)) (ho : o.op = .call { callee := .value f, args := args, argTypes := ts }) (hd : dstB N o.dst = true) (hx : st.ev C x0 = .ow i) (hm : x0 ∈ args.toList) (hi : st.h i = some (.row e sz n cs))
    (hf : (st.frz i (some (.sl n cs)) cs).ev C f = .f (.fn g caps)) (hxs : (st.frz i (some (.sl n cs)) cs).evL C args.toList = some xs) (hys : xs ++ caps = ys) : ValOp C N o st (.f (.v r)) := by
  intro w0 a w st' hA ⟨J, S⟩ K1 Q hK
  have hop : ∀ x ∈ args.toList, st'.ev C x = st.ev C x := fun x hx => hA.ev x (by simp [ho, Op.operands, Call.operands]; exact .inr (by simpa using hx))
  have e0 := S.eval x0
  rw [hop x0 hm, hx] at e0
  have hi' : st'.h i = some (.row e sz n cs) := by
    rcases hA.hp i _ hi with e' | ⟨B', e', m⟩
    · have e1 := e0.1; rw [e'] at e1; cases e1
    · rcases m with rfl | ⟨_, _, e2, _⟩
      · exact e'
      · cases e2
  have S2 := S.frz_row hi'
  have hfz : ∀ x, st'.ev C x = st.ev C x → (st'.frz i (some (.sl n cs)) cs).ev C x = (st.frz i (some (.sl n cs)) cs).ev C x := fun x h => by rw [ev_frz, ev_frz, h]
  have e1 := evF S2 ((hfz f (hA.ev f (by simp [ho, Op.operands, Call.operands]))).trans hf)
  have R := evL_rep (st := st.frz i (some (.sl n cs)) cs) S2 (fun x hx => hfz x (hop x hx)) hxs
  generalize hv : a.eval f = v at e1
  cases e1 with
  | fn _ _ us h1 h2 =>
    subst hys
    have RR := RepL.append R ⟨h1, h2⟩
    have hrun : (execOp a.eval o).run C.P w = .ok (.enter g (args.toList.map a.eval ++ us).toArray) w := by
      have e2 : (args.map a.eval ++ us.toArray) = (args.toList.map a.eval ++ us).toArray := by
        apply Array.ext'; simp
      simp only [execOp, ho, resolve, hv, Deferred.ofValue, Sem.run_bind, Sem.run_pure, Result.andThen_ok, invoke]
      rw [show (#[] : Array Value) ++ args.map a.eval = args.map a.eval by simp, e2]
      exact K.enters _ _
    refine op_enter hrun ?_
    refine Calls.mono (K.call w (Mb C (st'.frz i (some (.sl n cs)) cs).h J) _ (mb_lt S2) S2.glob RR) ?_
    rintro e w' ⟨v', rfl, hr, he⟩
    have := repV hr
    subst this
    exact hK v' w' ⟨J, (S.toExt he).put hd (RepF.v _)⟩
variable {Q : Exit → St → Prop} {st : St} {ops : Array Oper} {pr : Bool} {K : St → Prop} {rest : List Oper} {d : Option Tmp} {T0 : TypeId} {pos : String} {af : Array Edge} {g : Option (Nat × Bool)}
theorem s_ldrs (ty : Ty C.P) {T : TypeId} {x : Operand} {cs sub : List FV} {e sz m i off n : Nat} (hw : wantB st ops ⟨d, .load T x, T0, pos, af, g⟩ = some true) (hd : dstB N d = true) (hT : (ty.ty T).agg = some n) (hx : st.ev C x = .bx i off) (hi : st.h i = some (.row e sz m cs)) (hc : (cs.drop off).take n = sub) (hl : sub.length = n)
    (h : R C N ops pr K rest (st.put d (.f (.agg sub)))) : R C N ops pr K (⟨d, .load T x, T0, pos, af, g⟩ :: rest) st := ⟨r_val hw (v_load_rows ty rfl hd hT hx hi hc hl) h.out⟩
theorem s_slice_ow (ty : Ty C.P) {T E s bs : Nat} {x y : Operand} {cs : List FV} {n i e sz : Nat} {l : Int} {k : IntKind} (hd : dstB N d = true) (hT : (ty.ty T).sl = some (E, s, bs)) (hx : st.ev C x = .ow i) (hi : st.h i = some (.row e sz n cs)) (hy : st.ev C y = .f (.v (.int k l))) (h0 : 0 ≤ l) (hlh : l ≤ n)
    (h : R C N ops pr K rest (st.put d (.sv i (l.toNat * s) (n - l.toNat)))) : R C N ops pr K (⟨d, .slice T x (some y) none none, T0, pos, af, none⟩ :: rest) st := ⟨r_val rfl (v_slice_ow ty rfl hd hT hx hi hy h0 hlh) h.out⟩
theorem s_len_sv (ty : Ty C.P) {T : TypeId} {x : Operand} {i off n E s bs : Nat} (hd : dstB N d = true) (hT : (ty.ty T).sl = some (E, s, bs)) (hx : st.ev C x = .sv i off n)
    (h : R C N ops pr K rest (st.put d (.f (.v (.int .i64 n))))) : R C N ops pr K (⟨d, .call { callee := .builtin .len, args := #[x], argTypes := #[T] }, T0, pos, af, none⟩ :: rest) st := ⟨r_val rfl (v_len_sv ty rfl hd hT hx) h.out⟩
theorem s_idx_sv (ty : Ty C.P) {T : TypeId} {x y : Operand} {i off n E s bs : Nat} {k : IntKind} {z : Int} (hd : dstB N d = true) (hT : (ty.ty T).sl = some (E, s, bs)) (hx : st.ev C x = .sv i off n) (hy : st.ev C y = .f (.v (.int k z))) (h0 : 0 ≤ z) (hn : z < n)
    (h : R C N ops pr K rest (st.put d (.bx i (off + z.toNat * s)))) : R C N ops pr K (⟨d, .indexAddr T x y, T0, pos, af, none⟩ :: rest) st := ⟨r_val rfl (v_idx_sv ty rfl hd hT hx hy h0 hn) h.out⟩
theorem s_clear_sv (ty : Ty C.P) {T i off n e sz m E s bs : Nat} {x : Operand} {cs : List FV} {zs : List Value} (hT : (ty.ty T).sl = some (E, s, bs)) (hz : (ty.ty E).zero = some zs) (h1c : zs.all Value.oneCell' = true) (hx : st.ev C x = .sv i off n) (hi : st.h i = some (.row e sz m cs)) (hl : off + n * zs.length ≤ cs.length)
    (h : R C N ops false K rest { st with h := upd st.h i (some (.row e sz m (setAt cs off (zerosF zs n)))) }) : R C N ops false K (⟨none, .call { callee := .builtin .clear, args := #[x], argTypes := #[T] }, T0, pos, af, none⟩ :: rest) st := ⟨r_eff rfl (e_clear_sv ty rfl rfl hT hz h1c hx hi hl) h.out⟩
theorem s_slice_head (ty : Ty C.P) {T E s bs d : Nat} {x y : Operand} {cs : List FV} {n i e sz : Nat} {l : Int} {k : IntKind} (hdN : dstB N (some d) = true) (hT : (ty.ty T).sl = some (E, s, bs)) (hx : st.ev C x = .ow i) (hi : st.h i = some (.row e sz n cs)) (hy : st.ev C y = .f (.v (.int k l))) (h0 : 0 ≤ l) (hn : l ≤ n) (hp : 0 < n) (hsz : Nat.blt 0 sz = true)
    (h : R C N ops false K rest ((st.grow i (.row e sz l.toNat (cs.take (l.toNat * sz)))).put (some d) (.ow i))) : R C N ops false K (⟨some d, .slice T x none (some y) none, T0, pos, af, none⟩ :: rest) st := ⟨r_eff rfl (e_slice_head ty rfl rfl hdN hT hx hi hy h0 hn hp (Nat.le_of_ble_eq_true hsz)) h.out⟩
theorem s_callR {f : Operand} {args : Array Operand} {ts : Array TypeId} {gf e sz n : Nat} {cs : List FV} {caps xs ys : List FV} {r : Value} (i : Nat) (x0 : Operand) (S : Summ C.P C.G gf ys (.v r)) (hw : wantB st ops ⟨d, .call { callee := .value f, args := args, argTypes := ts }, T0, pos, af, g⟩ = some true) (hd : dstB N d = true) (hx : st.ev C x0 = .ow i) (hm : x0 ∈ args.toList) (hi : st.h i = some (.row e sz n cs))
    (hf : (st.frz i (some (.sl n cs)) cs).ev C f = .f (.fn gf caps)) (hxs : (st.frz i (some (.sl n cs)) cs).evL C args.toList = some xs) (hys : xs ++ caps = ys)
    (h : R C N ops pr K rest (st.put d (.f (.v r)))) : R C N ops pr K (⟨d, .call { callee := .value f, args := args, argTypes := ts }, T0, pos, af, g⟩ :: rest) st := ⟨r_val hw (v_callR S rfl hd hx hm hi hf hxs hys) h.out⟩
end
end Go.Ab
namespace Go.Ab
open Go Go.RowKit Go.Shelf Go.Proofs
section
variable {C : Ctx} {N : Nat}
def GroOp (C : Ctx) (N : Nat) (o : Oper) (st : St) (i : Nat) (B : Blk) (d : Nat) : Prop := o.guard = none ∧ o.dst = some d ∧
  ∀ w0 a w st', Agree C o st st' → (∀ k, st'.h k = st.h k) → SimE C w0 N st' a w → ∀ K Q, (∀ v w', SimE C w0 N ((st'.grow i B).put (some d) (.ow i)) (a.put o.dst v) w' → K (a.put o.dst v) w') → o.wpIn (Fence.wr C.ro) 7 C.P a w K Q
def dstsB (l : List Oper) (s1 s2 : Nat → AV) (i : Nat) : Prop := match l with
  | [] => True
  | o :: l => (match o.dst with | some t => killA i (s1 t) = s2 t | none => True) ∧ dstsB l s1 s2 i
theorem dstsB_mem {s1 s2 : Nat → AV} {i : Nat} : ∀ {l : List Oper}, dstsB l s1 s2 i → ∀ {o : Oper} {t : Nat}, o ∈ l → o.dst = some t → killA i (s1 t) = s2 t
  | [], _, _, _, h, _ => by cases h
  | x :: l, hd, o, t, h, ht => by
    rcases List.mem_cons.1 h with rfl | h
    · have := hd.1; rw [ht] at this; exact this
    · exact dstsB_mem hd.2 h ht
variable {l : List Oper} {n0 : Nat}
structure GD (C : Ctx) (N : Nat) (ops : Array Oper) (o : Oper) (mid : List Oper) (K : St → Prop) (st : St) : Prop where
  out : ∃ i B d, GroOp C N o st i B d ∧ Run C N ops true (fun st1 => Run C N ops true (fun st2 => (dstsB mid st1.s st2.s i ∧ st1.nx = st.nx ∧ st2.nx = st.nx) ∧ K st2) mid ((st.grow i B).put (some d) (.ow i))) mid st
structure KD (mid : List Oper) (i n : Nat) (K : St → Prop) (st1 st2 : St) : Prop where
  eqs : dstsB mid st1.s st2.s i
  nx1 : st1.nx = n
  nx2 : st2.nx = n
  out : K st2
theorem v_gro {o : Oper} {st : St} {T i n m e sz bs d : Nat} {x y : Operand} {cs ys : List FV} {zs : List Value} (ty : Ty C.P) (ho : o.op = .call { callee := .builtin .append, args := #[x, y], argTypes := #[T, T] }) (hg : o.guard = none) (hd : o.dst = some d) (hdN : dstB N o.dst = true) (hT : (ty.ty T).sl = some (e, sz, bs)) (hz : (ty.ty e).zero = some zs) (hzl : zs.length = sz) (hsz : Nat.blt 0 sz = true)
    (hx : st.ev C x = .ow i) (hi : st.h i = some (.row e sz n cs)) (hy : st.ev C y = .f (.sl m ys)) (hl : ys.length = m * sz) (h63 : n + m ≤ maxLen) (hbs : (n + m) * bs ≤ 140737488355328) : GroOp C N o st i (.row e sz (n + m) (cs ++ ys)) d :=
  ⟨hg, hd, fun w0 a w st' hA hh S K Q hK => e_append (st := st') ty ho hd hdN hT hz hzl (Nat.le_of_ble_eq_true hsz) ((hA.ev x (by simp [ho, Op.operands, Call.operands])).trans hx) ((hh i).trans hi) ((hA.ev y (by simp [ho, Op.operands, Call.operands])).trans hy) hl h63 hbs w0 a w S K Q hK⟩
end
end Go.Ab
