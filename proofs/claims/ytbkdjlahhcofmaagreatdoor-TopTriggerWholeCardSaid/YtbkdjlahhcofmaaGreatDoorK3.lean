/- Laws on which the proofs of this seat stand. No condition. -/
import Derived.Test.YtbkdjlahhcofmaaGreatDoorK2
import Derived.Test.YtbkdjlahhcofmaaGreatDoorProg
import Derived.Lib.AtoiAll
import Derived.Lib.Atoi
import Derived.Lib.ItoaMem
import Derived.Lib.Split
import Derived.Lib.Join
import Derived.Shelf.Strconv.Itoa3
import Derived.Shelf.Strconv.AtoiAll
import Derived.Shelf.Strings.Split
import Derived.Shelf.Strings.OnBuilder
import Derived.Shelf.Strings.Search3
import Derived.Shelf.Strings.Prefix
import Derived.Laws.IdiomStrings
import Derived.Laws.Pointers
import Derived.Shelf.SortG.Plain
import Derived.Shelf.SortG.SortNone
import Derived.Lib.SliceRun
import Derived.Shelf.SlicesE.Delete
import Derived.Shelf.SlIter.Sorted
import Derived.Shelf.SlIter.Nil
import Derived.Lib.ItoaLen
namespace Go.Proofs.YtbkdjlahhcofmaaGreatDoor
open Go Go.RowKit Go.Proofs Go.Shelf Go.Ab
structure Job where
 ready : Int
 length : Int
 due : Int
 rank : Int
deriving DecidableEq, Inhabited
def bestF (P : Nat -> Bool) (v : Nat -> Int) : Nat -> Int
 | 0 => -1
 | k + 1 => if P k = true /\ (bestF P v k < 0 \/ v (bestF P v k).toNat < v k) then (k : Int) else bestF P v k
theorem bestF_bd {P : Nat -> Bool} {v : Nat -> Int} : ∀ n, -1 <= bestF P v n /\ bestF P v n < n
 | 0 => by simp [bestF]
 | k + 1 => by
   have := bestF_bd (P := P) (v := v) k
   rw [bestF]; split <;> omega
theorem bestF_none {P : Nat -> Bool} {v : Nat -> Int} : ∀ {n : Nat}, (∀ i, i < n -> P i = false) -> bestF P v n = -1
 | 0, _ => rfl
 | k + 1, h => by
   rw [bestF, if_neg (by rw [h k (by omega)]; simp)]
   exact bestF_none fun i hi => h i (by omega)
theorem bestF_some {P : Nat -> Bool} {v : Nat -> Int} : ∀ {n : Nat}, (∃ i, i < n /\ P i = true) -> 0 <= bestF P v n /\ P (bestF P v n).toNat = true /\ ∀ i, i < n -> P i = true -> v i <= v (bestF P v n).toNat
 | 0, ⟨i, h, _⟩ => absurd h (Nat.not_lt_zero i)
 | k + 1, ⟨j, hj, hP⟩ => by
   rw [bestF]
   have hb := bestF_bd (P := P) (v := v) k
   by_cases hc : P k = true /\ (bestF P v k < 0 \/ v (bestF P v k).toNat < v k)
   · rw [if_pos hc]
     refine ⟨by omega, by simpa using hc.1, fun i hi hPi => ?_⟩
     show v i <= v k
     by_cases e : i = k
     · subst e; exact Int.le_refl _
     · have := (bestF_some (v := v) (n := k) ⟨i, by omega, hPi⟩)
       have h2 := this.2.2 i (by omega) hPi
       rcases hc.2 with h3 | h3
       · omega
       · omega
   · rw [if_neg hc]
     by_cases e : ∃ i, i < k /\ P i = true
     · obtain ⟨a, b, c⟩ := bestF_some (v := v) e
       refine ⟨a, b, fun i hi hPi => ?_⟩
       by_cases e2 : i = k
       · subst e2
         refine Classical.byContradiction fun h => hc ⟨hPi, .inr (by omega)⟩
       · exact c i (by omega) hPi
     · exfalso
       have hn : bestF P v k = -1 := bestF_none fun i hi => by
        cases h : P i with
        | false => rfl
        | true => exact absurd ⟨i, hi, h⟩ e
       have : j = k := Classical.byContradiction fun h => e ⟨j, by omega, hP⟩
       subst this
       exact hc ⟨hP, .inl (by omega)⟩
def begF (U : Nat -> Bool) (r : Nat -> Int) (now : Int) : Nat -> Int
 | 0 => -1
 | k + 1 => if U k = true /\ (begF U r now k < 0 \/ max now (r k) < begF U r now k) then max now (r k) else begF U r now k
theorem begF_none {U : Nat -> Bool} {r : Nat -> Int} {now : Int} : ∀ {n : Nat}, (∀ i, i < n -> U i = false) -> begF U r now n = -1
 | 0, _ => rfl
 | k + 1, h => by
   rw [begF, if_neg (by rw [h k (by omega)]; simp)]
   exact begF_none fun i hi => h i (by omega)
theorem begF_some {U : Nat -> Bool} {r : Nat -> Int} {now : Int} (h0 : 0 <= now) : ∀ {n : Nat}, (∃ i, i < n /\ U i = true) -> now <= begF U r now n /\ (∃ i, i < n /\ U i = true /\ begF U r now n = max now (r i)) /\ ∀ i, i < n -> U i = true -> begF U r now n <= max now (r i)
 | 0, ⟨i, h, _⟩ => absurd h (Nat.not_lt_zero i)
 | k + 1, ⟨j, hj, hP⟩ => by
   rw [begF]
   by_cases hc : U k = true /\ (begF U r now k < 0 \/ max now (r k) < begF U r now k)
   · rw [if_pos hc]
     refine ⟨by omega, ⟨k, by omega, hc.1, rfl⟩, fun i hi hPi => ?_⟩
     by_cases e : i = k
     · subst e; exact Int.le_refl _
     · obtain ⟨a, _, c⟩ := begF_some h0 (r := r) (n := k) ⟨i, by omega, hPi⟩
       have := c i (by omega) hPi
       rcases hc.2 with h3 | h3 <;> omega
   · rw [if_neg hc]
     by_cases e : ∃ i, i < k /\ U i = true
     · obtain ⟨a, ⟨i0, b1, b2, b3⟩, c⟩ := begF_some h0 (r := r) e
       refine ⟨a, ⟨i0, by omega, b2, b3⟩, fun i hi hPi => ?_⟩
       by_cases e2 : i = k
       · subst e2
         refine Classical.byContradiction fun h => hc ⟨hPi, .inr (by omega)⟩
       · exact c i (by omega) hPi
     · exfalso
       have hn : begF U r now k = -1 := begF_none fun i hi => by
        cases h : U i with
        | false => rfl
        | true => exact absurd ⟨i, hi, h⟩ e
       have : j = k := Classical.byContradiction fun h => e ⟨j, by omega, hP⟩
       subst this
       exact hc ⟨hP, .inl (by omega)⟩
def nextR (U : Nat -> Bool) (r k : Nat -> Int) (n : Nat) (now : Int) : Int × Int :=
 let b := begF U r now n
 (bestF (fun i => U i && decide (r i <= b)) k n, b)
def jobA (l : List Job) (z : Int) : Job := l.getD z.toNat default
def endT (l : List Job) (now z : Int) : Int := max now (jobA l z).ready + (jobA l z).length
def nowK (l : List Job) (o : List Int) : Nat -> Int
 | 0 => 0
 | k + 1 => endT l (nowK l o k) (o.getD k default)
def endsK (l : List Job) (o : List Int) : Nat -> List Int
 | 0 => List.replicate l.length 0
 | k + 1 => (endsK l o k).set (o.getD k default).toNat (nowK l o (k + 1))
def lateB (l : List Job) (o : List Int) : Prop := ∃ i, i < l.length /\ (l.getD i default).due < (endsK l o o.length).getD i default
structure OrdOk (l : List Job) (o : List Int) : Prop where
 nd : o.Nodup
 mem : ∀ z, z ∈ o -> 0 <= z /\ z < l.length
theorem OrdOk.snoc {l : List Job} {o : List Int} (q : OrdOk l o) {i : Nat} (hi : i < l.length) (hm : (i : Int) ∉ o) : OrdOk l (o ++ [(i : Int)]) :=
 ⟨List.nodup_append.2 ⟨q.nd, by simp, fun a ha b hb => by rw [List.mem_singleton] at hb; subst hb; exact fun e => hm (e ▸ ha)⟩, fun z hz => by
   rcases List.mem_append.1 hz with h | h
   · exact q.mem z h
   · rw [List.mem_singleton] at h; subst h; omega⟩
theorem pig : ∀ {n : Nat} {o : List Nat}, o.Nodup -> (∀ z, z ∈ o -> z < n) -> o.length <= n
 | 0, o, _, h => by
   cases o with
   | nil => exact Nat.le_refl _
   | cons a t => exact absurd (h a (by simp)) (Nat.not_lt_zero _)
 | n + 1, o, hd, h => by
   have h1 := pig (n := n) (o := o.erase n) (hd.erase n) fun z hz => by
    have := (hd.mem_erase_iff).1 hz
    have := h z this.2
    omega
   rw [List.length_erase] at h1
   split at h1 <;> omega
theorem OrdOk.full {l : List Job} {o : List Int} (q : OrdOk l o) (hl : o.length = l.length) {i : Nat} (hi : i < l.length) : (i : Int) ∈ o := by
 refine Classical.byContradiction fun h => ?_
 have q2 := q.snoc hi h
 have := pig (n := l.length) (o := (o ++ [(i : Int)]).map Int.toNat) (by
  refine (List.pairwise_map).2 (q2.nd.imp_of_mem fun {a b} ha hb hab he => hab ?_)
  have h1 := q2.mem a ha
  have h2 := q2.mem b hb
  omega) (fun z hz => by
   obtain ⟨x, hx, rfl⟩ := List.mem_map.1 hz
   have := q2.mem x hx
   omega)
 rw [List.length_map, List.length_append, List.length_singleton] at this
 omega
instance (l : List Job) (o : List Int) : Decidable (lateB l o) := by unfold lateB; infer_instance
def idxL (n : Nat) : List Int := (List.range n).map fun i : Nat => (i : Int)
theorem idxL_nd (n : Nat) : (idxL n).Nodup := List.pairwise_map.2 (List.nodup_range.imp fun h e => h (by omega))
theorem idxL_mem {n : Nat} {z : Int} : z ∈ idxL n ↔ 0 <= z /\ z < n := by
 unfold idxL
 rw [List.mem_map]
 constructor
 · rintro ⟨i, hi, rfl⟩
   rw [List.mem_range] at hi
   omega
 · intro h
   exact ⟨z.toNat, List.mem_range.2 (by omega), by omega⟩
def sumI (f : Int -> Int) : List Int -> Int
 | [] => 0
 | x :: l => f x + sumI f l
theorem sumI_perm {f : Int -> Int} {a b : List Int} (h : a.Perm b) : sumI f a = sumI f b := by
 induction h with
 | nil => rfl
 | cons x _ ih => rw [sumI, sumI, ih]
 | swap x y l => rw [sumI, sumI, sumI, sumI]; omega
 | trans _ _ h1 h2 => exact h1.trans h2
theorem sumI_app {f : Int -> Int} : ∀ {a b : List Int}, sumI f (a ++ b) = sumI f a + sumI f b
 | [], b => by rw [List.nil_append, sumI]; omega
 | x :: a, b => by rw [List.cons_append, sumI, sumI, sumI_app]; omega
theorem sumI_congr {f g : Int -> Int} : ∀ {a : List Int}, (∀ x, x ∈ a -> f x = g x) -> sumI f a = sumI g a
 | [], _ => rfl
 | x :: a, h => by rw [sumI, sumI, h x (by simp), sumI_congr fun y hy => h y (by simp [hy])]
structure JobsOk (l : List Job) : Prop where
 len : l.length <= 7
 job : ∀ i, i < l.length -> (0 <= (l.getD i default).ready /\ (l.getD i default).ready <= 1000000000000) /\ (0 <= (l.getD i default).due /\ (l.getD i default).due <= 1000000000000) /\ (1 <= (l.getD i default).length /\ (l.getD i default).length <= 100000) /\ (0 <= (l.getD i default).rank /\ (l.getD i default).rank <= 100000)
def outU (out : List Int) (i : Nat) : Bool := decide (out.getD i default = 0)
def stepR (l : List Job) (out : List Int) (now : Int) : Int × Int := nextR (outU out) (fun i => (l.getD i default).ready) (fun i => (l.getD i default).rank) l.length now
theorem sub_len {α : Type} [DecidableEq α] : ∀ {s o : List α}, s.Nodup -> (∀ x, x ∈ s -> x ∈ o) -> s.length <= o.length
 | [], _, _, _ => Nat.zero_le _
 | a :: t, o, hd, hs => by
   rw [List.nodup_cons] at hd
   have ha := hs a (by simp)
   have := sub_len (o := o.erase a) hd.2 (fun x hx => (List.mem_erase_of_ne (fun e : x = a => hd.1 (by subst e; exact hx))).2 (hs x (by simp [hx])))
   rw [List.length_erase_of_mem ha] at this
   have := List.length_pos_of_mem ha
   simp only [List.length_cons]
   omega
theorem getD_set {l : List Int} {i j : Nat} {x : Int} (hi : i < l.length) : (l.set i x).getD j default = if i = j then x else l.getD j default := by
 rw [List.getD_eq_getElem?_getD, List.getElem?_set]
 by_cases e : i = j
 · subst e; rw [if_pos rfl, if_pos hi, if_pos rfl]; rfl
 · rw [if_neg e, if_neg e, <- List.getD_eq_getElem?_getD]
structure FinOk (l : List Job) (k : Nat) (out : List Int) (now b : Int) (S T : List Int) : Prop where
 len : out.length = l.length
 now0 : 0 <= now /\ now <= 1000000000000 + 100000 * k
 b0 : b <= now
 nd : S.Nodup
 cnt : S.length = k
 rng : ∀ z, z ∈ S -> 0 <= z /\ z < l.length
 memS : ∀ i : Nat, i < l.length -> ((i : Int) ∈ S ↔ out.getD i default ≠ 0)
 ndT : T.Nodup
 ne : k = 0 \/ T ≠ []
 subT : ∀ z, z ∈ T -> z ∈ S /\ (0 <= z /\ z < l.length) /\ b <= (jobA l z).ready
 rest : ∀ i, i < l.length -> out.getD i default = 0 -> b <= (l.getD i default).ready
 eq : now = b + sumI (fun z => (jobA l z).length) T
 fin : ∀ i, i < l.length -> out.getD i default ≠ 0 -> (l.getD i default).ready + (l.getD i default).length <= out.getD i default /\ out.getD i default <= now
 apart : ∀ i j, i < l.length -> j < l.length -> i ≠ j -> out.getD i default ≠ 0 -> out.getD j default ≠ 0 -> out.getD i default <= out.getD j default - (l.getD j default).length \/ out.getD j default <= out.getD i default - (l.getD i default).length
 top : k = 0 /\ now = 0 \/ ∃ i, i < l.length /\ out.getD i default = now /\ now ≠ 0
theorem FinOk.left {l : List Job} {k : Nat} {out : List Int} {now b : Int} {S T : List Int} (F : FinOk l k out now b S T) (hk : k < l.length) : ∃ i, i < l.length /\ outU out i = true := by
 refine Classical.byContradiction fun h => ?_
 have := sub_len (idxL_nd l.length) (o := S) fun x hx => by
  have hx := idxL_mem.1 hx
  have e : ((x.toNat : Nat) : Int) = x := by omega
  rw [<- e]
  refine (F.memS x.toNat (by omega)).2 fun h0 => h ⟨x.toNat, by omega, ?_⟩
  unfold outU; rw [decide_eq_true_eq]; exact h0
 have e1 := F.cnt
 simp only [idxL, List.length_map, List.length_range] at this
 omega
theorem FinOk.next {l : List Job} {k : Nat} {out : List Int} {now b : Int} {S T : List Int} (F : FinOk l k out now b S T) (hk : k < l.length) : (0 <= (stepR l out now).1 /\ (stepR l out now).1 < l.length) /\ out.getD (stepR l out now).1.toNat default = 0 /\ (jobA l (stepR l out now).1).ready <= (stepR l out now).2 /\ now <= (stepR l out now).2 /\
 (∃ i, i < l.length /\ (stepR l out now).2 = max now (l.getD i default).ready) /\ ∀ i, i < l.length -> out.getD i default = 0 -> (stepR l out now).2 <= max now (l.getD i default).ready := by
 obtain ⟨a, ⟨i0, b1, b2, b3⟩, c⟩ := begF_some F.now0.1 (r := fun i => (l.getD i default).ready) (F.left hk)
 have e2 : (stepR l out now).2 = begF (outU out) (fun i => (l.getD i default).ready) now l.length := rfl
 have e1 : (stepR l out now).1 = bestF (fun i => outU out i && decide ((l.getD i default).ready <= (stepR l out now).2)) (fun i => (l.getD i default).rank) l.length := rfl
 have hU : ∀ i, outU out i = true ↔ out.getD i default = 0 := fun i => by unfold outU; rw [decide_eq_true_eq]
 rw [<- e2] at a b3 c
 obtain ⟨q1, q2, _⟩ := bestF_some (P := fun i => outU out i && decide ((l.getD i default).ready <= (stepR l out now).2)) (v := fun i => (l.getD i default).rank) (n := l.length) ⟨i0, b1, by rw [b2, Bool.true_and, decide_eq_true_eq, b3]; omega⟩
 have q3 := (bestF_bd (P := fun i => outU out i && decide ((l.getD i default).ready <= (stepR l out now).2)) (v := fun i => (l.getD i default).rank) l.length).2
 rw [<- e1] at q1 q2 q3
 rw [Bool.and_eq_true, decide_eq_true_eq, hU] at q2
 exact ⟨⟨q1, q3⟩, q2.1, q2.2, a, ⟨i0, b1, b3⟩, fun i hi h0 => c i hi ((hU i).2 h0)⟩
theorem FinOk.step {l : List Job} {k : Nat} {out : List Int} {now b : Int} {S T : List Int} (o : JobsOk l) (F : FinOk l k out now b S T) (hk : k < l.length) : ∃ b' S' T', FinOk l (k + 1) (out.set (stepR l out now).1.toNat ((stepR l out now).2 + (jobA l (stepR l out now).1).length)) ((stepR l out now).2 + (jobA l (stepR l out now).1).length) b' S' T' := by
 obtain ⟨⟨x0, x1⟩, x2, x3, x4, ⟨i0, x5, x6⟩, x7⟩ := F.next hk
 generalize (stepR l out now).1 = x at *
 generalize (stepR l out now).2 = t at *
 have hx := o.job x.toNat (by omega)
 have hi0 := o.job i0 x5
 have hJ : jobA l x = l.getD x.toNat default := rfl
 have hxr : (l.getD x.toNat default).ready <= t := x3
 have hn := F.now0
 have hlen := F.len
 have hG : ∀ j, (out.set x.toNat (t + (jobA l x).length)).getD j default = if x.toNat = j then t + (jobA l x).length else out.getD j default := fun j => getD_set (by omega)
 have exx : ((x.toNat : Nat) : Int) = x := by omega
 have hxS : x ∉ S := fun h => ((F.memS x.toNat (by omega)).1 (by rw [exx]; exact h)) x2
 have hmem : ∀ i : Nat, i < l.length -> ((i : Int) ∈ S ++ [x] ↔ (out.set x.toNat (t + (jobA l x).length)).getD i default ≠ 0) := fun i hi => by
  rw [hG, List.mem_append, List.mem_singleton]
  by_cases e : x.toNat = i
  · rw [if_pos e]
    constructor
    · intro _; rw [hJ]; omega
    · intro _; exact .inr (by omega)
  · rw [if_neg e, F.memS i hi]
    constructor
    · rintro (h | h)
      · exact h
      · omega
    · exact .inl
 have hnd : (S ++ [x]).Nodup := List.nodup_append.2 ⟨F.nd, by simp, fun a ha b hb => by rw [List.mem_singleton] at hb; subst hb; exact fun e => hxS (e ▸ ha)⟩
 have hrng : ∀ z, z ∈ S ++ [x] -> 0 <= z /\ z < l.length := fun z hz => by
  rcases List.mem_append.1 hz with h | h
  · exact F.rng z h
  · rw [List.mem_singleton] at h; omega
 have hfin : ∀ i, i < l.length -> (out.set x.toNat (t + (jobA l x).length)).getD i default ≠ 0 -> (l.getD i default).ready + (l.getD i default).length <= (out.set x.toNat (t + (jobA l x).length)).getD i default /\ (out.set x.toNat (t + (jobA l x).length)).getD i default <= t + (jobA l x).length := fun i hi => by
  rw [hG]
  by_cases e : x.toNat = i
  · subst e; rw [if_pos rfl]; intro _; rw [hJ]; omega
  · rw [if_neg e]; intro h
    have := F.fin i hi h
    rw [hJ]; omega
 have hap : ∀ i j, i < l.length -> j < l.length -> i ≠ j -> (out.set x.toNat (t + (jobA l x).length)).getD i default ≠ 0 -> (out.set x.toNat (t + (jobA l x).length)).getD j default ≠ 0 -> (out.set x.toNat (t + (jobA l x).length)).getD i default <= (out.set x.toNat (t + (jobA l x).length)).getD j default - (l.getD j default).length \/ (out.set x.toNat (t + (jobA l x).length)).getD j default <= (out.set x.toNat (t + (jobA l x).length)).getD i default - (l.getD i default).length := fun i j hi hj hij => by
  rw [hG, hG]
  by_cases e : x.toNat = i
  · subst e
    rw [if_pos rfl, if_neg hij]
    intro _ h
    have := F.fin j hj h
    rw [hJ]; right; omega
  · rw [if_neg e]
    by_cases e2 : x.toNat = j
    · subst e2
      rw [if_pos rfl]
      intro h _
      have := F.fin i hi h
      rw [hJ]; left; omega
    · rw [if_neg e2]; exact F.apart i j hi hj hij
 have htop : k + 1 = 0 /\ t + (jobA l x).length = 0 \/ ∃ i, i < l.length /\ (out.set x.toNat (t + (jobA l x).length)).getD i default = t + (jobA l x).length /\ t + (jobA l x).length ≠ 0 := .inr ⟨x.toNat, by omega, by rw [hG, if_pos rfl], by rw [hJ]; omega⟩
 have hnow : 0 <= t + (jobA l x).length /\ t + (jobA l x).length <= 1000000000000 + 100000 * ((k + 1 : Nat) : Int) := by rw [hJ]; omega
 by_cases hc : t = now
 · refine ⟨b, S ++ [x], T ++ [x], ?_⟩
   have hb := F.b0
   have hxT : x ∉ T := fun h => hxS (F.subT x h).1
   exact { len := by simp [hlen], now0 := hnow, b0 := by rw [hJ]; omega, nd := hnd, cnt := by simp [F.cnt], rng := hrng, memS := hmem
           ne := .inr (by simp)
           ndT := List.nodup_append.2 ⟨F.ndT, by simp, fun a ha b hb => by rw [List.mem_singleton] at hb; subst hb; exact fun e => hxT (e ▸ ha)⟩
           subT := fun z hz => by
            rcases List.mem_append.1 hz with h | h
            · exact ⟨List.mem_append.2 (.inl (F.subT z h).1), (F.subT z h).2⟩
            · rw [List.mem_singleton] at h
              subst h
              exact ⟨by simp, ⟨x0, x1⟩, F.rest _ (by omega) x2⟩
           rest := fun i hi => by
            rw [hG]
            by_cases e : x.toNat = i
            · rw [if_pos e]; intro h; rw [hJ] at h; omega
            · rw [if_neg e]; exact F.rest i hi
           eq := by
            have := F.eq
            rw [sumI_app]
            show _ = _ + (_ + ((jobA l x).length + 0))
            omega
           fin := hfin, apart := hap, top := htop }
 · refine ⟨t, S ++ [x], [x], ?_⟩
   exact { len := by simp [hlen], now0 := hnow, b0 := by rw [hJ]; omega, nd := hnd, cnt := by simp [F.cnt], rng := hrng, memS := hmem, ndT := by simp, ne := .inr (by simp)
           subT := fun z hz => by
            rw [List.mem_singleton] at hz
            subst hz
            refine ⟨by simp, ⟨x0, x1⟩, ?_⟩
            have := x7 _ (show z.toNat < l.length by omega) x2
            rw [hJ]; omega
           rest := fun i hi => by
            rw [hG]
            by_cases e : x.toNat = i
            · rw [if_pos e]; intro h; rw [hJ] at h; omega
            · rw [if_neg e]; intro h
              have := x7 i hi h
              omega
           eq := by show _ = _ + ((jobA l x).length + 0); omega
           fin := hfin, apart := hap, top := htop }
def befW (w : Int -> Int) (i j : Int) : Prop := w j < w i \/ (w i = w j /\ i < j)
theorem befW_irr {w : Int -> Int} {i j : Int} (h : befW w i j) : ¬ befW w j i := by unfold befW at *; omega
theorem befW_tot {w : Int -> Int} {i j : Int} (h : i ≠ j) : befW w i j \/ befW w j i := by unfold befW; omega
structure SortW (w : Int -> Int) (n : Nat) (L : List Int) : Prop where
 perm : L.Perm (idxL n)
 ord : L.Pairwise (befW w)
theorem SortW.len {w : Int -> Int} {n : Nat} {L : List Int} (s : SortW w n L) : L.length = n := by rw [s.perm.length_eq]; simp [idxL]
theorem SortW.nd {w : Int -> Int} {n : Nat} {L : List Int} (s : SortW w n L) : L.Nodup := s.perm.nodup_iff.2 (idxL_nd n)
theorem SortW.mem {w : Int -> Int} {n : Nat} {L : List Int} (s : SortW w n L) {z : Int} : z ∈ L ↔ 0 <= z /\ z < n := by rw [s.perm.mem_iff, idxL_mem]
theorem sumI_erase {f : Int -> Int} {a : Int} {X : List Int} (h : a ∈ X) : sumI f X = f a + sumI f (X.erase a) := by
 rw [sumI_perm (List.perm_cons_erase h), sumI]
section
variable {w : Int -> Int} {n : Nat} {L : List Int} {want : Int}
end
structure ActN (N : Type) where
 kind : Int
 name : N
 cells : List Int
section
variable {N : Type} [DecidableEq N]
def pplK (l : List (ActN N)) : Nat -> List N
 | 0 => []
 | k + 1 => match l[k]? with
   | none => pplK l k
   | some a => if a.kind = 0 then pplK l k ++ [a.name] else if a.kind = 1 then (pplK l k).filter (fun x => !decide (x = a.name)) else pplK l k
def newV (name : N) (a : ActN N) : Bool := decide (a.name = name) && (decide (a.kind = 2) || decide (a.kind = 3))
def verK (l : List (ActN N)) (name : N) : Nat -> Int
 | 0 => 0
 | k + 1 => match l[k]? with
   | none => verK l name k
   | some a => if newV name a then verK l name k + 1 else verK l name k
def wdrK (l : List (ActN N)) (name : N) : Nat -> Bool
 | 0 => false
 | k + 1 => match l[k]? with
   | none => wdrK l name k
   | some a => if a.name = name /\ a.kind = 4 then true else wdrK l name k
structure ActsOk (l : List (ActN N)) : Prop where
 kind : ∀ (k : Nat) (a : ActN N), l[k]? = some a -> 0 <= a.kind /\ a.kind <= 4
 join : ∀ (k : Nat) (a : ActN N), l[k]? = some a -> a.kind = 0 -> a.name ∉ pplK l k
 leave : ∀ (k : Nat) (a : ActN N), l[k]? = some a -> a.kind = 1 -> a.name ∈ pplK l k
 send : ∀ (k : Nat) (a : ActN N), l[k]? = some a -> a.kind = 2 -> verK l a.name k = 0
 later : ∀ (k : Nat) (a : ActN N), l[k]? = some a -> 3 <= a.kind -> 0 < verK l a.name k /\ wdrK l a.name k = false
end
section
variable {near : Int -> Int -> Bool}
inductive Conn (near : Int -> Int -> Bool) (X : List Int) : Int -> Int -> Prop
 | refl (a : Int) : Conn near X a a
 | step {a b c : Int} (h : Conn near X a b) (hb : b ∈ X) (hc : c ∈ X) (hn : near b c = true) : Conn near X a c
theorem Conn.trans {X : List Int} {a b c : Int} (h : Conn near X a b) (k : Conn near X b c) : Conn near X a c := by
 induction k with
 | refl => exact h
 | step _ hb hc hn ih => exact .step ih hb hc hn
theorem Conn.symm {X : List Int} (hs : ∀ a b, near a b = near b a) {a b : Int} (h : Conn near X a b) : Conn near X b a := by
 induction h with
 | refl => exact .refl _
 | step _ hb hc hn ih => exact (Conn.step (.refl _) hc hb (by rw [hs]; exact hn)).trans ih
structure BfsOk (near : Int -> Int -> Bool) (X : List Int) (a : Int) (re le : List Int) (i : Nat) : Prop where
 inX : ∀ x, x ∈ re \/ x ∈ le -> x ∈ X
 conn : ∀ x, x ∈ re -> Conn near X a x
 start : a ∈ re
 done : ∀ j, j < i -> ∀ k, k ∈ le -> near (re.getD j default) k = false
 ile : i <= re.length
end
section
variable {near : Int -> Int -> Bool}
end
theorem befW_trans {w : Int -> Int} {i j k : Int} (h : befW w i j) (g : befW w j k) : befW w i k := by unfold befW at *; omega
section
variable {w : Int -> Int}
end
instance (w : Int -> Int) (i j : Int) : Decidable (befW w i j) := by unfold befW; infer_instance
section
variable {w : Int -> Int}
theorem sort_uniq : ∀ {a b : List Int}, a.Pairwise (befW w) -> b.Pairwise (befW w) -> (∀ x, x ∈ a ↔ x ∈ b) -> a = b
 | [], [], _, _, _ => rfl
 | [], y :: b, _, _, h => absurd ((h y).2 (by simp)) (by simp)
 | x :: a, [], _, _, h => absurd ((h x).1 (by simp)) (by simp)
 | x :: a, y :: b, ha, hb, h => by
   rw [List.pairwise_cons] at ha hb
   have e : x = y := by
    rcases List.mem_cons.1 ((h x).1 (by simp)) with e | e
    · exact e
    · rcases List.mem_cons.1 ((h y).2 (by simp)) with e2 | e2
      · exact e2.symm
      · exact absurd (ha.1 y e2) (befW_irr (hb.1 x e))
   subst e
   congr 1
   refine sort_uniq ha.2 hb.2 fun z => ?_
   constructor
   · intro hz
     rcases List.mem_cons.1 ((h z).1 (by simp [hz])) with e | e
     · subst e; exact absurd (ha.1 z hz) (befW_irr (ha.1 z hz))
     · exact e
   · intro hz
     rcases List.mem_cons.1 ((h z).2 (by simp [hz])) with e | e
     · subst e; exact absurd (hb.1 z hz) (befW_irr (hb.1 z hz))
     · exact e
def insO (w : Int -> Int) (x : Int) : List Int -> List Int
 | [] => [x]
 | y :: t => if befW w x y then x :: y :: t else y :: insO w x t
def sortO (w : Int -> Int) : List Int -> List Int
 | [] => []
 | x :: t => insO w x (sortO w t)
theorem insO_perm (x : Int) : ∀ l : List Int, (insO w x l).Perm (x :: l)
 | [] => .refl _
 | y :: t => by
   rw [insO]
   split
   · exact .refl _
   · exact (List.Perm.cons y (insO_perm x t)).trans (.swap x y t)
theorem sortO_perm : ∀ l : List Int, (sortO w l).Perm l
 | [] => .refl _
 | x :: t => (insO_perm x _).trans (.cons x (sortO_perm t))
theorem insO_sorted {x : Int} : ∀ {l : List Int}, l.Pairwise (befW w) -> x ∉ l -> (insO w x l).Pairwise (befW w)
 | [], _, _ => by simp [insO]
 | y :: t, h, hx => by
   rw [List.pairwise_cons] at h
   rw [insO]
   split
   · rename_i hb
     refine List.pairwise_cons.2 ⟨fun z hz => ?_, List.pairwise_cons.2 h⟩
     rcases List.mem_cons.1 hz with e | e
     · subst e; exact hb
     · exact befW_trans hb (h.1 z e)
   · rename_i hb
     refine List.pairwise_cons.2 ⟨fun z hz => ?_, insO_sorted h.2 fun hm => hx (by simp [hm])⟩
     rcases List.mem_cons.1 ((insO_perm x t).mem_iff.1 hz) with e | e
     · subst e
       exact (befW_tot (fun e => hx (by simp [e]))).resolve_left hb
     · exact h.1 z e
theorem sortO_sorted : ∀ {l : List Int}, l.Nodup -> (sortO w l).Pairwise (befW w)
 | [], _ => List.Pairwise.nil
 | x :: t, h => by
   rw [List.nodup_cons] at h
   exact insO_sorted (sortO_sorted h.2) fun hm => h.1 ((sortO_perm t).mem_iff.1 hm)
theorem sortO_of {l L : List Int} (hn : l.Nodup) (hL : L.Pairwise (befW w)) (hm : ∀ x, x ∈ L ↔ x ∈ l) : sortO w l = L :=
 sort_uniq (sortO_sorted hn) hL fun x => by rw [(sortO_perm l).mem_iff, hm]
theorem SortW.eq {n : Nat} {L : List Int} (s : SortW w n L) : L = sortO w (idxL n) := (sortO_of (idxL_nd n) s.ord fun _ => s.perm.mem_iff).symm
end
section
variable {N : Type} {lt : N -> N -> Bool}
structure LtOk (lt : N -> N -> Bool) : Prop where
 irr : ∀ a, lt a a = false
 trans : ∀ a b c, lt a b = true -> lt b c = true -> lt a c = true
 tot : ∀ a b, a ≠ b -> lt a b = true \/ lt b a = true
def AscN (lt : N -> N -> Bool) (l : List N) : Prop := l.Pairwise fun a b => lt a b = true
theorem AscN.nodup (o : LtOk lt) {l : List N} (h : AscN lt l) : l.Nodup := List.Pairwise.imp (fun {a b} hab e => by subst e; rw [o.irr] at hab; cases hab) h
end
section
variable {α : Type}
end
structure CutOk (w : Int -> Int) (D : Nat -> Int) (p lo hi s : Nat) : Prop where
 le : lo <= s /\ s <= hi
 left : ∀ c, lo <= c -> c < s -> ¬ befW w (D (p - c)) (D c)
 right : ∀ c, s <= c -> c < hi -> befW w (D (p - c)) (D c)
def SrtI (w : Int -> Int) (D : Nat -> Int) (a b : Nat) : Prop := ∀ i j, a <= i -> i < j -> j < b -> befW w (D i) (D j)
theorem SrtI.sub {w : Int -> Int} {D : Nat -> Int} {a b c d : Nat} (h : SrtI w D a b) (h1 : a <= c) (h2 : d <= b) : SrtI w D c d := fun i j p q r => h i j (by omega) q (by omega)
theorem SrtI.join {w : Int -> Int} {D : Nat -> Int} {a m b : Nat} (h1 : SrtI w D a m) (h2 : SrtI w D m b) (h : ∀ i j, a <= i -> i < m -> m <= j -> j < b -> befW w (D i) (D j)) : SrtI w D a b := fun i j p q r => by
 by_cases hj : j < m
 · exact h1 i j p q hj
 · by_cases hi : i < m
   · exact h i j p hi (by omega) r
   · exact h2 i j (by omega) q r
section
variable {N : Type} [DecidableEq N] [Inhabited N] {lt : N -> N -> Bool}
end
def iv (z : Int) : FV := .v (.int .i64 z)
def bv (b : Bool) : FV := .v (.bool b)
def intsF (l : List Int) : List FV := l.map iv
def GG : Nat -> Option FV := fun _ => none
theorem intsF_len (l : List Int) : (intsF l).length = l.length * 1 := by simp [intsF]
theorem intsF_ne {l : List Int} {k : Nat} (h : k < l.length) : intsF l ≠ [] := map_ne h
theorem intsF_at {l : List Int} {k : Nat} (h : k < l.length) : (intsF l)[k * 1]? = some (iv l[k]) := map_at h
theorem intsF_snoc (l : List Int) (z : Int) : intsF (l ++ [z]) = intsF l ++ [iv z] := by simp [intsF]
theorem flat_len {α : Type} {f : α -> List FV} {s : Nat} (hs : ∀ x, (f x).length = s) (l : List α) : (l.flatMap f).length = l.length * s := by
 induction l with
 | nil => simp
 | cons x l ih => rw [List.flatMap_cons, List.length_append, ih, hs, List.length_cons, Nat.succ_mul, Nat.add_comm]
theorem flat_drop {α : Type} {f : α -> List FV} {s : Nat} (hs : ∀ x, (f x).length = s) (l : List α) (k : Nat) : (l.flatMap f).drop (k * s) = (l.drop k).flatMap f := by
 induction k generalizing l with
 | zero => simp
 | succ k ih => cases l with
   | nil => simp
   | cons x l => rw [List.flatMap_cons, Nat.succ_mul, Nat.add_comm, <- List.drop_drop, List.drop_left' (hs x), ih, List.drop_succ_cons]
theorem flat_take {α : Type} {f : α -> List FV} {s : Nat} (hs : ∀ x, (f x).length = s) (l : List α) (k : Nat) : (l.flatMap f).take (k * s) = (l.take k).flatMap f := by
 induction k generalizing l with
 | zero => simp
 | succ k ih => cases l with
   | nil => simp
   | cons x l => rw [List.flatMap_cons, Nat.succ_mul, List.take_append, hs x, List.take_of_length_le (by rw [hs x]; omega), show k * s + s - s = k * s by omega, ih, List.take_succ_cons, List.flatMap_cons]
abbrev Nm := List UInt8
def sv (s : Nm) : FV := .v (.string ⟨s.toArray⟩)
def strsF (l : List Nm) : List FV := l.map sv
theorem strsF_ne {l : List Nm} {k : Nat} (h : k < l.length) : strsF l ≠ [] := map_ne h
theorem strsF_at {l : List Nm} {k : Nat} (h : k < l.length) : (strsF l)[k * 1]? = some (sv l[k]) := map_at h
theorem strsF_snoc (l : List Nm) (z : Nm) : strsF (l ++ [z]) = strsF l ++ [sv z] := by simp [strsF]
structure Aev where
 tick : Int
 cell : Int
deriving DecidableEq, Inhabited
abbrev Act := ActN Nm
instance : Inhabited Act := ⟨⟨0, [], []⟩⟩
structure Ast where
 name : Nm
 version : Int
 cells : List Int
 gone : Bool
 had : List Nm
instance : Inhabited Ast := ⟨⟨[], 0, [], false, []⟩⟩
abbrev Pr := Int × Int
structure Pt where
 height : Int
 turn : Int
deriving DecidableEq, Inhabited
def celF (x : Cel) : List FV := [iv x.ring, iv x.before, iv x.count, iv x.index]
def celsF (l : List Cel) : List FV := l.flatMap celF
def xF (cs : List Cel) : FV := .sl cs.length (celsF cs)
theorem getD_at {α : Type} [Inhabited α] {l : List α} {i : Nat} (h : i < l.length) : l.getD i default = l[i] := by simp [List.getD_eq_getElem?_getD, List.getElem?_eq_getElem h]
def withinB (n lo hi : Int) : Bool := decide (lo <= n) && decide (n <= hi)
def unlessE (b : Bool) (k : Int) : Int := if b then 0 else k
def firstE : List Int -> Int
 | [] => 0
 | e :: l => if e = 0 then firstE l else e
theorem firstE_hd {a : Int} {l : List Int} (h : a ≠ 0) : firstE (a :: l) = a := by unfold firstE; rw [if_neg h]
theorem firstE_tl {l : List Int} : firstE (0 :: l) = firstE l := by rw [firstE, if_pos rfl]
theorem firstE_zeros {l : List Int} (h : ∀ j (hj : j < l.length), l[j] = 0) : firstE l = 0 := by
 induction l with
 | nil => rfl
 | cons a l ih =>
   have h0 := h 0 (by simp)
   simp only [List.getElem_cons_zero] at h0
   subst h0
   rw [firstE_tl]
   exact ih fun j hj => by have := h (j + 1) (by simpa using hj); simpa using this
theorem firstE_at {l : List Int} {k : Nat} (hk : k < l.length) (h : ∀ j (hj : j < l.length), j < k -> l[j] = 0) (hne : l[k] ≠ 0) : firstE l = l[k] := by
 induction l generalizing k with
 | nil => simp at hk
 | cons a l ih =>
   cases k with
   | zero => simp only [List.getElem_cons_zero] at hne ⊢; exact firstE_hd hne
   | succ k =>
     have h0 := h 0 (by simp) (by omega)
     simp only [List.getElem_cons_zero] at h0
     subst h0
     rw [firstE_tl]
     simp only [List.getElem_cons_succ] at hne ⊢
     exact ih (by simpa using hk) (fun j hj hlt => by have := h (j + 1) (by simpa using hj) (by omega); simpa using this) hne
def eachE (n : Nat) (f : Nat -> Int) : Nat × Int := match (List.range n).find? fun i => f i ≠ 0 with
 | some i => (i, f i)
 | none => (0, 0)
theorem eachE_ok {n : Nat} {f : Nat -> Int} (h : ∀ i, i < n -> f i = 0) : eachE n f = (0, 0) := by
 unfold eachE
 rw [List.find?_eq_none.2 (fun i hi => by simpa using h i (List.mem_range.1 hi))]
theorem eachE_at {n k : Nat} {f : Nat -> Int} (hk : k < n) (h : ∀ i, i < k -> f i = 0) (hne : f k ≠ 0) : eachE n f = (k, f k) := by
 have : (List.range n).find? (fun i => f i ≠ 0) = some k := by
  obtain ⟨m, rfl⟩ : ∃ m, n = k + 1 + m := ⟨n - k - 1, by omega⟩
  rw [List.range_add, List.range_succ, List.append_assoc, List.find?_append, List.find?_eq_none.2 (fun i hi => by simpa using h i (List.mem_range.1 hi))]
  simp [hne]
 unfold eachE; rw [this]
theorem eachE_cases (n : Nat) (f : Nat -> Int) : (eachE n f = (0, 0) /\ ∀ i, i < n -> f i = 0) \/ ∃ k, k < n /\ (∀ i, i < k -> f i = 0) /\ f k ≠ 0 /\ eachE n f = (k, f k) := by
 by_cases h : ∀ i, i < n -> f i = 0
 · exact .inl ⟨eachE_ok h, h⟩
 · have : ∃ k, k < n /\ f k ≠ 0 := Classical.byContradiction fun h2 => h fun i hi => Classical.byContradiction fun h3 => h2 ⟨i, hi, h3⟩
   obtain ⟨k, ⟨hk, hne⟩, hmin⟩ := exists_least this
   have hz : ∀ i, i < k -> f i = 0 := fun i hi => Classical.byContradiction fun h3 => by have := hmin i ⟨by omega, h3⟩; omega
   exact .inr ⟨k, hk, hz, hne, eachE_at hk hz hne⟩
open Go Go.Ab Go.Proofs
def td2 : TyD := { scal := true, zero := some [.int .i64 0] }
theorem tdok2 : TyOk Tryz.prog 2 td2 := ⟨(fun _ => by kernel_rfl), (fun n h => by cases h), (fun f o h => by simp [td2] at h), (fun x h => by cases h), (fun z h => by cases h; kernel_rfl), (fun z h u hu => by cases h; simp at hu; rcases hu with rfl <;> rfl), (fun x h => by cases h), (by intro h; cases h)⟩
def td3 : TyD := { scal := true, zero := some [.int .i64 0] }
theorem tdok3 : TyOk Tryz.prog 3 td3 := ⟨(fun _ => by kernel_rfl), (fun n h => by cases h), (fun f o h => by simp [td3] at h), (fun x h => by cases h), (fun z h => by cases h; kernel_rfl), (fun z h u hu => by cases h; simp at hu; rcases hu with rfl <;> rfl), (fun x h => by cases h), (by intro h; cases h)⟩
def td4 : TyD := { scal := true, zero := some [.bool false] }
theorem tdok4 : TyOk Tryz.prog 4 td4 := ⟨(fun _ => by kernel_rfl), (fun n h => by cases h), (fun f o h => by simp [td4] at h), (fun x h => by cases h), (fun z h => by cases h; kernel_rfl), (fun z h u hu => by cases h; simp at hu; rcases hu with rfl <;> rfl), (fun x h => by cases h), (by intro h; cases h)⟩
def td5 : TyD := { scal := true, zero := some [.int .u8 0] }
theorem tdok5 : TyOk Tryz.prog 5 td5 := ⟨(fun _ => by kernel_rfl), (fun n h => by cases h), (fun f o h => by simp [td5] at h), (fun x h => by cases h), (fun z h => by cases h; kernel_rfl), (fun z h u hu => by cases h; simp at hu; rcases hu with rfl <;> rfl), (fun x h => by cases h), (by intro h; cases h)⟩
def td9 : TyD := { scal := true, str := true, zero := some [.string ByteArray.empty] }
theorem tdok9 : TyOk Tryz.prog 9 td9 := ⟨(fun _ => by kernel_rfl), (fun n h => by cases h), (fun f o h => by simp [td9] at h), (fun x h => by cases h), (fun z h => by cases h; kernel_rfl), (fun z h u hu => by cases h; simp at hu; rcases hu with rfl <;> rfl), (fun x h => by cases h), (fun _ => by kernel_rfl)⟩
def td21 : TyD := { scal := true, zero := some [.int .i32 0] }
theorem tdok21 : TyOk Tryz.prog 21 td21 := ⟨(fun _ => by kernel_rfl), (fun n h => by cases h), (fun f o h => by simp [td21] at h), (fun x h => by cases h), (fun z h => by cases h; kernel_rfl), (fun z h u hu => by cases h; simp at hu; rcases hu with rfl <;> rfl), (fun x h => by cases h), (by intro h; cases h)⟩
def td22 : TyD := { scal := true, sl := some (332, 5, 40), zero := some [.slice none 0 0] }
theorem tdok22 : TyOk Tryz.prog 22 td22 := ⟨(fun _ => by kernel_rfl), (fun n h => by cases h), (fun f o h => by simp [td22] at h), (fun x h => by cases h; kernel_rfl), (fun z h => by cases h; kernel_rfl), (fun z h u hu => by cases h; simp at hu; rcases hu with rfl <;> rfl), (fun x h => by cases h), (by intro h; cases h)⟩
def td24 : TyD := { agg := some 1, fld := [0], pl := some [(0, 1)], zero := some [.slice none 0 0] }
theorem tdok24 : TyOk Tryz.prog 24 td24 := ⟨(by intro h; cases h), (fun n h => by cases h; kernel_rfl), (fun f o h => by
 match f, h with
 | 0, h => exact (show fldO Tryz.prog 24 0 = some 0 by kernel_rfl).trans h
 | f + 1, h => simp [td24] at h), (fun x h => by cases h), (fun z h => by cases h; kernel_rfl), (fun z h u hu => by cases h; simp at hu; rcases hu with rfl <;> rfl), (fun x h => by cases h; kernel_rfl), (by intro h; cases h)⟩
def td25 : TyD := { scal := true, sl := some (44, 5, 40), zero := some [.slice none 0 0] }
theorem tdok25 : TyOk Tryz.prog 25 td25 := ⟨(fun _ => by kernel_rfl), (fun n h => by cases h), (fun f o h => by simp [td25] at h), (fun x h => by cases h; kernel_rfl), (fun z h => by cases h; kernel_rfl), (fun z h u hu => by cases h; simp at hu; rcases hu with rfl <;> rfl), (fun x h => by cases h), (by intro h; cases h)⟩
def td27 : TyD := { agg := some 4, fld := [0, 1, 2, 3], pl := some [(0, 1), (1, 1), (2, 1), (3, 1)], zero := some [.slice none 0 0, .int .i64 0, .int .i64 0, .int .i64 0] }
theorem tdok27 : TyOk Tryz.prog 27 td27 := ⟨(by intro h; cases h), (fun n h => by cases h; kernel_rfl), (fun f o h => by
 match f, h with
 | 0, h => exact (show fldO Tryz.prog 27 0 = some 0 by kernel_rfl).trans h
 | 1, h => exact (show fldO Tryz.prog 27 1 = some 1 by kernel_rfl).trans h
 | 2, h => exact (show fldO Tryz.prog 27 2 = some 2 by kernel_rfl).trans h
 | 3, h => exact (show fldO Tryz.prog 27 3 = some 3 by kernel_rfl).trans h
 | f + 4, h => simp [td27] at h), (fun x h => by cases h), (fun z h => by cases h; kernel_rfl), (fun z h u hu => by cases h; simp at hu; rcases hu with rfl | rfl | rfl | rfl <;> rfl), (fun x h => by cases h; kernel_rfl), (by intro h; cases h)⟩
def td28 : TyD := { scal := true, sl := some (50, 3, 24), zero := some [.slice none 0 0] }
theorem tdok28 : TyOk Tryz.prog 28 td28 := ⟨(fun _ => by kernel_rfl), (fun n h => by cases h), (fun f o h => by simp [td28] at h), (fun x h => by cases h; kernel_rfl), (fun z h => by cases h; kernel_rfl), (fun z h u hu => by cases h; simp at hu; rcases hu with rfl <;> rfl), (fun x h => by cases h), (by intro h; cases h)⟩
def td29 : TyD := { scal := true, sl := some (3, 1, 8), zero := some [.slice none 0 0] }
theorem tdok29 : TyOk Tryz.prog 29 td29 := ⟨(fun _ => by kernel_rfl), (fun n h => by cases h), (fun f o h => by simp [td29] at h), (fun x h => by cases h; kernel_rfl), (fun z h => by cases h; kernel_rfl), (fun z h u hu => by cases h; simp at hu; rcases hu with rfl <;> rfl), (fun x h => by cases h), (by intro h; cases h)⟩
def td30 : TyD := { agg := some 3, zero := some [.int .i64 0, .int .i64 0, .int .i64 0] }
theorem tdok30 : TyOk Tryz.prog 30 td30 := ⟨(by intro h; cases h), (fun n h => by cases h; kernel_rfl), (fun f o h => by simp [td30] at h), (fun x h => by cases h), (fun z h => by cases h; kernel_rfl), (fun z h u hu => by cases h; simp at hu; rcases hu with rfl | rfl | rfl <;> rfl), (fun x h => by cases h), (by intro h; cases h)⟩
def td32 : TyD := { agg := some 5, fld := [0, 1, 2], pl := some [(0, 1), (1, 1), (2, 3)], zero := some [.slice none 0 0, .slice none 0 0, .int .i64 0, .int .i64 0, .int .i64 0] }
theorem tdok32 : TyOk Tryz.prog 32 td32 := ⟨(by intro h; cases h), (fun n h => by cases h; kernel_rfl), (fun f o h => by
 match f, h with
 | 0, h => exact (show fldO Tryz.prog 32 0 = some 0 by kernel_rfl).trans h
 | 1, h => exact (show fldO Tryz.prog 32 1 = some 1 by kernel_rfl).trans h
 | 2, h => exact (show fldO Tryz.prog 32 2 = some 2 by kernel_rfl).trans h
 | f + 3, h => simp [td32] at h), (fun x h => by cases h), (fun z h => by cases h; kernel_rfl), (fun z h u hu => by cases h; simp at hu; rcases hu with rfl | rfl | rfl | rfl | rfl <;> rfl), (fun x h => by cases h; kernel_rfl), (by intro h; cases h)⟩
def td34 : TyD := { agg := some 2, fld := [0, 1], pl := some [(0, 1), (1, 1)], zero := some [.int .i64 0, .int .i64 0] }
theorem tdok34 : TyOk Tryz.prog 34 td34 := ⟨(by intro h; cases h), (fun n h => by cases h; kernel_rfl), (fun f o h => by
 match f, h with
 | 0, h => exact (show fldO Tryz.prog 34 0 = some 0 by kernel_rfl).trans h
 | 1, h => exact (show fldO Tryz.prog 34 1 = some 1 by kernel_rfl).trans h
 | f + 2, h => simp [td34] at h), (fun x h => by cases h), (fun z h => by cases h; kernel_rfl), (fun z h u hu => by cases h; simp at hu; rcases hu with rfl | rfl <;> rfl), (fun x h => by cases h; kernel_rfl), (by intro h; cases h)⟩
def td36 : TyD := { agg := some 8, fld := [0, 5, 7], pl := some [(0, 5), (5, 2), (7, 1)], zero := some [.slice none 0 0, .slice none 0 0, .int .i64 0, .int .i64 0, .int .i64 0, .int .i64 0, .int .i64 0, .int .i64 0] }
theorem tdok36 : TyOk Tryz.prog 36 td36 := ⟨(by intro h; cases h), (fun n h => by cases h; kernel_rfl), (fun f o h => by
 match f, h with
 | 0, h => exact (show fldO Tryz.prog 36 0 = some 0 by kernel_rfl).trans h
 | 1, h => exact (show fldO Tryz.prog 36 1 = some 5 by kernel_rfl).trans h
 | 2, h => exact (show fldO Tryz.prog 36 2 = some 7 by kernel_rfl).trans h
 | f + 3, h => simp [td36] at h), (fun x h => by cases h), (fun z h => by cases h; kernel_rfl), (fun z h u hu => by cases h; simp at hu; rcases hu with rfl | rfl | rfl | rfl | rfl | rfl | rfl | rfl <;> rfl), (fun x h => by cases h; kernel_rfl), (by intro h; cases h)⟩
def td41 : TyD := { scal := true, zero := some [.nilFunc] }
theorem tdok41 : TyOk Tryz.prog 41 td41 := ⟨(fun _ => by kernel_rfl), (fun n h => by cases h), (fun f o h => by simp [td41] at h), (fun x h => by cases h), (fun z h => by cases h; kernel_rfl), (fun z h u hu => by cases h; simp at hu; rcases hu with rfl <;> rfl), (fun x h => by cases h), (by intro h; cases h)⟩
def td44 : TyD := { agg := some 5, fld := [0, 1, 2, 3, 4], pl := some [(0, 1), (1, 1), (2, 1), (3, 1), (4, 1)], zero := some [.int .i64 0, .int .i64 0, .int .i64 0, .int .i64 0, .int .i64 0] }
theorem tdok44 : TyOk Tryz.prog 44 td44 := ⟨(by intro h; cases h), (fun n h => by cases h; kernel_rfl), (fun f o h => by
 match f, h with
 | 0, h => exact (show fldO Tryz.prog 44 0 = some 0 by kernel_rfl).trans h
 | 1, h => exact (show fldO Tryz.prog 44 1 = some 1 by kernel_rfl).trans h
 | 2, h => exact (show fldO Tryz.prog 44 2 = some 2 by kernel_rfl).trans h
 | 3, h => exact (show fldO Tryz.prog 44 3 = some 3 by kernel_rfl).trans h
 | 4, h => exact (show fldO Tryz.prog 44 4 = some 4 by kernel_rfl).trans h
 | f + 5, h => simp [td44] at h), (fun x h => by cases h), (fun z h => by cases h; kernel_rfl), (fun z h u hu => by cases h; simp at hu; rcases hu with rfl | rfl | rfl | rfl | rfl <;> rfl), (fun x h => by cases h; kernel_rfl), (by intro h; cases h)⟩
def td45 : TyD := { scal := true, zero := some [.int .i64 0] }
theorem tdok45 : TyOk Tryz.prog 45 td45 := ⟨(fun _ => by kernel_rfl), (fun n h => by cases h), (fun f o h => by simp [td45] at h), (fun x h => by cases h), (fun z h => by cases h; kernel_rfl), (fun z h u hu => by cases h; simp at hu; rcases hu with rfl <;> rfl), (fun x h => by cases h), (by intro h; cases h)⟩
def td50 : TyD := { agg := some 3, fld := [0, 1, 2], pl := some [(0, 1), (1, 1), (2, 1)], zero := some [.int .i64 0, .int .i64 0, .int .i64 0] }
theorem tdok50 : TyOk Tryz.prog 50 td50 := ⟨(by intro h; cases h), (fun n h => by cases h; kernel_rfl), (fun f o h => by
 match f, h with
 | 0, h => exact (show fldO Tryz.prog 50 0 = some 0 by kernel_rfl).trans h
 | 1, h => exact (show fldO Tryz.prog 50 1 = some 1 by kernel_rfl).trans h
 | 2, h => exact (show fldO Tryz.prog 50 2 = some 2 by kernel_rfl).trans h
 | f + 3, h => simp [td50] at h), (fun x h => by cases h), (fun z h => by cases h; kernel_rfl), (fun z h u hu => by cases h; simp at hu; rcases hu with rfl | rfl | rfl <;> rfl), (fun x h => by cases h; kernel_rfl), (by intro h; cases h)⟩
def td57 : TyD := { scal := true, sl := some (204, 2, 32), zero := some [.slice none 0 0] }
theorem tdok57 : TyOk Tryz.prog 57 td57 := ⟨(fun _ => by kernel_rfl), (fun n h => by cases h), (fun f o h => by simp [td57] at h), (fun x h => by cases h; kernel_rfl), (fun z h => by cases h; kernel_rfl), (fun z h u hu => by cases h; simp at hu; rcases hu with rfl <;> rfl), (fun x h => by cases h), (by intro h; cases h)⟩
def td59 : TyD := { scal := true, sl := some (72, 3, 40), zero := some [.slice none 0 0] }
theorem tdok59 : TyOk Tryz.prog 59 td59 := ⟨(fun _ => by kernel_rfl), (fun n h => by cases h), (fun f o h => by simp [td59] at h), (fun x h => by cases h; kernel_rfl), (fun z h => by cases h; kernel_rfl), (fun z h u hu => by cases h; simp at hu; rcases hu with rfl <;> rfl), (fun x h => by cases h), (by intro h; cases h)⟩
def td69 : TyD := { agg := some 2, fld := [0, 1], pl := some [(0, 1), (1, 1)], zero := some [.slice none 0 0, .slice none 0 0] }
theorem tdok69 : TyOk Tryz.prog 69 td69 := ⟨(by intro h; cases h), (fun n h => by cases h; kernel_rfl), (fun f o h => by
 match f, h with
 | 0, h => exact (show fldO Tryz.prog 69 0 = some 0 by kernel_rfl).trans h
 | 1, h => exact (show fldO Tryz.prog 69 1 = some 1 by kernel_rfl).trans h
 | f + 2, h => simp [td69] at h), (fun x h => by cases h), (fun z h => by cases h; kernel_rfl), (fun z h u hu => by cases h; simp at hu; rcases hu with rfl | rfl <;> rfl), (fun x h => by cases h; kernel_rfl), (by intro h; cases h)⟩
def td70 : TyD := { scal := true, sl := some (34, 2, 16), zero := some [.slice none 0 0] }
theorem tdok70 : TyOk Tryz.prog 70 td70 := ⟨(fun _ => by kernel_rfl), (fun n h => by cases h), (fun f o h => by simp [td70] at h), (fun x h => by cases h; kernel_rfl), (fun z h => by cases h; kernel_rfl), (fun z h u hu => by cases h; simp at hu; rcases hu with rfl <;> rfl), (fun x h => by cases h), (by intro h; cases h)⟩
def td72 : TyD := { agg := some 3, fld := [0, 2], pl := some [(0, 2), (2, 1)], zero := some [.int .i64 0, .int .i64 0, .slice none 0 0] }
theorem tdok72 : TyOk Tryz.prog 72 td72 := ⟨(by intro h; cases h), (fun n h => by cases h; kernel_rfl), (fun f o h => by
 match f, h with
 | 0, h => exact (show fldO Tryz.prog 72 0 = some 0 by kernel_rfl).trans h
 | 1, h => exact (show fldO Tryz.prog 72 1 = some 2 by kernel_rfl).trans h
 | f + 2, h => simp [td72] at h), (fun x h => by cases h), (fun z h => by cases h; kernel_rfl), (fun z h u hu => by cases h; simp at hu; rcases hu with rfl | rfl | rfl <;> rfl), (fun x h => by cases h; kernel_rfl), (by intro h; cases h)⟩
def td79 : TyD := { agg := some 1, fld := [0], pl := some [(0, 1)], zero := some [.slice none 0 0] }
theorem tdok79 : TyOk Tryz.prog 79 td79 := ⟨(by intro h; cases h), (fun n h => by cases h; kernel_rfl), (fun f o h => by
 match f, h with
 | 0, h => exact (show fldO Tryz.prog 79 0 = some 0 by kernel_rfl).trans h
 | f + 1, h => simp [td79] at h), (fun x h => by cases h), (fun z h => by cases h; kernel_rfl), (fun z h u hu => by cases h; simp at hu; rcases hu with rfl <;> rfl), (fun x h => by cases h; kernel_rfl), (by intro h; cases h)⟩
def td80 : TyD := { scal := true, sl := some (85, 3, 48), zero := some [.slice none 0 0] }
theorem tdok80 : TyOk Tryz.prog 80 td80 := ⟨(fun _ => by kernel_rfl), (fun n h => by cases h), (fun f o h => by simp [td80] at h), (fun x h => by cases h; kernel_rfl), (fun z h => by cases h; kernel_rfl), (fun z h u hu => by cases h; simp at hu; rcases hu with rfl <;> rfl), (fun x h => by cases h), (by intro h; cases h)⟩
def td83 : TyD := { scal := true, sl := some (106, 4, 48), zero := some [.slice none 0 0] }
theorem tdok83 : TyOk Tryz.prog 83 td83 := ⟨(fun _ => by kernel_rfl), (fun n h => by cases h), (fun f o h => by simp [td83] at h), (fun x h => by cases h; kernel_rfl), (fun z h => by cases h; kernel_rfl), (fun z h u hu => by cases h; simp at hu; rcases hu with rfl <;> rfl), (fun x h => by cases h), (by intro h; cases h)⟩
def td85 : TyD := { agg := some 3, fld := [0, 1, 2], pl := some [(0, 1), (1, 1), (2, 1)], zero := some [.int .i64 0, .string ByteArray.empty, .slice none 0 0] }
theorem tdok85 : TyOk Tryz.prog 85 td85 := ⟨(by intro h; cases h), (fun n h => by cases h; kernel_rfl), (fun f o h => by
 match f, h with
 | 0, h => exact (show fldO Tryz.prog 85 0 = some 0 by kernel_rfl).trans h
 | 1, h => exact (show fldO Tryz.prog 85 1 = some 1 by kernel_rfl).trans h
 | 2, h => exact (show fldO Tryz.prog 85 2 = some 2 by kernel_rfl).trans h
 | f + 3, h => simp [td85] at h), (fun x h => by cases h), (fun z h => by cases h; kernel_rfl), (fun z h u hu => by cases h; simp at hu; rcases hu with rfl | rfl | rfl <;> rfl), (fun x h => by cases h; kernel_rfl), (by intro h; cases h)⟩
def td86 : TyD := { scal := true, sl := some (9, 1, 16), zero := some [.slice none 0 0] }
theorem tdok86 : TyOk Tryz.prog 86 td86 := ⟨(fun _ => by kernel_rfl), (fun n h => by cases h), (fun f o h => by simp [td86] at h), (fun x h => by cases h; kernel_rfl), (fun z h => by cases h; kernel_rfl), (fun z h u hu => by cases h; simp at hu; rcases hu with rfl <;> rfl), (fun x h => by cases h), (by intro h; cases h)⟩
def td91 : TyD := { scal := true, sl := some (95, 5, 80), zero := some [.slice none 0 0] }
theorem tdok91 : TyOk Tryz.prog 91 td91 := ⟨(fun _ => by kernel_rfl), (fun n h => by cases h), (fun f o h => by simp [td91] at h), (fun x h => by cases h; kernel_rfl), (fun z h => by cases h; kernel_rfl), (fun z h u hu => by cases h; simp at hu; rcases hu with rfl <;> rfl), (fun x h => by cases h), (by intro h; cases h)⟩
def td95 : TyD := { agg := some 5, fld := [0, 1, 2, 3, 4], pl := some [(0, 1), (1, 1), (2, 1), (3, 1), (4, 1)], zero := some [.string ByteArray.empty, .int .i64 0, .slice none 0 0, .bool false, .slice none 0 0] }
theorem tdok95 : TyOk Tryz.prog 95 td95 := ⟨(by intro h; cases h), (fun n h => by cases h; kernel_rfl), (fun f o h => by
 match f, h with
 | 0, h => exact (show fldO Tryz.prog 95 0 = some 0 by kernel_rfl).trans h
 | 1, h => exact (show fldO Tryz.prog 95 1 = some 1 by kernel_rfl).trans h
 | 2, h => exact (show fldO Tryz.prog 95 2 = some 2 by kernel_rfl).trans h
 | 3, h => exact (show fldO Tryz.prog 95 3 = some 3 by kernel_rfl).trans h
 | 4, h => exact (show fldO Tryz.prog 95 4 = some 4 by kernel_rfl).trans h
 | f + 5, h => simp [td95] at h), (fun x h => by cases h), (fun z h => by cases h; kernel_rfl), (fun z h u hu => by cases h; simp at hu; rcases hu with rfl | rfl | rfl | rfl | rfl <;> rfl), (fun x h => by cases h; kernel_rfl), (by intro h; cases h)⟩
def td101 : TyD := { agg := some 4, fld := [0, 1, 2, 3], pl := some [(0, 1), (1, 1), (2, 1), (3, 1)], zero := some [.string ByteArray.empty, .int .i64 0, .int .i64 0, .slice none 0 0] }
theorem tdok101 : TyOk Tryz.prog 101 td101 := ⟨(by intro h; cases h), (fun n h => by cases h; kernel_rfl), (fun f o h => by
 match f, h with
 | 0, h => exact (show fldO Tryz.prog 101 0 = some 0 by kernel_rfl).trans h
 | 1, h => exact (show fldO Tryz.prog 101 1 = some 1 by kernel_rfl).trans h
 | 2, h => exact (show fldO Tryz.prog 101 2 = some 2 by kernel_rfl).trans h
 | 3, h => exact (show fldO Tryz.prog 101 3 = some 3 by kernel_rfl).trans h
 | f + 4, h => simp [td101] at h), (fun x h => by cases h), (fun z h => by cases h; kernel_rfl), (fun z h u hu => by cases h; simp at hu; rcases hu with rfl | rfl | rfl | rfl <;> rfl), (fun x h => by cases h; kernel_rfl), (by intro h; cases h)⟩
def td106 : TyD := { agg := some 4, fld := [0, 1, 2, 3], pl := some [(0, 1), (1, 1), (2, 1), (3, 1)], zero := some [.string ByteArray.empty, .string ByteArray.empty, .int .i64 0, .bool false] }
theorem tdok106 : TyOk Tryz.prog 106 td106 := ⟨(by intro h; cases h), (fun n h => by cases h; kernel_rfl), (fun f o h => by
 match f, h with
 | 0, h => exact (show fldO Tryz.prog 106 0 = some 0 by kernel_rfl).trans h
 | 1, h => exact (show fldO Tryz.prog 106 1 = some 1 by kernel_rfl).trans h
 | 2, h => exact (show fldO Tryz.prog 106 2 = some 2 by kernel_rfl).trans h
 | 3, h => exact (show fldO Tryz.prog 106 3 = some 3 by kernel_rfl).trans h
 | f + 4, h => simp [td106] at h), (fun x h => by cases h), (fun z h => by cases h; kernel_rfl), (fun z h u hu => by cases h; simp at hu; rcases hu with rfl | rfl | rfl | rfl <;> rfl), (fun x h => by cases h; kernel_rfl), (by intro h; cases h)⟩
def td115 : TyD := { agg := some 6, fld := [0, 2, 4], pl := some [(0, 2), (2, 2), (4, 2)], zero := some [.int .i64 0, .int .i64 0, .int .i64 0, .int .i64 0, .int .i64 0, .int .i64 0] }
theorem tdok115 : TyOk Tryz.prog 115 td115 := ⟨(by intro h; cases h), (fun n h => by cases h; kernel_rfl), (fun f o h => by
 match f, h with
 | 0, h => exact (show fldO Tryz.prog 115 0 = some 0 by kernel_rfl).trans h
 | 1, h => exact (show fldO Tryz.prog 115 1 = some 2 by kernel_rfl).trans h
 | 2, h => exact (show fldO Tryz.prog 115 2 = some 4 by kernel_rfl).trans h
 | f + 3, h => simp [td115] at h), (fun x h => by cases h), (fun z h => by cases h; kernel_rfl), (fun z h u hu => by cases h; simp at hu; rcases hu with rfl | rfl | rfl | rfl | rfl | rfl <;> rfl), (fun x h => by cases h; kernel_rfl), (by intro h; cases h)⟩
def td116 : TyD := { scal := true, sl := some (287, 5, 40), zero := some [.slice none 0 0] }
theorem tdok116 : TyOk Tryz.prog 116 td116 := ⟨(fun _ => by kernel_rfl), (fun n h => by cases h), (fun f o h => by simp [td116] at h), (fun x h => by cases h; kernel_rfl), (fun z h => by cases h; kernel_rfl), (fun z h u hu => by cases h; simp at hu; rcases hu with rfl <;> rfl), (fun x h => by cases h), (by intro h; cases h)⟩
def td118 : TyD := { agg := some 7, fld := [0, 6], pl := some [(0, 6), (6, 1)], zero := some [.int .i64 0, .int .i64 0, .int .i64 0, .int .i64 0, .int .i64 0, .int .i64 0, .slice none 0 0] }
theorem tdok118 : TyOk Tryz.prog 118 td118 := ⟨(by intro h; cases h), (fun n h => by cases h; kernel_rfl), (fun f o h => by
 match f, h with
 | 0, h => exact (show fldO Tryz.prog 118 0 = some 0 by kernel_rfl).trans h
 | 1, h => exact (show fldO Tryz.prog 118 1 = some 6 by kernel_rfl).trans h
 | f + 2, h => simp [td118] at h), (fun x h => by cases h), (fun z h => by cases h; kernel_rfl), (fun z h u hu => by cases h; simp at hu; rcases hu with rfl | rfl | rfl | rfl | rfl | rfl | rfl <;> rfl), (fun x h => by cases h; kernel_rfl), (by intro h; cases h)⟩
def td120 : TyD := { scal := true, sl := some (285, 3, 24), zero := some [.slice none 0 0] }
theorem tdok120 : TyOk Tryz.prog 120 td120 := ⟨(fun _ => by kernel_rfl), (fun n h => by cases h), (fun f o h => by simp [td120] at h), (fun x h => by cases h; kernel_rfl), (fun z h => by cases h; kernel_rfl), (fun z h u hu => by cases h; simp at hu; rcases hu with rfl <;> rfl), (fun x h => by cases h), (by intro h; cases h)⟩
def td131 : TyD := { agg := some 2, fld := [0, 1], pl := some [(0, 1), (1, 1)], zero := some [.int .i64 0, .int .i64 0] }
theorem tdok131 : TyOk Tryz.prog 131 td131 := ⟨(by intro h; cases h), (fun n h => by cases h; kernel_rfl), (fun f o h => by
 match f, h with
 | 0, h => exact (show fldO Tryz.prog 131 0 = some 0 by kernel_rfl).trans h
 | 1, h => exact (show fldO Tryz.prog 131 1 = some 1 by kernel_rfl).trans h
 | f + 2, h => simp [td131] at h), (fun x h => by cases h), (fun z h => by cases h; kernel_rfl), (fun z h u hu => by cases h; simp at hu; rcases hu with rfl | rfl <;> rfl), (fun x h => by cases h; kernel_rfl), (by intro h; cases h)⟩
def td132 : TyD := { scal := true, sl := some (150, 3, 24), zero := some [.slice none 0 0] }
theorem tdok132 : TyOk Tryz.prog 132 td132 := ⟨(fun _ => by kernel_rfl), (fun n h => by cases h), (fun f o h => by simp [td132] at h), (fun x h => by cases h; kernel_rfl), (fun z h => by cases h; kernel_rfl), (fun z h u hu => by cases h; simp at hu; rcases hu with rfl <;> rfl), (fun x h => by cases h), (by intro h; cases h)⟩
def td134 : TyD := { agg := some 4, fld := [0, 2, 3], pl := some [(0, 2), (2, 1), (3, 1)], zero := some [.int .i64 0, .int .i64 0, .slice none 0 0, .slice none 0 0] }
theorem tdok134 : TyOk Tryz.prog 134 td134 := ⟨(by intro h; cases h), (fun n h => by cases h; kernel_rfl), (fun f o h => by
 match f, h with
 | 0, h => exact (show fldO Tryz.prog 134 0 = some 0 by kernel_rfl).trans h
 | 1, h => exact (show fldO Tryz.prog 134 1 = some 2 by kernel_rfl).trans h
 | 2, h => exact (show fldO Tryz.prog 134 2 = some 3 by kernel_rfl).trans h
 | f + 3, h => simp [td134] at h), (fun x h => by cases h), (fun z h => by cases h; kernel_rfl), (fun z h u hu => by cases h; simp at hu; rcases hu with rfl | rfl | rfl | rfl <;> rfl), (fun x h => by cases h; kernel_rfl), (by intro h; cases h)⟩
def td137 : TyD := { agg := some 1, fld := [0], pl := some [(0, 1)], zero := some [.slice none 0 0] }
theorem tdok137 : TyOk Tryz.prog 137 td137 := ⟨(by intro h; cases h), (fun n h => by cases h; kernel_rfl), (fun f o h => by
 match f, h with
 | 0, h => exact (show fldO Tryz.prog 137 0 = some 0 by kernel_rfl).trans h
 | f + 1, h => simp [td137] at h), (fun x h => by cases h), (fun z h => by cases h; kernel_rfl), (fun z h u hu => by cases h; simp at hu; rcases hu with rfl <;> rfl), (fun x h => by cases h; kernel_rfl), (by intro h; cases h)⟩
def td139 : TyD := { scal := true, sl := some (144, 2, 16), zero := some [.slice none 0 0] }
theorem tdok139 : TyOk Tryz.prog 139 td139 := ⟨(fun _ => by kernel_rfl), (fun n h => by cases h), (fun f o h => by simp [td139] at h), (fun x h => by cases h; kernel_rfl), (fun z h => by cases h; kernel_rfl), (fun z h u hu => by cases h; simp at hu; rcases hu with rfl <;> rfl), (fun x h => by cases h), (by intro h; cases h)⟩
def td144 : TyD := { agg := some 2, fld := [0, 1], pl := some [(0, 1), (1, 1)], zero := some [.int .i64 0, .int .i64 0] }
theorem tdok144 : TyOk Tryz.prog 144 td144 := ⟨(by intro h; cases h), (fun n h => by cases h; kernel_rfl), (fun f o h => by
 match f, h with
 | 0, h => exact (show fldO Tryz.prog 144 0 = some 0 by kernel_rfl).trans h
 | 1, h => exact (show fldO Tryz.prog 144 1 = some 1 by kernel_rfl).trans h
 | f + 2, h => simp [td144] at h), (fun x h => by cases h), (fun z h => by cases h; kernel_rfl), (fun z h u hu => by cases h; simp at hu; rcases hu with rfl | rfl <;> rfl), (fun x h => by cases h; kernel_rfl), (by intro h; cases h)⟩
def td145 : TyD := { scal := true, sl := some (305, 2, 16), zero := some [.slice none 0 0] }
theorem tdok145 : TyOk Tryz.prog 145 td145 := ⟨(fun _ => by kernel_rfl), (fun n h => by cases h), (fun f o h => by simp [td145] at h), (fun x h => by cases h; kernel_rfl), (fun z h => by cases h; kernel_rfl), (fun z h u hu => by cases h; simp at hu; rcases hu with rfl <;> rfl), (fun x h => by cases h), (by intro h; cases h)⟩
def td150 : TyD := { agg := some 3, fld := [0, 2], pl := some [(0, 2), (2, 1)], zero := some [.int .i64 0, .int .i64 0, .int .i64 0] }
theorem tdok150 : TyOk Tryz.prog 150 td150 := ⟨(by intro h; cases h), (fun n h => by cases h; kernel_rfl), (fun f o h => by
 match f, h with
 | 0, h => exact (show fldO Tryz.prog 150 0 = some 0 by kernel_rfl).trans h
 | 1, h => exact (show fldO Tryz.prog 150 1 = some 2 by kernel_rfl).trans h
 | f + 2, h => simp [td150] at h), (fun x h => by cases h), (fun z h => by cases h; kernel_rfl), (fun z h u hu => by cases h; simp at hu; rcases hu with rfl | rfl | rfl <;> rfl), (fun x h => by cases h; kernel_rfl), (by intro h; cases h)⟩
def td160 : TyD := { scal := true, sl := some (311, 3, 24), zero := some [.slice none 0 0] }
theorem tdok160 : TyOk Tryz.prog 160 td160 := ⟨(fun _ => by kernel_rfl), (fun n h => by cases h), (fun f o h => by simp [td160] at h), (fun x h => by cases h; kernel_rfl), (fun z h => by cases h; kernel_rfl), (fun z h u hu => by cases h; simp at hu; rcases hu with rfl <;> rfl), (fun x h => by cases h), (by intro h; cases h)⟩
def td162 : TyD := { agg := some 3, fld := [0, 1, 2], pl := some [(0, 1), (1, 1), (2, 1)], zero := some [.slice none 0 0, .int .i64 0, .slice none 0 0] }
theorem tdok162 : TyOk Tryz.prog 162 td162 := ⟨(by intro h; cases h), (fun n h => by cases h; kernel_rfl), (fun f o h => by
 match f, h with
 | 0, h => exact (show fldO Tryz.prog 162 0 = some 0 by kernel_rfl).trans h
 | 1, h => exact (show fldO Tryz.prog 162 1 = some 1 by kernel_rfl).trans h
 | 2, h => exact (show fldO Tryz.prog 162 2 = some 2 by kernel_rfl).trans h
 | f + 3, h => simp [td162] at h), (fun x h => by cases h), (fun z h => by cases h; kernel_rfl), (fun z h u hu => by cases h; simp at hu; rcases hu with rfl | rfl | rfl <;> rfl), (fun x h => by cases h; kernel_rfl), (by intro h; cases h)⟩
def td196 : TyD := { scal := true, zero := some [.pointer none] }
theorem tdok196 : TyOk Tryz.prog 196 td196 := ⟨(fun _ => by kernel_rfl), (fun n h => by cases h), (fun f o h => by simp [td196] at h), (fun x h => by cases h), (fun z h => by cases h; kernel_rfl), (fun z h u hu => by cases h; simp at hu; rcases hu with rfl <;> rfl), (fun x h => by cases h), (by intro h; cases h)⟩
def td204 : TyD := { agg := some 2, fld := [0, 1], pl := some [(0, 1), (1, 1)], zero := some [.slice none 0 0, .int .i64 0] }
theorem tdok204 : TyOk Tryz.prog 204 td204 := ⟨(by intro h; cases h), (fun n h => by cases h; kernel_rfl), (fun f o h => by
 match f, h with
 | 0, h => exact (show fldO Tryz.prog 204 0 = some 0 by kernel_rfl).trans h
 | 1, h => exact (show fldO Tryz.prog 204 1 = some 1 by kernel_rfl).trans h
 | f + 2, h => simp [td204] at h), (fun x h => by cases h), (fun z h => by cases h; kernel_rfl), (fun z h u hu => by cases h; simp at hu; rcases hu with rfl | rfl <;> rfl), (fun x h => by cases h; kernel_rfl), (by intro h; cases h)⟩
def td205 : TyD := { scal := true, zero := some [.map none] }
theorem tdok205 : TyOk Tryz.prog 205 td205 := ⟨(fun _ => by kernel_rfl), (fun n h => by cases h), (fun f o h => by simp [td205] at h), (fun x h => by cases h), (fun z h => by cases h; kernel_rfl), (fun z h u hu => by cases h; simp at hu; rcases hu with rfl <;> rfl), (fun x h => by cases h), (by intro h; cases h)⟩
def td207 : TyD := { agg := some 2, fld := [0, 1], pl := some [(0, 1), (1, 1)], zero := some [.slice none 0 0, .map none] }
theorem tdok207 : TyOk Tryz.prog 207 td207 := ⟨(by intro h; cases h), (fun n h => by cases h; kernel_rfl), (fun f o h => by
 match f, h with
 | 0, h => exact (show fldO Tryz.prog 207 0 = some 0 by kernel_rfl).trans h
 | 1, h => exact (show fldO Tryz.prog 207 1 = some 1 by kernel_rfl).trans h
 | f + 2, h => simp [td207] at h), (fun x h => by cases h), (fun z h => by cases h; kernel_rfl), (fun z h u hu => by cases h; simp at hu; rcases hu with rfl | rfl <;> rfl), (fun x h => by cases h; kernel_rfl), (by intro h; cases h)⟩
def td209 : TyD := { agg := some 6, fld := [0, 2], pl := some [(0, 2), (2, 4)], zero := some [.slice none 0 0, .map none, .slice none 0 0, .int .i64 0, .int .i64 0, .int .i64 0] }
theorem tdok209 : TyOk Tryz.prog 209 td209 := ⟨(by intro h; cases h), (fun n h => by cases h; kernel_rfl), (fun f o h => by
 match f, h with
 | 0, h => exact (show fldO Tryz.prog 209 0 = some 0 by kernel_rfl).trans h
 | 1, h => exact (show fldO Tryz.prog 209 1 = some 2 by kernel_rfl).trans h
 | f + 2, h => simp [td209] at h), (fun x h => by cases h), (fun z h => by cases h; kernel_rfl), (fun z h u hu => by cases h; simp at hu; rcases hu with rfl | rfl | rfl | rfl | rfl | rfl <;> rfl), (fun x h => by cases h; kernel_rfl), (by intro h; cases h)⟩
def td233 : TyD := { scal := true, sl := some (86, 1, 24), zero := some [.slice none 0 0] }
theorem tdok233 : TyOk Tryz.prog 233 td233 := ⟨(fun _ => by kernel_rfl), (fun n h => by cases h), (fun f o h => by simp [td233] at h), (fun x h => by cases h; kernel_rfl), (fun z h => by cases h; kernel_rfl), (fun z h u hu => by cases h; simp at hu; rcases hu with rfl <;> rfl), (fun x h => by cases h), (by intro h; cases h)⟩
def td237 : TyD := { scal := true, sl := some (301, 4, 32), zero := some [.slice none 0 0] }
theorem tdok237 : TyOk Tryz.prog 237 td237 := ⟨(fun _ => by kernel_rfl), (fun n h => by cases h), (fun f o h => by simp [td237] at h), (fun x h => by cases h; kernel_rfl), (fun z h => by cases h; kernel_rfl), (fun z h u hu => by cases h; simp at hu; rcases hu with rfl <;> rfl), (fun x h => by cases h), (by intro h; cases h)⟩
def td238 : TyD := { scal := true, sl := some (241, 1, 8), zero := some [.slice none 0 0] }
theorem tdok238 : TyOk Tryz.prog 238 td238 := ⟨(fun _ => by kernel_rfl), (fun n h => by cases h), (fun f o h => by simp [td238] at h), (fun x h => by cases h; kernel_rfl), (fun z h => by cases h; kernel_rfl), (fun z h u hu => by cases h; simp at hu; rcases hu with rfl <;> rfl), (fun x h => by cases h), (by intro h; cases h)⟩
def td240 : TyD := { agg := some 3, fld := [0, 1, 2], pl := some [(0, 1), (1, 1), (2, 1)], zero := some [.slice none 0 0, .slice none 0 0, .slice none 0 0] }
theorem tdok240 : TyOk Tryz.prog 240 td240 := ⟨(by intro h; cases h), (fun n h => by cases h; kernel_rfl), (fun f o h => by
 match f, h with
 | 0, h => exact (show fldO Tryz.prog 240 0 = some 0 by kernel_rfl).trans h
 | 1, h => exact (show fldO Tryz.prog 240 1 = some 1 by kernel_rfl).trans h
 | 2, h => exact (show fldO Tryz.prog 240 2 = some 2 by kernel_rfl).trans h
 | f + 3, h => simp [td240] at h), (fun x h => by cases h), (fun z h => by cases h; kernel_rfl), (fun z h u hu => by cases h; simp at hu; rcases hu with rfl | rfl | rfl <;> rfl), (fun x h => by cases h; kernel_rfl), (by intro h; cases h)⟩
def td241 : TyD := { scal := true, zero := some [.pointer none] }
theorem tdok241 : TyOk Tryz.prog 241 td241 := ⟨(fun _ => by kernel_rfl), (fun n h => by cases h), (fun f o h => by simp [td241] at h), (fun x h => by cases h), (fun z h => by cases h; kernel_rfl), (fun z h u hu => by cases h; simp at hu; rcases hu with rfl <;> rfl), (fun x h => by cases h), (by intro h; cases h)⟩
def td242 : TyD := { scal := true, zero := some [.map none] }
theorem tdok242 : TyOk Tryz.prog 242 td242 := ⟨(fun _ => by kernel_rfl), (fun n h => by cases h), (fun f o h => by simp [td242] at h), (fun x h => by cases h), (fun z h => by cases h; kernel_rfl), (fun z h u hu => by cases h; simp at hu; rcases hu with rfl <;> rfl), (fun x h => by cases h), (by intro h; cases h)⟩
def td244 : TyD := { agg := some 6, fld := [0, 5], pl := some [(0, 5), (5, 1)], zero := some [.string ByteArray.empty, .int .i64 0, .slice none 0 0, .bool false, .slice none 0 0, .map none] }
theorem tdok244 : TyOk Tryz.prog 244 td244 := ⟨(by intro h; cases h), (fun n h => by cases h; kernel_rfl), (fun f o h => by
 match f, h with
 | 0, h => exact (show fldO Tryz.prog 244 0 = some 0 by kernel_rfl).trans h
 | 1, h => exact (show fldO Tryz.prog 244 1 = some 5 by kernel_rfl).trans h
 | f + 2, h => simp [td244] at h), (fun x h => by cases h), (fun z h => by cases h; kernel_rfl), (fun z h u hu => by cases h; simp at hu; rcases hu with rfl | rfl | rfl | rfl | rfl | rfl <;> rfl), (fun x h => by cases h; kernel_rfl), (by intro h; cases h)⟩
def td258 : TyD := { scal := true, sl := some (29, 1, 24), zero := some [.slice none 0 0] }
theorem tdok258 : TyOk Tryz.prog 258 td258 := ⟨(fun _ => by kernel_rfl), (fun n h => by cases h), (fun f o h => by simp [td258] at h), (fun x h => by cases h; kernel_rfl), (fun z h => by cases h; kernel_rfl), (fun z h u hu => by cases h; simp at hu; rcases hu with rfl <;> rfl), (fun x h => by cases h), (by intro h; cases h)⟩
def td263 : TyD := { agg := some 2, fld := [0, 1], pl := some [(0, 1), (1, 1)], zero := some [.int .i64 0, .int .i64 0] }
theorem tdok263 : TyOk Tryz.prog 263 td263 := ⟨(by intro h; cases h), (fun n h => by cases h; kernel_rfl), (fun f o h => by
 match f, h with
 | 0, h => exact (show fldO Tryz.prog 263 0 = some 0 by kernel_rfl).trans h
 | 1, h => exact (show fldO Tryz.prog 263 1 = some 1 by kernel_rfl).trans h
 | f + 2, h => simp [td263] at h), (fun x h => by cases h), (fun z h => by cases h; kernel_rfl), (fun z h u hu => by cases h; simp at hu; rcases hu with rfl | rfl <;> rfl), (fun x h => by cases h; kernel_rfl), (by intro h; cases h)⟩
def td264 : TyD := { scal := true, sl := some (263, 2, 16), zero := some [.slice none 0 0] }
theorem tdok264 : TyOk Tryz.prog 264 td264 := ⟨(fun _ => by kernel_rfl), (fun n h => by cases h), (fun f o h => by simp [td264] at h), (fun x h => by cases h; kernel_rfl), (fun z h => by cases h; kernel_rfl), (fun z h u hu => by cases h; simp at hu; rcases hu with rfl <;> rfl), (fun x h => by cases h), (by intro h; cases h)⟩
def td271 : TyD := { agg := some 4, fld := [0, 3], pl := some [(0, 3), (3, 1)], zero := some [.slice none 0 0, .int .i64 0, .slice none 0 0, .slice none 0 0] }
theorem tdok271 : TyOk Tryz.prog 271 td271 := ⟨(by intro h; cases h), (fun n h => by cases h; kernel_rfl), (fun f o h => by
 match f, h with
 | 0, h => exact (show fldO Tryz.prog 271 0 = some 0 by kernel_rfl).trans h
 | 1, h => exact (show fldO Tryz.prog 271 1 = some 3 by kernel_rfl).trans h
 | f + 2, h => simp [td271] at h), (fun x h => by cases h), (fun z h => by cases h; kernel_rfl), (fun z h u hu => by cases h; simp at hu; rcases hu with rfl | rfl | rfl | rfl <;> rfl), (fun x h => by cases h; kernel_rfl), (by intro h; cases h)⟩
def td274 : TyD := { agg := some 7, fld := [0, 1, 3, 5], pl := some [(0, 1), (1, 2), (3, 2), (5, 2)], zero := some [.string ByteArray.empty, .int .i64 0, .int .i64 0, .int .i64 0, .int .i64 0, .int .i64 0, .int .i64 0] }
theorem tdok274 : TyOk Tryz.prog 274 td274 := ⟨(by intro h; cases h), (fun n h => by cases h; kernel_rfl), (fun f o h => by
 match f, h with
 | 0, h => exact (show fldO Tryz.prog 274 0 = some 0 by kernel_rfl).trans h
 | 1, h => exact (show fldO Tryz.prog 274 1 = some 1 by kernel_rfl).trans h
 | 2, h => exact (show fldO Tryz.prog 274 2 = some 3 by kernel_rfl).trans h
 | 3, h => exact (show fldO Tryz.prog 274 3 = some 5 by kernel_rfl).trans h
 | f + 4, h => simp [td274] at h), (fun x h => by cases h), (fun z h => by cases h; kernel_rfl), (fun z h u hu => by cases h; simp at hu; rcases hu with rfl | rfl | rfl | rfl | rfl | rfl | rfl <;> rfl), (fun x h => by cases h; kernel_rfl), (by intro h; cases h)⟩
def td275 : TyD := { scal := true, sl := some (274, 7, 64), zero := some [.slice none 0 0] }
theorem tdok275 : TyOk Tryz.prog 275 td275 := ⟨(fun _ => by kernel_rfl), (fun n h => by cases h), (fun f o h => by simp [td275] at h), (fun x h => by cases h; kernel_rfl), (fun z h => by cases h; kernel_rfl), (fun z h u hu => by cases h; simp at hu; rcases hu with rfl <;> rfl), (fun x h => by cases h), (by intro h; cases h)⟩
def td278 : TyD := { agg := some 3, fld := [0, 1, 2], pl := some [(0, 1), (1, 1), (2, 1)], zero := some [.slice none 0 0, .slice none 0 0, .int .i64 0] }
theorem tdok278 : TyOk Tryz.prog 278 td278 := ⟨(by intro h; cases h), (fun n h => by cases h; kernel_rfl), (fun f o h => by
 match f, h with
 | 0, h => exact (show fldO Tryz.prog 278 0 = some 0 by kernel_rfl).trans h
 | 1, h => exact (show fldO Tryz.prog 278 1 = some 1 by kernel_rfl).trans h
 | 2, h => exact (show fldO Tryz.prog 278 2 = some 2 by kernel_rfl).trans h
 | f + 3, h => simp [td278] at h), (fun x h => by cases h), (fun z h => by cases h; kernel_rfl), (fun z h u hu => by cases h; simp at hu; rcases hu with rfl | rfl | rfl <;> rfl), (fun x h => by cases h; kernel_rfl), (by intro h; cases h)⟩
def td285 : TyD := { agg := some 3, fld := [0, 1, 2], pl := some [(0, 1), (1, 1), (2, 1)], zero := some [.int .i64 0, .int .i64 0, .int .i64 0] }
theorem tdok285 : TyOk Tryz.prog 285 td285 := ⟨(by intro h; cases h), (fun n h => by cases h; kernel_rfl), (fun f o h => by
 match f, h with
 | 0, h => exact (show fldO Tryz.prog 285 0 = some 0 by kernel_rfl).trans h
 | 1, h => exact (show fldO Tryz.prog 285 1 = some 1 by kernel_rfl).trans h
 | 2, h => exact (show fldO Tryz.prog 285 2 = some 2 by kernel_rfl).trans h
 | f + 3, h => simp [td285] at h), (fun x h => by cases h), (fun z h => by cases h; kernel_rfl), (fun z h u hu => by cases h; simp at hu; rcases hu with rfl | rfl | rfl <;> rfl), (fun x h => by cases h; kernel_rfl), (by intro h; cases h)⟩
def td287 : TyD := { agg := some 5, fld := [0, 3], pl := some [(0, 3), (3, 2)], zero := some [.int .i64 0, .int .i64 0, .int .i64 0, .int .i64 0, .int .i64 0] }
theorem tdok287 : TyOk Tryz.prog 287 td287 := ⟨(by intro h; cases h), (fun n h => by cases h; kernel_rfl), (fun f o h => by
 match f, h with
 | 0, h => exact (show fldO Tryz.prog 287 0 = some 0 by kernel_rfl).trans h
 | 1, h => exact (show fldO Tryz.prog 287 1 = some 3 by kernel_rfl).trans h
 | f + 2, h => simp [td287] at h), (fun x h => by cases h), (fun z h => by cases h; kernel_rfl), (fun z h u hu => by cases h; simp at hu; rcases hu with rfl | rfl | rfl | rfl | rfl <;> rfl), (fun x h => by cases h; kernel_rfl), (by intro h; cases h)⟩
def td301 : TyD := { agg := some 4, fld := [0, 1, 2, 3], pl := some [(0, 1), (1, 1), (2, 1), (3, 1)], zero := some [.int .i64 0, .int .i64 0, .int .i64 0, .int .i64 0] }
theorem tdok301 : TyOk Tryz.prog 301 td301 := ⟨(by intro h; cases h), (fun n h => by cases h; kernel_rfl), (fun f o h => by
 match f, h with
 | 0, h => exact (show fldO Tryz.prog 301 0 = some 0 by kernel_rfl).trans h
 | 1, h => exact (show fldO Tryz.prog 301 1 = some 1 by kernel_rfl).trans h
 | 2, h => exact (show fldO Tryz.prog 301 2 = some 2 by kernel_rfl).trans h
 | 3, h => exact (show fldO Tryz.prog 301 3 = some 3 by kernel_rfl).trans h
 | f + 4, h => simp [td301] at h), (fun x h => by cases h), (fun z h => by cases h; kernel_rfl), (fun z h u hu => by cases h; simp at hu; rcases hu with rfl | rfl | rfl | rfl <;> rfl), (fun x h => by cases h; kernel_rfl), (by intro h; cases h)⟩
def td305 : TyD := { agg := some 2, zero := some [.int .i64 0, .int .i64 0] }
theorem tdok305 : TyOk Tryz.prog 305 td305 := ⟨(by intro h; cases h), (fun n h => by cases h; kernel_rfl), (fun f o h => by simp [td305] at h), (fun x h => by cases h), (fun z h => by cases h; kernel_rfl), (fun z h u hu => by cases h; simp at hu; rcases hu with rfl | rfl <;> rfl), (fun x h => by cases h), (by intro h; cases h)⟩
def td311 : TyD := { agg := some 3, fld := [0, 1, 2], pl := some [(0, 1), (1, 1), (2, 1)], zero := some [.int .i64 0, .int .i64 0, .int .i64 0] }
theorem tdok311 : TyOk Tryz.prog 311 td311 := ⟨(by intro h; cases h), (fun n h => by cases h; kernel_rfl), (fun f o h => by
 match f, h with
 | 0, h => exact (show fldO Tryz.prog 311 0 = some 0 by kernel_rfl).trans h
 | 1, h => exact (show fldO Tryz.prog 311 1 = some 1 by kernel_rfl).trans h
 | 2, h => exact (show fldO Tryz.prog 311 2 = some 2 by kernel_rfl).trans h
 | f + 3, h => simp [td311] at h), (fun x h => by cases h), (fun z h => by cases h; kernel_rfl), (fun z h u hu => by cases h; simp at hu; rcases hu with rfl | rfl | rfl <;> rfl), (fun x h => by cases h; kernel_rfl), (by intro h; cases h)⟩
def td320 : TyD := { scal := true, sl := some (326, 3, 24), zero := some [.slice none 0 0] }
theorem tdok320 : TyOk Tryz.prog 320 td320 := ⟨(fun _ => by kernel_rfl), (fun n h => by cases h), (fun f o h => by simp [td320] at h), (fun x h => by cases h; kernel_rfl), (fun z h => by cases h; kernel_rfl), (fun z h u hu => by cases h; simp at hu; rcases hu with rfl <;> rfl), (fun x h => by cases h), (by intro h; cases h)⟩
def td326 : TyD := { agg := some 3, fld := [0, 1], pl := some [(0, 1), (1, 2)], zero := some [.int .i64 0, .int .i64 0, .int .i64 0] }
theorem tdok326 : TyOk Tryz.prog 326 td326 := ⟨(by intro h; cases h), (fun n h => by cases h; kernel_rfl), (fun f o h => by
 match f, h with
 | 0, h => exact (show fldO Tryz.prog 326 0 = some 0 by kernel_rfl).trans h
 | 1, h => exact (show fldO Tryz.prog 326 1 = some 1 by kernel_rfl).trans h
 | f + 2, h => simp [td326] at h), (fun x h => by cases h), (fun z h => by cases h; kernel_rfl), (fun z h u hu => by cases h; simp at hu; rcases hu with rfl | rfl | rfl <;> rfl), (fun x h => by cases h; kernel_rfl), (by intro h; cases h)⟩
def td329 : TyD := { scal := true, sl := some (405, 4, 32), zero := some [.slice none 0 0] }
theorem tdok329 : TyOk Tryz.prog 329 td329 := ⟨(fun _ => by kernel_rfl), (fun n h => by cases h), (fun f o h => by simp [td329] at h), (fun x h => by cases h; kernel_rfl), (fun z h => by cases h; kernel_rfl), (fun z h u hu => by cases h; simp at hu; rcases hu with rfl <;> rfl), (fun x h => by cases h), (by intro h; cases h)⟩
def td332 : TyD := { agg := some 5, fld := [0, 1, 2, 3, 4], pl := some [(0, 1), (1, 1), (2, 1), (3, 1), (4, 1)], zero := some [.int .i64 0, .int .i64 0, .int .i64 0, .int .i64 0, .int .i64 0] }
theorem tdok332 : TyOk Tryz.prog 332 td332 := ⟨(by intro h; cases h), (fun n h => by cases h; kernel_rfl), (fun f o h => by
 match f, h with
 | 0, h => exact (show fldO Tryz.prog 332 0 = some 0 by kernel_rfl).trans h
 | 1, h => exact (show fldO Tryz.prog 332 1 = some 1 by kernel_rfl).trans h
 | 2, h => exact (show fldO Tryz.prog 332 2 = some 2 by kernel_rfl).trans h
 | 3, h => exact (show fldO Tryz.prog 332 3 = some 3 by kernel_rfl).trans h
 | 4, h => exact (show fldO Tryz.prog 332 4 = some 4 by kernel_rfl).trans h
 | f + 5, h => simp [td332] at h), (fun x h => by cases h), (fun z h => by cases h; kernel_rfl), (fun z h u hu => by cases h; simp at hu; rcases hu with rfl | rfl | rfl | rfl | rfl <;> rfl), (fun x h => by cases h; kernel_rfl), (by intro h; cases h)⟩
def td336 : TyD := { scal := true, sl := some (196, 1, 8), zero := some [.slice none 0 0] }
theorem tdok336 : TyOk Tryz.prog 336 td336 := ⟨(fun _ => by kernel_rfl), (fun n h => by cases h), (fun f o h => by simp [td336] at h), (fun x h => by cases h; kernel_rfl), (fun z h => by cases h; kernel_rfl), (fun z h u hu => by cases h; simp at hu; rcases hu with rfl <;> rfl), (fun x h => by cases h), (by intro h; cases h)⟩
def td338 : TyD := { scal := true, zero := some [.nilIface] }
theorem tdok338 : TyOk Tryz.prog 338 td338 := ⟨(fun _ => by kernel_rfl), (fun n h => by cases h), (fun f o h => by simp [td338] at h), (fun x h => by cases h), (fun z h => by cases h; kernel_rfl), (fun z h u hu => by cases h; simp at hu; rcases hu with rfl <;> rfl), (fun x h => by cases h), (by intro h; cases h)⟩
def td341 : TyD := { scal := true, sl := some (45, 1, 8), zero := some [.slice none 0 0] }
theorem tdok341 : TyOk Tryz.prog 341 td341 := ⟨(fun _ => by kernel_rfl), (fun n h => by cases h), (fun f o h => by simp [td341] at h), (fun x h => by cases h; kernel_rfl), (fun z h => by cases h; kernel_rfl), (fun z h u hu => by cases h; simp at hu; rcases hu with rfl <;> rfl), (fun x h => by cases h), (by intro h; cases h)⟩
def td362 : TyD := { scal := true, sl := some (5, 1, 1), zero := some [.slice none 0 0] }
theorem tdok362 : TyOk Tryz.prog 362 td362 := ⟨(fun _ => by kernel_rfl), (fun n h => by cases h), (fun f o h => by simp [td362] at h), (fun x h => by cases h; kernel_rfl), (fun z h => by cases h; kernel_rfl), (fun z h u hu => by cases h; simp at hu; rcases hu with rfl <;> rfl), (fun x h => by cases h), (by intro h; cases h)⟩
def td367 : TyD := { scal := true, zero := some [.map none] }
theorem tdok367 : TyOk Tryz.prog 367 td367 := ⟨(fun _ => by kernel_rfl), (fun n h => by cases h), (fun f o h => by simp [td367] at h), (fun x h => by cases h), (fun z h => by cases h; kernel_rfl), (fun z h u hu => by cases h; simp at hu; rcases hu with rfl <;> rfl), (fun x h => by cases h), (by intro h; cases h)⟩
def td384 : TyD := { scal := true, zero := some [.int .u64 0] }
theorem tdok384 : TyOk Tryz.prog 384 td384 := ⟨(fun _ => by kernel_rfl), (fun n h => by cases h), (fun f o h => by simp [td384] at h), (fun x h => by cases h), (fun z h => by cases h; kernel_rfl), (fun z h u hu => by cases h; simp at hu; rcases hu with rfl <;> rfl), (fun x h => by cases h), (by intro h; cases h)⟩
def td390 : TyD := { scal := true, zero := some [.pointer none] }
theorem tdok390 : TyOk Tryz.prog 390 td390 := ⟨(fun _ => by kernel_rfl), (fun n h => by cases h), (fun f o h => by simp [td390] at h), (fun x h => by cases h), (fun z h => by cases h; kernel_rfl), (fun z h u hu => by cases h; simp at hu; rcases hu with rfl <;> rfl), (fun x h => by cases h), (by intro h; cases h)⟩
def td392 : TyD := { agg := some 2, fld := [0, 1], pl := some [(0, 1), (1, 1)], zero := some [.pointer none, .slice none 0 0] }
theorem tdok392 : TyOk Tryz.prog 392 td392 := ⟨(by intro h; cases h), (fun n h => by cases h; kernel_rfl), (fun f o h => by
 match f, h with
 | 0, h => exact (show fldO Tryz.prog 392 0 = some 0 by kernel_rfl).trans h
 | 1, h => exact (show fldO Tryz.prog 392 1 = some 1 by kernel_rfl).trans h
 | f + 2, h => simp [td392] at h), (fun x h => by cases h), (fun z h => by cases h; kernel_rfl), (fun z h u hu => by cases h; simp at hu; rcases hu with rfl | rfl <;> rfl), (fun x h => by cases h; kernel_rfl), (by intro h; cases h)⟩
def td405 : TyD := { agg := some 4, fld := [0, 1, 2, 3], pl := some [(0, 1), (1, 1), (2, 1), (3, 1)], zero := some [.int .i64 0, .int .i64 0, .int .i64 0, .int .i64 0] }
theorem tdok405 : TyOk Tryz.prog 405 td405 := ⟨(by intro h; cases h), (fun n h => by cases h; kernel_rfl), (fun f o h => by
 match f, h with
 | 0, h => exact (show fldO Tryz.prog 405 0 = some 0 by kernel_rfl).trans h
 | 1, h => exact (show fldO Tryz.prog 405 1 = some 1 by kernel_rfl).trans h
 | 2, h => exact (show fldO Tryz.prog 405 2 = some 2 by kernel_rfl).trans h
 | 3, h => exact (show fldO Tryz.prog 405 3 = some 3 by kernel_rfl).trans h
 | f + 4, h => simp [td405] at h), (fun x h => by cases h), (fun z h => by cases h; kernel_rfl), (fun z h u hu => by cases h; simp at hu; rcases hu with rfl | rfl | rfl | rfl <;> rfl), (fun x h => by cases h; kernel_rfl), (by intro h; cases h)⟩
def td411 : TyD := { agg := some 2, fld := [0, 1], pl := some [(0, 1), (1, 1)], zero := some [.int .i64 0, .int .i64 0] }
theorem tdok411 : TyOk Tryz.prog 411 td411 := ⟨(by intro h; cases h), (fun n h => by cases h; kernel_rfl), (fun f o h => by
 match f, h with
 | 0, h => exact (show fldO Tryz.prog 411 0 = some 0 by kernel_rfl).trans h
 | 1, h => exact (show fldO Tryz.prog 411 1 = some 1 by kernel_rfl).trans h
 | f + 2, h => simp [td411] at h), (fun x h => by cases h), (fun z h => by cases h; kernel_rfl), (fun z h u hu => by cases h; simp at hu; rcases hu with rfl | rfl <;> rfl), (fun x h => by cases h; kernel_rfl), (by intro h; cases h)⟩
def td433 : TyD := { agg := some 8, zero := some [.int .i64 0, .int .i64 0, .int .i64 0, .int .i64 0, .int .i64 0, .int .i64 0, .int .i64 0, .int .i64 0] }
theorem tdok433 : TyOk Tryz.prog 433 td433 := ⟨(by intro h; cases h), (fun n h => by cases h; kernel_rfl), (fun f o h => by simp [td433] at h), (fun x h => by cases h), (fun z h => by cases h; kernel_rfl), (fun z h u hu => by cases h; simp at hu; rcases hu with rfl | rfl | rfl | rfl | rfl | rfl | rfl | rfl <;> rfl), (fun x h => by cases h), (by intro h; cases h)⟩
def td436 : TyD := { scal := true, sl := some (441, 2, 48), zero := some [.slice none 0 0] }
theorem tdok436 : TyOk Tryz.prog 436 td436 := ⟨(fun _ => by kernel_rfl), (fun n h => by cases h), (fun f o h => by simp [td436] at h), (fun x h => by cases h; kernel_rfl), (fun z h => by cases h; kernel_rfl), (fun z h u hu => by cases h; simp at hu; rcases hu with rfl <;> rfl), (fun x h => by cases h), (by intro h; cases h)⟩
def td439 : TyD := { scal := true, sl := some (4, 1, 1), zero := some [.slice none 0 0] }
theorem tdok439 : TyOk Tryz.prog 439 td439 := ⟨(fun _ => by kernel_rfl), (fun n h => by cases h), (fun f o h => by simp [td439] at h), (fun x h => by cases h; kernel_rfl), (fun z h => by cases h; kernel_rfl), (fun z h u hu => by cases h; simp at hu; rcases hu with rfl <;> rfl), (fun x h => by cases h), (by intro h; cases h)⟩
def td441 : TyD := { agg := some 2, fld := [0, 1], pl := some [(0, 1), (1, 1)], zero := some [.slice none 0 0, .slice none 0 0] }
theorem tdok441 : TyOk Tryz.prog 441 td441 := ⟨(by intro h; cases h), (fun n h => by cases h; kernel_rfl), (fun f o h => by
 match f, h with
 | 0, h => exact (show fldO Tryz.prog 441 0 = some 0 by kernel_rfl).trans h
 | 1, h => exact (show fldO Tryz.prog 441 1 = some 1 by kernel_rfl).trans h
 | f + 2, h => simp [td441] at h), (fun x h => by cases h), (fun z h => by cases h; kernel_rfl), (fun z h u hu => by cases h; simp at hu; rcases hu with rfl | rfl <;> rfl), (fun x h => by cases h; kernel_rfl), (by intro h; cases h)⟩
def td446 : TyD := { scal := true, zero := some [.int .i64 0] }
theorem tdok446 : TyOk Tryz.prog 446 td446 := ⟨(fun _ => by kernel_rfl), (fun n h => by cases h), (fun f o h => by simp [td446] at h), (fun x h => by cases h), (fun z h => by cases h; kernel_rfl), (fun z h u hu => by cases h; simp at hu; rcases hu with rfl <;> rfl), (fun x h => by cases h), (by intro h; cases h)⟩
def td453 : TyD := { scal := true, zero := some [.int .u32 0] }
theorem tdok453 : TyOk Tryz.prog 453 td453 := ⟨(fun _ => by kernel_rfl), (fun n h => by cases h), (fun f o h => by simp [td453] at h), (fun x h => by cases h), (fun z h => by cases h; kernel_rfl), (fun z h u hu => by cases h; simp at hu; rcases hu with rfl <;> rfl), (fun x h => by cases h), (by intro h; cases h)⟩
def td455 : TyD := { scal := true, zero := some [.int .u64 0] }
theorem tdok455 : TyOk Tryz.prog 455 td455 := ⟨(fun _ => by kernel_rfl), (fun n h => by cases h), (fun f o h => by simp [td455] at h), (fun x h => by cases h), (fun z h => by cases h; kernel_rfl), (fun z h u hu => by cases h; simp at hu; rcases hu with rfl <;> rfl), (fun x h => by cases h), (by intro h; cases h)⟩
def td469 : TyD := { scal := true, sl := some (28, 1, 24), zero := some [.slice none 0 0] }
theorem tdok469 : TyOk Tryz.prog 469 td469 := ⟨(fun _ => by kernel_rfl), (fun n h => by cases h), (fun f o h => by simp [td469] at h), (fun x h => by cases h; kernel_rfl), (fun z h => by cases h; kernel_rfl), (fun z h u hu => by cases h; simp at hu; rcases hu with rfl <;> rfl), (fun x h => by cases h), (by intro h; cases h)⟩
def td471 : TyD := { scal := true, zero := some [.int .i64 0] }
theorem tdok471 : TyOk Tryz.prog 471 td471 := ⟨(fun _ => by kernel_rfl), (fun n h => by cases h), (fun f o h => by simp [td471] at h), (fun x h => by cases h), (fun z h => by cases h; kernel_rfl), (fun z h u hu => by cases h; simp at hu; rcases hu with rfl <;> rfl), (fun x h => by cases h), (by intro h; cases h)⟩
def td474 : TyD := { scal := true, zero := some [.pointer none] }
theorem tdok474 : TyOk Tryz.prog 474 td474 := ⟨(fun _ => by kernel_rfl), (fun n h => by cases h), (fun f o h => by simp [td474] at h), (fun x h => by cases h), (fun z h => by cases h; kernel_rfl), (fun z h u hu => by cases h; simp at hu; rcases hu with rfl <;> rfl), (fun x h => by cases h), (by intro h; cases h)⟩
def td501 : TyD := { scal := true, zero := some [.int .u64 0] }
theorem tdok501 : TyOk Tryz.prog 501 td501 := ⟨(fun _ => by kernel_rfl), (fun n h => by cases h), (fun f o h => by simp [td501] at h), (fun x h => by cases h), (fun z h => by cases h; kernel_rfl), (fun z h u hu => by cases h; simp at hu; rcases hu with rfl <;> rfl), (fun x h => by cases h), (by intro h; cases h)⟩
def td508 : TyD := { zero := some [.pointer none] }
theorem tdok508 : TyOk Tryz.prog 508 td508 := ⟨(by intro h; cases h), (fun n h => by cases h), (fun f o h => by simp [td508] at h), (fun x h => by cases h), (fun z h => by cases h; kernel_rfl), (fun z h u hu => by cases h; simp at hu; rcases hu with rfl <;> rfl), (fun x h => by cases h), (by intro h; cases h)⟩
def td516 : TyD := { agg := some 3, fld := [0, 1, 2], pl := some [(0, 1), (1, 1), (2, 1)], zero := some [.string ByteArray.empty, .string ByteArray.empty, .nilIface] }
theorem tdok516 : TyOk Tryz.prog 516 td516 := ⟨(by intro h; cases h), (fun n h => by cases h; kernel_rfl), (fun f o h => by
 match f, h with
 | 0, h => exact (show fldO Tryz.prog 516 0 = some 0 by kernel_rfl).trans h
 | 1, h => exact (show fldO Tryz.prog 516 1 = some 1 by kernel_rfl).trans h
 | 2, h => exact (show fldO Tryz.prog 516 2 = some 2 by kernel_rfl).trans h
 | f + 3, h => simp [td516] at h), (fun x h => by cases h), (fun z h => by cases h; kernel_rfl), (fun z h u hu => by cases h; simp at hu; rcases hu with rfl | rfl | rfl <;> rfl), (fun x h => by cases h; kernel_rfl), (by intro h; cases h)⟩
def td518 : TyD := { agg := some 24, zero := some [.int .u8 0, .int .u8 0, .int .u8 0, .int .u8 0, .int .u8 0, .int .u8 0, .int .u8 0, .int .u8 0, .int .u8 0, .int .u8 0, .int .u8 0, .int .u8 0, .int .u8 0, .int .u8 0, .int .u8 0, .int .u8 0, .int .u8 0, .int .u8 0, .int .u8 0, .int .u8 0, .int .u8 0, .int .u8 0, .int .u8 0, .int .u8 0] }
theorem tdok518 : TyOk Tryz.prog 518 td518 := ⟨(by intro h; cases h), (fun n h => by cases h; kernel_rfl), (fun f o h => by simp [td518] at h), (fun x h => by cases h), (fun z h => by cases h; kernel_rfl), (fun z h u hu => by cases h; simp at hu; rcases hu with rfl | rfl | rfl | rfl | rfl | rfl | rfl | rfl | rfl | rfl | rfl | rfl | rfl | rfl | rfl | rfl | rfl | rfl | rfl | rfl | rfl | rfl | rfl | rfl <;> rfl), (fun x h => by cases h), (by intro h; cases h)⟩
def td539 : TyD := { scal := true, zero := some [.pointer none] }
theorem tdok539 : TyOk Tryz.prog 539 td539 := ⟨(fun _ => by kernel_rfl), (fun n h => by cases h), (fun f o h => by simp [td539] at h), (fun x h => by cases h), (fun z h => by cases h; kernel_rfl), (fun z h u hu => by cases h; simp at hu; rcases hu with rfl <;> rfl), (fun x h => by cases h), (by intro h; cases h)⟩
def td541 : TyD := { agg := some 1, fld := [0], pl := some [(0, 1)], zero := some [.string ByteArray.empty] }
theorem tdok541 : TyOk Tryz.prog 541 td541 := ⟨(by intro h; cases h), (fun n h => by cases h; kernel_rfl), (fun f o h => by
 match f, h with
 | 0, h => exact (show fldO Tryz.prog 541 0 = some 0 by kernel_rfl).trans h
 | f + 1, h => simp [td541] at h), (fun x h => by cases h), (fun z h => by cases h; kernel_rfl), (fun z h u hu => by cases h; simp at hu; rcases hu with rfl <;> rfl), (fun x h => by cases h; kernel_rfl), (by intro h; cases h)⟩
def td543 : TyD := { agg := some 20, zero := some [.int .u64 0, .int .u64 0, .int .u64 0, .int .u64 0, .int .u64 0, .int .u64 0, .int .u64 0, .int .u64 0, .int .u64 0, .int .u64 0, .int .u64 0, .int .u64 0, .int .u64 0, .int .u64 0, .int .u64 0, .int .u64 0, .int .u64 0, .int .u64 0, .int .u64 0, .int .u64 0] }
theorem tdok543 : TyOk Tryz.prog 543 td543 := ⟨(by intro h; cases h), (fun n h => by cases h; kernel_rfl), (fun f o h => by simp [td543] at h), (fun x h => by cases h), (fun z h => by cases h; kernel_rfl), (fun z h u hu => by cases h; simp at hu; rcases hu with rfl | rfl | rfl | rfl | rfl | rfl | rfl | rfl | rfl | rfl | rfl | rfl | rfl | rfl | rfl | rfl | rfl | rfl | rfl | rfl <;> rfl), (fun x h => by cases h), (by intro h; cases h)⟩
def td544 : TyD := { agg := some 65 }
theorem tdok544 : TyOk Tryz.prog 544 td544 := ⟨(by intro h; cases h), (fun n h => by cases h; kernel_rfl), (fun f o h => by simp [td544] at h), (fun x h => by cases h), (fun z h => by cases h), (fun z h => by cases h), (fun x h => by cases h), (by intro h; cases h)⟩
def td549 : TyD := { agg := some 256 }
theorem tdok549 : TyOk Tryz.prog 549 td549 := ⟨(by intro h; cases h), (fun n h => by cases h; kernel_rfl), (fun f o h => by simp [td549] at h), (fun x h => by cases h), (fun z h => by cases h), (fun z h => by cases h), (fun x h => by cases h), (by intro h; cases h)⟩
def td551 : TyD := { agg := some 2, fld := [0, 1], pl := some [(0, 1), (1, 1)], zero := some [.int .u8 0, .int .u8 0] }
theorem tdok551 : TyOk Tryz.prog 551 td551 := ⟨(by intro h; cases h), (fun n h => by cases h; kernel_rfl), (fun f o h => by
 match f, h with
 | 0, h => exact (show fldO Tryz.prog 551 0 = some 0 by kernel_rfl).trans h
 | 1, h => exact (show fldO Tryz.prog 551 1 = some 1 by kernel_rfl).trans h
 | f + 2, h => simp [td551] at h), (fun x h => by cases h), (fun z h => by cases h; kernel_rfl), (fun z h u hu => by cases h; simp at hu; rcases hu with rfl | rfl <;> rfl), (fun x h => by cases h; kernel_rfl), (by intro h; cases h)⟩
def td552 : TyD := { agg := some 32, zero := some [.int .u8 0, .int .u8 0, .int .u8 0, .int .u8 0, .int .u8 0, .int .u8 0, .int .u8 0, .int .u8 0, .int .u8 0, .int .u8 0, .int .u8 0, .int .u8 0, .int .u8 0, .int .u8 0, .int .u8 0, .int .u8 0, .int .u8 0, .int .u8 0, .int .u8 0, .int .u8 0, .int .u8 0, .int .u8 0, .int .u8 0, .int .u8 0, .int .u8 0, .int .u8 0, .int .u8 0, .int .u8 0, .int .u8 0, .int .u8 0, .int .u8 0, .int .u8 0] }
theorem tdok552 : TyOk Tryz.prog 552 td552 := ⟨(by intro h; cases h), (fun n h => by cases h; kernel_rfl), (fun f o h => by simp [td552] at h), (fun x h => by cases h), (fun z h => by cases h; kernel_rfl), (fun z h u hu => by cases h; simp at hu; rcases hu with rfl | rfl | rfl | rfl | rfl | rfl | rfl | rfl | rfl | rfl | rfl | rfl | rfl | rfl | rfl | rfl | rfl | rfl | rfl | rfl | rfl | rfl | rfl | rfl | rfl | rfl | rfl | rfl | rfl | rfl | rfl | rfl <;> rfl), (fun x h => by cases h), (by intro h; cases h)⟩
def td557 : TyD := { agg := some 32, zero := some [.int .u8 0, .int .u8 0, .int .u8 0, .int .u8 0, .int .u8 0, .int .u8 0, .int .u8 0, .int .u8 0, .int .u8 0, .int .u8 0, .int .u8 0, .int .u8 0, .int .u8 0, .int .u8 0, .int .u8 0, .int .u8 0, .int .u8 0, .int .u8 0, .int .u8 0, .int .u8 0, .int .u8 0, .int .u8 0, .int .u8 0, .int .u8 0, .int .u8 0, .int .u8 0, .int .u8 0, .int .u8 0, .int .u8 0, .int .u8 0, .int .u8 0, .int .u8 0] }
theorem tdok557 : TyOk Tryz.prog 557 td557 := ⟨(by intro h; cases h), (fun n h => by cases h; kernel_rfl), (fun f o h => by simp [td557] at h), (fun x h => by cases h), (fun z h => by cases h; kernel_rfl), (fun z h u hu => by cases h; simp at hu; rcases hu with rfl | rfl | rfl | rfl | rfl | rfl | rfl | rfl | rfl | rfl | rfl | rfl | rfl | rfl | rfl | rfl | rfl | rfl | rfl | rfl | rfl | rfl | rfl | rfl | rfl | rfl | rfl | rfl | rfl | rfl | rfl | rfl <;> rfl), (fun x h => by cases h), (by intro h; cases h)⟩
def td558 : TyD := { agg := some 64 }
theorem tdok558 : TyOk Tryz.prog 558 td558 := ⟨(by intro h; cases h), (fun n h => by cases h; kernel_rfl), (fun f o h => by simp [td558] at h), (fun x h => by cases h), (fun z h => by cases h), (fun z h => by cases h), (fun x h => by cases h), (by intro h; cases h)⟩
theorem tdok_none (T : Nat) : TyOk Tryz.prog T {} := ⟨(by intro h; cases h), (fun n h => by cases h), (fun f o h => by simp at h), (fun x h => by cases h), (fun z h => by cases h), (fun z h => by cases h), (fun x h => by cases h), (by intro h; cases h)⟩
def tyT : Nat -> TyD
 | 2 => td2
 | 3 => td3
 | 4 => td4
 | 5 => td5
 | 9 => td9
 | 21 => td21
 | 22 => td22
 | 24 => td24
 | 25 => td25
 | 27 => td27
 | 28 => td28
 | 29 => td29
 | 30 => td30
 | 32 => td32
 | 34 => td34
 | 36 => td36
 | 41 => td41
 | 44 => td44
 | 45 => td45
 | 50 => td50
 | 57 => td57
 | 59 => td59
 | 69 => td69
 | 70 => td70
 | 72 => td72
 | 79 => td79
 | 80 => td80
 | 83 => td83
 | 85 => td85
 | 86 => td86
 | 91 => td91
 | 95 => td95
 | 101 => td101
 | 106 => td106
 | 115 => td115
 | 116 => td116
 | 118 => td118
 | 120 => td120
 | 131 => td131
 | 132 => td132
 | 134 => td134
 | 137 => td137
 | 139 => td139
 | 144 => td144
 | 145 => td145
 | 150 => td150
 | 160 => td160
 | 162 => td162
 | 196 => td196
 | 204 => td204
 | 205 => td205
 | 207 => td207
 | 209 => td209
 | 233 => td233
 | 237 => td237
 | 238 => td238
 | 240 => td240
 | 241 => td241
 | 242 => td242
 | 244 => td244
 | 258 => td258
 | 263 => td263
 | 264 => td264
 | 271 => td271
 | 274 => td274
 | 275 => td275
 | 278 => td278
 | 285 => td285
 | 287 => td287
 | 301 => td301
 | 305 => td305
 | 311 => td311
 | 320 => td320
 | 326 => td326
 | 329 => td329
 | 332 => td332
 | 336 => td336
 | 338 => td338
 | 341 => td341
 | 362 => td362
 | 367 => td367
 | 384 => td384
 | 390 => td390
 | 392 => td392
 | 405 => td405
 | 411 => td411
 | 433 => td433
 | 436 => td436
 | 439 => td439
 | 441 => td441
 | 446 => td446
 | 453 => td453
 | 455 => td455
 | 469 => td469
 | 471 => td471
 | 474 => td474
 | 501 => td501
 | 508 => td508
 | 516 => td516
 | 518 => td518
 | 539 => td539
 | 541 => td541
 | 543 => td543
 | 544 => td544
 | 549 => td549
 | 551 => td551
 | 552 => td552
 | 557 => td557
 | 558 => td558
 | _ => {}
theorem tyT_ok (T : Nat) : TyOk Tryz.prog T (tyT T) := by
 unfold tyT
 split
 · exact tdok2
 · exact tdok3
 · exact tdok4
 · exact tdok5
 · exact tdok9
 · exact tdok21
 · exact tdok22
 · exact tdok24
 · exact tdok25
 · exact tdok27
 · exact tdok28
 · exact tdok29
 · exact tdok30
 · exact tdok32
 · exact tdok34
 · exact tdok36
 · exact tdok41
 · exact tdok44
 · exact tdok45
 · exact tdok50
 · exact tdok57
 · exact tdok59
 · exact tdok69
 · exact tdok70
 · exact tdok72
 · exact tdok79
 · exact tdok80
 · exact tdok83
 · exact tdok85
 · exact tdok86
 · exact tdok91
 · exact tdok95
 · exact tdok101
 · exact tdok106
 · exact tdok115
 · exact tdok116
 · exact tdok118
 · exact tdok120
 · exact tdok131
 · exact tdok132
 · exact tdok134
 · exact tdok137
 · exact tdok139
 · exact tdok144
 · exact tdok145
 · exact tdok150
 · exact tdok160
 · exact tdok162
 · exact tdok196
 · exact tdok204
 · exact tdok205
 · exact tdok207
 · exact tdok209
 · exact tdok233
 · exact tdok237
 · exact tdok238
 · exact tdok240
 · exact tdok241
 · exact tdok242
 · exact tdok244
 · exact tdok258
 · exact tdok263
 · exact tdok264
 · exact tdok271
 · exact tdok274
 · exact tdok275
 · exact tdok278
 · exact tdok285
 · exact tdok287
 · exact tdok301
 · exact tdok305
 · exact tdok311
 · exact tdok320
 · exact tdok326
 · exact tdok329
 · exact tdok332
 · exact tdok336
 · exact tdok338
 · exact tdok341
 · exact tdok362
 · exact tdok367
 · exact tdok384
 · exact tdok390
 · exact tdok392
 · exact tdok405
 · exact tdok411
 · exact tdok433
 · exact tdok436
 · exact tdok439
 · exact tdok441
 · exact tdok446
 · exact tdok453
 · exact tdok455
 · exact tdok469
 · exact tdok471
 · exact tdok474
 · exact tdok501
 · exact tdok508
 · exact tdok516
 · exact tdok518
 · exact tdok539
 · exact tdok541
 · exact tdok543
 · exact tdok544
 · exact tdok549
 · exact tdok551
 · exact tdok552
 · exact tdok557
 · exact tdok558
 · exact tdok_none _
def TY : Ty Tryz.prog := ⟨tyT, tyT_ok⟩
theorem bwithin_T (n lo hi : Int) (h : lo <= n /\ n <= hi) : Summ Tryz.prog GG 40 [iv n, iv lo, iv hi] (.v (.bool true)) := by
 obtain ⟨h1, h2⟩ := h
 refine summW Tryz.func40 rfl rfl 15 rfl (by simp) (fun M0 => ?_)
 repeat (first
 | (apply s_a TY; exact rfl)
 | (apply s_t; exact rfl; assumption)
 | apply w_seq
 | apply w_region
 | apply s_nil
 | apply t_norm
 | apply w_ret)
 exact lv_ret (ret1 rfl (res_tmp rfl))
theorem bwithin_F (n lo hi : Int) (h : ¬ (lo <= n /\ n <= hi)) : Summ Tryz.prog GG 40 [iv n, iv lo, iv hi] (.v (.bool false)) := by
 by_cases h1 : lo <= n
 · have h2 : ¬ n <= hi := fun h2 => h ⟨h1, h2⟩
   refine summW Tryz.func40 rfl rfl 15 rfl (by simp) (fun M0 => ?_)
   repeat (first
 | (apply s_a TY; exact rfl)
 | (apply s_t; exact rfl; assumption)
 | (apply s_f; exact rfl; assumption)
 | apply w_seq
 | apply w_region
 | apply s_nil
 | apply t_norm
 | apply w_ret)
   exact lv_ret (ret1 rfl (res_tmp rfl))
 · refine summW Tryz.func40 rfl rfl 15 rfl (by simp) (fun M0 => ?_)
   repeat (first
 | (apply s_a TY; exact rfl)
 | (apply s_f; exact rfl; assumption)
 | apply w_seq
 | apply w_region
 | apply s_nil
 | apply t_norm
 | apply w_ret
 | (apply s_s; exact rfl))
   exact lv_ret (ret1 rfl (res_tmp rfl))
open Go.Lib (decFrom digitVal decDigits itoa atoiAll parseUint10 parseMag)
theorem digV_lt {b : UInt8} {d : Nat} (h : digitVal b = some d) : d < 10 /\ b = UInt8.ofNat (48 + d) := by
 unfold digitVal at h
 split at h
 · rename_i hb
   have e := Option.some.inj h
   refine ⟨by omega, ?_⟩
   rw [show 48 + d = b.toNat by omega]
   exact (UInt8.ofNat_toNat).symm
 · cases h
theorem digV_of {d : Nat} (h : d < 10) : digitVal (UInt8.ofNat (48 + d)) = some d := by
 unfold digitVal
 have e : (UInt8.ofNat (48 + d)).toNat = 48 + d := by rw [UInt8.toNat_ofNat']; omega
 rw [e, if_pos (by omega)]
 congr 1; omega
theorem decFrom_snoc (c : UInt8) : ∀ (l : List UInt8) (acc : Nat), decFrom acc (l ++ [c]) = (decFrom acc l).bind fun m => (digitVal c).map fun d => m * 10 + d
 | [], acc => by
   rw [List.nil_append, decFrom, decFrom]
   cases digitVal c <;> rfl
 | b :: r, acc => by
   rw [List.cons_append, decFrom, decFrom]
   cases digitVal b with
   | none => rfl
   | some d => exact decFrom_snoc c r _
theorem dec_digits (n : Nat) : decFrom 0 (decDigits n) = some n := by
 induction n using Nat.strongRecOn with
 | _ n ih =>
   rw [decDigits]
   split
   · rename_i h
     rw [decFrom, digV_of h]
     show decFrom (0 * 10 + n) [] = _
     rw [Nat.zero_mul, Nat.zero_add]; rfl
   · rename_i h
     rw [decFrom_snoc, ih (n / 10) (by omega), digV_of (Nat.mod_lt n (by decide))]
     show some (n / 10 * 10 + n % 10) = _
     congr 1; omega
theorem decFrom_le : ∀ {l : List UInt8} {acc n : Nat}, decFrom acc l = some n -> acc <= n
 | [], acc, n, h => by rw [decFrom] at h; have := Option.some.inj h; omega
 | b :: r, acc, n, h => by
   rw [decFrom] at h
   cases hd : digitVal b with
   | none => rw [hd] at h; cases h
   | some d =>
     rw [hd] at h
     have := decFrom_le (l := r) h
     omega
theorem decFrom_lt : ∀ {l : List UInt8} {acc n : Nat}, decFrom acc l = some n -> n < (acc + 1) * 10 ^ l.length
 | [], acc, n, h => by rw [decFrom] at h; have := Option.some.inj h; simp; omega
 | b :: r, acc, n, h => by
   rw [decFrom] at h
   cases hd : digitVal b with
   | none => rw [hd] at h; cases h
   | some d =>
     rw [hd] at h
     have h1 := decFrom_lt (l := r) h
     have h2 := (digV_lt hd).1
     rw [List.length_cons, Nat.pow_succ, <- Nat.mul_assoc, Nat.mul_right_comm]
     exact Nat.lt_of_lt_of_le h1 (Nat.mul_le_mul_right _ (by omega))
theorem dec_back : ∀ (k : Nat) {l : List UInt8} {n : Nat}, l.length = k -> l ≠ [] -> decFrom 0 l = some n -> (l.head? ≠ some 48 \/ l.length = 1) -> l = decDigits n /\ (l.head? ≠ some 48 -> 0 < n)
 | 0, l, n, hk, hne, _, _ => absurd (List.eq_nil_of_length_eq_zero hk) hne
 | k + 1, l, n, hk, hne, h, hz => by
   rcases List.eq_nil_or_concat l with e | ⟨l', c, e⟩
   · exact absurd e hne
   · rw [List.concat_eq_append] at e
     subst e
     rw [decFrom_snoc] at h
     cases hl : decFrom 0 l' with
     | none => rw [hl] at h; cases h
     | some m =>
       rw [hl] at h
       cases hd : digitVal c with
       | none => rw [hd] at h; cases h
       | some d =>
         rw [hd] at h
         have hn : m * 10 + d = n := Option.some.inj h
         obtain ⟨hd1, hc⟩ := digV_lt hd
         by_cases h0 : l' = []
         · subst h0
           have hm : m = 0 := by rw [decFrom] at hl; exact (Option.some.inj hl).symm
           subst hm
           refine ⟨?_, fun hh => ?_⟩
           · rw [decDigits, dif_pos (by omega), List.nil_append, hc, <- hn, Nat.zero_mul, Nat.zero_add]
           · refine Nat.pos_of_ne_zero fun e => hh ?_
             rw [List.nil_append, hc, show d = 0 by omega]; rfl
         · have hh : (l' ++ [c]).head? = l'.head? := by
            cases l' with
            | nil => exact absurd rfl h0
            | cons a t => rfl
           have hl2 : (l' ++ [c]).length = l'.length + 1 := by simp
           have hpl : 0 < l'.length := List.length_pos_iff.2 h0
           rcases hz with hz | hz
           · rw [hh] at hz ⊢
             obtain ⟨i1, i2⟩ := dec_back k (l := l') (n := m) (by omega) h0 hl (.inl hz)
             have hm := i2 hz
             refine ⟨?_, fun _ => by omega⟩
             rw [decDigits, dif_neg (by omega), show n / 10 = m by omega, show n % 10 = d by omega, <- i1, hc]
           · omega
theorem decDigits_ne (n : Nat) : decDigits n ≠ [] := by
 rw [decDigits]
 split <;> simp
theorem decDigits_head (n : Nat) : (decDigits n).head? ≠ some 48 \/ (decDigits n).length = 1 := by
 induction n using Nat.strongRecOn with
 | _ n ih =>
   rw [decDigits]
   split
   · right; rfl
   · rename_i h
     left
     have hne := decDigits_ne (n / 10)
     have hh : (decDigits (n / 10) ++ [UInt8.ofNat (48 + n % 10)]).head? = (decDigits (n / 10)).head? := by
      cases hc : decDigits (n / 10) with
      | nil => exact absurd hc hne
      | cons a t => rfl
     rw [hh]
     rcases ih (n / 10) (by omega) with h1 | h1
     · exact h1
     · by_cases h9 : n / 10 < 10
       · rw [decDigits, dif_pos h9]
         intro e
         have e2 : UInt8.ofNat (48 + n / 10) = 48 := Option.some.inj e
         have e3 : (UInt8.ofNat (48 + n / 10)).toNat = 48 := by rw [e2]; rfl
         rw [UInt8.toNat_ofNat'] at e3
         omega
       · rw [decDigits, dif_neg h9] at h1
         have := List.length_pos_iff.2 (decDigits_ne (n / 10 / 10))
         simp at h1
         exact absurd h1 (decDigits_ne _)
theorem decDigits_byte {n : Nat} {b : UInt8} (h : b ∈ decDigits n) : 48 <= b.toNat /\ b.toNat <= 57 := by
 induction n using Nat.strongRecOn with
 | _ n ih =>
   rw [decDigits] at h
   split at h
   · rename_i h9
     rw [List.mem_singleton] at h
     rw [h, UInt8.toNat_ofNat']
     omega
   · rename_i h9
     rcases List.mem_append.1 h with h | h
     · exact ih (n / 10) (by omega) h
     · rw [List.mem_singleton] at h
       rw [h, UInt8.toNat_ofNat']
       omega
def atS (w : List UInt8) : Nat := if w.head? = some 45 then 1 else 0
def numO (w : List UInt8) (d : Nat) : Option Int :=
 if w.drop (atS w) = [] \/ d < (w.drop (atS w)).length \/ ((w.drop (atS w)).head? = some 48 /\ 1 < w.length) then none
 else (decFrom 0 (w.drop (atS w))).map fun n => if atS w = 1 then -(n : Int) else n
theorem atS_dec (n : Nat) : atS (decDigits n) = 0 := by
 unfold atS
 rw [if_neg]
 intro h
 have hm : (45 : UInt8) ∈ decDigits n := List.mem_of_mem_head? h
 have := decDigits_byte hm
 revert this; decide
theorem atS_neg (n : Nat) : atS (45 :: decDigits n) = 1 := if_pos rfl
theorem numO_itoa (v : Int) {d : Nat} (hd : ((itoa v).drop (atS (itoa v))).length <= d) : numO (itoa v) d = some v := by
 unfold itoa at hd ⊢
 split
 · rename_i h
   rw [if_pos h] at hd
   unfold numO
   rw [atS_neg] at hd ⊢
   rw [List.drop_succ_cons, List.drop_zero] at hd ⊢
   have hne := decDigits_ne v.natAbs
   rw [if_neg, dec_digits]
   · show some (if (1 : Nat) = 1 then -((v.natAbs : Nat) : Int) else _) = _
     rw [if_pos rfl]
     congr 1; omega
   · rintro (h1 | h1 | ⟨h1, h2⟩)
     · exact hne h1
     · omega
     · have hb := (dec_back _ rfl hne (dec_digits v.natAbs) (decDigits_head _))
       rcases decDigits_head v.natAbs with h3 | h3
       · exact h3 h1
       · have e := hb.1
         have h9 : v.natAbs < 10 := by
          refine Classical.byContradiction fun hc => ?_
          rw [decDigits, dif_neg hc] at h3
          simp at h3
          exact decDigits_ne _ h3
         rw [decDigits, dif_pos h9] at h1
         have e2 : UInt8.ofNat (48 + v.natAbs) = 48 := Option.some.inj h1
         have e3 : (UInt8.ofNat (48 + v.natAbs)).toNat = 48 := by rw [e2]; rfl
         rw [UInt8.toNat_ofNat'] at e3
         omega
 · rename_i h
   rw [if_neg h] at hd
   unfold numO
   rw [atS_dec] at hd ⊢
   rw [List.drop_zero] at hd ⊢
   have hne := decDigits_ne v.toNat
   rw [if_neg, dec_digits]
   · show some (if (0 : Nat) = 1 then -((v.toNat : Nat) : Int) else _) = _
     rw [if_neg (by decide)]
     congr 1; omega
   · rintro (h1 | h1 | ⟨h1, h2⟩)
     · exact hne h1
     · omega
     · rcases decDigits_head v.toNat with h3 | h3
       · exact h3 h1
       · omega
theorem numO_back {w : List UInt8} {d : Nat} {v : Int} (h : numO w d = some v) : w = itoa v /\ (w.drop (atS w)).length <= d := by
 unfold numO at h
 split at h
 · cases h
 · rename_i hc
   have h1 : w.drop (atS w) ≠ [] := fun e => hc (.inl e)
   have h2 : (w.drop (atS w)).length <= d := Nat.le_of_not_lt fun e => hc (.inr (.inl e))
   refine ⟨?_, h2⟩
   cases hn : decFrom 0 (w.drop (atS w)) with
   | none => rw [hn] at h; cases h
   | some n =>
     rw [hn] at h
     have hv : (if atS w = 1 then -(n : Int) else n) = v := Option.some.inj h
     by_cases ha : w.head? = some 45
     · have e1 : atS w = 1 := if_pos ha
       rw [e1] at h1 hn hc hv
       rw [if_pos rfl] at hv
       obtain ⟨c, r, rfl⟩ : ∃ c r, w = c :: r := by
        cases w with
        | nil => cases ha
        | cons c r => exact ⟨c, r, rfl⟩
       have ec : c = 45 := Option.some.inj ha
       subst ec
       rw [List.drop_succ_cons, List.drop_zero] at h1 hn hc
       have hlr := List.length_pos_iff.2 h1
       have hz : r.head? ≠ some 48 := fun e => hc (.inr (.inr ⟨e, by rw [List.length_cons]; omega⟩))
       obtain ⟨b1, b2⟩ := dec_back _ rfl h1 hn (.inl hz)
       have hp := b2 hz
       unfold itoa
       rw [if_pos (by omega), show v.natAbs = n by omega, <- b1]
     · have e1 : atS w = 0 := if_neg ha
       rw [e1] at h1 hn hc hv
       rw [if_neg (by decide)] at hv
       rw [List.drop_zero] at h1 hn hc
       have hlr := List.length_pos_iff.2 h1
       have hz : w.head? ≠ some 48 \/ w.length = 1 := by
        by_cases e : w.head? = some 48
        · right
          have : ¬ 1 < w.length := fun h => hc (.inr (.inr ⟨e, h⟩))
          omega
        · exact .inl e
       obtain ⟨b1, _⟩ := dec_back _ rfl h1 hn hz
       unfold itoa
       rw [if_neg (by omega), show v.toNat = n by omega, <- b1]
theorem parse_of : ∀ {l : List UInt8} {acc n : Nat}, decFrom acc l = some n -> n < 1000000000000000000 -> parseUint10 acc l = .ok n
 | [], acc, n, h, _ => by rw [decFrom] at h; rw [parseUint10, Option.some.inj h]
 | b :: r, acc, n, h, hb => by
   rw [decFrom] at h
   cases hd : digitVal b with
   | none => rw [hd] at h; cases h
   | some d =>
     rw [hd] at h
     have h1 := decFrom_le (l := r) h
     have h2 := hd
     unfold digitVal at h2
     split at h2
     · rename_i hc
       have e := Option.some.inj h2
       rw [parseUint10, if_pos hc, if_neg (by omega), if_neg (by omega), e]
       exact parse_of h hb
     · cases h2
theorem mag_dec {n : Nat} (h : n < 1000000000000000000) : parseMag (decDigits n) = .ok n := by
 unfold parseMag
 rw [if_neg (decDigits_ne n)]
 exact parse_of (dec_digits n) h
theorem atoi_itoa {v : Int} (h : -1000000000000000000 < v /\ v < 1000000000000000000) : atoiAll (itoa v) = .ok v := by
 unfold itoa
 split
 · rename_i hn
   unfold atoiAll
   dsimp only
   rw [if_pos (show (45 : UInt8).toNat = 43 \/ (45 : UInt8).toNat = 45 from .inr rfl), mag_dec (by omega)]
   dsimp only
   rw [if_neg (by rintro ⟨h1, _⟩; exact h1 rfl), if_neg (by rintro ⟨_, h2⟩; omega), if_pos (show (45 : UInt8).toNat = 45 from rfl)]
   congr 1; omega
 · rename_i hn
   have hne := decDigits_ne v.toNat
   have hby := fun b (hb : b ∈ decDigits v.toNat) => decDigits_byte hb
   have hm := mag_dec (n := v.toNat) (by omega)
   cases hc : decDigits v.toNat with
   | nil => exact absurd hc hne
   | cons c r =>
     rw [hc] at hby hm
     have h1 := hby c (by simp)
     unfold atoiAll
     dsimp only
     rw [if_neg (show ¬ (c.toNat = 43 \/ c.toNat = 45) by omega), hm]
     dsimp only
     rw [if_neg (by rintro ⟨_, h2⟩; omega), if_neg (by rintro ⟨h1, _⟩; omega), if_neg (by omega)]
     congr 1; omega
theorem num_lib {w : List UInt8} {d : Nat} (hd : d <= 17) {v : Int} : numO w d = some v ↔ atoiAll w = .ok v /\ itoa v = w /\ (w.drop (atS w)).length <= d := by
 constructor
 · intro h
   obtain ⟨h1, h2⟩ := numO_back h
   refine ⟨?_, h1.symm, h2⟩
   have hb : -1000000000000000000 < v /\ v < 1000000000000000000 := by
    unfold numO at h
    split at h
    · cases h
    · cases hn : decFrom 0 (w.drop (atS w)) with
      | none => rw [hn] at h; cases h
      | some n =>
        rw [hn] at h
        have hv : (if atS w = 1 then -(n : Int) else n) = v := Option.some.inj h
        have h3 := decFrom_lt hn
        have h4 : 10 ^ (w.drop (atS w)).length <= 10 ^ 17 := Nat.pow_le_pow_right (by decide) (by omega)
        have h5 : (10 : Nat) ^ 17 = 100000000000000000 := by decide
        rw [Nat.zero_add, Nat.one_mul] at h3
        split at hv <;> omega
   rw [h1]
   exact atoi_itoa hb
 · rintro ⟨_, h2, h3⟩
   rw [<- h2] at h3 ⊢
   exact numO_itoa v h3
open Go.Lib (index count countFrom splitK join joinTail)
def cutS (c : UInt8) : List UInt8 -> List (List UInt8)
 | [] => [[]]
 | b :: r => if b = c then [] :: cutS c r else match cutS c r with
   | [] => [[b]]
   | w :: ws => (b :: w) :: ws
theorem cutS_hit (c : UInt8) : ∀ (a b : List UInt8), c ∉ a -> cutS c (a ++ c :: b) = a :: cutS c b
 | [], b, _ => by rw [List.nil_append, cutS, if_pos rfl]
 | x :: a, b, h => by
   have hx : x ≠ c := fun e => h (by rw [e]; simp)
   have ha : c ∉ a := fun e => h (by simp [e])
   rw [List.cons_append, cutS, if_neg hx, cutS_hit c a b ha]
theorem cutS_miss (c : UInt8) : ∀ (a : List UInt8), c ∉ a -> cutS c a = [a]
 | [], _ => rfl
 | x :: a, h => by
   have hx : x ≠ c := fun e => h (by rw [e]; simp)
   have ha : c ∉ a := fun e => h (by simp [e])
   rw [cutS, if_neg hx, cutS_miss c a ha]
theorem pre_one (c b : UInt8) (l : List UInt8) : ([c] : List UInt8).isPrefixOf (b :: l) = (c == b) := by
 simp [List.isPrefixOf]
theorem index_cases (c : UInt8) : ∀ (s : List UInt8), (index s [c] = -1 /\ c ∉ s) \/ ∃ a b, s = a ++ c :: b /\ c ∉ a /\ index s [c] = (a.length : Nat)
 | [] => .inl ⟨rfl, by simp⟩
 | x :: s => by
   rw [index, pre_one]
   by_cases hx : c = x
   · subst hx
     rw [if_pos (by simp)]
     exact .inr ⟨[], s, rfl, by simp, rfl⟩
   · rw [if_neg (by simpa using hx)]
     rcases index_cases c s with ⟨h1, h2⟩ | ⟨a, b, h1, h2, h3⟩
     · rw [h1]
       exact .inl ⟨rfl, by simp [h2, hx]⟩
     · rw [h3, if_neg (by simp)]
       refine .inr ⟨x :: a, b, by rw [h1]; rfl, by simp [h2, hx], ?_⟩
       rw [List.length_cons]; omega
theorem split_cut (c : UInt8) : ∀ (f : Nat) (s : List UInt8), s.length < f -> splitK [c] 0 (countFrom [c] f s) s = cutS c s
 | 0, s, h => absurd h (Nat.not_lt_zero _)
 | f + 1, s, h => by
   rw [countFrom]
   rcases index_cases c s with ⟨h1, h2⟩ | ⟨a, b, h1, h2, h3⟩
   · rw [h1, if_pos (show ((-1 : Int) == -1) = true from rfl), splitK, cutS_miss c s h2]
   · rw [h3, if_neg (by simp), Nat.add_comm 1, splitK, h3, if_neg (by simp), h1, cutS_hit c a b h2]
     have e1 : (((a.length : Nat) : Int)).toNat = a.length := by omega
     have e2 : (a ++ c :: b).take (((a.length : Nat) : Int).toNat + 0) = a := by rw [e1, Nat.add_zero, List.take_left]
     have e3 : (a ++ c :: b).drop (((a.length : Nat) : Int).toNat + [c].length) = b := by
      rw [e1, <- List.drop_drop, List.drop_left]; rfl
     rw [e2, e3]
     congr 1
     refine split_cut c f b ?_
     rw [h1, List.length_append, List.length_cons] at h
     omega
theorem split_all (c : UInt8) (s : List UInt8) : splitK [c] 0 (count s [c]) s = cutS c s := split_cut c _ s (by omega)
theorem cutS_len (c : UInt8) : ∀ (s : List UInt8), (cutS c s).length <= s.length + 1
 | [] => by simp [cutS]
 | b :: r => by
   have h := cutS_len c r
   rw [cutS]
   split
   · rw [List.length_cons, List.length_cons]; omega
   · split
     · simp
     · rename_i w ws e
       rw [e, List.length_cons] at h
       rw [List.length_cons, List.length_cons]; omega
theorem cutS_mem_len (c : UInt8) : ∀ (s : List UInt8) (w : List UInt8), w ∈ cutS c s -> w.length <= s.length
 | [], w, h => by rw [cutS, List.mem_singleton] at h; subst h; simp
 | b :: r, w, h => by
   have ih := cutS_mem_len c r
   rw [cutS] at h
   split at h
   · rcases List.mem_cons.1 h with e | e
     · subst e; simp
     · have := ih w e; rw [List.length_cons]; omega
   · split at h
     · rw [List.mem_singleton] at h; subst h; simp
     · rename_i v ws e
       rcases List.mem_cons.1 h with e2 | e2
       · subst e2
         have := ih v (by rw [e]; simp)
         rw [List.length_cons, List.length_cons]; omega
       · have := ih w (by rw [e]; simp [e2])
         rw [List.length_cons]; omega
theorem cut_join {c : UInt8} : ∀ {l : List (List UInt8)}, l ≠ [] -> (∀ w ∈ l, c ∉ w) -> cutS c (join l [c]) = l
 | [], h, _ => absurd rfl h
 | [x], _, h => by rw [Lib.join_one, cutS_miss c x (h x (by simp))]
 | x :: y :: r, _, h => by
   have ih := cut_join (c := c) (l := y :: r) (by simp) (fun w hw => h w (by simp [List.mem_cons.1 hw]))
   have e : join (x :: y :: r) [c] = x ++ c :: join (y :: r) [c] := by
    rw [Lib.join_cons, Lib.join_cons]
    unfold joinTail
    simp
   rw [e, cutS_hit c x _ (h x (by simp)), ih]
open Go.Proofs Go.Shelf
def laysItoa_ren : Go.Shelf.Ren := ⟨fun | 171 => 215 | 243 => 285 | 246 => 364 | 283 => 412 | 284 => 413 | 285 => 414 | 286 => 415 | 129 => 329 | 317 => 449 | 318 => 450 | 319 => 451 | 320 => 452 | 337 => 461 | 338 => 462 | n => n, fun | 3 => 3 | 9 => 9 | 2 => 2 | 4 => 4 | 171 => 518 | 0 => 0 | 53 => 455 | 37 => 362 | 5 => 5 | 173 => 520 | 212 => 543 | 51 => 453 | 20 => 20 | 213 => 544 | 46 => 384 | 232 => 557 | 233 => 558 | n => n, fun | 17 => 4 | 18 => 7 | 19 => 8 | n => n⟩
theorem laysItoa : Go.Proofs.LaysM.n171 Tryz.prog laysItoa_ren := {
 mixed := by kernel_rfl
 f129 := Tryz.func329.trans (congrArg some (by kernel_rfl))
 f171 := Tryz.func215.trans (congrArg some (by kernel_rfl))
 f243 := Tryz.func285.trans (congrArg some (by kernel_rfl))
 f246 := Tryz.func364.trans (congrArg some (by kernel_rfl))
 f283 := Tryz.func412.trans (congrArg some (by kernel_rfl))
 f284 := Tryz.func413.trans (congrArg some (by kernel_rfl))
 f285 := Tryz.func414.trans (congrArg some (by kernel_rfl))
 f286 := Tryz.func415.trans (congrArg some (by kernel_rfl))
 f317 := Tryz.func449.trans (congrArg some (by kernel_rfl))
 f318 := Tryz.func450.trans (congrArg some (by kernel_rfl))
 f319 := Tryz.func451.trans (congrArg some (by kernel_rfl))
 f320 := Tryz.func452.trans (congrArg some (by kernel_rfl))
 f337 := Tryz.func461.trans (congrArg some (by kernel_rfl))
 f338 := Tryz.func462.trans (congrArg some (by kernel_rfl))
 t0 := Tryz.underlying0
 a0 := Tryz.isAgg0
 z0 := Tryz.sizeOf0
 v0 := Tryz.zeroValue0
 t2 := Tryz.underlying2
 a2 := Tryz.isAgg2
 z2 := Tryz.sizeOf2
 v2 := Tryz.zeroValue2
 t3 := Tryz.underlying3
 a3 := Tryz.isAgg3
 z3 := Tryz.sizeOf3
 v3 := Tryz.zeroValue3
 t4 := Tryz.underlying4
 a4 := Tryz.isAgg4
 z4 := Tryz.sizeOf4
 v4 := Tryz.zeroValue4
 t5 := Tryz.underlying5
 a5 := Tryz.isAgg5
 z5 := Tryz.sizeOf5
 v5 := Tryz.zeroValue5
 t9 := Tryz.underlying9
 a9 := Tryz.isAgg9
 z9 := Tryz.sizeOf9
 v9 := Tryz.zeroValue9
 t20 := Tryz.underlying20
 a20 := Tryz.isAgg20
 z20 := Tryz.sizeOf20
 v20 := Tryz.zeroValue20
 t37 := Tryz.underlying362
 a37 := Tryz.isAgg362
 z37 := Tryz.sizeOf362
 v37 := Tryz.zeroValue362
 t46 := Tryz.underlying384
 a46 := Tryz.isAgg384
 z46 := Tryz.sizeOf384
 v46 := Tryz.zeroValue384
 t51 := Tryz.underlying453
 a51 := Tryz.isAgg453
 z51 := Tryz.sizeOf453
 v51 := Tryz.zeroValue453
 t53 := Tryz.underlying455
 a53 := Tryz.isAgg455
 z53 := Tryz.sizeOf455
 v53 := Tryz.zeroValue455
 t171 := Tryz.underlying518
 a171 := Tryz.isAgg518
 z171 := Tryz.sizeOf518
 v171 := Tryz.zeroValue518
 t173 := Tryz.underlying520
 a173 := Tryz.isAgg520
 z173 := Tryz.sizeOf520
 v173 := Tryz.zeroValue520
 t212 := Tryz.underlying543
 a212 := Tryz.isAgg543
 z212 := Tryz.sizeOf543
 v212 := Tryz.zeroValue543
 t213 := Tryz.underlying544
 a213 := Tryz.isAgg544
 z213 := Tryz.sizeOf544
 t232 := Tryz.underlying557
 a232 := Tryz.isAgg557
 z232 := Tryz.sizeOf557
 v232 := Tryz.zeroValue557
 t233 := Tryz.underlying558
 a233 := Tryz.isAgg558
 z233 := Tryz.sizeOf558
 v233 := Tryz.zeroValue558
 g17 := by kernel_rfl
 g18 := by kernel_rfl
 g19 := by kernel_rfl
 i0 := by kernel_rfl
 i2 := by kernel_rfl
 i3 := by kernel_rfl
 i4 := by kernel_rfl
 i5 := by kernel_rfl
 i9 := by kernel_rfl
 i20 := by kernel_rfl
 i37 := by kernel_rfl
 i46 := by kernel_rfl
 i51 := by kernel_rfl
 i53 := by kernel_rfl
 i171 := by kernel_rfl
 i173 := by kernel_rfl
 i212 := by kernel_rfl
 i232 := by kernel_rfl
 i233 := by kernel_rfl
 m17 := by kernel_rfl
 m18 := by kernel_rfl
 m19 := by kernel_rfl }
def laysAtoi_ren : Go.Shelf.Ren := ⟨fun | 172 => 214 | 244 => 283 | 245 => 284 | 247 => 359 | 279 => 360 | 280 => 361 | 281 => 362 | 282 => 363 | 287 => 409 | 316 => 410 | 171 => 215 | 205 => 411 | 321 => 447 | 322 => 448 | 243 => 285 | 246 => 364 | 283 => 412 | 284 => 413 | 285 => 414 | 286 => 415 | 129 => 329 | 317 => 449 | 318 => 450 | 319 => 451 | 320 => 452 | 337 => 461 | 338 => 462 | n => n, fun | 9 => 9 | 3 => 3 | 75 => 338 | 76 => 339 | 4 => 4 | 5 => 5 | 167 => 471 | 37 => 362 | 0 => 0 | 85 => 472 | 2 => 2 | 168 => 474 | 53 => 455 | 175 => 512 | 46 => 384 | 210 => 516 | 127 => 465 | 145 => 541 | 143 => 539 | 21 => 21 | 171 => 518 | 173 => 520 | 212 => 543 | 51 => 453 | 20 => 20 | 213 => 544 | 232 => 557 | 233 => 558 | 80 => 394 | n => n, fun | 15 => 1 | 16 => 2 | 17 => 4 | 18 => 7 | 19 => 8 | n => n⟩
theorem laysAtoi : Go.Proofs.LaysC.n172 Tryz.prog laysAtoi_ren := {
 mixed := by kernel_rfl
 f129 := Tryz.func329.trans (congrArg some (by kernel_rfl))
 f171 := Tryz.func215.trans (congrArg some (by kernel_rfl))
 f172 := Tryz.func214.trans (congrArg some (by kernel_rfl))
 f205 := Tryz.func411.trans (congrArg some (by kernel_rfl))
 f243 := Tryz.func285.trans (congrArg some (by kernel_rfl))
 f244 := Tryz.func283.trans (congrArg some (by kernel_rfl))
 f245 := Tryz.func284.trans (congrArg some (by kernel_rfl))
 f246 := Tryz.func364.trans (congrArg some (by kernel_rfl))
 f247 := Tryz.func359.trans (congrArg some (by kernel_rfl))
 f279 := Tryz.func360.trans (congrArg some (by kernel_rfl))
 f280 := Tryz.func361.trans (congrArg some (by kernel_rfl))
 f281 := Tryz.func362.trans (congrArg some (by kernel_rfl))
 f282 := Tryz.func363.trans (congrArg some (by kernel_rfl))
 f283 := Tryz.func412.trans (congrArg some (by kernel_rfl))
 f284 := Tryz.func413.trans (congrArg some (by kernel_rfl))
 f285 := Tryz.func414.trans (congrArg some (by kernel_rfl))
 f286 := Tryz.func415.trans (congrArg some (by kernel_rfl))
 f287 := Tryz.func409.trans (congrArg some (by kernel_rfl))
 f316 := Tryz.func410.trans (congrArg some (by kernel_rfl))
 f317 := Tryz.func449.trans (congrArg some (by kernel_rfl))
 f318 := Tryz.func450.trans (congrArg some (by kernel_rfl))
 f319 := Tryz.func451.trans (congrArg some (by kernel_rfl))
 f320 := Tryz.func452.trans (congrArg some (by kernel_rfl))
 f321 := Tryz.func447.trans (congrArg some (by kernel_rfl))
 f322 := Tryz.func448.trans (congrArg some (by kernel_rfl))
 f337 := Tryz.func461.trans (congrArg some (by kernel_rfl))
 f338 := Tryz.func462.trans (congrArg some (by kernel_rfl))
 t0 := Tryz.underlying0
 a0 := Tryz.isAgg0
 z0 := Tryz.sizeOf0
 v0 := Tryz.zeroValue0
 t2 := Tryz.underlying2
 a2 := Tryz.isAgg2
 z2 := Tryz.sizeOf2
 v2 := Tryz.zeroValue2
 t3 := Tryz.underlying3
 a3 := Tryz.isAgg3
 z3 := Tryz.sizeOf3
 v3 := Tryz.zeroValue3
 t4 := Tryz.underlying4
 a4 := Tryz.isAgg4
 z4 := Tryz.sizeOf4
 v4 := Tryz.zeroValue4
 t5 := Tryz.underlying5
 a5 := Tryz.isAgg5
 z5 := Tryz.sizeOf5
 v5 := Tryz.zeroValue5
 t9 := Tryz.underlying9
 a9 := Tryz.isAgg9
 z9 := Tryz.sizeOf9
 v9 := Tryz.zeroValue9
 t20 := Tryz.underlying20
 a20 := Tryz.isAgg20
 z20 := Tryz.sizeOf20
 v20 := Tryz.zeroValue20
 t21 := Tryz.underlying21
 a21 := Tryz.isAgg21
 z21 := Tryz.sizeOf21
 v21 := Tryz.zeroValue21
 t37 := Tryz.underlying362
 a37 := Tryz.isAgg362
 z37 := Tryz.sizeOf362
 v37 := Tryz.zeroValue362
 t46 := Tryz.underlying384
 a46 := Tryz.isAgg384
 z46 := Tryz.sizeOf384
 v46 := Tryz.zeroValue384
 t51 := Tryz.underlying453
 a51 := Tryz.isAgg453
 z51 := Tryz.sizeOf453
 v51 := Tryz.zeroValue453
 t53 := Tryz.underlying455
 a53 := Tryz.isAgg455
 z53 := Tryz.sizeOf455
 v53 := Tryz.zeroValue455
 t75 := Tryz.underlying338
 a75 := Tryz.isAgg338
 z75 := Tryz.sizeOf338
 v75 := Tryz.zeroValue338
 t76 := Tryz.underlying339
 a76 := Tryz.isAgg339
 z76 := Tryz.sizeOf339
 v76 := Tryz.zeroValue339
 t85 := Tryz.underlying472
 a85 := Tryz.isAgg472
 z85 := Tryz.sizeOf472
 v85 := Tryz.zeroValue472
 t127 := Tryz.underlying465
 a127 := Tryz.isAgg465
 z127 := Tryz.sizeOf465
 v127 := Tryz.zeroValue465
 t143 := Tryz.underlying539
 a143 := Tryz.isAgg539
 z143 := Tryz.sizeOf539
 v143 := Tryz.zeroValue539
 t145 := Tryz.underlying541
 a145 := Tryz.isAgg541
 z145 := Tryz.sizeOf541
 v145 := Tryz.zeroValue541
 t167 := Tryz.underlying471
 a167 := Tryz.isAgg471
 z167 := Tryz.sizeOf471
 v167 := Tryz.zeroValue471
 t168 := Tryz.underlying474
 a168 := Tryz.isAgg474
 z168 := Tryz.sizeOf474
 v168 := Tryz.zeroValue474
 t171 := Tryz.underlying518
 a171 := Tryz.isAgg518
 z171 := Tryz.sizeOf518
 v171 := Tryz.zeroValue518
 t173 := Tryz.underlying520
 a173 := Tryz.isAgg520
 z173 := Tryz.sizeOf520
 v173 := Tryz.zeroValue520
 t175 := Tryz.underlying512
 a175 := Tryz.isAgg512
 z175 := Tryz.sizeOf512
 v175 := Tryz.zeroValue512
 t210 := Tryz.underlying516
 a210 := Tryz.isAgg516
 z210 := Tryz.sizeOf516
 v210 := Tryz.zeroValue516
 t212 := Tryz.underlying543
 a212 := Tryz.isAgg543
 z212 := Tryz.sizeOf543
 v212 := Tryz.zeroValue543
 t213 := Tryz.underlying544
 a213 := Tryz.isAgg544
 z213 := Tryz.sizeOf544
 t232 := Tryz.underlying557
 a232 := Tryz.isAgg557
 z232 := Tryz.sizeOf557
 v232 := Tryz.zeroValue557
 t233 := Tryz.underlying558
 a233 := Tryz.isAgg558
 z233 := Tryz.sizeOf558
 v233 := Tryz.zeroValue558
 g15 := by kernel_rfl
 g16 := by kernel_rfl
 g17 := by kernel_rfl
 g18 := by kernel_rfl
 g19 := by kernel_rfl
 t80 := Tryz.underlying394
 a80 := Tryz.isAgg394
 z80 := Tryz.sizeOf394
 v80 := Tryz.zeroValue394
 i0 := by kernel_rfl
 i2 := by kernel_rfl
 i3 := by kernel_rfl
 i4 := by kernel_rfl
 i5 := by kernel_rfl
 i9 := by kernel_rfl
 i20 := by kernel_rfl
 i21 := by kernel_rfl
 i37 := by kernel_rfl
 i46 := by kernel_rfl
 i51 := by kernel_rfl
 i53 := by kernel_rfl
 i75 := by kernel_rfl
 i76 := by kernel_rfl
 i80 := by kernel_rfl
 i85 := by kernel_rfl
 i127 := by kernel_rfl
 i143 := by kernel_rfl
 i145 := by kernel_rfl
 i167 := by kernel_rfl
 i168 := by kernel_rfl
 i171 := by kernel_rfl
 i173 := by kernel_rfl
 i175 := by kernel_rfl
 i210 := by kernel_rfl
 i212 := by kernel_rfl
 i232 := by kernel_rfl
 i233 := by kernel_rfl
 m15 := by kernel_rfl
 m16 := by kernel_rfl
 m17 := by kernel_rfl
 m18 := by kernel_rfl
 m19 := by kernel_rfl
 c0 := by kernel_rfl
 c2 := by kernel_rfl
 c3 := by kernel_rfl
 c4 := by kernel_rfl
 c5 := by kernel_rfl
 c9 := by kernel_rfl
 c20 := by kernel_rfl
 c21 := by kernel_rfl
 c37 := by kernel_rfl
 c46 := by kernel_rfl
 c51 := by kernel_rfl
 c53 := by kernel_rfl
 c75 := by kernel_rfl
 c76 := by kernel_rfl
 c80 := by kernel_rfl
 c85 := by kernel_rfl
 c127 := by kernel_rfl
 c143 := by kernel_rfl
 c145 := by kernel_rfl
 c167 := by kernel_rfl
 c168 := by kernel_rfl
 c171 := by kernel_rfl
 c173 := by kernel_rfl
 c175 := by kernel_rfl
 c210 := by kernel_rfl
 c212 := by kernel_rfl
 c213 := by kernel_rfl
 c232 := by kernel_rfl
 c233 := by kernel_rfl }
def laysSplit_ren : Go.Shelf.Ren := ⟨fun | 146 => 146 | 221 => 238 | 268 => 307 | 138 => 308 | 143 => 309 | 195 => 387 | 197 => 388 | 218 => 389 | 219 => 390 | 260 => 433 | 217 => 434 | 225 => 435 | 224 => 436 | 267 => 437 | 266 => 458 | 314 => 459 | n => n, fun | 9 => 9 | 31 => 86 | 3 => 3 | 4 => 4 | 0 => 0 | 105 => 494 | 21 => 21 | 5 => 5 | 46 => 384 | 119 => 549 | 139 => 552 | 138 => 551 | 146 => 553 | 51 => 453 | n => n, fun | 1 => 3 | 3 => 5 | 4 => 6 | n => n⟩
theorem laysSplit : Go.Proofs.Lays.n146 Tryz.prog laysSplit_ren := {
 mixed := by kernel_rfl
 f138 := Tryz.func308.trans (congrArg some (by kernel_rfl))
 f143 := Tryz.func309.trans (congrArg some (by kernel_rfl))
 f146 := Tryz.func146.trans (congrArg some (by kernel_rfl))
 f195 := Tryz.func387.trans (congrArg some (by kernel_rfl))
 f197 := Tryz.func388.trans (congrArg some (by kernel_rfl))
 f217 := Tryz.func434.trans (congrArg some (by kernel_rfl))
 f218 := Tryz.func389.trans (congrArg some (by kernel_rfl))
 f219 := Tryz.func390.trans (congrArg some (by kernel_rfl))
 f221 := Tryz.func238.trans (congrArg some (by kernel_rfl))
 f224 := Tryz.func436.trans (congrArg some (by kernel_rfl))
 f225 := Tryz.func435.trans (congrArg some (by kernel_rfl))
 f260 := Tryz.func433.trans (congrArg some (by kernel_rfl))
 f266 := Tryz.func458.trans (congrArg some (by kernel_rfl))
 f267 := Tryz.func437.trans (congrArg some (by kernel_rfl))
 f268 := Tryz.func307.trans (congrArg some (by kernel_rfl))
 f314 := Tryz.func459.trans (congrArg some (by kernel_rfl))
 t0 := Tryz.underlying0
 a0 := Tryz.isAgg0
 z0 := Tryz.sizeOf0
 v0 := Tryz.zeroValue0
 t3 := Tryz.underlying3
 a3 := Tryz.isAgg3
 z3 := Tryz.sizeOf3
 v3 := Tryz.zeroValue3
 t4 := Tryz.underlying4
 a4 := Tryz.isAgg4
 z4 := Tryz.sizeOf4
 v4 := Tryz.zeroValue4
 t5 := Tryz.underlying5
 a5 := Tryz.isAgg5
 z5 := Tryz.sizeOf5
 v5 := Tryz.zeroValue5
 t9 := Tryz.underlying9
 a9 := Tryz.isAgg9
 z9 := Tryz.sizeOf9
 v9 := Tryz.zeroValue9
 t21 := Tryz.underlying21
 a21 := Tryz.isAgg21
 z21 := Tryz.sizeOf21
 v21 := Tryz.zeroValue21
 t31 := Tryz.underlying86
 a31 := Tryz.isAgg86
 z31 := Tryz.sizeOf86
 v31 := Tryz.zeroValue86
 t46 := Tryz.underlying384
 a46 := Tryz.isAgg384
 z46 := Tryz.sizeOf384
 v46 := Tryz.zeroValue384
 t51 := Tryz.underlying453
 a51 := Tryz.isAgg453
 z51 := Tryz.sizeOf453
 v51 := Tryz.zeroValue453
 t105 := Tryz.underlying494
 a105 := Tryz.isAgg494
 z105 := Tryz.sizeOf494
 v105 := Tryz.zeroValue494
 t119 := Tryz.underlying549
 a119 := Tryz.isAgg549
 z119 := Tryz.sizeOf549
 t138 := Tryz.underlying551
 a138 := Tryz.isAgg551
 z138 := Tryz.sizeOf551
 v138 := Tryz.zeroValue551
 t139 := Tryz.underlying552
 a139 := Tryz.isAgg552
 z139 := Tryz.sizeOf552
 v139 := Tryz.zeroValue552
 t146 := Tryz.underlying553
 a146 := Tryz.isAgg553
 z146 := Tryz.sizeOf553
 v146 := Tryz.zeroValue553
 g1 := by kernel_rfl
 g3 := by kernel_rfl
 g4 := by kernel_rfl }
def laysJoin_ren : Go.Shelf.Ren := ⟨fun | 156 => 192 | 165 => 268 | 166 => 269 | 169 => 270 | 240 => 346 | 241 => 347 | 276 => 404 | 277 => 405 | n => n, fun | 31 => 86 | 9 => 9 | 3 => 3 | 4 => 4 | 0 => 0 | 20 => 20 | 72 => 392 | 76 => 339 | 70 => 390 | 37 => 362 | 75 => 338 | 127 => 465 | 164 => 508 | 5 => 5 | 80 => 394 | n => n, fun | n => n⟩
theorem laysJoin : Go.Proofs.Lays.n156 Tryz.prog laysJoin_ren := {
 mixed := by kernel_rfl
 f156 := Tryz.func192.trans (congrArg some (by kernel_rfl))
 f165 := Tryz.func268.trans (congrArg some (by kernel_rfl))
 f166 := Tryz.func269.trans (congrArg some (by kernel_rfl))
 f169 := Tryz.func270.trans (congrArg some (by kernel_rfl))
 f240 := Tryz.func346.trans (congrArg some (by kernel_rfl))
 f241 := Tryz.func347.trans (congrArg some (by kernel_rfl))
 f276 := Tryz.func404.trans (congrArg some (by kernel_rfl))
 f277 := Tryz.func405.trans (congrArg some (by kernel_rfl))
 t0 := Tryz.underlying0
 a0 := Tryz.isAgg0
 z0 := Tryz.sizeOf0
 v0 := Tryz.zeroValue0
 t3 := Tryz.underlying3
 a3 := Tryz.isAgg3
 z3 := Tryz.sizeOf3
 v3 := Tryz.zeroValue3
 t4 := Tryz.underlying4
 a4 := Tryz.isAgg4
 z4 := Tryz.sizeOf4
 v4 := Tryz.zeroValue4
 t9 := Tryz.underlying9
 a9 := Tryz.isAgg9
 z9 := Tryz.sizeOf9
 v9 := Tryz.zeroValue9
 t20 := Tryz.underlying20
 a20 := Tryz.isAgg20
 z20 := Tryz.sizeOf20
 v20 := Tryz.zeroValue20
 t31 := Tryz.underlying86
 a31 := Tryz.isAgg86
 z31 := Tryz.sizeOf86
 v31 := Tryz.zeroValue86
 t37 := Tryz.underlying362
 a37 := Tryz.isAgg362
 z37 := Tryz.sizeOf362
 v37 := Tryz.zeroValue362
 t70 := Tryz.underlying390
 a70 := Tryz.isAgg390
 z70 := Tryz.sizeOf390
 v70 := Tryz.zeroValue390
 t72 := Tryz.underlying392
 a72 := Tryz.isAgg392
 z72 := Tryz.sizeOf392
 v72 := Tryz.zeroValue392
 t75 := Tryz.underlying338
 a75 := Tryz.isAgg338
 z75 := Tryz.sizeOf338
 v75 := Tryz.zeroValue338
 t76 := Tryz.underlying339
 a76 := Tryz.isAgg339
 z76 := Tryz.sizeOf339
 v76 := Tryz.zeroValue339
 t127 := Tryz.underlying465
 a127 := Tryz.isAgg465
 z127 := Tryz.sizeOf465
 v127 := Tryz.zeroValue465
 t164 := Tryz.underlying508
 a164 := Tryz.isAgg508
 z164 := Tryz.sizeOf508
 v164 := Tryz.zeroValue508 }
theorem laysJoin_extra : Builder.Extra Tryz.prog laysJoin_ren := {
 sizeBuilder := by kernel_rfl
 liesBuilder := by kernel_rfl
 t5 := Tryz.underlying5
 a5 := Tryz.isAgg5
 z5 := Tryz.sizeOf5
 v5 := Tryz.zeroValue5
 infoByte := by kernel_rfl
 cellsByte := by kernel_rfl
 sizeByte := by kernel_rfl
 neB5 := by decide }
open Go Go.RowKit Go.Proofs Go.Shelf Go.Ab
def GS : Nat -> Option FV
 | 1 => some (.pt [.any isIfc] 0)
 | 2 => some (.pt [.any isIfc] 0)
 | 3 => some (.pt [.any isI64] 0)
 | 4 => some (.tab (Lib.pow10Tab.map (Value.int .u64)))
 | _ => none
theorem summ_up {P : Program} {G G' : Nat -> Option FV} {f : Nat} {a : List FV} {r : FV} (S : Summ P G f a r) (h : ∀ g x, G g = some x -> G' g = some x) : Summ P G' f a r :=
 ⟨S.enters, fun w M us h1 h2 h3 => S.call w M us h1 (fun g x e => h2 g x (h g x e)) h3⟩
theorem up {f : Nat} {a : List FV} {r : FV} (S : Summ Tryz.prog GG f a r) : Summ Tryz.prog GS f a r := summ_up S fun g x e => by cases e
theorem pt_cell {w : World} {M : Nat -> Prop} {b : Nat} {x : FV} (h : RepF w M (.pointer (some ⟨b, 0, none⟩)) (.pt [x] 0)) : ∃ u, w.cell? ⟨b, 0, none⟩ = some u /\ RepF w M u x := by
 generalize hp : Value.pointer (some ⟨b, 0, none⟩) = v at h
 cases h with
 | pt b' off o cs us h1 h2 h3 h4 =>
   obtain ⟨u, rfl⟩ : ∃ u, us = [u] := by
    match us, h1 with
    | [u], _ => exact ⟨u, rfl⟩
   have e := h3.at_ 0 (by simp)
   have hb : b' = b /\ off = 0 := by
    injection hp with hp
    injection hp with hp
    injection hp with p1 p2
    exact ⟨p1.symm, by omega⟩
   obtain ⟨rfl, rfl⟩ := hb
   exact ⟨u, e, h4 0 u x rfl rfl⟩
theorem any_of {w : World} {M : Nat -> Prop} {u : Value} {G : Value -> Prop} (h : RepF w M u (.any G)) : G u := by
 cases h with
 | any _ _ h1 _ => exact h1
def Globs (w : World) (M : Nat -> Prop) : Prop := ∀ g x, GS g = some x -> RepF w M (.pointer (some ⟨g, 0, none⟩)) x
theorem globE {w : World} {M : Nat -> Prop} (h : Globs w M) : ∃ t q, w.cell? ⟨1, 0, none⟩ = some (.iface t q) := by
 obtain ⟨u, e, r⟩ := pt_cell (h 1 _ rfl)
 obtain ⟨t, q, rfl⟩ := any_of r
 exact ⟨t, q, e⟩
theorem globR {w : World} {M : Nat -> Prop} (h : Globs w M) : ∃ t q, w.cell? ⟨2, 0, none⟩ = some (.iface t q) := by
 obtain ⟨u, e, r⟩ := pt_cell (h 2 _ rfl)
 obtain ⟨t, q, rfl⟩ := any_of r
 exact ⟨t, q, e⟩
theorem globM {w : World} {M : Nat -> Prop} (h : Globs w M) : ∃ m, w.cell? ⟨3, 0, none⟩ = some (.int .i64 m) := by
 obtain ⟨u, e, r⟩ := pt_cell (h 3 _ rfl)
 obtain ⟨m, rfl⟩ := any_of r
 exact ⟨m, e⟩
theorem gTab : Tryz.prog.globalNamed "internal/strconv.uint64pow10" = some 4 := by kernel_rfl
theorem globT {w : World} {M : Nat -> Prop} (h : Globs w M) : Lib.TabIs Tryz.prog w "internal/strconv.uint64pow10" .u64 Lib.pow10Tab := by
 have r := h 4 _ rfl
 generalize hp : Value.pointer (some ⟨4, 0, none⟩) = v at r
 cases r with
 | tab b l h1 h2 =>
   obtain ⟨T, fr, e⟩ := h2
   have hb : b = 4 := by
    injection hp with hp
    injection hp with hp
    injection hp with p1 p2
    exact p1.symm
   subst hb
   unfold Lib.TabIs World.var?
   rw [gTab]
   show (match w.heap[4]? with | some (.cells cs _ _) => some cs | _ => none) = _
   rw [e]
theorem below_grow (w : World) (k : Nat) (os : Array Obj) : Below w.heap.size w (Sort.grow (w.drewN k) os) :=
 ⟨rfl, rfl, rfl, by simp [Sort.grow], fun i hi => by
   show ((w.drewN k).heap ++ os)[i]? = _
   rw [Array.getElem?_append_left (by show i < w.heap.size; omega)]
   rfl⟩
theorem one_arg {w : World} {M : Nat -> Prop} {us : List Value} {v : Value} (h : RepL w M us [.v v]) : us = [v] := by
 obtain ⟨u, us', rfl, hu, hR'⟩ := h.head
 obtain rfl := hR'.end
 obtain rfl := repV hu
 rfl
theorem Itoa_s (n : Int) (h : -9223372036854775808 <= n /\ n <= 9223372036854775807) : Summ Tryz.prog GS 215 [iv n] (sv (Lib.itoa n)) :=
 ⟨enters_of Tryz.func215 (by kernel_rfl) rfl, fun w M us _ hG hR => by
   obtain rfl := one_arg hR
   exact (Any.strconv_Itoa laysItoa n h.1 h.2 w (globT hG)).mono fun e w' ⟨he, k, os, hw⟩ => ⟨_, he, RepF.v _, by rw [hw]; exact below_grow w k os⟩⟩
theorem rep_tup2 {w : World} {M : Nat -> Prop} {u v : Value} {x y : FV} (h1 : RepF w M u x) (h2 : RepF w M v y) : RepF w M (.tuple #[u, v]) (.tup [x, y]) :=
 RepF.tup [x, y] [u, v] rfl fun k a b e1 e2 => by
  match k with
  | 0 => cases e1; cases e2; exact h1
  | 1 => cases e1; cases e2; exact h2
  | k + 2 => simp at e1
theorem Atoi_ok (s : Nm) (hs : s.length <= 1000000) {v : Int} (h : Lib.atoiAll s = .ok v) : Summ Tryz.prog GS 214 [sv s] (.tup [iv v, .v .nilIface]) :=
 ⟨enters_of Tryz.func214 (by kernel_rfl) rfl, fun w M us _ hG hR => by
   obtain rfl := one_arg hR
   refine (Any.strconv_Atoi_ok laysAtoi ⟨s.toArray⟩ (by simp [ByteArray.size]; omega) v h w).mono fun e w' ⟨he, hw⟩ => ⟨_, he, rep_tup2 (RepF.v _) (RepF.v _), ?_⟩
   rcases hw with rfl | ⟨t, rfl⟩
   · exact Ext.refl _
   · exact Lib.bytesWorld_below w _ t⟩
theorem Atoi_err (s : Nm) (hs : s.length <= 1000000) (h : ∀ v, Lib.atoiAll s ≠ .ok v) : ∃ n, Summ Tryz.prog GS 214 [sv s] (.tup [iv n, .any isIfc]) := by
 have hz : (⟨s.toArray⟩ : ByteArray).size <= 281474976710656 := by simp [ByteArray.size]; omega
 cases hc : Lib.atoiAll s
 · exact absurd hc (h _)
 · exact ⟨0, enters_of Tryz.func214 (by kernel_rfl) rfl, fun w M us _ hG hR => by
  obtain rfl := one_arg hR
  obtain ⟨t, q, e⟩ := globE hG
  exact (Any.strconv_Atoi_syntax laysAtoi ⟨s.toArray⟩ hz hc _ w e (.inr ⟨t, q, rfl⟩)).mono fun e w' ⟨N, he, _, _, hb⟩ => ⟨_, he, rep_tup2 (RepF.v _) (RepF.any _ _ ⟨_, _, rfl⟩ rfl), hb⟩⟩
 · exact ⟨_, enters_of Tryz.func214 (by kernel_rfl) rfl, fun w M us _ hG hR => by
  obtain rfl := one_arg hR
  obtain ⟨t, q, e⟩ := globR hG
  exact (Any.strconv_Atoi_range laysAtoi ⟨s.toArray⟩ hz hc _ w e (.inr ⟨t, q, rfl⟩)).mono fun e w' ⟨N, he, _, _, hb⟩ => ⟨_, he, rep_tup2 (RepF.v _) (RepF.any _ _ ⟨_, _, rfl⟩ rfl), hb⟩⟩
theorem two_args {w : World} {M : Nat -> Prop} {us : List Value} {v v' : Value} (h : RepL w M us [.v v, .v v']) : us = [v, v'] := by
 obtain ⟨u, us', rfl, hu, hR'⟩ := h.head
 obtain rfl := repV hu
 rw [one_arg hR']
theorem rep_strs {w : World} {M : Nat -> Prop} (T : TypeId) (l : List Nm) (hM : ∀ b, M b -> b < w.heap.size) : RepF (w.alloc (.cells (l.map fun s => Value.string ⟨s.toArray⟩).toArray T)) M (.slice (some ⟨w.heap.size, 0, none⟩) l.length l.length) (.sl l.length (strsF l)) := by
 refine RepF.sl _ _ _ _ (l.map fun s => Value.string ⟨s.toArray⟩) (Nat.le_refl _) (by simp [strsF]) (fun u hu => ?_) (fun _ => ⟨_, _, rfl, ⟨by simp, fun h => Nat.lt_irrefl _ (hM _ h), fun k hk => ?_⟩⟩) (fun k u x h1 h2 => ?_)
 · obtain ⟨s, _, rfl⟩ := List.mem_map.1 hu; rfl
 · rw [Nat.zero_add, World.cell?_alloc_at _ _ _ _ rfl]; simp
 · unfold strsF at h2
   rw [List.getElem?_map] at h1 h2
   cases hk : l[k]? with
   | none => rw [hk] at h1; cases h1
   | some s => rw [hk] at h1 h2; cases h1; cases h2; exact RepF.v _
theorem Split_s (s : Nm) (c : UInt8) (hs : s.length <= 1000000) : Summ Tryz.prog GS 146 [sv s, sv [c]] (.sl (cutS c s).length (strsF (cutS c s))) :=
 ⟨enters_of Tryz.func146 (by kernel_rfl) rfl, fun w M us hM hG hR => by
   obtain rfl := two_args hR
   obtain ⟨m, hm⟩ := globM hG
   have C := Any.strings_Split laysSplit (by kernel_rfl) ⟨s.toArray⟩ ⟨#[c]⟩ m w (by simp [ByteArray.size]; omega) hm (by simp [ByteArray.size])
   have e1 : (Lib.splitB ⟨#[c]⟩ 0 (Lib.countB ⟨s.toArray⟩ ⟨#[c]⟩) ⟨s.toArray⟩).map (·.data.toList) = cutS c s := by
    rw [Lib.splitB_data]
    exact split_all c s
   have e2 : (Lib.splitB ⟨#[c]⟩ 0 (Lib.countB ⟨s.toArray⟩ ⟨#[c]⟩) ⟨s.toArray⟩).map Value.string = (cutS c s).map fun s => Value.string ⟨s.toArray⟩ := by
    rw [<- e1, List.map_map]
    exact List.map_congr_left fun x _ => by
     show Value.string x = Value.string ⟨x.data.toList.toArray⟩
     rw [Lib.mk_data]
   have e3 : Lib.countB ⟨s.toArray⟩ ⟨#[c]⟩ + 1 = (cutS c s).length := by
    rw [<- e1, List.length_map]
    exact (Lib.splitB_all ⟨#[c]⟩ (by simp [ByteArray.size]) 0 _ _ rfl).symm
   rw [e2, e3] at C
   exact C.mono fun e w' ⟨he, hw⟩ => ⟨_, he, by rw [hw]; exact rep_strs _ _ hM, by rw [hw]; exact Ext.alloc _ _⟩⟩
theorem Join_s (l : List Nm) (sep : Nm) (hl : l.length <= 1000000) (hj : (Lib.join l sep).length <= 100000000) : Summ Tryz.prog GS 192 [.sl l.length (strsF l), sv sep] (sv (Lib.join l sep)) :=
 ⟨enters_of Tryz.func192 (by kernel_rfl) rfl, fun w M us _ hG hR => by
   obtain ⟨u, us', rfl, hu, hR'⟩ := hR.head
   obtain rfl := one_arg hR'
   have he : (l.map fun s => (⟨s.toArray⟩ : ByteArray)).map (·.data.toList) = l := by
    rw [List.map_map]; exact (List.map_congr_left fun x _ => rfl).trans (List.map_id l)
   have hd : (⟨sep.toArray⟩ : ByteArray).data.toList = sep := rfl
   cases hu with
   | sl a _ c _ vs p0 p1 p2 p3 p4 =>
     by_cases h0 : l = []
     · subst h0
       exact (Any.strings_Join_none laysJoin laysJoin_extra a c ⟨sep.toArray⟩ w).mono fun e w' ⟨he, hw⟩ => ⟨_, he, RepF.v _, by rw [hw]; exact Ext.refl _⟩
     · have hvl : vs.length = l.length := by rw [p1]; simp [strsF]
       have hne : vs ≠ [] := fun e => h0 (List.eq_nil_of_length_eq_zero (by rw [<- hvl, e]; rfl))
       obtain ⟨b, off, rfl, L⟩ := p3 hne
       have C := Any.strings_Join laysJoin laysJoin_extra b off c (l.map fun s => (⟨s.toArray⟩ : ByteArray)) ⟨sep.toArray⟩ w (fun j x hx => by
        rw [List.getElem?_map] at hx
        cases hk : l[j]? with
        | none => rw [hk] at hx; cases hx
        | some s =>
          rw [hk] at hx; cases hx
          have hj2 : j < vs.length := by rw [hvl]; exact (List.getElem?_eq_some_iff.1 hk).1
          rw [L.at_ j hj2, List.getElem?_eq_getElem hj2]
          have r := p4 j vs[j] (sv s) (List.getElem?_eq_getElem hj2) (by unfold strsF; rw [List.getElem?_map, hk]; rfl)
          rw [repV r]) L.lt (by simp; omega) (by simp; omega) (by rw [he, hd]; omega)
       rw [he, hd, List.length_map] at C
       exact C.mono fun e w' ⟨h1, h2⟩ => ⟨_, h1, RepF.v _, h2⟩⟩
end Go.Proofs.YtbkdjlahhcofmaaGreatDoor
namespace Go.Ab
open Go Go.RowKit Go.Shelf Go.Proofs
section
variable {C : Ctx} {N : Nat} {st : St}
theorem v_nilCheck {o : Oper} {x : Operand} {i off : Nat} (ho : o.op = .nilCheck x) (hd : dstB N o.dst = true) (hx : st.ev C x = .bx i off) : ValOp C N o st (.bx i off) :=
 valop_run hd fun w0 a w J st' hA S => by
  have e1 := S.eval x
  rw [hA.ev x (by simp [ho, Op.operands]), hx] at e1
  obtain ⟨hl, b, hb, hv⟩ := e1
  exact ⟨_, w, by simp only [execOp, ho, hv]; rfl, Ext.refl _, hl, b, hb, rfl⟩
theorem al_rep {w0 : World} {a : Act} {w : World} {J : Nat -> Value} (_S : Sim C w0 N st a w J) {n : Nat} (hn : st.h n = none) {w' : World} (e : Ext w w') {u : Value} {B : Blk} (hu : ∀ c, bk u = some c -> w.heap.size <= c) {v : Value} {x : AV} (h : RepA C w st.h J v x) : RepA C w' (upd st.h n (some B)) (upd J n u) v x := by
 have hlive : ∀ i, (st.h i).isSome = true -> i ≠ n := fun i hi e => by subst e; rw [hn] at hi; cases hi
 refine h.same fun _ _ q => q.conv (fun i hi => ⟨by rw [upd_other _ _ (hlive i hi)]; exact hi, by rw [upd_other _ _ (hlive i hi)]⟩) fun _ _ h => RepF.ext h e ?_
 rintro b hb (h0 | ⟨i, hi, hbi⟩)
 · exact .inl h0
 by_cases e : i = n
 · subst e; rw [upd_same] at hbi; have := hu _ hbi; omega
 · rw [upd_other _ _ e] at hi hbi; exact .inr ⟨i, hi, hbi⟩
variable {ops : Array Oper} {pr : Bool} {K : St -> Prop} {rest : List Oper} {d : Option Tmp} {T0 : TypeId} {pos : String} {af : Array Edge} {gd : Option (Nat × Bool)}
theorem s_nilCheck {x : Operand} {i off : Nat} (hw : wantB st ops ⟨d, .nilCheck x, T0, pos, af, gd⟩ = some true) (hd : dstB N d = true) (hx : st.ev C x = .bx i off) (k : R C N ops pr K rest (st.put d (.bx i off))) : R C N ops pr K (⟨d, .nilCheck x, T0, pos, af, gd⟩ :: rest) st := ⟨r_val hw (v_nilCheck rfl hd hx) k.out⟩
end
open Go Go.RowKit Go.Shelf Go.Proofs Go.Sort
section
variable {α : Type} [Inhabited α] {enc : α -> Value}
end
end Go.Ab
namespace Go.Proofs.YtbkdjlahhcofmaaGreatDoor
open Go Go.RowKit Go.Proofs Go.Shelf Go.Ab
def idxP (n : Nat) (p : Nat -> Bool) : Int := match (List.range n).find? p with
 | some i => i
 | none => -1
def anyP (n : Nat) (p : Nat -> Bool) : Bool := (List.range n).any p
theorem idxP_no {n : Nat} {p : Nat -> Bool} (h : ∀ i, i < n -> p i = false) : idxP n p = -1 := by
 unfold idxP
 rw [List.find?_eq_none.2 (fun i hi => by rw [h i (List.mem_range.1 hi)]; decide)]
theorem idxP_at {n k : Nat} {p : Nat -> Bool} (hk : k < n) (h : ∀ i, i < k -> p i = false) (hp : p k = true) : idxP n p = k := by
 obtain ⟨m, rfl⟩ : ∃ m, n = k + 1 + m := ⟨n - k - 1, by omega⟩
 unfold idxP
 rw [List.range_add, List.range_succ, List.append_assoc, List.find?_append, List.find?_eq_none.2 (fun i hi => by rw [h i (List.mem_range.1 hi)]; decide), Option.none_or, List.singleton_append, List.find?_cons, hp]
theorem anyP_iff {n : Nat} {p : Nat -> Bool} : anyP n p = true ↔ ∃ i, i < n /\ p i = true := by
 unfold anyP
 rw [List.any_eq_true]
 exact ⟨fun ⟨i, h1, h2⟩ => ⟨i, List.mem_range.1 h1, h2⟩, fun ⟨i, h1, h2⟩ => ⟨i, List.mem_range.2 h1, h2⟩⟩
theorem idxP_cases (n : Nat) (p : Nat -> Bool) : (idxP n p = -1 /\ ∀ i, i < n -> p i = false) \/ ∃ k, k < n /\ (∀ i, i < k -> p i = false) /\ p k = true /\ idxP n p = k := by
 by_cases h : ∃ i, i < n /\ p i = true
 · obtain ⟨k, ⟨hk, hp⟩, hmin⟩ := exists_least h
   have hz : ∀ i, i < k -> p i = false := fun i hi => by
    cases hpi : p i with
    | false => rfl
    | true => have := hmin i ⟨by omega, hpi⟩; omega
   exact .inr ⟨k, hk, hz, hp, idxP_at hk hz hp⟩
 · have hz : ∀ i, i < n -> p i = false := fun i hi => by
    cases hpi : p i with
    | false => rfl
    | true => exact absurd ⟨i, hi, hpi⟩ h
   exact .inl ⟨idxP_no hz, hz⟩
theorem idxP_pos (n : Nat) (p : Nat -> Bool) : 0 <= idxP n p ↔ anyP n p = true := by
 rw [anyP_iff]
 rcases idxP_cases n p with ⟨e, h⟩ | ⟨k, hk, _, hp, e⟩
 · rw [e]
   exact ⟨fun h => by omega, fun ⟨i, h1, h2⟩ => by rw [h i h1] at h2; cases h2⟩
 · rw [e]
   exact ⟨fun _ => ⟨k, hk, hp⟩, fun _ => by omega⟩
set_option maxRecDepth 100000 in
theorem idxI_s (l : List Int) (g : Nat) (caps : List FV) (p : Nat -> Bool) (hl : l.length <= 1000000) (hg : ∀ i (hi : i < l.length), Summ Tryz.prog GG g ([iv l[i]] ++ caps) (bv (p i))) : Summ Tryz.prog GG 330 [.sl l.length (intsF l), .fn g caps] (iv (idxP l.length p)) := by
 refine summW Tryz.func330 rfl rfl 19 rfl (by simp) (fun M0 => ?_)
 repeat (first
 | (apply s_a TY; exact rfl)
 | apply w_seq
 | apply w_region
 | apply s_nil
 | apply t_norm
 | apply w_block)
 apply w_loop (fun k : Nat => ⟨(Ab.upd (Ab.upd (Ab.upd (Ab.upd (fun _ => .bot) 0 (.f (.sl l.length (intsF l)))) 1 (.f (.fn g caps))) 7 (.f (iv l.length))) 8 (.f (iv (k : Nat)))), (fun _ => none), 0⟩) (fun k => k <= l.length /\ ∀ i, i < k -> p i = false) (fun k => l.length - k) 0 (⟨Nat.zero_le _, fun j h => absurd h (Nat.not_lt_zero j)⟩) (gh_le ⟨le_upd rfl trivial (le_upd rfl trivial (le_upd rfl trivial (le_upd rfl trivial (le_nil _)))), le_h0 _ _⟩)
 intro k ⟨hk, hz⟩
 by_cases hc : k < l.length
 · have Hc := hg k hc
   cases hp : p k with
   | true =>
     rw [hp] at Hc
     rw [idxP_at hc hz hp]
     repeat (first
 | (apply s_a TY; exact rfl)
 | (apply s_t; exact rfl; omega)
 | apply w_seq
 | apply w_region
 | apply s_nil
 | apply t_norm
 | apply t_ret
 | apply k_ret
 | apply w_block
 | apply w_ret
 | apply w_skip
 | (apply w_condT; exact rfl; exact rfl)
 | (apply s_k (Hc); exact rfl)
 | (apply s_c TY; exact rfl; (exact ⟨by omega, by (((with_reducible apply intsF_ne); omega))⟩))
 | (apply s_l TY; exact rfl; (((with_reducible apply intsF_at); omega))))
     exact lv_ret (ret1 rfl (res_tmp rfl))
   | false =>
     rw [hp] at Hc
     repeat (first
 | (apply s_a TY; exact rfl)
 | (apply s_t; exact rfl; omega)
 | apply w_seq
 | apply w_region
 | apply s_nil
 | apply t_norm
 | apply k_norm
 | apply w_block
 | apply w_skip
 | (apply w_condT; exact rfl; exact rfl)
 | (apply w_condF; exact rfl; exact rfl)
 | (apply s_k (Hc); exact rfl)
 | (apply s_c TY; exact rfl; (first | omega | exact ⟨by omega, by (((with_reducible apply intsF_ne); omega))⟩))
 | (apply s_l TY; exact rfl; (((with_reducible apply intsF_at); omega))))
     exact ⟨k + 1, ⟨by omega, fun i hi => by
      by_cases e : i = k
      · subst e; exact hp
      · exact hz i (by omega)⟩, by omega, gh_le ⟨le_upd rfl trivial (le_upd rfl trivial (le_upd rfl trivial (le_upd rfl trivial (le_nil _)))), le_h0 _ _⟩⟩
 · rw [idxP_no fun i hi => hz i (by omega)]
   repeat (first
 | (apply s_a TY; exact rfl)
 | (apply s_f; exact rfl; omega)
 | apply w_seq
 | apply w_region
 | apply s_nil
 | apply t_norm
 | apply t_exit
 | apply k_hit
 | apply w_exit
 | apply w_ret
 | (apply w_condF; exact rfl; exact rfl))
   exact lv_ret (ret1 rfl (res_tmp rfl))
theorem rep_nilsl {w : World} {M : Nat -> Prop} {v : Value} (h : RepF w M v (.v (.slice none 0 0))) : RepF w M v (.sl 0 []) := by
 have := repV h; subst this
 exact RepF.sl none 0 0 [] [] (Nat.le_refl _) rfl (fun u hu => by cases hu) (fun h => absurd rfl h) (fun k u x h => by simp at h)
theorem CopyInts_s (l : List Int) (hl : l.length <= 1000000) : Summ Tryz.prog GG 43 [.sl l.length (intsF l)] (.sl l.length (intsF l)) := by
 have hlen := intsF_len l
 refine summW Tryz.func43 rfl rfl 6 rfl (by simp) (fun M0 => ?_)
 repeat (first
 | (apply s_bslice_clip TY; (iterate 6 exact rfl))
 | (apply s_append_copy TY; (iterate 7 exact rfl); assumption; (unfold maxLen; omega); omega)
 | (apply s_a TY; exact rfl)
 | apply w_seq
 | apply w_region
 | apply s_nil
 | apply t_norm
 | apply w_ret)
 exact lv_ret (ret1 rfl (res_tmp rfl))
theorem take_eq_succ {α : Type} {a b : List α} {k : Nat} (ha : k < a.length) (hb : k < b.length) (ht : a.take k = b.take k) (he : a[k] = b[k]) : a.take (k + 1) = b.take (k + 1) := by
 rw [List.take_succ_eq_append_getElem ha, List.take_succ_eq_append_getElem hb, ht, he]
theorem take_all_eq {α : Type} {a b : List α} {k : Nat} (hl : a.length = b.length) (hk : a.length <= k) (ht : a.take k = b.take k) : a = b := by
 rwa [List.take_of_length_le hk, List.take_of_length_le (by omega)] at ht
set_option maxRecDepth 100000 in
set_option maxHeartbeats 1600000 in
theorem Ints_s (a b : List Int) (ha : a.length <= 1000000) (_hb : b.length <= 1000000) : Summ Tryz.prog GG 45 [.sl a.length (intsF a), .sl b.length (intsF b)] (bv (decide (a = b))) := by
 by_cases hl : a.length = b.length
 · refine summW Tryz.func45 rfl rfl 26 rfl (by simp) (fun M0 => ?_)
   repeat (first
 | (apply s_a TY; exact rfl)
 | (apply s_t; exact rfl; omega)
 | apply w_seq
 | apply w_region
 | apply s_nil
 | apply t_norm
 | apply w_block
 | apply w_skip
 | (apply w_condF; exact rfl; exact rfl))
   apply w_loop (fun k : Nat => ⟨(Ab.upd (Ab.upd (Ab.upd (fun _ => .bot) 0 (.f (.sl a.length (intsF a)))) 1 (.f (.sl b.length (intsF b)))) 5 (.f (iv (k : Nat)))), (fun _ => none), 0⟩) (fun k => k <= a.length /\ a.take k = b.take k) (fun k => a.length - k) 0 (⟨Nat.zero_le _, by simp⟩) (gh_le ⟨le_upd rfl trivial (le_upd rfl trivial (le_upd rfl trivial (le_nil _))), le_h0 _ _⟩)
   intro k ⟨hk, ht⟩
   by_cases hc : k < a.length
   · have hcb : k < b.length := by omega
     by_cases he : a[k] = b[k]
     · have hd : decide (a[k] = b[k]) = !false := by simp [he]
       repeat (first
 | (apply s_a TY; exact rfl)
 | (apply s_t; exact rfl; (first | assumption | omega))
 | apply w_seq
 | apply w_region
 | (apply w_draw (id := 6) 8 rfl (by kernel_rfl))
 | apply s_nil
 | apply t_norm
 | apply k_norm
 | apply w_block
 | apply w_skip
 | (apply w_condT; exact rfl; exact rfl)
 | (apply w_condF; exact rfl; exact rfl)
 | (apply s_c TY; exact rfl; (first | omega | exact ⟨by omega, by (((with_reducible apply intsF_ne); omega))⟩))
 | (apply s_l TY; exact rfl; (((with_reducible apply intsF_at); omega))))
       exact ⟨k + 1, ⟨by omega, take_eq_succ hc hcb ht he⟩, by omega, gh_le ⟨le_upd rfl trivial (le_upd rfl trivial (le_upd rfl trivial (le_nil _))), le_h0 _ _⟩⟩
     · have hd : decide (a[k] = b[k]) = !true := by simp [he]
       have hne : ¬ a = b := fun e => he (by simp [e])
       rw [decide_eq_false hne]
       repeat (first
 | (apply s_a TY; exact rfl)
 | (apply s_t; exact rfl; omega)
 | (apply s_f; exact rfl; assumption)
 | apply w_seq
 | apply w_region
 | (apply w_draw (id := 6) 8 rfl (by kernel_rfl))
 | apply s_nil
 | apply t_norm
 | apply t_ret
 | apply k_ret
 | apply w_block
 | apply w_ret
 | apply w_skip
 | (apply w_condT; exact rfl; exact rfl)
 | (apply s_c TY; exact rfl; (exact ⟨by omega, by (((with_reducible apply intsF_ne); omega))⟩))
 | (apply s_l TY; exact rfl; (((with_reducible apply intsF_at); omega))))
       exact lv_ret (ret1 rfl (res_tmp rfl))
   · rw [decide_eq_true (take_all_eq hl (by omega) ht)]
     repeat (first
 | (apply s_a TY; exact rfl)
 | (apply s_f; exact rfl; omega)
 | apply w_seq
 | apply w_region
 | apply s_nil
 | apply t_norm
 | apply t_exit
 | apply k_hit
 | apply w_exit
 | apply w_ret
 | (apply w_condF; exact rfl; exact rfl))
     exact lv_ret (ret1 rfl (res_tmp rfl))
 · have hne : ¬ a = b := fun e => hl (by rw [e])
   rw [decide_eq_false hne]
   refine summW Tryz.func45 rfl rfl 26 rfl (by simp) (fun M0 => ?_)
   repeat (first
 | (apply s_a TY; exact rfl)
 | (apply s_f; exact rfl; omega)
 | apply w_seq
 | apply w_region
 | apply s_nil
 | apply t_norm
 | apply t_ret
 | apply w_ret
 | (apply w_condT; exact rfl; exact rfl))
   exact lv_ret (ret1 rfl (res_tmp rfl))
theorem detC_append : ∀ {a b : List FV} {p q : List Value}, detC a = some p -> detC b = some q -> detC (a ++ b) = some (p ++ q)
 | [], b, p, q, h, h' => by simp [detC] at h; subst h; simpa using h'
 | .v x :: a, b, p, q, h, h' => by
   cases hr : detC a with
   | none => simp [detC, hr] at h
   | some l => simp [detC, hr] at h; subst h; simp [detC, detC_append hr h']
 | .sl _ _ :: _, _, _, _, h, _ => by simp [detC] at h
 | .agg _ :: _, _, _, _, h, _ => by simp [detC] at h
 | .tup _ :: _, _, _, _, h, _ => by simp [detC] at h
 | .pt _ _ :: _, _, _, _, h, _ => by simp [detC] at h
 | .fn _ _ :: _, _, _, _, h, _ => by simp [detC] at h
 | .slc _ _ :: _, _, _, _, h, _ => by simp [detC] at h
 | .mp _ :: _, _, _, _, h, _ => by simp [detC] at h
theorem detC_flat {α : Type} {f : α -> List FV} {e : α -> List Value} (h : ∀ x, detC (f x) = some (e x)) : ∀ l : List α, detC (l.flatMap f) = some (l.flatMap e)
 | [] => rfl
 | x :: l => by rw [List.flatMap_cons, List.flatMap_cons]; exact detC_append (h x) (detC_flat h l)
theorem rep_row {w : World} {M : Nat -> Prop} {v : Value} {n : Nat} {cs : List FV} {us : List Value} (h : RepF w M v (.sl n cs)) (hd : detC cs = some us) : ∃ a c, v = .slice a n c /\ n <= c /\ Row w a us := by
 cases h with
 | sl a _ c _ vs h1 h2 h3 h4 h5 =>
   have := detC_spec ⟨h2, h5⟩ hd
   subst this
   refine ⟨a, c, rfl, h1, ⟨fun hn => ?_⟩⟩
   obtain ⟨b, off, e, L⟩ := h4 hn
   exact ⟨b, off, e, L.lt, L.at_⟩
theorem repL_det {w : World} {M : Nat -> Prop} {us : List Value} : ∀ {cs : List FV}, detC cs = some us -> RepL w M us cs
 | [], h => by simp [detC] at h; subst h; exact RepL.nil _ _
 | .v x :: r, h => by
   cases hr : detC r with
   | none => simp [detC, hr] at h
   | some l => simp [detC, hr] at h; subst h; exact RepL.cons (RepF.v x) (repL_det hr)
 | .sl _ _ :: _, h => by simp [detC] at h
 | .agg _ :: _, h => by simp [detC] at h
 | .tup _ :: _, h => by simp [detC] at h
 | .pt _ _ :: _, h => by simp [detC] at h
 | .fn _ _ :: _, h => by simp [detC] at h
 | .slc _ _ :: _, h => by simp [detC] at h
 | .mp _ :: _, h => by simp [detC] at h
def jobP (x : Job) : Prop := (0 <= x.ready /\ x.ready <= 1000000000000) /\ (0 <= x.due /\ x.due <= 1000000000000) /\ (1 <= x.length /\ x.length <= 100000) /\ (0 <= x.rank /\ x.rank <= 100000)
instance (x : Job) : Decidable (jobP x) := by unfold jobP; infer_instance
def wI (m : List Int) (z : Int) : Int := m.getD z.toNat default
structure MapOk (n : Int) (m : List Int) : Prop where
 len : (m.length : Int) = n
 each : ∀ i, i < m.length -> 0 <= m.getD i default /\ m.getD i default <= 1000000
 some : ∃ i, i < m.length /\ 0 < m.getD i default
def cellsA (L : List Int) : List AV := (intsF L).map AV.f
section
variable {A P E D seg : List Int} {x : Int} {j k : Nat} {w : Int -> Int}
end
open Go.Proofs Go.Shelf
theorem strSz (s : Nm) : (⟨s.toArray⟩ : ByteArray).size = s.length := by simp [ByteArray.size]
theorem nes_run (x y : Operand) (a b : Nm) (w : World) : (do eqGuard .neq 9 x y (.string ⟨a.toArray⟩) (.string ⟨b.toArray⟩); binOp .neq 9 (.string ⟨a.toArray⟩) (.string ⟨b.toArray⟩) : Sem Value).run Tryz.prog w = .ok (.bool (!decide (a = b))) w := by
 simp [eqGuard, binOp, Op.stringOp]
 exact Bool.eq_iff_iff.2 (by rw [beq_iff_eq, decide_eq_true_eq])
theorem nes_t {x y : Operand} {a b : Nm} (h : ¬ a = b) (w : World) : (do eqGuard .neq 9 x y (.string ⟨a.toArray⟩) (.string ⟨b.toArray⟩); binOp .neq 9 (.string ⟨a.toArray⟩) (.string ⟨b.toArray⟩) : Sem Value).run Tryz.prog w = .ok (.bool true) w := by
 rw [nes_run, decide_eq_false h]; rfl
theorem nes_f {x y : Operand} {a b : Nm} (h : a = b) (w : World) : (do eqGuard .neq 9 x y (.string ⟨a.toArray⟩) (.string ⟨b.toArray⟩); binOp .neq 9 (.string ⟨a.toArray⟩) (.string ⟨b.toArray⟩) : Sem Value).run Tryz.prog w = .ok (.bool false) w := by
 rw [nes_run, decide_eq_true h]; rfl
end Go.Proofs.YtbkdjlahhcofmaaGreatDoor
namespace Go.Ab
open Go Go.RowKit Go.Shelf Go.Proofs
def pin0 (J : Nat -> Value) (i : Nat) : Option Value := bif Nat.beq i 0 then some (J 0) else none
def cxH (P : Program) (G : Nat -> Option FV) (M X : Nat -> Prop) (J : Nat -> Value) : Ctx := ⟨P, G, M, X, none, pin0 J⟩
structure SummH (P : Program) (G : Nat -> Option FV) (g : Nat) (h : Nat -> Option Blk) (args : List AV) (ret : AV) (h' : Nat -> Option Blk) : Prop where
 enters : Enters P g
 one : ∃ B B', h 0 = some B /\ B.stays = true /\ h' 0 = some B' /\ B'.stays = true
 cl : ∀ i B, h i = some B -> closedB h B
 call : ∀ (w : World) (M X : Nat -> Prop) (us : List Value) (J : Nat -> Value), (∀ b, X b ↔ ownM h J b) -> (∀ b, M b -> b < w.heap.size /\ ¬ X b) -> (∀ k, G k = none) ->
  RepAs (cxH P G M X J) w h J us args -> (∀ i B, h i = some B -> RepB (cxH P G M X J) w w.heap.size h J (J i) B) -> (∀ i j b, (h i).isSome = true -> (h j).isSome = true -> bk (J i) = some b -> bk (J j) = some b -> i = j) ->
  Calls P g us.toArray w fun en w' => ∃ v J', en = .returned v /\ RepA (cxH P G M X J) w' h' J' v ret /\ (∀ i B, h' i = some B -> RepB (cxH P G M X J) w' w.heap.size h' J' (J' i) B) /\ (∀ i j b, (h' i).isSome = true -> (h' j).isSome = true -> bk (J' i) = some b -> bk (J' j) = some b -> i = j) /\ Grew X w w' /\ J' 0 = J 0
section
variable {C : Ctx} {N : Nat} {st : St}
variable {ops : Array Oper} {K : St -> Prop} {rest : List Oper} {d : Option Tmp} {T0 : TypeId} {pos : String} {af : Array Edge}
end
section
variable {C : Ctx} {N : Nat} {st : St}
variable {ops : Array Oper} {pr : Bool} {K : St -> Prop} {rest : List Oper} {d : Option Tmp} {T0 : TypeId} {pos : String} {af : Array Edge} {gd : Option (Nat × Bool)}
end
section
variable {C : Ctx} {N : Nat} {st : St}
end
open Go Go.RowKit Go.Shelf Go.Proofs Go.Sort
section
variable {C : Ctx} {N : Nat} {st : St}
theorem gh_one (i r : Nat) {e sz n : Nat} {cs : List FV} (hs : st.s r = .ow i) (hi : st.h i = some (.row e sz n cs)) : Gh C N st ⟨upd (fun _ => .bot) r (.ow 0), blkL [.row e sz n cs], 1⟩ := fun w0 a w ⟨J, S⟩ => ⟨fun _ => J i, by
 have live : ∀ j, (blkL [Blk.row e sz n cs] j).isSome = true -> j = 0 := fun j hj => by
  have := blkL_live.1 hj; simp at this; exact this
 have hM : ∀ b, b < w.heap.size -> Mb C (blkL [Blk.row e sz n cs]) (fun _ => J i) b -> Mb C st.h J b := fun b _ q => q.imp id fun ⟨j, _, hb⟩ => ⟨i, by rw [hi]; rfl, hb⟩
 refine ⟨S.ext, S.size, S.defs, fun t => ?_, fun j D hD => ?_, fun j k b hj hk _ _ => by rw [live j hj, live k hk], S.old, fun g cs hg => RepF.ext (S.glob g cs hg) (Ext.refl _) hM, fun j p B hp hc hst => ?_⟩
 · by_cases e : t = r
   · subst e
     show RepA C w _ _ _ (upd (fun _ => AV.bot) t (.ow 0) t)
     rw [upd_same]
     have := S.slot t
     rw [hs] at this
     exact ⟨rfl, this.2⟩
   · show RepA C w _ _ _ (upd (fun _ => AV.bot) r (.ow 0) t)
     rw [upd_other _ _ e]; trivial
 · have hj := live j (by show (blkL _ j).isSome = true; rw [show blkL [Blk.row e sz n cs] j = some D from hD]; rfl)
   subst hj
   have : D = .row e sz n cs := by have h : blkL [Blk.row e sz n cs] 0 = some D := hD; rw [blkL_eq] at h; simp at h; exact h.symm
   subst this
   obtain ⟨xs, q1, q0, q2, q3⟩ := S.blk i _ hi
   exact ⟨xs, q1, q0, q2, q3.1, fun k u x h1 h2 => RepF.ext (q3.2 k u x h1 h2) (Ext.refl _) hM⟩
 · have hj := live j (by show (blkL _ j).isSome = true; rw [show blkL [Blk.row e sz n cs] j = some B from hc]; rfl)
   subst hj
   have h : blkL [Blk.row e sz n cs] 0 = some B := hc
   rw [blkL_eq] at h; simp at h; subst h; cases hst⟩
end
end Go.Ab
namespace Go.Proofs.YtbkdjlahhcofmaaGreatDoor
open Go.Proofs Go.Shelf
open Go Go.RowKit Go.Proofs Go.Shelf Go.Ab
attribute [local go_sem] Oper.semAt_some
structure ValRd (Bx ox : Nat) (la : Option Addr) (lc : Nat) (L : List Nm) (w : World) : Prop where
 c0 : w.cell? ⟨Bx, ox, none⟩ = some (.slice la L.length lc)
 at_ : ∀ (j : Nat) (hj : j < L.length), ∃ b o, la = some ⟨b, o, none⟩ /\ w.cell? ⟨b, o + j, none⟩ = some (.string ⟨L[j].toArray⟩)
theorem lies_cell {w : World} {M : Nat -> Prop} {b off k : Nat} {us : List Value} {v : Value} (h : Lies w M b off us) (hv : us[k]? = some v) : w.cell? ⟨b, off + k, none⟩ = some v := (h.at_ k (List.getElem?_eq_some_iff.1 hv).1).trans hv
end Go.Proofs.YtbkdjlahhcofmaaGreatDoor
namespace Go.Proofs.YtbkdjlahhcofmaaGreatDoor
open Go.Proofs Go.Shelf
open Go Go.RowKit Go.Proofs Go.Shelf Go.Ab
open Go.Maps Go.Sort Go.ChangeMaps Go.MapKept
def encS (s : Nm) : Value := .string ⟨s.toArray⟩
def encV (z : Int) : Value := .int .i64 z
theorem zeroI (W : World) : (zeroValue 3).run Tryz.prog W = .ok (.int .i64 0) W := by kernel_rfl
def mpG (f : Nm -> Option Int) : Obj -> Prop := mapFn encS encV f
structure KeysAre (f : Nm -> Option Int) (ks : List Nm) : Prop where
 nd : ks.Nodup
 mem : ∀ c, c ∈ ks ↔ (f c).isSome = true
structure Alt where
 nm : Nm
 ver : Int
 cells : List Int
 gone : Bool
 had : Nm -> Option Int
 kys : List Nm
instance : Inhabited Alt := ⟨⟨[], 0, [], false, fun _ => none, []⟩⟩
def bxC (j : Nat) (a : Alt) : List AV := [.f (sv a.nm), .f (iv a.ver), .f (.sl a.cells.length (intsF a.cells)), .f (bv a.gone), .f (.v (.slice none 0 0)), .ow j]
def HX (al : List Alt) (q : Nat) (i : Nat) : Option Blk := bif Nat.blt i 1000 && Nat.ble 5 i && !(Nat.beq ((i - 5) / 2) q) then (match al[(i - 5) / 2]? with
 | none => none
 | some a => bif Nat.beq ((i - 5) % 2) 0 then some (.map (mpG a.had)) else some (.box (bxC (i - 1) a))) else none
def PT (al : List Alt) (q : Nat) : List AV := (List.range al.length).map fun j => bif Nat.beq j q then .bx 4 0 else .bx (2 * j + 6) 0
def HP (cs : List Cel) (ppl : List Nm) (al : List Alt) (q : Nat) : Nat -> Option Blk := Ab.upd (Ab.upd (Ab.upd (HX al q) 0 (some (.box [.f (xF cs), .ow 1, .ow 2]))) 1 (some (.row 9 1 ppl.length (strsF ppl)))) 2 (some (.rowA 241 1 al.length (PT al q)))
def HB (cs : List Cel) (ppl : List Nm) (al : List Alt) : Nat -> Option Blk := HP cs ppl al 1000
def HO (cs : List Cel) (ppl : List Nm) (al : List Alt) (k : Nat) (a : Alt) : Nat -> Option Blk := Ab.upd (Ab.upd (HP cs ppl al k) 3 (some (.map (mpG a.had)))) 4 (some (.box (bxC 3 a)))
section
variable {C : Ctx} {N : Nat} {s : Nat -> AV} {cs : List Cel} {ppl : List Nm} {al : List Alt} {k nx : Nat}
end
section
variable {C : Ctx} {N : Nat} {st : St}
end
def updAll (f : Nm -> Option Int) (l : List Nm) (z : Int) : Nm -> Option Int := fun n => if n ∈ l then some z else f n
def sent (a : Alt) (cl : List Int) (l : List Nm) : Alt := ⟨a.nm, a.ver + 1, cl, a.gone, updAll a.had l (a.ver + 1), a.kys ++ l.filter fun n => !a.kys.contains n⟩
abbrev Lst := List Nm × List Alt
structure Inv (m : Nat) (s : Lst) : Prop where
 al : s.2.length <= m
 pl : s.1.length <= 8
 nd : s.1.Nodup
 nm : ∀ n, n ∈ s.1 -> n.length <= 12
 ver : ∀ a, a ∈ s.2 -> 0 <= a.ver /\ a.ver <= m
 kys : ∀ a, a ∈ s.2 -> KeysAre a.had a.kys /\ a.kys.length <= 8 * m /\ ∀ c, c ∈ a.kys -> c.length <= 12
theorem inv0 : Inv 0 ([], []) := ⟨Nat.le_refl _, by simp, List.nodup_nil, fun n h => by simp at h, fun a h => by simp at h, fun a h => by simp at h⟩
structure PtOk (p : Pt) : Prop where
 h : -1000000 <= p.height /\ p.height <= 1000000
 t : 0 <= p.turn /\ p.turn <= 999999
open Go.Lib (itoa decDigits decFrom digitVal)
structure CutK (c : UInt8) (s : Nm) (k fr : Nat) (ws : List Nm) : Prop where
 le : fr <= k
 no : c ∉ (s.drop fr).take (k - fr)
 all : ws ++ cutS c (s.drop fr) = cutS c s
open Go.Lib (itoa decDigits decFrom digitVal join atoiAll)
def I64 (l : List Int) : Prop := ∀ z ∈ l, -9223372036854775808 <= z /\ z <= 9223372036854775807
def wordsS (l : List Int) : Nm := join (l.map itoa) [32]
theorem join_len : ∀ (l : List Nm) (B : Nat), (∀ s ∈ l, s.length <= B) -> (join l [32]).length <= (B + 1) * l.length
 | [], B, _ => by rw [Lib.join_nil]; simp
 | [x], B, h => by rw [Lib.join_one]; have := h x (by simp); simp; omega
 | x :: y :: r, B, h => by
   have ih := join_len (y :: r) B (fun s hs => h s (by simp [List.mem_cons.1 hs]))
   have e : join (x :: y :: r) [32] = x ++ 32 :: join (y :: r) [32] := by
    rw [Lib.join_cons, Lib.join_cons]
    unfold Lib.joinTail
    simp
   have hx := h x (by simp)
   rw [e, List.length_append, List.length_cons, List.length_cons, Nat.mul_succ]
   omega
theorem itoa_len {z : Int} (h : -9223372036854775808 <= z /\ z <= 9223372036854775807) : (itoa z).length <= 21 := Lib.itoa_length_le z h.1 h.2
theorem itoas_len {l : List Int} (h : I64 l) (k : Nat) : (join ((l.map itoa).take k) [32]).length <= 22 * l.length := by
 have h1 := join_len ((l.map itoa).take k) 21 (fun s hs => by
  obtain ⟨z, hz, rfl⟩ := List.mem_map.1 (List.mem_of_mem_take hs)
  exact itoa_len (h z hz))
 have h2 : ((l.map itoa).take k).length <= l.length := by rw [List.length_take, List.length_map]; omega
 have := Nat.mul_le_mul_left 22 h2
 omega
theorem wordsS_len {l : List Int} (h : I64 l) : (wordsS l).length <= 22 * l.length := by
 have := itoas_len h l.length
 rw [List.take_of_length_le (by simp)] at this
 exact this
def numP (d : Nat) (w : Nm) : Option Int := match numO w d with
 | some v => if 0 <= v then some v else none
 | none => none
def numsO (d : Nat) (ws : List Nm) : Option (List Int) := ws.foldl (fun o w => o.bind fun l => (numP d w).map fun v => l ++ [v]) (some [])
theorem numsO_snoc (d : Nat) (ws : List Nm) (w : Nm) : numsO d (ws ++ [w]) = (numsO d ws).bind fun l => (numP d w).map fun v => l ++ [v] := by
 unfold numsO
 rw [List.foldl_append]; rfl
theorem fold_none (d : Nat) : ∀ ws : List Nm, ws.foldl (fun (o : Option (List Int)) w => o.bind fun l => (numP d w).map fun v => l ++ [v]) none = none
 | [] => rfl
 | _ :: ws => fold_none d ws
theorem numsO_bad {d : Nat} {ws : List Nm} {k : Nat} (hk : k < ws.length) (h : numP d ws[k] = none) : numsO d ws = none := by
 have e : ws = (ws.take k ++ [ws[k]]) ++ ws.drop (k + 1) := by
  rw [<- List.take_succ_eq_append_getElem hk, List.take_append_drop]
 unfold numsO
 rw [e, List.foldl_append, List.foldl_append]
 generalize (ws.take k).foldl _ _ = o
 have e2 : List.foldl (fun (o : Option (List Int)) w => o.bind fun l => (numP d w).map fun v => l ++ [v]) o [ws[k]] = none := by
  show (o.bind fun l => (numP d ws[k]).map fun v => l ++ [v]) = none
  rw [h]
  cases o <;> rfl
 rw [e2]
 exact fold_none d _
theorem numsO_next {d : Nat} {ws : List Nm} {k : Nat} {l : List Int} {v : Int} (hk : k < ws.length) (hl : numsO d (ws.take k) = some l) (h : numP d ws[k] = some v) : numsO d (ws.take (k + 1)) = some (l ++ [v]) := by
 rw [List.take_succ_eq_append_getElem hk, numsO_snoc, hl, h]; rfl
theorem fold_len (d : Nat) : ∀ (ws : List Nm) (l0 l : List Int), ws.foldl (fun (o : Option (List Int)) w => o.bind fun l => (numP d w).map fun v => l ++ [v]) (some l0) = some l -> l.length = l0.length + ws.length
 | [], l0, l, h => by rw [<- Option.some.inj h]; simp
 | w :: ws, l0, l, h => by
   rw [List.foldl_cons] at h
   cases hw : numP d w with
   | none =>
     have e : ((some l0).bind fun l => (numP d w).map fun v => l ++ [v]) = none := by rw [hw]; rfl
     rw [e, fold_none] at h; cases h
   | some v =>
     have e : ((some l0).bind fun l => (numP d w).map fun v => l ++ [v]) = some (l0 ++ [v]) := by rw [hw]; rfl
     rw [e] at h
     have := fold_len d ws (l0 ++ [v]) l h
     rw [this, List.length_append, List.length_singleton, List.length_cons]; omega
theorem numsO_len {d : Nat} {ws : List Nm} {l : List Int} (h : numsO d ws = some l) : l.length = ws.length := by
 have := fold_len d ws [] l h
 rw [this]; simp
theorem atoi_rng {l : Nm} {v : Int} (h : atoiAll l = .ok v) : -9223372036854775808 <= v /\ v <= 9223372036854775807 := by
 unfold atoiAll at h
 cases l with
 | nil => cases h
 | cons c r =>
   simp only at h
   split at h
   · cases h
   · cases h
   · rename_i u hu
     split at h
     · cases h
     · split at h
       · cases h
       · injection h with h
         by_cases hn : c.toNat = 45
         · rw [if_pos hn] at h; omega
         · rw [if_neg hn] at h; omega
theorem atS_pos {v : Int} (h : 0 <= v) : atS (itoa v) = 0 := by
 unfold itoa
 rw [if_neg (by omega)]
 exact atS_dec _
open Go.Lib (itoa)
structure Ntc where
 name : Nm
 version : Int
 tick : Int
 cells : List Int
section
variable {s : Nm}
end
structure CelsOk (cs : List Cel) : Prop where
 len : cs.length <= 96
 each : ∀ i (hi : i < cs.length), (1 <= cs[i].count /\ cs[i].count <= 12) /\ (0 <= cs[i].index /\ cs[i].index < cs[i].count) /\ 0 <= cs[i].ring /\ cs[i].ring <= 8
 same : ∀ i j (hi : i < cs.length) (hj : j < cs.length), cs[i].ring = cs[j].ring -> cs[i].count = cs[j].count
section
variable {near : Int -> Int -> Bool}
structure MkOk (near : Int -> Int -> Bool) (X mk : List Int) : Prop where
 len : mk.length = X.length
 each : ∀ i, i < X.length -> mk.getD i default ∈ X /\ Conn near X (X.getD i default) (mk.getD i default) /\ mk.getD i default <= X.getD i default
def stillM (near : Int -> Int -> Bool) (X mk : List Int) (i k : Nat) : Prop := ¬ (mk.getD i default < mk.getD k default /\ near (X.getD i default) (X.getD k default) = true)
def sumM (mk : List Int) : Nat := (mk.map Int.toNat).sum
structure Sweep (near : Int -> Int -> Bool) (X m0 : List Int) (i k : Nat) (mk : List Int) (c : Bool) : Prop where
 ok : MkOk near X mk
 low : c = true -> sumM mk < sumM m0
 same : c = false -> mk = m0
 still : c = false -> ∀ a b, a < X.length -> b < X.length -> (a < i \/ (a = i /\ b < k)) -> stillM near X m0 a b
end
theorem setAt_mid {α : Type} : ∀ (r b a c : List α), b.length = r.length -> setAt (a ++ b ++ c) a.length r = a ++ r ++ c
 | [], [], _, _, _ => rfl
 | x :: r, y :: b, a, c, h => by
   have e : (a ++ y :: b ++ c).set a.length x = (a ++ [x]) ++ b ++ c := by
    rw [List.append_assoc, List.set_append_right _ _ (Nat.le_refl _), Nat.sub_self]; simp
   have ih := setAt_mid r b (a ++ [x]) c (by simpa using h)
   rw [List.length_append] at ih
   rw [setAt, e]
   exact ih.trans (by simp)
section
variable {C : Ctx} {N : Nat} {st : St}
end
open Go.Lib (itoa decDigits join)
def allW (m : List Int) : Int := sumI (wI m) (idxL m.length)
section
variable {n : Int} {m : List Int}
end
theorem itoa_nn {v : Int} (h : 0 <= v) : itoa v = decDigits v.toNat := by unfold itoa; rw [if_neg (by omega)]
theorem dd_len : ∀ (k n : Nat), n < 10 ^ (k + 1) -> (decDigits n).length <= k + 1
 | 0, n, h => by rw [decDigits, dif_pos (show n < 10 by omega)]; simp
 | k + 1, n, h => by
   rw [decDigits]
   split
   · simp
   · rw [List.length_append]
     have := dd_len k (n / 10) (by rw [Nat.pow_succ] at h; omega)
     simp; omega
theorem itoa_no32 {v : Int} (h : 0 <= v) : (32 : UInt8) ∉ itoa v := by
 rw [itoa_nn h]
 intro hm
 have := (decDigits_byte hm).1
 revert this; decide
section
variable {n : Int} {m : List Int}
end
theorem numP_itoaD {k : Nat} {v : Int} (h : 0 <= v /\ v.toNat < 10 ^ (k + 1)) : numP (k + 1) (itoa v) = some v := by
 have hl : ((itoa v).drop (atS (itoa v))).length <= k + 1 := by
  rw [List.length_drop, itoa_nn h.1]
  have := dd_len k v.toNat h.2
  omega
 unfold numP
 rw [numO_itoa v hl]
 show (if 0 <= v then some v else none) = _
 rw [if_pos h.1]
theorem numsO_itoaD {d : Nat} : ∀ (l : List Int), (∀ z, z ∈ l -> 0 <= z /\ z.toNat < 10 ^ (d + 1)) -> ∀ k, k <= l.length -> numsO (d + 1) ((l.map itoa).take k) = some (l.take k)
 | _, _, 0, _ => rfl
 | l, h, k + 1, hk => by
   have ih := numsO_itoaD l h k (by omega)
   have hm : k < (l.map itoa).length := by rw [List.length_map]; omega
   have hk2 : k < l.length := hk
   have hv : numP (d + 1) (l.map itoa)[k] = some l[k] := by rw [List.getElem_map]; exact numP_itoaD (h _ (List.getElem_mem hk2))
   rw [numsO_next hm ih hv, List.take_succ_eq_append_getElem hk2]
theorem words_again {d : Nat} {l : List Int} (hne : l ≠ []) (h : ∀ z, z ∈ l -> 0 <= z /\ z.toNat < 10 ^ (d + 1)) : numsO (d + 1) (cutS 32 (wordsS l)) = some l := by
 have e : cutS 32 (wordsS l) = l.map itoa := cut_join (by simpa using hne) fun w hw => by
  obtain ⟨z, hz, rfl⟩ := List.mem_map.1 hw
  exact itoa_no32 (h z hz).1
 have h2 := numsO_itoaD l h l.length (Nat.le_refl _)
 rw [List.take_of_length_le (Nat.le_of_eq (List.length_map _)), List.take_length] at h2
 rw [e, h2]
structure Site where
 line : Int
 sensor : Int
 x : Int
 y : Int
 z : Int
deriving DecidableEq, Inhabited
structure Hit where
 tm : Int
 line : Int
 sensor : Int
deriving DecidableEq, Inhabited
structure Rule where
 kind : Int
 count : Int
 window : Int
 reach : Int
 height : Int
deriving DecidableEq, Inhabited
structure Rng where
 lo : Int
 hi : Int
deriving DecidableEq, Inhabited
structure Fire where
 hit : Int
 lo : Int
 hi : Int
deriving DecidableEq, Inhabited
structure Ev where
 lo : Int
 hi : Int
 hits : List Int
deriving DecidableEq, Inhabited
structure Stm where
 hits : List Hit
 mark : Int
deriving DecidableEq, Inhabited
structure Setup where
 rules : List Rule
 before : Int
 after : Int
 dead : Int
deriving DecidableEq, Inhabited
def siteF (x : Site) : List FV := [iv x.line, iv x.sensor, iv x.x, iv x.y, iv x.z]
def sitesF (l : List Site) : List FV := l.flatMap siteF
theorem sitesF_len (l : List Site) : (sitesF l).length = l.length * 5 := flat_len (f := siteF) (fun _ => rfl) l
theorem sitesF_ne {l : List Site} {k : Nat} (h : k < l.length) : sitesF l ≠ [] := flat_ne (f := siteF) (fun _ => rfl) (by decide : 0 < 5) h
theorem sitesF_sub {l : List Site} {k : Nat} (h : k < l.length) : ((sitesF l).drop (k * 5)).take 5 = siteF l[k] := flat_sub (f := siteF) (fun _ => rfl) h
theorem sitesF_f0 {l : List Site} {k : Nat} (h : k < l.length) : (sitesF l)[k * 5 + 0]? = some (iv l[k].line) := (flat_at (f := siteF) (fun _ => rfl) h (by decide : 0 < 5)).trans rfl
theorem sitesF_f1 {l : List Site} {k : Nat} (h : k < l.length) : (sitesF l)[k * 5 + 1]? = some (iv l[k].sensor) := (flat_at (f := siteF) (fun _ => rfl) h (by decide : 1 < 5)).trans rfl
def hitF (x : Hit) : List FV := [iv x.tm, iv x.line, iv x.sensor]
def hitsF (l : List Hit) : List FV := l.flatMap hitF
theorem hitsF_len (l : List Hit) : (hitsF l).length = l.length * 3 := flat_len (f := hitF) (fun _ => rfl) l
theorem hitsF_ne {l : List Hit} {k : Nat} (h : k < l.length) : hitsF l ≠ [] := flat_ne (f := hitF) (fun _ => rfl) (by decide : 0 < 3) h
theorem hitsF_sub {l : List Hit} {k : Nat} (h : k < l.length) : ((hitsF l).drop (k * 3)).take 3 = hitF l[k] := flat_sub (f := hitF) (fun _ => rfl) h
theorem hitsF_f0 {l : List Hit} {k : Nat} (h : k < l.length) : (hitsF l)[k * 3 + 0]? = some (iv l[k].tm) := (flat_at (f := hitF) (fun _ => rfl) h (by decide : 0 < 3)).trans rfl
theorem hitsF_f1 {l : List Hit} {k : Nat} (h : k < l.length) : (hitsF l)[k * 3 + 1]? = some (iv l[k].line) := (flat_at (f := hitF) (fun _ => rfl) h (by decide : 1 < 3)).trans rfl
theorem hitsF_f2 {l : List Hit} {k : Nat} (h : k < l.length) : (hitsF l)[k * 3 + 2]? = some (iv l[k].sensor) := (flat_at (f := hitF) (fun _ => rfl) h (by decide : 2 < 3)).trans rfl
theorem hitsF_app (a b : List Hit) : hitsF (a ++ b) = hitsF a ++ hitsF b := List.flatMap_append
theorem hitsF_one (x : Hit) : hitsF [x] = hitF x := by simp [hitsF]
theorem hitsF_snoc (l : List Hit) (x : Hit) : hitsF (l ++ [x]) = hitsF l ++ hitF x := by rw [hitsF_app, hitsF_one]
theorem hitsF_drop (l : List Hit) (k : Nat) : (hitsF l).drop (k * 3) = hitsF (l.drop k) := flat_drop (f := hitF) (fun _ => rfl) l k
theorem hitsF_take (l : List Hit) (k : Nat) : (hitsF l).take (k * 3) = hitsF (l.take k) := flat_take (f := hitF) (fun _ => rfl) l k
def ruleF (x : Rule) : List FV := [iv x.kind, iv x.count, iv x.window, iv x.reach, iv x.height]
def rulesF (l : List Rule) : List FV := l.flatMap ruleF
theorem rulesF_len (l : List Rule) : (rulesF l).length = l.length * 5 := flat_len (f := ruleF) (fun _ => rfl) l
theorem rulesF_ne {l : List Rule} {k : Nat} (h : k < l.length) : rulesF l ≠ [] := flat_ne (f := ruleF) (fun _ => rfl) (by decide : 0 < 5) h
theorem rulesF_sub {l : List Rule} {k : Nat} (h : k < l.length) : ((rulesF l).drop (k * 5)).take 5 = ruleF l[k] := flat_sub (f := ruleF) (fun _ => rfl) h
theorem rulesF_f0 {l : List Rule} {k : Nat} (h : k < l.length) : (rulesF l)[k * 5 + 0]? = some (iv l[k].kind) := (flat_at (f := ruleF) (fun _ => rfl) h (by decide : 0 < 5)).trans rfl
def rngF (x : Rng) : List FV := [iv x.lo, iv x.hi]
def rngsF (l : List Rng) : List FV := l.flatMap rngF
theorem rngsF_len (l : List Rng) : (rngsF l).length = l.length * 2 := flat_len (f := rngF) (fun _ => rfl) l
theorem rngsF_ne {l : List Rng} {k : Nat} (h : k < l.length) : rngsF l ≠ [] := flat_ne (f := rngF) (fun _ => rfl) (by decide : 0 < 2) h
theorem rngsF_sub {l : List Rng} {k : Nat} (h : k < l.length) : ((rngsF l).drop (k * 2)).take 2 = rngF l[k] := flat_sub (f := rngF) (fun _ => rfl) h
theorem rngsF_f1 {l : List Rng} {k : Nat} (h : k < l.length) : (rngsF l)[k * 2 + 1]? = some (iv l[k].hi) := (flat_at (f := rngF) (fun _ => rfl) h (by decide : 1 < 2)).trans rfl
theorem rngsF_app (a b : List Rng) : rngsF (a ++ b) = rngsF a ++ rngsF b := List.flatMap_append
theorem rngsF_one (x : Rng) : rngsF [x] = rngF x := by simp [rngsF]
theorem rngsF_snoc (l : List Rng) (x : Rng) : rngsF (l ++ [x]) = rngsF l ++ rngF x := by rw [rngsF_app, rngsF_one]
theorem rngsF_tk {l : List Rng} {k : Nat} (h : k < l.length) : rngsF (l.take (k + 1)) = rngsF (l.take k) ++ rngF l[k] := by rw [List.take_succ_eq_append_getElem h, rngsF_snoc]
theorem rngsF_take (l : List Rng) (k : Nat) : (rngsF l).take (k * 2) = rngsF (l.take k) := flat_take (f := rngF) (fun _ => rfl) l k
def fireF (x : Fire) : List FV := [iv x.hit, iv x.lo, iv x.hi]
def firesF (l : List Fire) : List FV := l.flatMap fireF
theorem firesF_ne {l : List Fire} {k : Nat} (h : k < l.length) : firesF l ≠ [] := flat_ne (f := fireF) (fun _ => rfl) (by decide : 0 < 3) h
theorem firesF_sub {l : List Fire} {k : Nat} (h : k < l.length) : ((firesF l).drop (k * 3)).take 3 = fireF l[k] := flat_sub (f := fireF) (fun _ => rfl) h
theorem firesF_app (a b : List Fire) : firesF (a ++ b) = firesF a ++ firesF b := List.flatMap_append
theorem firesF_one (x : Fire) : firesF [x] = fireF x := by simp [firesF]
theorem firesF_snoc (l : List Fire) (x : Fire) : firesF (l ++ [x]) = firesF l ++ fireF x := by rw [firesF_app, firesF_one]
def evF (x : Ev) : List FV := [iv x.lo, iv x.hi, .sl x.hits.length (intsF x.hits)]
def evsF (l : List Ev) : List FV := l.flatMap evF
theorem evsF_ne {l : List Ev} {k : Nat} (h : k < l.length) : evsF l ≠ [] := flat_ne (f := evF) (fun _ => rfl) (by decide : 0 < 3) h
theorem evsF_sub {l : List Ev} {k : Nat} (h : k < l.length) : ((evsF l).drop (k * 3)).take 3 = evF l[k] := flat_sub (f := evF) (fun _ => rfl) h
theorem evsF_f0 {l : List Ev} {k : Nat} (h : k < l.length) : (evsF l)[k * 3 + 0]? = some (iv l[k].lo) := (flat_at (f := evF) (fun _ => rfl) h (by decide : 0 < 3)).trans rfl
theorem evsF_f1 {l : List Ev} {k : Nat} (h : k < l.length) : (evsF l)[k * 3 + 1]? = some (iv l[k].hi) := (flat_at (f := evF) (fun _ => rfl) h (by decide : 1 < 3)).trans rfl
theorem evsF_f2 {l : List Ev} {k : Nat} (h : k < l.length) : (evsF l)[k * 3 + 2]? = some (.sl l[k].hits.length (intsF l[k].hits)) := (flat_at (f := evF) (fun _ => rfl) h (by decide : 2 < 3)).trans rfl
theorem evsF_app (a b : List Ev) : evsF (a ++ b) = evsF a ++ evsF b := List.flatMap_append
theorem evsF_one (x : Ev) : evsF [x] = evF x := by simp [evsF]
theorem evsF_snoc (l : List Ev) (x : Ev) : evsF (l ++ [x]) = evsF l ++ evF x := by rw [evsF_app, evsF_one]
theorem evsF_tk {l : List Ev} {k : Nat} (h : k < l.length) : evsF (l.take (k + 1)) = evsF (l.take k) ++ evF l[k] := by rw [List.take_succ_eq_append_getElem h, evsF_snoc]
theorem evsF_drop (l : List Ev) (k : Nat) : (evsF l).drop (k * 3) = evsF (l.drop k) := flat_drop (f := evF) (fun _ => rfl) l k
def stmF (x : Stm) : List FV := [.sl x.hits.length (hitsF x.hits), iv x.mark]
def stmsF (l : List Stm) : List FV := l.flatMap stmF
theorem stmsF_ne {l : List Stm} {k : Nat} (h : k < l.length) : stmsF l ≠ [] := flat_ne (f := stmF) (fun _ => rfl) (by decide : 0 < 2) h
theorem stmsF_sub {l : List Stm} {k : Nat} (h : k < l.length) : ((stmsF l).drop (k * 2)).take 2 = stmF l[k] := flat_sub (f := stmF) (fun _ => rfl) h
def setL (s : Setup) : List FV := [.sl s.rules.length (rulesF s.rules), iv s.before, iv s.after, iv s.dead]
def setF (s : Setup) : FV := .agg (setL s)
def arrF (l : List Site) : FV := .agg [.sl l.length (sitesF l)]
end Go.Proofs.YtbkdjlahhcofmaaGreatDoor
