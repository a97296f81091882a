/- What slices.Sort leaves of a row of whole numbers. Plain: no program in sight. -/
import Derived.Test.YtmbldnoepjmhhaaZPermgroupFormsMg2
import Derived.Test.YtmbldnoepjmhhaaZPermgroupFormsMg0
import Derived.Shelf.Sort.Plain
namespace Go.Proofs.Ytmbldnoepjmhhaa.Plain
set_option linter.unusedVariables false
set_option linter.unusedSimpArgs false
open Go.RowKit Go.Sort Go.Shelf Go.Proofs.YtmbldnoepjmhhaaW.PrintWords
def sortInts (l : List Int) : List Int := sortKey (fun x => x) l
theorem sortInts_perm (l : List Int) : (sortInts l).Perm l := sortKey_perm _ l
theorem sortInts_sorted (l : List Int) : (sortInts l).Pairwise (fun x y => x ≤ y) := sortKey_sorted _ l
theorem sortInts_merge (l : List Int) : l.mergeSort (fun x y => decide (x ≤ y)) = sortInts l := by
  refine key_unique (fun x => x) (fun x _ y _ e => e) ((List.mergeSort_perm l _).trans (sortInts_perm l).symm) ?_ (sortInts_sorted l)
  have := List.pairwise_mergeSort (le := fun x y : Int => decide (x ≤ y)) (by intro a b c; simp; omega) (by intro a b; simp; omega) l
  exact this.imp (by simp)
set_option maxHeartbeats 1000000 in
theorem sortInts_row {P : Program} {ρ : Ren} (L : Lays.n189 P ρ)
    {w W : World} {E base : Nat} {ok : Nat → Prop} {A : Option Addr} {c : Nat} {l : List Int} (h : Kd.R (Kd.int .i64) E W base ok (.slice A l.length c) l) (hbase : w.heap.size ≤ base) (HB : Below w.heap.size w W) (hl0 : 0 < l.length) (hmax : l.length < 4611686018427387904) :
    Calls P (ρ.f 189) #[.slice A l.length c] W fun e w' => e = .returned (.tuple #[]) ∧ Kd.R (Kd.int .i64) E w' base ok (.slice A l.length c) (sortInts l) ∧ Below w.heap.size w w' ∧ ∀ k, k < W.heap.size → some k ≠ (Value.slice A l.length c).ownBlock → w'.heap[k]? = W.heap[k]? := by
  have hown := Kd.own_of_R h
  have hok := h.1
  obtain ⟨_, ⟨he, hl1⟩ | ⟨b, cap, cur, he, hb, hheap, hcap, hcm, hcs, htake⟩⟩ := hown
  · omega
  · injection he with e1 _ e3
    subst e1; subst e3
    have hblk : b < W.heap.size := by
      rw [Array.getElem?_eq_some_iff] at hheap
      exact hheap.1
    have hget : ∀ j (hj : j < l.length), (l.toArray)[j]! = l[j] := fun j hj => by
      rw [getElem!_pos l.toArray j (by simpa using hj)]; simp
    have hH : Holds (Value.int .i64) W b 0 l.toArray := by
      intro j hj
      have hj' : j < l.length := by simpa using hj
      obtain ⟨h1, h2⟩ := Kd.R_celln 0 h (j : Int) (by omega) (by omega)
      rw [Int.toNat_natCast] at h1 h2
      rw [Nat.zero_add]
      refine ⟨?_, h2⟩
      rw [h1, hget j hj']
      congr 1
      congr 1
      unfold rdOf
      rw [Int.toNat_natCast, List.getD_eq_getElem?_getD, List.getElem?_eq_getElem hj']
      rfl
    have heapOf : ∀ (m : Nat) (d' : Array Int) (os : Array Obj) k, (grow (putRow (Value.int .i64) (Sort.ahead W m) b 0 d') os).heap[k]? = if k < W.heap.size then (if b = k then some (.cells (putCells (Value.int .i64) 0 d' cur) E (0, 0)) else W.heap[k]?) else (W.heap.modify b (onCells (putCells (Value.int .i64) 0 d')) ++ os)[k]? := by
      intro m d' os k
      have e0 : (grow (putRow (Value.int .i64) (Sort.ahead W m) b 0 d') os).heap = W.heap.modify b (onCells (putCells (Value.int .i64) 0 d')) ++ os := rfl
      rw [e0]
      by_cases hk : k < W.heap.size
      · rw [if_pos hk, Array.getElem?_append_left (by simpa using hk), Array.getElem?_modify]
        by_cases e : b = k
        · rw [if_pos e, if_pos e, ← e, hheap]; rfl
        · rw [if_neg e, if_neg e]
      · rw [if_neg hk]
    have hob : ∀ k, some k ≠ (Value.slice (some (⟨b, 0, none⟩ : Addr)) l.length c).ownBlock → b ≠ k := fun k hk e => hk (by subst e; rfl)
    refine (Any.slices_Sort_int L b 0 c l W hH hblk hmax).mono ?_
    rintro e w' ⟨rfl, n, os, rfl⟩
    have hpl := (sortInts_perm l).length_eq
    refine ⟨rfl, Kd.R_of_own ⟨by simp [encs, hpl], .inr ⟨b, c, putCells (Value.int .i64) 0 (sortInts l).toArray cur, by rw [hpl], hb, by rw [heapOf, if_pos hblk, if_pos rfl, ← sortInts_merge], by rw [hpl]; exact hcap, hcm, by simpa [putCells] using hcs, ?_⟩⟩ hok, ?_, ?_⟩
    · have hle : l.length ≤ cur.size := by omega
      rw [hpl, Nat.mul_one]
      apply List.ext_getElem?
      intro j
      by_cases hj : j < l.length
      · rw [List.getElem?_take, if_pos hj, Array.getElem?_toList]
        unfold putCells encs
        rw [Array.getElem?_mapIdx, List.getElem?_map, List.getElem?_eq_getElem (show j < (sortInts l).length by omega), Array.getElem?_eq_getElem (by omega)]
        simp only [Option.map_some]
        rw [if_pos ⟨Nat.zero_le _, by simp; omega⟩, Nat.sub_zero, getElem!_pos (sortInts l).toArray j (by simp; omega)]
        simp
      · rw [List.getElem?_eq_none (by rw [List.length_take]; omega), List.getElem?_eq_none (by simp [encs, hpl]; omega)]
    · refine HB.trans ⟨rfl, rfl, rfl, ?_, fun k hk => ?_⟩
      · show W.heap.size ≤ (W.heap.modify b (onCells (putCells (Value.int .i64) 0 _)) ++ os).size
        simp
      · rw [heapOf, if_pos (by have := HB.size; omega), if_neg (by omega)]
    · intro k hk hne
      rw [heapOf, if_pos hk, if_neg (hob k hne)]
end Go.Proofs.Ytmbldnoepjmhhaa.Plain
