/- Plain facts on lists of whole numbers that are permutations, and on loops that fill a list. No program in sight. -/
import Derived.Test.YtobbdbkcailfkaaPlain
namespace Go.Proofs.Ytobbdbkcailfkaa.Plain
set_option linter.unusedVariables false
set_option linter.unusedSimpArgs false
open Go.RowKit Go.Proofs.YtobbdbkcailfkaaW.PrintWords

theorem w64_small {i : Int} (h0 : -9223372036854775808 ≤ i) (h1 : i ≤ 9223372036854775807) : wrap64 i = i := by
  unfold wrap64; omega
theorem wrap_nat {i : Nat} (h : i < 4611686018427387904) : wrap64 ((i : Int) + 1) = ((i + 1 : Nat) : Int) := by
  unfold wrap64; omega
theorem rd_nat (l : List Int) (i : Nat) : rd l (i : Int) = l.getD i 0 := rfl
theorem rd_get (l : List Int) (i : Nat) (h : i < l.length) : rd l (i : Int) = l[i] := by
  rw [rd_nat, List.getD_eq_getElem?_getD, List.getElem?_eq_getElem h]; rfl
theorem set_fill {α : Type} (R S : List α) (i : Nat) (v : α) (hi : i < R.length) (hS : S.length = R.length) (hv : R[i]? = some v) :
    (R.take i ++ S.drop i).set i v = R.take (i + 1) ++ S.drop (i + 1) := by
  have hR : R[i] = v := by rw [List.getElem?_eq_getElem hi] at hv; exact Option.some.inj hv
  rw [List.set_append_right _ _ (by rw [List.length_take]; omega)]
  rw [show i - (R.take i).length = 0 by rw [List.length_take]; omega]
  rw [List.drop_eq_getElem_cons (by omega : i < S.length), List.set_cons_zero, List.take_succ_eq_append_getElem hi, hR]
  simp
theorem fill_end {α : Type} (R S : List α) (hS : S.length = R.length) : R.take R.length ++ S.drop R.length = R := by
  rw [List.take_length, List.drop_eq_nil_of_le (by omega), List.append_nil]

/-! ### The check of a list -/
def chkFrom (l : List Int) : Nat → Int
  | 0 => 0
  | d + 1 => if l.getD (l.length - (d + 1)) 0 < 0 ∨ (l.length : Int) ≤ l.getD (l.length - (d + 1)) 0 then 3
    else if l.getD (l.length - (d + 1)) 0 ∈ l.take (l.length - (d + 1)) then 24 else chkFrom l d
def chk (l : List Int) : Int := if 20 < l.length then 4 else chkFrom l l.length
def IsPerm (l : List Int) : Prop := (∀ x ∈ l, 0 ≤ x ∧ x < (l.length : Int)) ∧ l.Nodup
theorem chkFrom_zero (l : List Int) : ∀ d, d ≤ l.length → (chkFrom l d = 0 ↔ ∀ i, l.length - d ≤ i → i < l.length → (0 ≤ l.getD i 0 ∧ l.getD i 0 < (l.length : Int)) ∧ l.getD i 0 ∉ l.take i)
  | 0, _ => by
    simp only [chkFrom, true_iff]
    intro i h1 h2; omega
  | d + 1, hd => by
    have ih := chkFrom_zero l d (by omega)
    simp only [chkFrom]
    by_cases h1 : l.getD (l.length - (d + 1)) 0 < 0 ∨ (l.length : Int) ≤ l.getD (l.length - (d + 1)) 0
    · rw [if_pos h1]
      refine ⟨fun h => by omega, fun h => ?_⟩
      have := (h (l.length - (d + 1)) (Nat.le_refl _) (by omega)).1
      omega
    · rw [if_neg h1]
      by_cases h2 : l.getD (l.length - (d + 1)) 0 ∈ l.take (l.length - (d + 1))
      · rw [if_pos h2]
        exact ⟨fun h => by omega, fun h => absurd h2 (h (l.length - (d + 1)) (Nat.le_refl _) (by omega)).2⟩
      · rw [if_neg h2, ih]
        constructor
        · intro h i hi hl
          by_cases e : i = l.length - (d + 1)
          · subst e
            exact ⟨by omega, h2⟩
          · exact h i (by omega) hl
        · intro h i hi hl
          exact h i (by omega) hl
theorem nodup_take (l : List Int) : l.Nodup ↔ ∀ i, i < l.length → l.getD i 0 ∉ l.take i := by
  rw [List.nodup_iff_pairwise_ne, List.pairwise_iff_getElem]
  constructor
  · intro h i hi hm
    obtain ⟨j, hj, e⟩ := List.getElem_of_mem hm
    rw [List.length_take] at hj
    have := h j i (by omega) hi (by omega)
    rw [List.getElem_take] at e
    rw [List.getD_eq_getElem?_getD, List.getElem?_eq_getElem hi] at e
    exact this e
  · intro h i j hi hj hij e
    refine h j hj ?_
    rw [List.getD_eq_getElem?_getD, List.getElem?_eq_getElem hj]
    show l[j] ∈ _
    rw [← e]
    exact List.mem_take_iff_getElem.2 ⟨i, by omega, rfl⟩
theorem chk_zero (l : List Int) : chk l = 0 ↔ l.length ≤ 20 ∧ IsPerm l := by
  unfold chk
  by_cases h : 20 < l.length
  · rw [if_pos h]
    exact ⟨fun h => by omega, fun h => by omega⟩
  · rw [if_neg h, chkFrom_zero l l.length (Nat.le_refl _)]
    unfold IsPerm
    rw [nodup_take]
    constructor
    · intro hh
      refine ⟨by omega, fun x hx => ?_, fun i hi => (hh i (by omega) hi).2⟩
      obtain ⟨i, hi, rfl⟩ := List.getElem_of_mem hx
      have := (hh i (by omega) hi).1
      rwa [List.getD_eq_getElem?_getD, List.getElem?_eq_getElem hi] at this
    · rintro ⟨_, h1, h2⟩ i _ hi
      refine ⟨?_, h2 i hi⟩
      rw [List.getD_eq_getElem?_getD, List.getElem?_eq_getElem hi]
      exact h1 _ (List.getElem_mem hi)

/-! ### A permutation's list and its function -/
def gf (l : List Int) (i : Nat) : Nat := (l.getD i 0).toNat
theorem IsPerm.get {l : List Int} (h : IsPerm l) {i : Nat} (hi : i < l.length) : 0 ≤ l.getD i 0 ∧ l.getD i 0 < (l.length : Int) ∧ l.getD i 0 = ((gf l i : Nat) : Int) := by
  have : l.getD i 0 ∈ l := by
    rw [List.getD_eq_getElem?_getD, List.getElem?_eq_getElem hi]
    exact List.getElem_mem hi
  have := h.1 _ this
  unfold gf
  omega
theorem IsPerm.bij {l : List Int} (h : IsPerm l) : Bij l.length (gf l) where
  lt i hi := by have := h.get hi; omega
  inj i j hi hj e := by
    have a := h.get hi
    have b := h.get hj
    have e' : l.getD i 0 = l.getD j 0 := by rw [a.2.2, b.2.2, e]
    rw [List.getD_eq_getElem?_getD, List.getElem?_eq_getElem hi, List.getD_eq_getElem?_getD, List.getElem?_eq_getElem hj] at e'
    replace e' : l[i] = l[j] := e'
    have hp := List.pairwise_iff_getElem.1 (List.nodup_iff_pairwise_ne.1 h.2)
    rcases Nat.lt_trichotomy i j with hlt | hlt | hlt
    · exact absurd e' (hp i j hi hj hlt)
    · exact hlt
    · exact absurd e'.symm (hp j i hj hi hlt)
/-- The list of a function. -/
def lf (g : Nat → Nat) (n : Nat) : List Int := (List.range n).map fun i => ((g i : Nat) : Int)
theorem lf_length (g : Nat → Nat) (n : Nat) : (lf g n).length = n := by simp [lf]
theorem lf_getD (g : Nat → Nat) (n i : Nat) (hi : i < n) : (lf g n).getD i 0 = ((g i : Nat) : Int) := by
  rw [List.getD_eq_getElem?_getD]
  simp [lf, List.getElem?_map, List.getElem?_range hi]
theorem lf_get? (g : Nat → Nat) (n i : Nat) (hi : i < n) : (lf g n)[i]? = some ((g i : Nat) : Int) := by
  simp [lf, List.getElem?_map, List.getElem?_range hi]
theorem gf_lf (g : Nat → Nat) (n i : Nat) (hi : i < n) : gf (lf g n) i = g i := by
  unfold gf; rw [lf_getD g n i hi]; rfl
theorem lf_congr {g h : Nat → Nat} {n : Nat} (e : ∀ i, i < n → g i = h i) : lf g n = lf h n := by
  unfold lf
  exact List.map_congr_left fun i hi => by rw [e i (List.mem_range.1 hi)]
theorem lf_inj {g h : Nat → Nat} {n : Nat} (e : lf g n = lf h n) : ∀ i, i < n → g i = h i := by
  intro i hi
  have := congrArg (fun l => l.getD i 0) e
  simp only [lf_getD _ n i hi] at this
  omega
theorem IsPerm.eq_lf {l : List Int} (h : IsPerm l) : l = lf (gf l) l.length := by
  apply List.ext_getElem?
  intro i
  by_cases hi : i < l.length
  · rw [lf_get? _ _ _ hi, List.getElem?_eq_getElem hi]
    have := (h.get hi).2.2
    rw [List.getD_eq_getElem?_getD, List.getElem?_eq_getElem hi] at this
    exact congrArg some this
  · rw [List.getElem?_eq_none (by omega), List.getElem?_eq_none (by rw [lf_length]; omega)]
theorem lf_perm {g : Nat → Nat} {n : Nat} (h : Bij n g) : IsPerm (lf g n) := by
  constructor
  · intro x hx
    obtain ⟨i, hi, rfl⟩ := List.mem_map.1 hx
    have := h.lt i (List.mem_range.1 hi)
    rw [lf_length]
    omega
  · unfold lf
    rw [List.nodup_iff_pairwise_ne, List.pairwise_map]
    refine List.Pairwise.imp_of_mem ?_ (List.pairwise_lt_range)
    intro a b ha hb hab e
    have := h.inj a b (List.mem_range.1 ha) (List.mem_range.1 hb) (by omega)
    omega
theorem Bij.id (n : Nat) : Bij n (fun i => i) := ⟨fun _ h => h, fun _ _ _ _ e => e⟩
theorem Bij.comp {n : Nat} {g h : Nat → Nat} (hg : Bij n g) (hh : Bij n h) : Bij n (fun i => h (g i)) :=
  ⟨fun i hi => hh.lt _ (hg.lt i hi), fun i j hi hj e => hg.inj i j hi hj (hh.inj _ _ (hg.lt i hi) (hg.lt j hj) e)⟩
theorem Bij.it {n : Nat} {g : Nat → Nat} (hg : Bij n g) (k : Nat) : Bij n (it g k) :=
  ⟨fun _ hi => hg.it_lt k hi, fun _ _ hi hj e => hg.it_inj k hi hj e⟩
theorem Bij.congr {n : Nat} {g h : Nat → Nat} (hg : Bij n g) (e : ∀ i, i < n → g i = h i) : Bij n h :=
  ⟨fun i hi => by rw [← e i hi]; exact hg.lt i hi, fun i j hi hj ee => hg.inj i j hi hj (by rw [e i hi, e j hj, ee])⟩
/-- First a, then b. -/
def mulL (a b : List Int) : List Int := a.map fun x => rd b x
theorem mulL_lf (g h : Nat → Nat) (n : Nat) (hg : ∀ i, i < n → g i < n) : mulL (lf g n) (lf h n) = lf (fun i => h (g i)) n := by
  unfold mulL
  conv => lhs; unfold lf
  rw [List.map_map]
  refine List.map_congr_left fun i hi => ?_
  have hi := List.mem_range.1 hi
  show rd (lf h n) ((g i : Nat) : Int) = _
  rw [rd_nat, lf_getD h n _ (hg i hi)]
theorem it_one (g : Nat → Nat) (i : Nat) : it g 1 i = g i := rfl
/-- A valid list as the list of a function. -/
theorem of_chk {l : List Int} (h : chk l = 0) : l.length ≤ 20 ∧ Bij l.length (gf l) ∧ l = lf (gf l) l.length := by
  obtain ⟨h1, h2⟩ := (chk_zero l).1 h
  exact ⟨h1, h2.bij, h2.eq_lf⟩
theorem chk_lf {g : Nat → Nat} {n : Nat} (h : Bij n g) (hn : n ≤ 20) : chk (lf g n) = 0 :=
  (chk_zero _).2 ⟨by rw [lf_length]; exact hn, lf_perm h⟩

/-! ### The inverse -/
def inv (g : Nat → Nat) (n j : Nat) : Nat := it g (per g n j - 1) j
theorem Bij.inv_lt {n g} (h : Bij n g) {j : Nat} (hj : j < n) : inv g n j < n := h.it_lt _ hj
theorem Bij.g_inv {n g} (h : Bij n g) {j : Nat} (hj : j < n) : g (inv g n j) = j := by
  have e := (h.per_spec hj).1
  have hp := per_pos g n j
  rw [show per g n j = (per g n j - 1) + 1 by omega] at e
  exact e
theorem Bij.inv_g {n g} (h : Bij n g) {i : Nat} (hi : i < n) : inv g n (g i) = i :=
  h.inj _ _ (h.inv_lt (h.lt i hi)) hi (h.g_inv (h.lt i hi))
theorem Bij.inv {n g} (h : Bij n g) : Bij n (Plain.inv g n) :=
  ⟨fun _ hj => h.inv_lt hj, fun i j hi hj e => by rw [← h.g_inv hi, ← h.g_inv hj, e]⟩
/-- The inverse's list while it is filled: the first i points have been put in their places. -/
def invL (g : Nat → Nat) (n i : Nat) : List Int := lf (fun j => if inv g n j < i then inv g n j else 0) n
theorem invL_zero (g : Nat → Nat) (n : Nat) : invL g n 0 = List.replicate n 0 := by
  apply List.ext_getElem?
  intro j
  by_cases hj : j < n
  · unfold invL; rw [lf_get? _ _ _ hj]; simp [hj]
  · rw [List.getElem?_eq_none (by unfold invL; rw [lf_length]; omega), List.getElem?_eq_none (by simp; omega)]
theorem invL_step {n : Nat} {g : Nat → Nat} (h : Bij n g) (i : Nat) (hi : i < n) : (invL g n i).set (g i) (i : Int) = invL g n (i + 1) := by
  apply List.ext_getElem?
  intro j
  unfold invL
  rw [List.getElem?_set, lf_length]
  by_cases hj : j < n
  · rw [lf_get? _ _ _ hj, lf_get? _ _ _ hj]
    by_cases e : g i = j
    · rw [if_pos e, if_pos (by omega), ← e, h.inv_g hi, if_pos (by omega)]
    · rw [if_neg e]
      have : Plain.inv g n j ≠ i := fun ee => e (by rw [← ee, h.g_inv hj])
      by_cases h1 : Plain.inv g n j < i
      · rw [if_pos h1, if_pos (by omega)]
      · rw [if_neg h1, if_neg (by omega)]
  · have := h.lt i hi
    rw [if_neg (by omega), List.getElem?_eq_none (by rw [lf_length]; omega), List.getElem?_eq_none (by rw [lf_length]; omega)]
theorem invL_end {n : Nat} {g : Nat → Nat} (h : Bij n g) : invL g n n = lf (inv g n) n :=
  lf_congr fun _ hj => if_pos (h.inv_lt hj)
/-! ### Comparing -/
def cmpL : List Int → List Int → Int
  | x :: a, y :: b => if x < y then -1 else if y < x then 1 else cmpL a b
  | _, _ => 0
/-! ### Exponents -/
theorem it_mod_ord {g : Nat → Nat} {n : Nat} (h : Bij n g) {i : Nat} (hi : i < n) {a b : Nat} (e : a % ord g n = b % ord g n) : it g a i = it g b i := by
  have hf := (h.ord_dvd (ord g n)).1 (Nat.dvd_refl _) i hi
  rw [it_mod hf a, it_mod hf b, e]
theorem exp_add (m n : Int) (o : Nat) (ho : 0 < o) : ((m % (o : Int)).toNat + (n % (o : Int)).toNat) % o = ((m + n) % (o : Int)).toNat % o := by
  have h1 := Int.emod_nonneg m (by omega : (o : Int) ≠ 0)
  have h2 := Int.emod_nonneg n (by omega : (o : Int) ≠ 0)
  have h3 := Int.emod_nonneg (m + n) (by omega : (o : Int) ≠ 0)
  have e : ((((m % (o : Int)).toNat + (n % (o : Int)).toNat) % o : Nat) : Int) = ((((m + n) % (o : Int)).toNat % o : Nat) : Int) := by
    rw [Int.natCast_emod, Int.natCast_emod, Int.natCast_add, Int.toNat_of_nonneg h1, Int.toNat_of_nonneg h2, Int.toNat_of_nonneg h3, Int.emod_emod, Int.emod_add_emod, Int.add_emod_emod]
  exact Int.ofNat.inj e

/-! ### A permutation out of lists of points -/
/-- What the scan of all points comes to: the first error, or F. -/
def scanR (n : Nat) (F : List Int × Int) : List Bool → List Int → List Int × Int
  | _, [] => F
  | seen, x :: r => if x < 0 ∨ (n : Int) ≤ x then ([], 3) else if rdOf false seen x = true then ([], 24) else scanR n F (seen.set x.toNat true) r
def stepC (c p : List Int) (i : Nat) : List Int := p.set (c.getD i 0).toNat (c.getD ((i + 1) % c.length) 0)
def fill1 (c p : List Int) (j : Nat) : List Int := (List.range j).foldl (stepC c) p
theorem fill1_succ (c p : List Int) (j : Nat) : fill1 c p (j + 1) = stepC c (fill1 c p j) j := by
  unfold fill1; rw [List.range_succ, List.foldl_append]; rfl
theorem stepC_length (c p : List Int) (i : Nat) : (stepC c p i).length = p.length := by simp [stepC]
theorem fill1_length (c p : List Int) : ∀ j, (fill1 c p j).length = p.length
  | 0 => rfl
  | j + 1 => by rw [fill1_succ, stepC_length, fill1_length c p j]
def fillC (p : List Int) (C : List (List Int)) : List Int := C.foldl (fun p c => fill1 c p c.length) p
theorem fillC_length : ∀ (C : List (List Int)) (p : List Int), (fillC p C).length = p.length
  | [], p => rfl
  | c :: C, p => by
    show (fillC (fill1 c p c.length) C).length = _
    rw [fillC_length C, fill1_length]
def degE (n : Int) : Int := if n < 0 then 3 else if n > 20 then 4 else 0
/-- The permutation of degree n with these cycles, or the error. -/
def fromC (n : Int) (C : List (List Int)) : List Int × Int := if degE n = 0 then scanR n.toNat (fillC (lf (fun i => i) n.toNat) C, 0) (List.replicate n.toNat false) C.flatten else ([], degE n)
theorem degE_zero {n : Int} (h : degE n = 0) : ∃ m : Nat, n = (m : Int) ∧ m ≤ 20 := by
  unfold degE at h
  split at h
  · exact absurd h (by omega)
  · split at h
    · exact absurd h (by omega)
    · exact ⟨n.toNat, by omega, by omega⟩
theorem scanR_length (n : Nat) (F : List Int × Int) (hF : F.1.length ≤ 40) : ∀ (l : List Int) (seen : List Bool), (scanR n F seen l).1.length ≤ 40
  | [], _ => hF
  | x :: r, seen => by
    unfold scanR
    split
    · simp
    · split
      · simp
      · exact scanR_length n F hF r _
theorem fromC_length (n : Int) (C : List (List Int)) : (fromC n C).1.length ≤ 40 := by
  unfold fromC
  split
  · obtain ⟨m, rfl, hm⟩ := degE_zero ‹_›
    refine scanR_length _ _ ?_ _ _
    show (fillC _ _).length ≤ 40
    rw [fillC_length, lf_length]
    omega
  · simp

/-! ### The cycles, as they are collected -/
/-- The points as whole numbers. -/
def ints (l : List Nat) : List Int := l.map fun x => ((x : Nat) : Int)
def cycI (g : Nat → Nat) (n m : Nat) : List (List Int) := (cyc g n m).map ints
theorem cyc_len (g : Nat → Nat) (n m : Nat) : (cyc g n m).length ≤ m := by
  unfold cyc
  rw [List.length_map]
  exact Nat.le_trans (List.length_filter_le ..) (by simp)
theorem cycI_succ (g : Nat → Nat) (n m : Nat) : cycI g n (m + 1) = cycI g n m ++ (if isHead g n m = true then [ints (orb g n m)] else []) := by
  unfold cycI
  rw [cyc_succ, List.map_append]
  by_cases h : isHead g n m = true <;> simp [h]
/-- Which points have been seen: those in the orbits of the points below m, and the first t of the orbit of m. -/
def seenL (g : Nat → Nat) (n m t : Nat) : List Bool := (List.range n).map fun x => (List.range m).any (fun j => decide (x ∈ orb g n j)) || (List.range t).any (fun k => x == it g k m)
theorem seenL_length (g : Nat → Nat) (n m t : Nat) : (seenL g n m t).length = n := by simp [seenL]
theorem seenL_get? (g : Nat → Nat) (n m t x : Nat) (hx : x < n) : (seenL g n m t)[x]? = some ((List.range m).any (fun j => decide (x ∈ orb g n j)) || (List.range t).any (fun k => x == it g k m)) := by
  simp [seenL, List.getElem?_map, List.getElem?_range hx]
theorem seenL_rd (g : Nat → Nat) (n m t x : Nat) (hx : x < n) : rdOf false (seenL g n m t) (x : Int) = ((List.range m).any (fun j => decide (x ∈ orb g n j)) || (List.range t).any (fun k => x == it g k m)) := by
  unfold rdOf
  rw [Int.toNat_natCast, List.getD_eq_getElem?_getD, seenL_get? g n m t x hx]; rfl
theorem seenL_zero (g : Nat → Nat) (n : Nat) : seenL g n 0 0 = List.replicate n false := by
  apply List.ext_getElem?
  intro i
  by_cases hi : i < n
  · rw [seenL_get? _ _ _ _ _ hi]; simp [hi]
  · rw [List.getElem?_eq_none (by rw [seenL_length]; omega), List.getElem?_eq_none (by simp; omega)]
theorem seenL_step (g : Nat → Nat) (n m t : Nat) (hx : it g t m < n) : (seenL g n m t).set (it g t m) true = seenL g n m (t + 1) := by
  apply List.ext_getElem?
  intro i
  rw [List.getElem?_set]
  by_cases hi : i < n
  · rw [seenL_get? _ _ _ _ _ hi, seenL_get? _ _ _ _ _ hi]
    by_cases e : it g t m = i
    · rw [if_pos e, if_pos (by rw [seenL_length]; omega)]
      simp [List.range_succ, e]
    · rw [if_neg e]
      have : (i == it g t m) = false := beq_eq_false_iff_ne.2 (fun h => e h.symm)
      simp [List.range_succ, this]
  · rw [if_neg (by omega), List.getElem?_eq_none (by rw [seenL_length]; omega), List.getElem?_eq_none (by rw [seenL_length]; omega)]
/-- Behind the whole orbit the next point begins. -/
theorem seenL_next {g : Nat → Nat} {n : Nat} (h : Bij n g) (m : Nat) (hm : m < n) : seenL g n m (per g n m) = seenL g n (m + 1) 0 := by
  apply List.ext_getElem?
  intro i
  by_cases hi : i < n
  · rw [seenL_get? _ _ _ _ _ hi, seenL_get? _ _ _ _ _ hi]
    congr 1
    rw [Bool.eq_iff_iff]
    simp only [List.range_succ, List.any_append, Bool.or_eq_true, List.any_eq_true, List.mem_range, decide_eq_true_eq, beq_iff_eq, List.mem_singleton, List.range_zero, List.not_mem_nil, false_and, exists_false, or_false]
    constructor
    · rintro (h1 | ⟨k, hk, rfl⟩)
      · exact .inl h1
      · exact .inr ⟨m, rfl, (h.mem_orb hm _).2 ⟨k, rfl⟩⟩
    · rintro (h1 | ⟨j, rfl, hj⟩)
      · exact .inl h1
      · refine .inr ?_
        unfold orb at hj
        obtain ⟨k, hk, rfl⟩ := List.mem_map.1 hj
        exact ⟨k, List.mem_range.1 hk, rfl⟩
  · rw [List.getElem?_eq_none (by rw [seenL_length]; omega), List.getElem?_eq_none (by rw [seenL_length]; omega)]
/-- A point that is in the orbit of a lesser one adds nothing. -/
theorem seenL_skip {g : Nat → Nat} {n : Nat} (h : Bij n g) (m : Nat) (hm : m < n) (j : Nat) (hj : j < m) (hin : m ∈ orb g n j) : seenL g n m 0 = seenL g n (m + 1) 0 := by
  apply List.ext_getElem?
  intro i
  by_cases hi : i < n
  · rw [seenL_get? _ _ _ _ _ hi, seenL_get? _ _ _ _ _ hi]
    congr 1
    rw [Bool.eq_iff_iff]
    simp only [List.range_succ, List.any_append, Bool.or_eq_true, List.any_eq_true, List.mem_range, decide_eq_true_eq, List.mem_singleton, List.range_zero, List.not_mem_nil, false_and, exists_false, or_false]
    constructor
    · exact fun h1 => .inl h1
    · rintro (h1 | ⟨j', rfl, hj'⟩)
      · exact h1
      · exact ⟨j, hj, h.orb_trans (by omega) hin hj'⟩
  · rw [List.getElem?_eq_none (by rw [seenL_length]; omega), List.getElem?_eq_none (by rw [seenL_length]; omega)]
end Go.Proofs.Ytobbdbkcailfkaa.Plain
