/- Texts of this claim put together (wip/tools/merge.py). -/
import Derived.Test.YtaaaljifclecnaaZCosetChecksPCkx0
import Derived.Test.YtaaaljifclecnaaZCosetChecksPCkx1
import Derived.Test.YtaaaljifclecnaaZCosetChecksPCkx2
import Derived.Test.YtaaaljifclecnaaZCosetChecksPCkx3
import Derived.Test.YtaaaljifclecnaaZCosetChecksPCkx4
import Derived.Test.YtaaaljifclecnaaZCosetChecksPCkx5
import Derived.Test.YtaaaljifclecnaaZCosetChecksPCkx6
import Derived.Test.YtaaaljifclecnaaZCosetChecksMg0
import Derived.Test.YtaaaljifclecnaaZCosetChecksMg1
section
/- What the printed functions on group tables come to. -/
namespace Go.Proofs.Ytaaaljifclecnaa.QCk
set_option linter.unusedVariables false
set_option linter.unusedSimpArgs false
open Go.RowKit Go.Proofs.Ytaaaljifclecnaa.PCk Go.Proofs.YtaaaljifclecnaaW.PrintWords Go.Proofs.YtaaaljifclecnaaW.PrintLast Go.Proofs.Ytaaaljifclecnaa.Plain Go.Proofs.Ytaaaljifclecnaa.Tab
variable {T : List (List Int)}
theorem wide_l0 (hn : T.length ≤ 125) : ∃ b, Ev (fun k => galoislaw27_wide.l0 k T 0) b := by
  by_cases h : ∀ i, i < T.length → (T.getD i []).length ≤ 130
  · refine ⟨false, scan_all (l := fun k i => galoislaw27_wide.l0 k T (i : Int)) (n := T.length) (fun i hi r hr => ?_) ?_⟩
    · have : (rd_L1 T (i : Int)).length ≤ 130 := h i hi
      refine Ev.step (f := fun k => galoislaw27_wide.l0 k T ((i + 1 : Nat) : Int)) (fun k => ?_) hr
      simp only [galoislaw27_wide.l0]
      repeat (first | rw [if_pos (by omega)] | rw [if_neg (by omega)])
      rw [wrap_nat (by omega)]
    · refine Ev.step (f := fun _ => some false) (fun k => ?_) (Ev.now _)
      simp only [galoislaw27_wide.l0]
      repeat (first | rw [if_pos (by omega)] | rw [if_neg (by omega)])
  · refine ⟨true, scan_some (l := fun k i => galoislaw27_wide.l0 k T (i : Int)) (n := T.length) (fun i => (T.getD i []).length ≤ 130) (fun i hi hp r hr => ?_) (fun i hi hp => ?_) (by simpa [Classical.not_forall] using h)⟩
    · have : (rd_L1 T (i : Int)).length ≤ 130 := hp
      refine Ev.step (f := fun k => galoislaw27_wide.l0 k T ((i + 1 : Nat) : Int)) (fun k => ?_) hr
      simp only [galoislaw27_wide.l0]
      repeat (first | rw [if_pos (by omega)] | rw [if_neg (by omega)])
      rw [wrap_nat (by omega)]
    · have : ¬ (rd_L1 T (i : Int)).length ≤ 130 := hp
      refine Ev.step (f := fun _ => some true) (fun k => ?_) (Ev.now _)
      simp only [galoislaw27_wide.l0]
      repeat (first | rw [if_pos (by omega)] | rw [if_neg (by omega)])
theorem wide_j0 (b : Bool) (hb : b = false → T.length ≤ 125) : ∃ c, Ev (fun k => galoislaw27_wide.j0 k T b) c := by
  cases b with
  | true => exact ⟨true, Ev.step (f := fun _ => some true) (fun k => by simp only [galoislaw27_wide.j0, if_true]) (Ev.now _)⟩
  | false =>
    obtain ⟨c, hc⟩ := wide_l0 (hb rfl)
    exact ⟨c, Ev.step (f := fun k => galoislaw27_wide.l0 k T 0) (fun k => by simp only [galoislaw27_wide.j0, Bool.false_eq_true, if_false]) hc⟩
theorem wide_ev (T : List (List Int)) : ∃ c, Ev (fun k => galoislaw27_wide.f k T) c := by
  by_cases h1 : (T.length : Int) > 30 ∧ (T.length : Int) ≤ 120
  · obtain ⟨c, hc⟩ := wide_j0 (T := T) true (fun h => by cases h)
    exact ⟨c, Ev.congr (f := fun k => galoislaw27_wide.j0 k T true) (fun k => by simp only [galoislaw27_wide.f]; rw [if_pos h1.1, if_pos h1.2]) hc⟩
  · obtain ⟨c, hc⟩ := wide_j0 (T := T) (decide ((T.length : Int) > 125)) (fun h => by have := of_decide_eq_false h; omega)
    refine ⟨c, Ev.congr (f := fun k => galoislaw27_wide.j0 k T (decide ((T.length : Int) > 125))) (fun k => ?_) hc⟩
    simp only [galoislaw27_wide.f]
    by_cases h2 : (T.length : Int) > 30
    · rw [if_pos h2, if_neg (fun h3 => h1 ⟨h2, h3⟩)]
    · rw [if_neg h2]
theorem ranges_row (hS : ∀ i, i < T.length → (T.getD i []).length = T.length) (hn : T.length ≤ 120) {i : Nat} (hi : i < T.length) (hp : ∀ j, j < T.length → 0 ≤ m T i j ∧ m T i j < (T.length : Int)) (r : Int) (hr : Ev (fun k => coset_ranges.l0 k T T (T.length : Int) ((i + 1 : Nat) : Int)) r) : Ev (fun k => coset_ranges.l0 k T T (T.length : Int) (i : Int)) r := by
  have hl : (rd_L1 T (i : Int)).length = T.length := hS i hi
  refine Ev.step (f := fun k => coset_ranges.l1 k T T (T.length : Int) (i : Int) (rd_L1 T (i : Int)) ((rd_L1 T (i : Int)).length : Int) ((0 : Nat) : Int)) (fun k => ?_) (scan_all (l := fun k j => coset_ranges.l1 k T T (T.length : Int) (i : Int) (rd_L1 T (i : Int)) ((rd_L1 T (i : Int)).length : Int) (j : Int)) (n := T.length) (fun j hj r hr => ?_) ?_)
  · simp only [coset_ranges.l0]
    repeat (first | rw [if_pos (by omega)] | rw [if_neg (by omega)])
    rfl
  · have : 0 ≤ rd (rd_L1 T (i : Int)) (j : Int) ∧ rd (rd_L1 T (i : Int)) (j : Int) < (T.length : Int) := hp j hj
    refine Ev.step (f := fun k => coset_ranges.l1 k T T (T.length : Int) (i : Int) (rd_L1 T (i : Int)) ((rd_L1 T (i : Int)).length : Int) ((j + 1 : Nat) : Int)) (fun k => ?_) hr
    simp only [coset_ranges.l1]
    repeat (first | rw [if_pos (by omega)] | rw [if_neg (by omega)])
    rw [wrap_nat (by omega)]
  · refine Ev.step (f := fun k => coset_ranges.l0 k T T (T.length : Int) ((i + 1 : Nat) : Int)) (fun k => ?_) hr
    simp only [coset_ranges.l1]
    repeat (first | rw [if_pos (by omega)] | rw [if_neg (by omega)])
    rw [wrap_nat (by omega)]
theorem ranges_bad (hS : ∀ i, i < T.length → (T.getD i []).length = T.length) (hn : T.length ≤ 120) (h : ¬ Rng T) : Ev (fun k => coset_ranges.f k T) 3 := by
  refine Ev.congr (f := fun k => coset_ranges.l0 k T T (T.length : Int) ((0 : Nat) : Int)) (fun k => rfl) (scan_some (l := fun k i => coset_ranges.l0 k T T (T.length : Int) (i : Int)) (n := T.length) (fun i => ∀ j, j < T.length → 0 ≤ m T i j ∧ m T i j < (T.length : Int)) (fun i hi hp r hr => ranges_row hS hn hi hp r hr) (fun i hi hp => ?_) ?_)
  · have hl : (rd_L1 T (i : Int)).length = T.length := hS i hi
    refine Ev.step (f := fun k => coset_ranges.l1 k T T (T.length : Int) (i : Int) (rd_L1 T (i : Int)) ((rd_L1 T (i : Int)).length : Int) ((0 : Nat) : Int)) (fun k => ?_) (scan_some (l := fun k j => coset_ranges.l1 k T T (T.length : Int) (i : Int) (rd_L1 T (i : Int)) ((rd_L1 T (i : Int)).length : Int) (j : Int)) (n := T.length) (fun j => 0 ≤ m T i j ∧ m T i j < (T.length : Int)) (fun j hj hq r hr => ?_) (fun j hj hq => ?_) ?_)
    · simp only [coset_ranges.l0]
      repeat (first | rw [if_pos (by omega)] | rw [if_neg (by omega)])
      rfl
    · have : 0 ≤ rd (rd_L1 T (i : Int)) (j : Int) ∧ rd (rd_L1 T (i : Int)) (j : Int) < (T.length : Int) := hq
      refine Ev.step (f := fun k => coset_ranges.l1 k T T (T.length : Int) (i : Int) (rd_L1 T (i : Int)) ((rd_L1 T (i : Int)).length : Int) ((j + 1 : Nat) : Int)) (fun k => ?_) hr
      simp only [coset_ranges.l1]
      repeat (first | rw [if_pos (by omega)] | rw [if_neg (by omega)])
      rw [wrap_nat (by omega)]
    · have : ¬ (0 ≤ rd (rd_L1 T (i : Int)) (j : Int) ∧ rd (rd_L1 T (i : Int)) (j : Int) < (T.length : Int)) := hq
      refine Ev.step (f := fun _ => some 3) (fun k => ?_) (Ev.now _)
      simp only [coset_ranges.l1]
      by_cases h0 : rd (rd_L1 T (i : Int)) (j : Int) < 0
      · repeat (first | rw [if_pos (by omega)] | rw [if_neg (by omega)])
      · repeat (first | rw [if_pos (by omega)] | rw [if_neg (by omega)])
    · simpa [Classical.not_forall] using hp
  · unfold Rng at h
    simp only [Classical.not_forall] at h ⊢
    obtain ⟨i, hi, h⟩ := h
    exact ⟨i, hi, h⟩
theorem ranges_good (hS : ∀ i, i < T.length → (T.getD i []).length = T.length) (hn : T.length ≤ 120) (h : Rng T) : Ev (fun k => coset_ranges.f k T) 0 := by
  refine Ev.congr (f := fun k => coset_ranges.l0 k T T (T.length : Int) ((0 : Nat) : Int)) (fun k => rfl) (scan_all (l := fun k i => coset_ranges.l0 k T T (T.length : Int) (i : Int)) (n := T.length) (fun i hi r hr => ranges_row hS hn hi (h i hi) r hr) ?_)
  refine Ev.step (f := fun _ => some 0) (fun k => ?_) (Ev.now _)
  simp only [coset_ranges.l0]
  repeat (first | rw [if_pos (by omega)] | rw [if_neg (by omega)])
def sn (T : List (List Int)) (i : Nat) : Nat → List Bool
  | 0 => List.replicate T.length false
  | j + 1 => (sn T i j).set (e T i j) true
theorem sn_len (T : List (List Int)) (i : Nat) : ∀ j, (sn T i j).length = T.length
  | 0 => List.length_replicate
  | j + 1 => by rw [sn, List.length_set]; exact sn_len T i j
theorem sn_at (T : List (List Int)) (i x : Nat) (hx : x < T.length) : ∀ j, rdOf false (sn T i j) (x : Int) = true ↔ ∃ k, k < j ∧ e T i k = x
  | 0 => by
    refine ⟨fun h => ?_, fun ⟨k, h, _⟩ => by omega⟩
    have : (sn T i 0).getD x false = true := h
    rw [sn, List.getD_eq_getElem?_getD, List.getElem?_replicate, if_pos hx] at this
    cases this
  | j + 1 => by
    have ih := sn_at T i x hx j
    show ((sn T i j).set (e T i j) true).getD x false = true ↔ _
    have hl := sn_len T i j
    by_cases he : e T i j = x
    · rw [he, List.getD_eq_getElem?_getD, List.getElem?_set_self (by omega)]
      exact ⟨fun _ => ⟨j, by omega, he⟩, fun _ => rfl⟩
    · rw [List.getD_eq_getElem?_getD, List.getElem?_set_ne he, ← List.getD_eq_getElem?_getD]
      have ih' : (sn T i j).getD x false = true ↔ ∃ k, k < j ∧ e T i k = x := ih
      rw [ih']
      constructor
      · rintro ⟨k, h1, h2⟩; exact ⟨k, by omega, h2⟩
      · rintro ⟨k, h1, h2⟩
        rcases Nat.lt_or_ge k j with h | h
        · exact ⟨k, h, h2⟩
        · exact absurd (by rw [← h2, show k = j by omega]) he
theorem j3_false : Ev (fun k => coset_CheckTable.j3 k T false) 15 := Ev.step (f := fun _ => some 15) (fun k => by simp only [coset_CheckTable.j3, Bool.false_eq_true, if_false]) (Ev.now _)
theorem seen_iff (hS : ∀ i, i < T.length → (T.getD i []).length = T.length) (hR : Rng T) {i j : Nat} (hi : i < T.length) (hj : j < T.length) : rdOf false (sn T i j) (rd (rd_L1 T (i : Int)) (j : Int)) = true ↔ m T i j ∈ (T.getD i []).take j := by
  have h1 : rd (rd_L1 T (i : Int)) (j : Int) = ((e T i j : Nat) : Int) := (e_cast hR hi hj).symm
  rw [h1, sn_at T i _ (e_lt hR hi hj), mem_row (hS i hi) (by omega)]
  constructor
  · rintro ⟨k, h2, h3⟩; exact ⟨k, h2, by rw [← e_cast hR hi (by omega), ← e_cast hR hi hj, h3]⟩
  · rintro ⟨k, h2, h3⟩; exact ⟨k, h2, by unfold e; rw [h3]⟩
theorem l2_good (hS : ∀ i, i < T.length → (T.getD i []).length = T.length) (hn : T.length ≤ 120) (hR : Rng T) {i j : Nat} (hi : i < T.length) (hj : j < T.length) (hp : Lat T i j) (r : Int) (hr : Ev (fun k => coset_CheckTable.l2 k T true (i : Int) (sn T i (j + 1)) T (T.length : Int) (i : Int) (rd_L1 T (i : Int)) ((rd_L1 T (i : Int)).length : Int) ((j + 1 : Nat) : Int)) r) : Ev (fun k => coset_CheckTable.l2 k T true (i : Int) (sn T i j) T (T.length : Int) (i : Int) (rd_L1 T (i : Int)) ((rd_L1 T (i : Int)).length : Int) (j : Int)) r := by
  have hl : (rd_L1 T (i : Int)).length = T.length := hS i hi
  have hx : 0 ≤ rd (rd_L1 T (i : Int)) (j : Int) ∧ rd (rd_L1 T (i : Int)) (j : Int) < (T.length : Int) := hR i hi j hj
  have hsl := sn_len T i j
  have hs : ¬ rdOf false (sn T i j) (rd (rd_L1 T (i : Int)) (j : Int)) = true := fun h => hp.1 ((seen_iff hS hR hi hj).1 h)
  have q1 : i = 0 → rd (rd_L1 T (i : Int)) (j : Int) = (j : Int) := hp.2.1
  have q2 : j = 0 → rd (rd_L1 T (i : Int)) (j : Int) = (i : Int) := hp.2.2
  refine Ev.step (f := fun k => coset_CheckTable.l2 k T true (i : Int) (sn T i (j + 1)) T (T.length : Int) (i : Int) (rd_L1 T (i : Int)) ((rd_L1 T (i : Int)).length : Int) ((j + 1 : Nat) : Int)) (fun k => ?_) hr
  simp only [coset_CheckTable.l2]
  by_cases hi0 : i = 0
  · have q1 := q1 hi0
    by_cases hj0 : j = 0
    · have q2 := q2 hj0
      repeat (first | rw [if_pos (by omega)] | rw [if_neg (by omega)])
      rw [wrap_nat (by omega)]
      rfl
    · repeat (first | rw [if_pos (by omega)] | rw [if_neg (by omega)])
      rw [wrap_nat (by omega)]
      rfl
  · by_cases hj0 : j = 0
    · have q2 := q2 hj0
      repeat (first | rw [if_pos (by omega)] | rw [if_neg (by omega)])
      rw [wrap_nat (by omega)]
      rfl
    · repeat (first | rw [if_pos (by omega)] | rw [if_neg (by omega)])
      rw [wrap_nat (by omega)]
      rfl
theorem l2_bad (hS : ∀ i, i < T.length → (T.getD i []).length = T.length) (hn : T.length ≤ 120) (hR : Rng T) {i j : Nat} (hi : i < T.length) (hj : j < T.length) (hp : ¬ Lat T i j) : Ev (fun k => coset_CheckTable.l2 k T true (i : Int) (sn T i j) T (T.length : Int) (i : Int) (rd_L1 T (i : Int)) ((rd_L1 T (i : Int)).length : Int) (j : Int)) 15 := by
  have hl : (rd_L1 T (i : Int)).length = T.length := hS i hi
  have hx : 0 ≤ rd (rd_L1 T (i : Int)) (j : Int) ∧ rd (rd_L1 T (i : Int)) (j : Int) < (T.length : Int) := hR i hi j hj
  have hsl := sn_len T i j
  refine Ev.step (f := fun k => coset_CheckTable.j3 k T false) (fun k => ?_) j3_false
  simp only [coset_CheckTable.l2]
  by_cases hs : rdOf false (sn T i j) (rd (rd_L1 T (i : Int)) (j : Int)) = true
  · repeat (first | rw [if_pos (by omega)] | rw [if_neg (by omega)])
    try rw [if_pos hs]
  · have hor : (i = 0 ∧ rd (rd_L1 T (i : Int)) (j : Int) ≠ (j : Int)) ∨ (j = 0 ∧ rd (rd_L1 T (i : Int)) (j : Int) ≠ (i : Int)) := by
      apply Classical.byContradiction
      intro hno
      apply hp
      refine ⟨fun h => hs ((seen_iff hS hR hi hj).2 h), fun h => ?_, fun h => ?_⟩
      · apply Classical.byContradiction; intro h2; exact hno (.inl ⟨h, h2⟩)
      · apply Classical.byContradiction; intro h2; exact hno (.inr ⟨h, h2⟩)
    by_cases hi0 : i = 0
    · by_cases hx1 : rd (rd_L1 T (i : Int)) (j : Int) = (j : Int)
      · repeat (first | rw [if_pos (by omega)] | rw [if_neg (by omega)])
      · repeat (first | rw [if_pos (by omega)] | rw [if_neg (by omega)])
    · repeat (first | rw [if_pos (by omega)] | rw [if_neg (by omega)])
theorem l1_good (hS : ∀ i, i < T.length → (T.getD i []).length = T.length) (hn : T.length ≤ 120) (hR : Rng T) {i : Nat} (hi : i < T.length) (hp : ∀ j, j < T.length → Lat T i j) (r : Int) (hr : Ev (fun k => coset_CheckTable.l1 k T true T (T.length : Int) ((i + 1 : Nat) : Int)) r) : Ev (fun k => coset_CheckTable.l1 k T true T (T.length : Int) (i : Int)) r := by
  have hl : (rd_L1 T (i : Int)).length = T.length := hS i hi
  refine Ev.step (f := fun k => coset_CheckTable.l2 k T true (i : Int) (sn T i 0) T (T.length : Int) (i : Int) (rd_L1 T (i : Int)) ((rd_L1 T (i : Int)).length : Int) ((0 : Nat) : Int)) (fun k => ?_) (scan_all (l := fun k j => coset_CheckTable.l2 k T true (i : Int) (sn T i j) T (T.length : Int) (i : Int) (rd_L1 T (i : Int)) ((rd_L1 T (i : Int)).length : Int) (j : Int)) (n := T.length) (fun j hj r hr => l2_good hS hn hR hi hj (hp j hj) r hr) ?_)
  · simp only [coset_CheckTable.l1]
    repeat (first | rw [if_pos (by omega)] | rw [if_neg (by omega)])
    rfl
  · refine Ev.step (f := fun k => coset_CheckTable.l1 k T true T (T.length : Int) ((i + 1 : Nat) : Int)) (fun k => ?_) hr
    simp only [coset_CheckTable.l2]
    repeat (first | rw [if_pos (by omega)] | rw [if_neg (by omega)])
    rw [wrap_nat (by omega)]
theorem l1_bad (hS : ∀ i, i < T.length → (T.getD i []).length = T.length) (hn : T.length ≤ 120) (hR : Rng T) {i : Nat} (hi : i < T.length) (hp : ¬ ∀ j, j < T.length → Lat T i j) : Ev (fun k => coset_CheckTable.l1 k T true T (T.length : Int) (i : Int)) 15 := by
  have hl : (rd_L1 T (i : Int)).length = T.length := hS i hi
  refine Ev.step (f := fun k => coset_CheckTable.l2 k T true (i : Int) (sn T i 0) T (T.length : Int) (i : Int) (rd_L1 T (i : Int)) ((rd_L1 T (i : Int)).length : Int) ((0 : Nat) : Int)) (fun k => ?_) (scan_some (l := fun k j => coset_CheckTable.l2 k T true (i : Int) (sn T i j) T (T.length : Int) (i : Int) (rd_L1 T (i : Int)) ((rd_L1 T (i : Int)).length : Int) (j : Int)) (n := T.length) (fun j => Lat T i j) (fun j hj hq r hr => l2_good hS hn hR hi hj hq r hr) (fun j hj hq => l2_bad hS hn hR hi hj hq) (by simpa [Classical.not_forall] using hp))
  simp only [coset_CheckTable.l1]
  repeat (first | rw [if_pos (by omega)] | rw [if_neg (by omega)])
  rfl
def AsP (T : List (List Int)) (i j k : Nat) : Prop := m T i (e T j k) = m T (e T i j) k
theorem l5_good (hS : ∀ i, i < T.length → (T.getD i []).length = T.length) (hn : T.length ≤ 120) (hR : Rng T) {i j k : Nat} (hi : i < T.length) (hj : j < T.length) (hk : k < T.length) (hp : AsP T i j k) (r : Int) (hr : Ev (fun q => coset_CheckTable.l5 q T (i : Int) (j : Int) T (T.length : Int) (i : Int) (rd_L1 T (i : Int)) ((rd_L1 T (i : Int)).length : Int) (j : Int) (rd_L1 T ((e T i j : Nat) : Int)) ((rd_L1 T ((e T i j : Nat) : Int)).length : Int) ((k + 1 : Nat) : Int)) r) : Ev (fun q => coset_CheckTable.l5 q T (i : Int) (j : Int) T (T.length : Int) (i : Int) (rd_L1 T (i : Int)) ((rd_L1 T (i : Int)).length : Int) (j : Int) (rd_L1 T ((e T i j : Nat) : Int)) ((rd_L1 T ((e T i j : Nat) : Int)).length : Int) (k : Int)) r := by
  have hl : (rd_L1 T (i : Int)).length = T.length := hS i hi
  have hlj : (rd_L1 T (j : Int)).length = T.length := hS j hj
  have hlx : (rd_L1 T ((e T i j : Nat) : Int)).length = T.length := hS _ (e_lt hR hi hj)
  have hjk : rd (rd_L1 T (j : Int)) (k : Int) = ((e T j k : Nat) : Int) := (e_cast hR hj hk).symm
  have hlt := e_lt hR hj hk
  have ha : rd (rd_L1 T (i : Int)) ((e T j k : Nat) : Int) = rd (rd_L1 T ((e T i j : Nat) : Int)) (k : Int) := hp
  refine Ev.step (f := fun q => coset_CheckTable.l5 q T (i : Int) (j : Int) T (T.length : Int) (i : Int) (rd_L1 T (i : Int)) ((rd_L1 T (i : Int)).length : Int) (j : Int) (rd_L1 T ((e T i j : Nat) : Int)) ((rd_L1 T ((e T i j : Nat) : Int)).length : Int) ((k + 1 : Nat) : Int)) (fun q => ?_) hr
  simp only [coset_CheckTable.l5, hjk]
  repeat (first | rw [if_pos (by omega)] | rw [if_neg (by omega)])
  rw [wrap_nat (by omega)]
theorem l5_bad (hS : ∀ i, i < T.length → (T.getD i []).length = T.length) (hn : T.length ≤ 120) (hR : Rng T) {i j k : Nat} (hi : i < T.length) (hj : j < T.length) (hk : k < T.length) (hp : ¬ AsP T i j k) : Ev (fun q => coset_CheckTable.l5 q T (i : Int) (j : Int) T (T.length : Int) (i : Int) (rd_L1 T (i : Int)) ((rd_L1 T (i : Int)).length : Int) (j : Int) (rd_L1 T ((e T i j : Nat) : Int)) ((rd_L1 T ((e T i j : Nat) : Int)).length : Int) (k : Int)) 15 := by
  have hl : (rd_L1 T (i : Int)).length = T.length := hS i hi
  have hlj : (rd_L1 T (j : Int)).length = T.length := hS j hj
  have hlx : (rd_L1 T ((e T i j : Nat) : Int)).length = T.length := hS _ (e_lt hR hi hj)
  have hjk : rd (rd_L1 T (j : Int)) (k : Int) = ((e T j k : Nat) : Int) := (e_cast hR hj hk).symm
  have hlt := e_lt hR hj hk
  have ha : ¬ rd (rd_L1 T (i : Int)) ((e T j k : Nat) : Int) = rd (rd_L1 T ((e T i j : Nat) : Int)) (k : Int) := hp
  refine Ev.step (f := fun _ => some 15) (fun q => ?_) (Ev.now _)
  simp only [coset_CheckTable.l5, hjk]
  repeat (first | rw [if_pos (by omega)] | rw [if_neg (by omega)])
theorem l4_good (hS : ∀ i, i < T.length → (T.getD i []).length = T.length) (hn : T.length ≤ 120) (hR : Rng T) {i j : Nat} (hi : i < T.length) (hj : j < T.length) (hp : ∀ k, k < T.length → AsP T i j k) (r : Int) (hr : Ev (fun q => coset_CheckTable.l4 q T (i : Int) T (T.length : Int) (i : Int) (rd_L1 T (i : Int)) ((rd_L1 T (i : Int)).length : Int) ((j + 1 : Nat) : Int)) r) : Ev (fun q => coset_CheckTable.l4 q T (i : Int) T (T.length : Int) (i : Int) (rd_L1 T (i : Int)) ((rd_L1 T (i : Int)).length : Int) (j : Int)) r := by
  have hl : (rd_L1 T (i : Int)).length = T.length := hS i hi
  have hlx : (rd_L1 T ((e T i j : Nat) : Int)).length = T.length := hS _ (e_lt hR hi hj)
  have hij : rd (rd_L1 T (i : Int)) (j : Int) = ((e T i j : Nat) : Int) := (e_cast hR hi hj).symm
  have hlt := e_lt hR hi hj
  refine Ev.step (f := fun q => coset_CheckTable.l5 q T (i : Int) (j : Int) T (T.length : Int) (i : Int) (rd_L1 T (i : Int)) ((rd_L1 T (i : Int)).length : Int) (j : Int) (rd_L1 T ((e T i j : Nat) : Int)) ((rd_L1 T ((e T i j : Nat) : Int)).length : Int) ((0 : Nat) : Int)) (fun q => ?_) (scan_all (l := fun q k => coset_CheckTable.l5 q T (i : Int) (j : Int) T (T.length : Int) (i : Int) (rd_L1 T (i : Int)) ((rd_L1 T (i : Int)).length : Int) (j : Int) (rd_L1 T ((e T i j : Nat) : Int)) ((rd_L1 T ((e T i j : Nat) : Int)).length : Int) (k : Int)) (n := T.length) (fun k hk r hr => l5_good hS hn hR hi hj hk (hp k hk) r hr) ?_)
  · simp only [coset_CheckTable.l4, hij]
    repeat (first | rw [if_pos (by omega)] | rw [if_neg (by omega)])
    rfl
  · refine Ev.step (f := fun q => coset_CheckTable.l4 q T (i : Int) T (T.length : Int) (i : Int) (rd_L1 T (i : Int)) ((rd_L1 T (i : Int)).length : Int) ((j + 1 : Nat) : Int)) (fun q => ?_) hr
    simp only [coset_CheckTable.l5]
    repeat (first | rw [if_pos (by omega)] | rw [if_neg (by omega)])
    rw [wrap_nat (by omega)]
theorem l4_bad (hS : ∀ i, i < T.length → (T.getD i []).length = T.length) (hn : T.length ≤ 120) (hR : Rng T) {i j : Nat} (hi : i < T.length) (hj : j < T.length) (hp : ¬ ∀ k, k < T.length → AsP T i j k) : Ev (fun q => coset_CheckTable.l4 q T (i : Int) T (T.length : Int) (i : Int) (rd_L1 T (i : Int)) ((rd_L1 T (i : Int)).length : Int) (j : Int)) 15 := by
  have hl : (rd_L1 T (i : Int)).length = T.length := hS i hi
  have hij : rd (rd_L1 T (i : Int)) (j : Int) = ((e T i j : Nat) : Int) := (e_cast hR hi hj).symm
  have hlt := e_lt hR hi hj
  refine Ev.step (f := fun q => coset_CheckTable.l5 q T (i : Int) (j : Int) T (T.length : Int) (i : Int) (rd_L1 T (i : Int)) ((rd_L1 T (i : Int)).length : Int) (j : Int) (rd_L1 T ((e T i j : Nat) : Int)) ((rd_L1 T ((e T i j : Nat) : Int)).length : Int) ((0 : Nat) : Int)) (fun q => ?_) (scan_some (l := fun q k => coset_CheckTable.l5 q T (i : Int) (j : Int) T (T.length : Int) (i : Int) (rd_L1 T (i : Int)) ((rd_L1 T (i : Int)).length : Int) (j : Int) (rd_L1 T ((e T i j : Nat) : Int)) ((rd_L1 T ((e T i j : Nat) : Int)).length : Int) (k : Int)) (n := T.length) (fun k => AsP T i j k) (fun k hk hq r hr => l5_good hS hn hR hi hj hk hq r hr) (fun k hk hq => l5_bad hS hn hR hi hj hk hq) (by simpa [Classical.not_forall] using hp))
  simp only [coset_CheckTable.l4, hij]
  repeat (first | rw [if_pos (by omega)] | rw [if_neg (by omega)])
  rfl
theorem l3_good (hS : ∀ i, i < T.length → (T.getD i []).length = T.length) (hn : T.length ≤ 120) (hR : Rng T) {i : Nat} (hi : i < T.length) (hp : ∀ j, j < T.length → ∀ k, k < T.length → AsP T i j k) (r : Int) (hr : Ev (fun q => coset_CheckTable.l3 q T T (T.length : Int) ((i + 1 : Nat) : Int)) r) : Ev (fun q => coset_CheckTable.l3 q T T (T.length : Int) (i : Int)) r := by
  have hl : (rd_L1 T (i : Int)).length = T.length := hS i hi
  refine Ev.step (f := fun q => coset_CheckTable.l4 q T (i : Int) T (T.length : Int) (i : Int) (rd_L1 T (i : Int)) ((rd_L1 T (i : Int)).length : Int) ((0 : Nat) : Int)) (fun q => ?_) (scan_all (l := fun q j => coset_CheckTable.l4 q T (i : Int) T (T.length : Int) (i : Int) (rd_L1 T (i : Int)) ((rd_L1 T (i : Int)).length : Int) (j : Int)) (n := T.length) (fun j hj r hr => l4_good hS hn hR hi hj (hp j hj) r hr) ?_)
  · simp only [coset_CheckTable.l3]
    repeat (first | rw [if_pos (by omega)] | rw [if_neg (by omega)])
    rfl
  · refine Ev.step (f := fun q => coset_CheckTable.l3 q T T (T.length : Int) ((i + 1 : Nat) : Int)) (fun q => ?_) hr
    simp only [coset_CheckTable.l4]
    repeat (first | rw [if_pos (by omega)] | rw [if_neg (by omega)])
    rw [wrap_nat (by omega)]
theorem l3_bad (hS : ∀ i, i < T.length → (T.getD i []).length = T.length) (hn : T.length ≤ 120) (hR : Rng T) {i : Nat} (hi : i < T.length) (hp : ¬ ∀ j, j < T.length → ∀ k, k < T.length → AsP T i j k) : Ev (fun q => coset_CheckTable.l3 q T T (T.length : Int) (i : Int)) 15 := by
  have hl : (rd_L1 T (i : Int)).length = T.length := hS i hi
  refine Ev.step (f := fun q => coset_CheckTable.l4 q T (i : Int) T (T.length : Int) (i : Int) (rd_L1 T (i : Int)) ((rd_L1 T (i : Int)).length : Int) ((0 : Nat) : Int)) (fun q => ?_) (scan_some (l := fun q j => coset_CheckTable.l4 q T (i : Int) T (T.length : Int) (i : Int) (rd_L1 T (i : Int)) ((rd_L1 T (i : Int)).length : Int) (j : Int)) (n := T.length) (fun j => ∀ k, k < T.length → AsP T i j k) (fun j hj hq r hr => l4_good hS hn hR hi hj hq r hr) (fun j hj hq => l4_bad hS hn hR hi hj hq) ?_)
  · simp only [coset_CheckTable.l3]
    repeat (first | rw [if_pos (by omega)] | rw [if_neg (by omega)])
    rfl
  · simp only [Classical.not_forall] at hp ⊢
    obtain ⟨j, hj, h⟩ := hp
    exact ⟨j, hj, h⟩
theorem half_ev (hS : ∀ i, i < T.length → (T.getD i []).length = T.length) (hn : T.length ≤ 120) (hR : Rng T) (r : Int) (hr : r = (haveI := Classical.propDecidable; if Lats T then (if Ass T then 0 else 15) else 15)) : Ev (fun k => coset_CheckTable.l1 k T true T (T.length : Int) ((0 : Nat) : Int)) r := by
  subst hr
  by_cases hL : Lats T
  · rw [if_pos hL]
    have hend : ∀ r, Ev (fun k => coset_CheckTable.l3 k T T (T.length : Int) ((0 : Nat) : Int)) r → Ev (fun k => coset_CheckTable.l1 k T true T (T.length : Int) ((0 : Nat) : Int)) r := fun r hr => by
      refine scan_all (l := fun k i => coset_CheckTable.l1 k T true T (T.length : Int) (i : Int)) (n := T.length) (fun i hi r hr => l1_good hS hn hR hi (hL i hi) r hr) ?_
      refine Ev.step (f := fun k => coset_CheckTable.j3 k T true) (fun k => ?_) (Ev.step (f := fun k => coset_CheckTable.l3 k T T (T.length : Int) ((0 : Nat) : Int)) (fun k => ?_) hr)
      · simp only [coset_CheckTable.l1]
        repeat (first | rw [if_pos (by omega)] | rw [if_neg (by omega)])
      · simp only [coset_CheckTable.j3, if_true]
        rfl
    refine hend _ ?_
    by_cases hA : Ass T
    · rw [if_pos hA]
      refine scan_all (l := fun k i => coset_CheckTable.l3 k T T (T.length : Int) (i : Int)) (n := T.length) (fun i hi r hr => l3_good hS hn hR hi (fun j hj k hk => hA i hi j hj k hk) r hr) ?_
      refine Ev.step (f := fun _ => some 0) (fun k => ?_) (Ev.now _)
      simp only [coset_CheckTable.l3]
      repeat (first | rw [if_pos (by omega)] | rw [if_neg (by omega)])
    · rw [if_neg hA]
      refine scan_some (l := fun k i => coset_CheckTable.l3 k T T (T.length : Int) (i : Int)) (n := T.length) (fun i => ∀ j, j < T.length → ∀ k, k < T.length → AsP T i j k) (fun i hi hq r hr => l3_good hS hn hR hi hq r hr) (fun i hi hq => l3_bad hS hn hR hi hq) ?_
      unfold Ass at hA
      simp only [Classical.not_forall] at hA ⊢
      obtain ⟨i, hi, h⟩ := hA
      exact ⟨i, hi, h⟩
  · rw [if_neg hL]
    refine scan_some (l := fun k i => coset_CheckTable.l1 k T true T (T.length : Int) (i : Int)) (n := T.length) (fun i => ∀ j, j < T.length → Lat T i j) (fun i hi hq r hr => l1_good hS hn hR hi hq r hr) (fun i hi hq => l1_bad hS hn hR hi hq) ?_
    unfold Lats at hL
    simp only [Classical.not_forall] at hL ⊢
    obtain ⟨i, hi, h⟩ := hL
    exact ⟨i, hi, h⟩
theorem check_ev (T : List (List Int)) : Ev (fun k => coset_CheckTable.f k T) (chkT T) := by
  unfold chkT
  by_cases h0 : T.length = 0
  · rw [if_pos h0]
    refine Ev.congr (f := fun _ => some 2) (fun k => ?_) (Ev.now _)
    simp only [coset_CheckTable.f]
    repeat (first | rw [if_pos (by omega)] | rw [if_neg (by omega)])
  · rw [if_neg h0]
    by_cases h1 : 120 < T.length
    · rw [if_pos h1]
      refine Ev.congr (f := fun _ => some 5) (fun k => ?_) (Ev.now _)
      simp only [coset_CheckTable.f]
      repeat (first | rw [if_pos (by omega)] | rw [if_neg (by omega)])
    · rw [if_neg h1]
      refine Ev.congr (f := fun k => coset_CheckTable.l0 k T T (T.length : Int) ((0 : Nat) : Int)) (fun k => ?_) ?_
      · simp only [coset_CheckTable.f]
        repeat (first | rw [if_pos (by omega)] | rw [if_neg (by omega)])
        rfl
      have hgood : ∀ i, i < T.length → (T.getD i []).length = T.length → ∀ r, Ev (fun k => coset_CheckTable.l0 k T T (T.length : Int) ((i + 1 : Nat) : Int)) r → Ev (fun k => coset_CheckTable.l0 k T T (T.length : Int) (i : Int)) r := fun i hi hp r hr => by
        have hl : (rd_L1 T (i : Int)).length = T.length := hp
        refine Ev.step (f := fun k => coset_CheckTable.l0 k T T (T.length : Int) ((i + 1 : Nat) : Int)) (fun k => ?_) hr
        simp only [coset_CheckTable.l0]
        repeat (first | rw [if_pos (by omega)] | rw [if_neg (by omega)])
        rw [wrap_nat (by omega)]
      by_cases hS : ∀ i, i < T.length → (T.getD i []).length = T.length
      · rw [if_pos hS]
        refine scan_all (l := fun k i => coset_CheckTable.l0 k T T (T.length : Int) (i : Int)) (n := T.length) (fun i hi r hr => hgood i hi (hS i hi) r hr) ?_
        refine Ev.step (f := fun k => (coset_ranges.f k T).bind fun t165 => (if t165 = 0 then (coset_CheckTable.l1 k T true T (T.length : Int) 0) else (some t165))) (fun k => ?_) ?_
        · simp only [coset_CheckTable.l0]
          repeat (first | rw [if_pos (by omega)] | rw [if_neg (by omega)])
        by_cases hR : Rng T
        · rw [if_pos hR]
          refine Ev.bind (ranges_good hS (by omega) hR) ?_
          exact half_ev hS (by omega) hR _ rfl
        · rw [if_neg hR]
          refine Ev.bind (ranges_bad hS (by omega) hR) ?_
          exact Ev.now _
      · rw [if_neg hS]
        refine scan_some (l := fun k i => coset_CheckTable.l0 k T T (T.length : Int) (i : Int)) (n := T.length) (fun i => (T.getD i []).length = T.length) hgood (fun i hi hp => ?_) (by simpa [Classical.not_forall] using hS)
        have hl : ¬ (rd_L1 T (i : Int)).length = T.length := hp
        refine Ev.step (f := fun _ => some 2) (fun k => ?_) (Ev.now _)
        simp only [coset_CheckTable.l0]
        repeat (first | rw [if_pos (by omega)] | rw [if_neg (by omega)])
end Go.Proofs.Ytaaaljifclecnaa.QCk
end
section
/- What the reference's functions on group tables come to; the orders. -/
namespace Go.Proofs.Ytaaaljifclecnaa.QCk
set_option linter.unusedVariables false
set_option linter.unusedSimpArgs false
open Go.RowKit Go.Proofs.Ytaaaljifclecnaa.PCk Go.Proofs.YtaaaljifclecnaaW.PrintWords Go.Proofs.YtaaaljifclecnaaW.PrintLast Go.Proofs.Ytaaaljifclecnaa.Plain Go.Proofs.Ytaaaljifclecnaa.Tab
variable {T : List (List Int)}
def Dif (T : List (List Int)) (i k j : Nat) : Prop := m T i j ≠ m T i k
theorem rows_l2 (hS : ∀ i, i < T.length → (T.getD i []).length = T.length) (hn : T.length ≤ 120) {i k j : Nat} (hi : i < T.length) (hk : k < T.length) (hj : j < k) (hp : Dif T i k j) (r : Bool) (hr : Ev (fun q => galoisref27_rows.l2 q T (i : Int) (k : Int) ((j + 1 : Nat) : Int)) r) : Ev (fun q => galoisref27_rows.l2 q T (i : Int) (k : Int) (j : Int)) r := by
  have hl : (rd_L1 T (i : Int)).length = T.length := hS i hi
  have ha : ¬ rd (rd_L1 T (i : Int)) (j : Int) = rd (rd_L1 T (i : Int)) (k : Int) := hp
  refine Ev.step (f := fun q => galoisref27_rows.l2 q T (i : Int) (k : Int) ((j + 1 : Nat) : Int)) (fun q => ?_) hr
  simp only [galoisref27_rows.l2]
  repeat (first | rw [if_pos (by omega)] | rw [if_neg (by omega)])
  rw [wrap_nat (by omega)]
theorem rows_l2_bad (hS : ∀ i, i < T.length → (T.getD i []).length = T.length) (hn : T.length ≤ 120) {i k j : Nat} (hi : i < T.length) (hk : k < T.length) (hj : j < k) (hp : ¬ Dif T i k j) : Ev (fun q => galoisref27_rows.l2 q T (i : Int) (k : Int) (j : Int)) false := by
  have hl : (rd_L1 T (i : Int)).length = T.length := hS i hi
  have ha : rd (rd_L1 T (i : Int)) (j : Int) = rd (rd_L1 T (i : Int)) (k : Int) := Classical.byContradiction hp
  refine Ev.step (f := fun _ => some false) (fun q => ?_) (Ev.now _)
  simp only [galoisref27_rows.l2]
  repeat (first | rw [if_pos (by omega)] | rw [if_neg (by omega)])
theorem rows_l1 (hS : ∀ i, i < T.length → (T.getD i []).length = T.length) (hn : T.length ≤ 120) {i k : Nat} (hi : i < T.length) (hk : k < T.length) (hp : ∀ j, j < k → Dif T i k j) (r : Bool) (hr : Ev (fun q => galoisref27_rows.l1 q T (i : Int) ((k + 1 : Nat) : Int)) r) : Ev (fun q => galoisref27_rows.l1 q T (i : Int) (k : Int)) r := by
  refine Ev.step (f := fun q => galoisref27_rows.l2 q T (i : Int) (k : Int) ((0 : Nat) : Int)) (fun q => ?_) (scan_all (l := fun q j => galoisref27_rows.l2 q T (i : Int) (k : Int) (j : Int)) (n := k) (fun j hj r hr => rows_l2 hS hn hi hk hj (hp j hj) r hr) ?_)
  · simp only [galoisref27_rows.l1]
    repeat (first | rw [if_pos (by omega)] | rw [if_neg (by omega)])
    rfl
  · refine Ev.step (f := fun q => galoisref27_rows.l1 q T (i : Int) ((k + 1 : Nat) : Int)) (fun q => ?_) hr
    simp only [galoisref27_rows.l2]
    repeat (first | rw [if_pos (by omega)] | rw [if_neg (by omega)])
    rw [wrap_nat (by omega)]
theorem rows_l1_bad (hS : ∀ i, i < T.length → (T.getD i []).length = T.length) (hn : T.length ≤ 120) {i k : Nat} (hi : i < T.length) (hk : k < T.length) (hp : ¬ ∀ j, j < k → Dif T i k j) : Ev (fun q => galoisref27_rows.l1 q T (i : Int) (k : Int)) false := by
  refine Ev.step (f := fun q => galoisref27_rows.l2 q T (i : Int) (k : Int) ((0 : Nat) : Int)) (fun q => ?_) (scan_some (l := fun q j => galoisref27_rows.l2 q T (i : Int) (k : Int) (j : Int)) (n := k) (fun j => Dif T i k j) (fun j hj hq r hr => rows_l2 hS hn hi hk hj hq r hr) (fun j hj hq => rows_l2_bad hS hn hi hk hj hq) (by simpa [Classical.not_forall] using hp))
  simp only [galoisref27_rows.l1]
  repeat (first | rw [if_pos (by omega)] | rw [if_neg (by omega)])
  rfl
theorem rows_l0 (hS : ∀ i, i < T.length → (T.getD i []).length = T.length) (hn : T.length ≤ 120) {i : Nat} (hi : i < T.length) (hp : ∀ k, k < T.length → ∀ j, j < k → Dif T i k j) (r : Bool) (hr : Ev (fun q => galoisref27_rows.l0 q T ((i + 1 : Nat) : Int)) r) : Ev (fun q => galoisref27_rows.l0 q T (i : Int)) r := by
  refine Ev.step (f := fun q => galoisref27_rows.l1 q T (i : Int) ((0 : Nat) : Int)) (fun q => ?_) (scan_all (l := fun q k => galoisref27_rows.l1 q T (i : Int) (k : Int)) (n := T.length) (fun k hk r hr => rows_l1 hS hn hi hk (hp k hk) r hr) ?_)
  · simp only [galoisref27_rows.l0]
    repeat (first | rw [if_pos (by omega)] | rw [if_neg (by omega)])
    rfl
  · refine Ev.step (f := fun q => galoisref27_rows.l0 q T ((i + 1 : Nat) : Int)) (fun q => ?_) hr
    simp only [galoisref27_rows.l1]
    repeat (first | rw [if_pos (by omega)] | rw [if_neg (by omega)])
    rw [wrap_nat (by omega)]
def Rws (T : List (List Int)) : Prop := ∀ i, i < T.length → ∀ k, k < T.length → ∀ j, j < k → Dif T i k j
theorem rows_good (hS : ∀ i, i < T.length → (T.getD i []).length = T.length) (hn : T.length ≤ 120) (h : Rws T) : Ev (fun q => galoisref27_rows.f q T) true := by
  refine Ev.congr (f := fun q => galoisref27_rows.l0 q T ((0 : Nat) : Int)) (fun k => rfl) (scan_all (l := fun q i => galoisref27_rows.l0 q T (i : Int)) (n := T.length) (fun i hi r hr => rows_l0 hS hn hi (h i hi) r hr) ?_)
  refine Ev.step (f := fun _ => some true) (fun q => ?_) (Ev.now _)
  simp only [galoisref27_rows.l0]
  repeat (first | rw [if_pos (by omega)] | rw [if_neg (by omega)])
theorem rows_bad (hS : ∀ i, i < T.length → (T.getD i []).length = T.length) (hn : T.length ≤ 120) (h : ¬ Rws T) : Ev (fun q => galoisref27_rows.f q T) false := by
  refine Ev.congr (f := fun q => galoisref27_rows.l0 q T ((0 : Nat) : Int)) (fun k => rfl) (scan_some (l := fun q i => galoisref27_rows.l0 q T (i : Int)) (n := T.length) (fun i => ∀ k, k < T.length → ∀ j, j < k → Dif T i k j) (fun i hi hq r hr => rows_l0 hS hn hi hq r hr) (fun i hi hq => ?_) ?_)
  · refine Ev.step (f := fun q => galoisref27_rows.l1 q T (i : Int) ((0 : Nat) : Int)) (fun q => ?_) (scan_some (l := fun q k => galoisref27_rows.l1 q T (i : Int) (k : Int)) (n := T.length) (fun k => ∀ j, j < k → Dif T i k j) (fun k hk hq r hr => rows_l1 hS hn hi hk hq r hr) (fun k hk hq => rows_l1_bad hS hn hi hk hq) ?_)
    · simp only [galoisref27_rows.l0]
      repeat (first | rw [if_pos (by omega)] | rw [if_neg (by omega)])
      rfl
    · simp only [Classical.not_forall] at hq ⊢
      obtain ⟨j, hj, h⟩ := hq
      exact ⟨j, hj, h⟩
  · unfold Rws at h
    simp only [Classical.not_forall] at h ⊢
    obtain ⟨i, hi, h⟩ := h
    exact ⟨i, hi, h⟩
theorem as_l2 (hS : ∀ i, i < T.length → (T.getD i []).length = T.length) (hn : T.length ≤ 120) (hR : Rng T) {i j k : Nat} (hi : i < T.length) (hj : j < T.length) (hk : k < T.length) (hp : AsP T i j k) (r : Bool) (hr : Ev (fun q => galoisref27_associative.l2 q T (i : Int) (j : Int) ((k + 1 : Nat) : Int)) r) : Ev (fun q => galoisref27_associative.l2 q T (i : Int) (j : Int) (k : Int)) r := by
  have hl : (rd_L1 T (i : Int)).length = T.length := hS i hi
  have hlj : (rd_L1 T (j : Int)).length = T.length := hS j hj
  have hlx : (rd_L1 T ((e T i j : Nat) : Int)).length = T.length := hS _ (e_lt hR hi hj)
  have hij : rd (rd_L1 T (i : Int)) (j : Int) = ((e T i j : Nat) : Int) := (e_cast hR hi hj).symm
  have hjk : rd (rd_L1 T (j : Int)) (k : Int) = ((e T j k : Nat) : Int) := (e_cast hR hj hk).symm
  have hlt := e_lt hR hj hk
  have hlt2 := e_lt hR hi hj
  have ha : rd (rd_L1 T ((e T i j : Nat) : Int)) (k : Int) = rd (rd_L1 T (i : Int)) ((e T j k : Nat) : Int) := hp.symm
  refine Ev.step (f := fun q => galoisref27_associative.l2 q T (i : Int) (j : Int) ((k + 1 : Nat) : Int)) (fun q => ?_) hr
  simp only [galoisref27_associative.l2, hij, hjk]
  repeat (first | rw [if_pos (by omega)] | rw [if_neg (by omega)])
  rw [wrap_nat (by omega)]
theorem as_l2_bad (hS : ∀ i, i < T.length → (T.getD i []).length = T.length) (hn : T.length ≤ 120) (hR : Rng T) {i j k : Nat} (hi : i < T.length) (hj : j < T.length) (hk : k < T.length) (hp : ¬ AsP T i j k) : Ev (fun q => galoisref27_associative.l2 q T (i : Int) (j : Int) (k : Int)) false := by
  have hl : (rd_L1 T (i : Int)).length = T.length := hS i hi
  have hlj : (rd_L1 T (j : Int)).length = T.length := hS j hj
  have hlx : (rd_L1 T ((e T i j : Nat) : Int)).length = T.length := hS _ (e_lt hR hi hj)
  have hij : rd (rd_L1 T (i : Int)) (j : Int) = ((e T i j : Nat) : Int) := (e_cast hR hi hj).symm
  have hjk : rd (rd_L1 T (j : Int)) (k : Int) = ((e T j k : Nat) : Int) := (e_cast hR hj hk).symm
  have hlt := e_lt hR hj hk
  have hlt2 := e_lt hR hi hj
  have ha : ¬ rd (rd_L1 T ((e T i j : Nat) : Int)) (k : Int) = rd (rd_L1 T (i : Int)) ((e T j k : Nat) : Int) := fun h => hp h.symm
  refine Ev.step (f := fun _ => some false) (fun q => ?_) (Ev.now _)
  simp only [galoisref27_associative.l2, hij, hjk]
  repeat (first | rw [if_pos (by omega)] | rw [if_neg (by omega)])
theorem as_l1 (hS : ∀ i, i < T.length → (T.getD i []).length = T.length) (hn : T.length ≤ 120) (hR : Rng T) {i j : Nat} (hi : i < T.length) (hj : j < T.length) (hp : ∀ k, k < T.length → AsP T i j k) (r : Bool) (hr : Ev (fun q => galoisref27_associative.l1 q T (i : Int) ((j + 1 : Nat) : Int)) r) : Ev (fun q => galoisref27_associative.l1 q T (i : Int) (j : Int)) r := by
  refine Ev.step (f := fun q => galoisref27_associative.l2 q T (i : Int) (j : Int) ((0 : Nat) : Int)) (fun q => ?_) (scan_all (l := fun q k => galoisref27_associative.l2 q T (i : Int) (j : Int) (k : Int)) (n := T.length) (fun k hk r hr => as_l2 hS hn hR hi hj hk (hp k hk) r hr) ?_)
  · simp only [galoisref27_associative.l1]
    repeat (first | rw [if_pos (by omega)] | rw [if_neg (by omega)])
    rfl
  · refine Ev.step (f := fun q => galoisref27_associative.l1 q T (i : Int) ((j + 1 : Nat) : Int)) (fun q => ?_) hr
    simp only [galoisref27_associative.l2]
    repeat (first | rw [if_pos (by omega)] | rw [if_neg (by omega)])
    rw [wrap_nat (by omega)]
theorem as_l0 (hS : ∀ i, i < T.length → (T.getD i []).length = T.length) (hn : T.length ≤ 120) (hR : Rng T) {i : Nat} (hi : i < T.length) (hp : ∀ j, j < T.length → ∀ k, k < T.length → AsP T i j k) (r : Bool) (hr : Ev (fun q => galoisref27_associative.l0 q T ((i + 1 : Nat) : Int)) r) : Ev (fun q => galoisref27_associative.l0 q T (i : Int)) r := by
  refine Ev.step (f := fun q => galoisref27_associative.l1 q T (i : Int) ((0 : Nat) : Int)) (fun q => ?_) (scan_all (l := fun q j => galoisref27_associative.l1 q T (i : Int) (j : Int)) (n := T.length) (fun j hj r hr => as_l1 hS hn hR hi hj (hp j hj) r hr) ?_)
  · simp only [galoisref27_associative.l0]
    repeat (first | rw [if_pos (by omega)] | rw [if_neg (by omega)])
    rfl
  · refine Ev.step (f := fun q => galoisref27_associative.l0 q T ((i + 1 : Nat) : Int)) (fun q => ?_) hr
    simp only [galoisref27_associative.l1]
    repeat (first | rw [if_pos (by omega)] | rw [if_neg (by omega)])
    rw [wrap_nat (by omega)]
theorem as_good (hS : ∀ i, i < T.length → (T.getD i []).length = T.length) (hn : T.length ≤ 120) (hR : Rng T) (h : Ass T) : Ev (fun q => galoisref27_associative.f q T) true := by
  refine Ev.congr (f := fun q => galoisref27_associative.l0 q T ((0 : Nat) : Int)) (fun k => rfl) (scan_all (l := fun q i => galoisref27_associative.l0 q T (i : Int)) (n := T.length) (fun i hi r hr => as_l0 hS hn hR hi (fun j hj k hk => h i hi j hj k hk) r hr) ?_)
  refine Ev.step (f := fun _ => some true) (fun q => ?_) (Ev.now _)
  simp only [galoisref27_associative.l0]
  repeat (first | rw [if_pos (by omega)] | rw [if_neg (by omega)])
theorem as_bad (hS : ∀ i, i < T.length → (T.getD i []).length = T.length) (hn : T.length ≤ 120) (hR : Rng T) (h : ¬ Ass T) : Ev (fun q => galoisref27_associative.f q T) false := by
  refine Ev.congr (f := fun q => galoisref27_associative.l0 q T ((0 : Nat) : Int)) (fun k => rfl) (scan_some (l := fun q i => galoisref27_associative.l0 q T (i : Int)) (n := T.length) (fun i => ∀ j, j < T.length → ∀ k, k < T.length → AsP T i j k) (fun i hi hq r hr => as_l0 hS hn hR hi hq r hr) (fun i hi hq => ?_) ?_)
  · refine Ev.step (f := fun q => galoisref27_associative.l1 q T (i : Int) ((0 : Nat) : Int)) (fun q => ?_) (scan_some (l := fun q j => galoisref27_associative.l1 q T (i : Int) (j : Int)) (n := T.length) (fun j => ∀ k, k < T.length → AsP T i j k) (fun j hj hq r hr => as_l1 hS hn hR hi hj hq r hr) (fun j hj hq => ?_) ?_)
    · simp only [galoisref27_associative.l0]
      repeat (first | rw [if_pos (by omega)] | rw [if_neg (by omega)])
      rfl
    · refine Ev.step (f := fun q => galoisref27_associative.l2 q T (i : Int) (j : Int) ((0 : Nat) : Int)) (fun q => ?_) (scan_some (l := fun q k => galoisref27_associative.l2 q T (i : Int) (j : Int) (k : Int)) (n := T.length) (fun k => AsP T i j k) (fun k hk hq r hr => as_l2 hS hn hR hi hj hk hq r hr) (fun k hk hq => as_l2_bad hS hn hR hi hj hk hq) (by simpa [Classical.not_forall] using hq))
      simp only [galoisref27_associative.l1]
      repeat (first | rw [if_pos (by omega)] | rw [if_neg (by omega)])
      rfl
    · simp only [Classical.not_forall] at hq ⊢
      obtain ⟨j, hj, h⟩ := hq
      exact ⟨j, hj, h⟩
  · unfold Ass at h
    simp only [Classical.not_forall] at h ⊢
    obtain ⟨i, hi, h⟩ := h
    exact ⟨i, hi, h⟩
end Go.Proofs.Ytaaaljifclecnaa.QCk
end
section
/- The reference's CheckTable; the orders of both. -/
namespace Go.Proofs.Ytaaaljifclecnaa.QCk
set_option linter.unusedVariables false
set_option linter.unusedSimpArgs false
open Go.RowKit Go.Proofs.Ytaaaljifclecnaa.PCk Go.Proofs.YtaaaljifclecnaaW.PrintWords Go.Proofs.YtaaaljifclecnaaW.PrintLast Go.Proofs.Ytaaaljifclecnaa.Plain Go.Proofs.Ytaaaljifclecnaa.Tab
variable {T : List (List Int)}
def Ids (T : List (List Int)) (i : Nat) : Prop := m T 0 i = (i : Int) ∧ m T i 0 = (i : Int)
theorem ref_l2 (hS : ∀ i, i < T.length → (T.getD i []).length = T.length) (hn : T.length ≤ 120) {i j : Nat} (hi : i < T.length) (hj : j < T.length) (hp : 0 ≤ m T i j ∧ m T i j < (T.length : Int)) (r : Int) (hr : Ev (fun q => galoisref27_CheckTable.l2 q T (T.length : Int) (i : Int) ((j + 1 : Nat) : Int)) r) : Ev (fun q => galoisref27_CheckTable.l2 q T (T.length : Int) (i : Int) (j : Int)) r := by
  have hl : (rd_L1 T (i : Int)).length = T.length := hS i hi
  have ha : 0 ≤ rd (rd_L1 T (i : Int)) (j : Int) ∧ rd (rd_L1 T (i : Int)) (j : Int) < (T.length : Int) := hp
  refine Ev.step (f := fun q => galoisref27_CheckTable.l2 q T (T.length : Int) (i : Int) ((j + 1 : Nat) : Int)) (fun q => ?_) hr
  simp only [galoisref27_CheckTable.l2]
  repeat (first | rw [if_pos (by omega)] | rw [if_neg (by omega)])
  rw [wrap_nat (by omega)]
theorem ref_l2_bad (hS : ∀ i, i < T.length → (T.getD i []).length = T.length) (hn : T.length ≤ 120) {i j : Nat} (hi : i < T.length) (hj : j < T.length) (hp : ¬ (0 ≤ m T i j ∧ m T i j < (T.length : Int))) : Ev (fun q => galoisref27_CheckTable.l2 q T (T.length : Int) (i : Int) (j : Int)) 3 := by
  have hl : (rd_L1 T (i : Int)).length = T.length := hS i hi
  have ha : ¬ (0 ≤ rd (rd_L1 T (i : Int)) (j : Int) ∧ rd (rd_L1 T (i : Int)) (j : Int) < (T.length : Int)) := hp
  refine Ev.step (f := fun _ => some 3) (fun q => ?_) (Ev.now _)
  simp only [galoisref27_CheckTable.l2]
  by_cases h0 : rd (rd_L1 T (i : Int)) (j : Int) < 0
  · repeat (first | rw [if_pos (by omega)] | rw [if_neg (by omega)])
  · repeat (first | rw [if_pos (by omega)] | rw [if_neg (by omega)])
theorem ref_l1 (hS : ∀ i, i < T.length → (T.getD i []).length = T.length) (hn : T.length ≤ 120) {i : Nat} (hi : i < T.length) (hp : ∀ j, j < T.length → 0 ≤ m T i j ∧ m T i j < (T.length : Int)) (r : Int) (hr : Ev (fun q => galoisref27_CheckTable.l1 q T (T.length : Int) ((i + 1 : Nat) : Int)) r) : Ev (fun q => galoisref27_CheckTable.l1 q T (T.length : Int) (i : Int)) r := by
  refine Ev.step (f := fun q => galoisref27_CheckTable.l2 q T (T.length : Int) (i : Int) ((0 : Nat) : Int)) (fun q => ?_) (scan_all (l := fun q j => galoisref27_CheckTable.l2 q T (T.length : Int) (i : Int) (j : Int)) (n := T.length) (fun j hj r hr => ref_l2 hS hn hi hj (hp j hj) r hr) ?_)
  · simp only [galoisref27_CheckTable.l1]
    repeat (first | rw [if_pos (by omega)] | rw [if_neg (by omega)])
    rfl
  · refine Ev.step (f := fun q => galoisref27_CheckTable.l1 q T (T.length : Int) ((i + 1 : Nat) : Int)) (fun q => ?_) hr
    simp only [galoisref27_CheckTable.l2]
    repeat (first | rw [if_pos (by omega)] | rw [if_neg (by omega)])
    rw [wrap_nat (by omega)]
theorem ref_l3 (hS : ∀ i, i < T.length → (T.getD i []).length = T.length) (hn : T.length ≤ 120) {i : Nat} (hi : i < T.length) (hp : Ids T i) (r : Int) (hr : Ev (fun q => galoisref27_CheckTable.l3 q T (T.length : Int) ((i + 1 : Nat) : Int)) r) : Ev (fun q => galoisref27_CheckTable.l3 q T (T.length : Int) (i : Int)) r := by
  have hl : (rd_L1 T (i : Int)).length = T.length := hS i hi
  have hl0 : (rd_L1 T 0).length = T.length := hS 0 (by omega)
  have h1 : rd (rd_L1 T 0) (i : Int) = (i : Int) := hp.1
  have h2 : rd (rd_L1 T (i : Int)) 0 = (i : Int) := hp.2
  refine Ev.step (f := fun q => galoisref27_CheckTable.l3 q T (T.length : Int) ((i + 1 : Nat) : Int)) (fun q => ?_) hr
  simp only [galoisref27_CheckTable.l3]
  repeat (first | rw [if_pos (by omega)] | rw [if_neg (by omega)])
  rw [wrap_nat (by omega)]
theorem ref_l3_bad (hS : ∀ i, i < T.length → (T.getD i []).length = T.length) (hn : T.length ≤ 120) {i : Nat} (hi : i < T.length) (hp : ¬ Ids T i) : Ev (fun q => galoisref27_CheckTable.l3 q T (T.length : Int) (i : Int)) 15 := by
  have hl : (rd_L1 T (i : Int)).length = T.length := hS i hi
  have hl0 : (rd_L1 T 0).length = T.length := hS 0 (by omega)
  have h3 : ¬ (rd (rd_L1 T 0) (i : Int) = (i : Int) ∧ rd (rd_L1 T (i : Int)) 0 = (i : Int)) := hp
  refine Ev.step (f := fun _ => some 15) (fun q => ?_) (Ev.now _)
  simp only [galoisref27_CheckTable.l3]
  by_cases h1 : rd (rd_L1 T 0) (i : Int) = (i : Int)
  · have h2 : ¬ rd (rd_L1 T (i : Int)) 0 = (i : Int) := fun h => h3 ⟨h1, h⟩
    repeat (first | rw [if_pos (by omega)] | rw [if_neg (by omega)])
  · repeat (first | rw [if_pos (by omega)] | rw [if_neg (by omega)])
theorem ref_half (hS : ∀ i, i < T.length → (T.getD i []).length = T.length) (h0 : 0 < T.length) (hn : T.length ≤ 120) (hR : Rng T) (r : Int) (hr : r = (haveI := Classical.propDecidable; if Lats T then (if Ass T then 0 else 15) else 15)) : Ev (fun k => galoisref27_CheckTable.l3 k T (T.length : Int) ((0 : Nat) : Int)) r := by
  subst hr
  by_cases hI : ∀ i, i < T.length → Ids T i
  · refine scan_all (l := fun k i => galoisref27_CheckTable.l3 k T (T.length : Int) (i : Int)) (n := T.length) (fun i hi r hr => ref_l3 hS hn hi (hI i hi) r hr) ?_
    refine Ev.step (f := fun k => (galoisref27_rows.f k T).bind fun t217 => (if t217 = true then ((galoisref27_associative.f k T).bind fun t218 => (if t218 = true then (some 0) else (some 15))) else (some 15))) (fun k => ?_) ?_
    · simp only [galoisref27_CheckTable.l3]
      repeat (first | rw [if_pos (by omega)] | rw [if_neg (by omega)])
    by_cases hW : Rws T
    · have hL : Lats T := (lats_iff hS h0).2 ⟨hI, fun i hi k hk j hj => hW i hi k hk j hj⟩
      rw [if_pos hL]
      refine Ev.bind (rows_good hS hn hW) ?_
      by_cases hA : Ass T
      · rw [if_pos hA]
        refine (show Ev (fun k => (galoisref27_associative.f k T).bind fun t218 => if t218 = true then some (0 : Int) else some 15) _ from Ev.bind (as_good hS hn hR hA) ?_)
        exact Ev.now _
      · rw [if_neg hA]
        refine (show Ev (fun k => (galoisref27_associative.f k T).bind fun t218 => if t218 = true then some (0 : Int) else some 15) _ from Ev.bind (as_bad hS hn hR hA) ?_)
        exact Ev.now _
    · have hL : ¬ Lats T := fun h => hW (fun i hi k hk j hj => ((lats_iff hS h0).1 h).2 i hi k hk j hj)
      rw [if_neg hL]
      refine Ev.bind (rows_bad hS hn hW) ?_
      exact Ev.now _
  · have hL : ¬ Lats T := fun h => hI ((lats_iff hS h0).1 h).1
    rw [if_neg hL]
    refine scan_some (l := fun k i => galoisref27_CheckTable.l3 k T (T.length : Int) (i : Int)) (n := T.length) (fun i => Ids T i) (fun i hi hq r hr => ref_l3 hS hn hi hq r hr) (fun i hi hq => ref_l3_bad hS hn hi hq) (by simpa [Classical.not_forall] using hI)
theorem ref_ev (T : List (List Int)) : Ev (fun k => galoisref27_CheckTable.f k T) (chkT T) := by
  unfold chkT
  by_cases h0 : T.length = 0
  · rw [if_pos h0]
    refine Ev.congr (f := fun _ => some 2) (fun k => ?_) (Ev.now _)
    simp only [galoisref27_CheckTable.f]
    repeat (first | rw [if_pos (by omega)] | rw [if_neg (by omega)])
  · rw [if_neg h0]
    by_cases h1 : 120 < T.length
    · rw [if_pos h1]
      refine Ev.congr (f := fun _ => some 5) (fun k => ?_) (Ev.now _)
      simp only [galoisref27_CheckTable.f]
      repeat (first | rw [if_pos (by omega)] | rw [if_neg (by omega)])
    · rw [if_neg h1]
      refine Ev.congr (f := fun k => galoisref27_CheckTable.l0 k T (T.length : Int) ((0 : Nat) : Int)) (fun k => ?_) ?_
      · simp only [galoisref27_CheckTable.f]
        repeat (first | rw [if_pos (by omega)] | rw [if_neg (by omega)])
        rfl
      have hgood : ∀ i, i < T.length → (T.getD i []).length = T.length → ∀ r, Ev (fun k => galoisref27_CheckTable.l0 k T (T.length : Int) ((i + 1 : Nat) : Int)) r → Ev (fun k => galoisref27_CheckTable.l0 k T (T.length : Int) (i : Int)) r := fun i hi hp r hr => by
        have hl : (rd_L1 T (i : Int)).length = T.length := hp
        refine Ev.step (f := fun k => galoisref27_CheckTable.l0 k T (T.length : Int) ((i + 1 : Nat) : Int)) (fun k => ?_) hr
        simp only [galoisref27_CheckTable.l0]
        repeat (first | rw [if_pos (by omega)] | rw [if_neg (by omega)])
        rw [wrap_nat (by omega)]
      by_cases hS : ∀ i, i < T.length → (T.getD i []).length = T.length
      · rw [if_pos hS]
        refine scan_all (l := fun k i => galoisref27_CheckTable.l0 k T (T.length : Int) (i : Int)) (n := T.length) (fun i hi r hr => hgood i hi (hS i hi) r hr) ?_
        refine Ev.step (f := fun k => galoisref27_CheckTable.l1 k T (T.length : Int) ((0 : Nat) : Int)) (fun k => ?_) ?_
        · simp only [galoisref27_CheckTable.l0]
          repeat (first | rw [if_pos (by omega)] | rw [if_neg (by omega)])
          rfl
        by_cases hR : Rng T
        · rw [if_pos hR]
          refine scan_all (l := fun k i => galoisref27_CheckTable.l1 k T (T.length : Int) (i : Int)) (n := T.length) (fun i hi r hr => ref_l1 hS (by omega) hi (hR i hi) r hr) ?_
          refine Ev.step (f := fun k => galoisref27_CheckTable.l3 k T (T.length : Int) ((0 : Nat) : Int)) (fun k => ?_) (ref_half hS (by omega) (by omega) hR _ rfl)
          simp only [galoisref27_CheckTable.l1]
          repeat (first | rw [if_pos (by omega)] | rw [if_neg (by omega)])
          rfl
        · rw [if_neg hR]
          refine scan_some (l := fun k i => galoisref27_CheckTable.l1 k T (T.length : Int) (i : Int)) (n := T.length) (fun i => ∀ j, j < T.length → 0 ≤ m T i j ∧ m T i j < (T.length : Int)) (fun i hi hq r hr => ref_l1 hS (by omega) hi hq r hr) (fun i hi hq => ?_) ?_
          · refine Ev.step (f := fun q => galoisref27_CheckTable.l2 q T (T.length : Int) (i : Int) ((0 : Nat) : Int)) (fun q => ?_) (scan_some (l := fun q j => galoisref27_CheckTable.l2 q T (T.length : Int) (i : Int) (j : Int)) (n := T.length) (fun j => 0 ≤ m T i j ∧ m T i j < (T.length : Int)) (fun j hj hp r hr => ref_l2 hS (by omega) hi hj hp r hr) (fun j hj hp => ref_l2_bad hS (by omega) hi hj hp) (by simpa [Classical.not_forall] using hq))
            simp only [galoisref27_CheckTable.l1]
            repeat (first | rw [if_pos (by omega)] | rw [if_neg (by omega)])
            rfl
          · unfold Rng at hR
            simp only [Classical.not_forall] at hR ⊢
            obtain ⟨i, hi, h⟩ := hR
            exact ⟨i, hi, h⟩
      · rw [if_neg hS]
        refine scan_some (l := fun k i => galoisref27_CheckTable.l0 k T (T.length : Int) (i : Int)) (n := T.length) (fun i => (T.getD i []).length = T.length) hgood (fun i hi hp => ?_) (by simpa [Classical.not_forall] using hS)
        have hl : ¬ (rd_L1 T (i : Int)).length = T.length := hp
        refine Ev.step (f := fun _ => some 2) (fun k => ?_) (Ev.now _)
        simp only [galoisref27_CheckTable.l0]
        repeat (first | rw [if_pos (by omega)] | rw [if_neg (by omega)])
theorem tb_of (h : chkT T = 0) : Tb T := by
  unfold chkT at h
  by_cases h0 : T.length = 0
  · rw [if_pos h0] at h; cases h
  · rw [if_neg h0] at h
    by_cases h1 : 120 < T.length
    · rw [if_pos h1] at h; cases h
    · rw [if_neg h1] at h
      by_cases hS : ∀ i, i < T.length → (T.getD i []).length = T.length
      · rw [if_pos hS] at h
        by_cases hR : Rng T
        · rw [if_pos hR] at h
          by_cases hL : Lats T
          · rw [if_pos hL] at h
            by_cases hA : Ass T
            · exact ⟨by omega, by omega, hS, hR, hL, hA⟩
            · rw [if_neg hA] at h; cases h
          · rw [if_neg hL] at h; cases h
        · rw [if_neg hR] at h; cases h
      · rw [if_neg hS] at h; cases h
noncomputable def ods (T : List (List Int)) (i : Nat) : List Int := (List.range i).map fun j => ((od T j : Nat) : Int)
theorem ods_len (T : List (List Int)) (i : Nat) : (ods T i).length = i := by unfold ods; rw [List.length_map, List.length_range]
theorem ods_succ (T : List (List Int)) (i : Nat) : ods T (i + 1) = ods T i ++ [((od T i : Nat) : Int)] := by unfold ods; rw [List.range_succ, List.map_append]; rfl
theorem pw_step (h : Tb T) {i : Nat} (hi : i < T.length) (s : Nat) : rd (rd_L1 T ((pw T i s : Nat) : Int)) (i : Int) = ((pw T i (s + 1) : Nat) : Int) := (e_cast h.rng (h.pw_lt hi s) hi).symm
theorem refOrd_l1 (h : Tb T) {i : Nat} (hi : i < T.length) (r : List Int) (hr : Ev (fun k => galoisref27_Orders.l0 k T (ods T (i + 1)) ((i + 1 : Nat) : Int)) r) : ∀ d s, s + d = od T i → 0 < s → Ev (fun k => galoisref27_Orders.l1 k T (ods T i) (i : Int) (s : Int) ((pw T i s : Nat) : Int)) r := by
  obtain ⟨o1, o2, o3, o4⟩ := h.od_spec hi
  have hsm := h.small
  intro d
  induction d with
  | zero =>
    intro s hs h0
    obtain rfl : s = od T i := by omega
    have hol := ods_len T i
    refine Ev.step (f := fun k => galoisref27_Orders.l0 k T (ods T (i + 1)) ((i + 1 : Nat) : Int)) (fun k => ?_) hr
    simp only [galoisref27_Orders.l1, o3]
    rw [if_pos (by omega), if_pos (by omega), wrap_nat (by omega), ods_succ]
  | succ d ih =>
    intro s hs h0
    have hne := o4 s h0 (by omega)
    have hlt := h.pw_lt hi s
    have hlx : (rd_L1 T ((pw T i s : Nat) : Int)).length = T.length := h.len _ hlt
    refine Ev.step (f := fun k => galoisref27_Orders.l1 k T (ods T i) (i : Int) ((s + 1 : Nat) : Int) ((pw T i (s + 1) : Nat) : Int)) (fun k => ?_) (ih (s + 1) (by omega) (by omega))
    simp only [galoisref27_Orders.l1, pw_step h hi]
    repeat (first | rw [if_pos (by omega)] | rw [if_neg (by omega)])
    rw [wrap_nat (by omega)]
theorem refOrd_ev (h : Tb T) : Ev (fun k => galoisref27_Orders.f k T) (ods T T.length) := by
  have hsm := h.small
  refine Ev.congr (f := fun k => galoisref27_Orders.l0 k T (ods T 0) ((0 : Nat) : Int)) (fun k => rfl) (scan_all (l := fun k i => galoisref27_Orders.l0 k T (ods T i) (i : Int)) (n := T.length) (fun i hi r hr => ?_) ?_)
  · obtain ⟨o1, o2, o3, o4⟩ := h.od_spec hi
    refine Ev.step (f := fun k => galoisref27_Orders.l1 k T (ods T i) (i : Int) ((1 : Nat) : Int) ((pw T i 1 : Nat) : Int)) (fun k => ?_) (refOrd_l1 h hi r hr (od T i - 1) 1 (by omega) (by omega))
    rw [h.pw_one hi]
    simp only [galoisref27_Orders.l0]
    repeat (first | rw [if_pos (by omega)] | rw [if_neg (by omega)])
    rfl
  · refine Ev.step (f := fun _ => some (ods T T.length)) (fun k => ?_) (Ev.now _)
    simp only [galoisref27_Orders.l0]
    repeat (first | rw [if_pos (by omega)] | rw [if_neg (by omega)])
noncomputable def odx (T : List (List Int)) (i s : Nat) : List Int := (List.range T.length).map fun j => if j < i then ((od T j : Nat) : Int) else if j = i then (s : Int) else 0
theorem odx_len (T : List (List Int)) (i s : Nat) : (odx T i s).length = T.length := by unfold odx; rw [List.length_map, List.length_range]
theorem odx_get (T : List (List Int)) (i s j : Nat) (hj : j < T.length) : (odx T i s)[j]? = some (if j < i then ((od T j : Nat) : Int) else if j = i then (s : Int) else 0) := by unfold odx; rw [List.getElem?_map, List.getElem?_range hj]; rfl
theorem odx_set (T : List (List Int)) (i s t : Nat) (hi : i < T.length) : (odx T i s).set i (t : Int) = odx T i t := by
  apply List.ext_getElem?
  intro j
  by_cases hj : j < T.length
  · by_cases he : i = j
    · subst he
      rw [List.getElem?_set_self (by rw [odx_len]; exact hi), odx_get T _ _ _ hj, if_neg (by omega), if_pos rfl]
    · rw [List.getElem?_set_ne he, odx_get T _ _ _ hj, odx_get T _ _ _ hj]
      by_cases h1 : j < i
      · rw [if_pos h1, if_pos h1]
      · rw [if_neg h1, if_neg h1, if_neg (by omega), if_neg (by omega)]
  · rw [List.getElem?_eq_none (by rw [List.length_set, odx_len]; omega), List.getElem?_eq_none (by rw [odx_len]; omega)]
theorem odx_next (T : List (List Int)) (i : Nat) : odx T i (od T i) = odx T (i + 1) 0 := by
  unfold odx
  apply List.map_congr_left
  intro j hj
  by_cases h1 : j < i
  · rw [if_pos h1, if_pos (by omega)]
  · by_cases h2 : j = i
    · subst h2; rw [if_neg h1, if_pos rfl, if_pos (by omega)]
    · rw [if_neg h1, if_neg h2, if_neg (by omega)]
      by_cases h3 : j = i + 1
      · rw [if_pos h3]; rfl
      · rw [if_neg h3]
theorem odx_zero (T : List (List Int)) : odx T 0 0 = List.replicate T.length 0 := by
  apply List.ext_getElem?
  intro j
  by_cases hj : j < T.length
  · rw [odx_get T _ _ _ hj, List.getElem?_replicate, if_pos hj, if_neg (by omega)]
    by_cases h : j = 0
    · rw [if_pos h]; rfl
    · rw [if_neg h]
  · rw [List.getElem?_eq_none (by rw [odx_len]; omega), List.getElem?_replicate, if_neg hj]
theorem odx_end (T : List (List Int)) : odx T T.length 0 = ods T T.length := by
  unfold odx ods
  apply List.map_congr_left
  intro j hj
  rw [if_pos (List.mem_range.1 hj)]
theorem ord_l1 (h : Tb T) {i : Nat} (hi : i < T.length) (r : List Int) (hr : Ev (fun k => coset_orders.l0 k T (odx T (i + 1) 0) (T.length : Int) ((i + 1 : Nat) : Int)) r) : ∀ d s, s + d = od T i → 0 < s → Ev (fun k => coset_orders.l1 k T (odx T i s) (i : Int) ((pw T i s : Nat) : Int) (T.length : Int) (i : Int)) r := by
  obtain ⟨o1, o2, o3, o4⟩ := h.od_spec hi
  have hsm := h.small
  intro d
  induction d with
  | zero =>
    intro s hs h0
    obtain rfl : s = od T i := by omega
    refine Ev.step (f := fun k => coset_orders.l0 k T (odx T (i + 1) 0) (T.length : Int) ((i + 1 : Nat) : Int)) (fun k => ?_) hr
    simp only [coset_orders.l1, o3]
    rw [if_pos (by omega), wrap_nat (by omega), odx_next]
  | succ d ih =>
    intro s hs h0
    have hne := o4 s h0 (by omega)
    have hlt := h.pw_lt hi s
    have hlx : (rd_L1 T ((pw T i s : Nat) : Int)).length = T.length := h.len _ hlt
    have hol := odx_len T i s
    have hrd : rd (odx T i s) (i : Int) = (s : Int) := by
      show (odx T i s).getD i 0 = _
      rw [List.getD_eq_getElem?_getD, odx_get T _ _ _ hi, if_neg (by omega), if_pos rfl]; rfl
    refine Ev.step (f := fun k => coset_orders.l1 k T (odx T i (s + 1)) (i : Int) ((pw T i (s + 1) : Nat) : Int) (T.length : Int) (i : Int)) (fun k => ?_) (ih (s + 1) (by omega) (by omega))
    simp only [coset_orders.l1, pw_step h hi, hrd]
    repeat (first | rw [if_pos (by omega)] | rw [if_neg (by omega)])
    rw [wrap_nat (by omega), Int.toNat_natCast, odx_set T _ _ _ hi]
theorem ord_ev (h : Tb T) : Ev (fun k => coset_orders.f k T) (ods T T.length) := by
  have hsm := h.small
  refine Ev.congr (f := fun k => coset_orders.l0 k T (odx T 0 0) (T.length : Int) ((0 : Nat) : Int)) (fun k => ?_) (scan_all (l := fun k i => coset_orders.l0 k T (odx T i 0) (T.length : Int) (i : Int)) (n := T.length) (fun i hi r hr => ?_) ?_)
  · simp only [coset_orders.f, Int.toNat_natCast]
    repeat (first | rw [if_pos (by omega)] | rw [if_neg (by omega)])
    rw [odx_zero]
    rfl
  · obtain ⟨o1, o2, o3, o4⟩ := h.od_spec hi
    have hol := odx_len T i 0
    refine Ev.step (f := fun k => coset_orders.l1 k T (odx T i 1) (i : Int) ((pw T i 1 : Nat) : Int) (T.length : Int) (i : Int)) (fun k => ?_) (ord_l1 h hi r hr (od T i - 1) 1 (by omega) (by omega))
    rw [h.pw_one hi, ← odx_set T i 0 1 hi]
    simp only [coset_orders.l0, Int.toNat_natCast]
    repeat (first | rw [if_pos (by omega)] | rw [if_neg (by omega)])
    rfl
  · refine Ev.step (f := fun _ => some (ods T T.length)) (fun k => ?_) (Ev.now _)
    rw [← odx_end T]
    simp only [coset_orders.l0]
    repeat (first | rw [if_pos (by omega)] | rw [if_neg (by omega)])
end Go.Proofs.Ytaaaljifclecnaa.QCk
end
section
/- CosetChecks: a list is a group table, and its numbers have the orders, as in the reference, or have its errors. -/
namespace Go.Proofs.Ytaaaljifclecnaa.Pure
open Go.RowKit Go.Proofs.Ytaaaljifclecnaa.PCk Go.Proofs.YtaaaljifclecnaaW.PrintWords Go.Proofs.YtaaaljifclecnaaW.PrintLast Go.Proofs.Ytaaaljifclecnaa.Plain
set_option linter.unusedVariables false
set_option linter.unusedSimpArgs false
open Go.Proofs.Ytaaaljifclecnaa.Tab Go.Proofs.Ytaaaljifclecnaa.QCk
theorem ordersP (T : List (List Int)) : Ev (fun k => coset_Orders.f k T) (if chkT T = 0 then (ods T T.length, 0) else ([], chkT T)) := by
  refine Ev.congr (f := fun k => (coset_CheckTable.f k T).bind fun t => if t = 0 then ((coset_orders.f k T).bind fun t193 => some (t193, (0 : Int))) else some (([] : List Int), t)) (fun k => rfl) (Ev.bind (check_ev T) ?_)
  by_cases h : chkT T = 0
  · simp only [if_pos h]
    exact Ev.bind (ord_ev (tb_of h)) (Ev.now _)
  · simp only [if_neg h]
    exact Ev.now _
theorem j1P (T : List (List Int)) : Ev (fun k => galoislaw27_CosetChecks.j1 k T (if chkT T = 0 then (ods T T.length, (0 : Int)) else ([], chkT T)).1 (chkT T) ((if chkT T = 0 then (ods T T.length, (0 : Int)) else ([], chkT T)).2 != chkT T)) true := by
  by_cases h : chkT T = 0
  · rw [if_pos h]
    have hb : ((0 : Int) != chkT T) = false := by rw [h]; rfl
    refine Ev.step (f := fun k => (galoisref27_Orders.f k T).bind fun t233 => ((galoisref22_Same.f k (ods T T.length) t233).bind fun t236 => (some t236))) (fun k => ?_) ?_
    · simp only [galoislaw27_CosetChecks.j1, hb, Bool.false_eq_true, if_false]
      rw [if_pos h]
    · refine Ev.bind (refOrd_ev (tb_of h)) ?_
      refine Ev.bind (QRf.galoisref22_Same.ev _ _ (by rw [ods_len]; have := (tb_of h).small; omega)) ?_
      simp only [decide_true]
      exact Ev.now _
  · rw [if_neg h]
    have hb : (chkT T != chkT T) = false := by simp
    refine Ev.step (f := fun _ => some true) (fun k => ?_) (Ev.now _)
    simp only [galoislaw27_CosetChecks.j1, hb, if_neg h, Bool.false_eq_true, if_false]
    rfl
theorem j0P (T : List (List Int)) (b : Bool) : Ev (fun k => galoislaw27_CosetChecks.j0 k T b) true := by
  cases b with
  | true => exact Ev.step (f := fun _ => some true) (fun k => by simp only [galoislaw27_CosetChecks.j0, if_true]; rfl) (Ev.now _)
  | false =>
    refine Ev.step (f := fun k => (coset_Orders.f k T).bind fun bt227 => ((galoisref27_CheckTable.f k T).bind fun t231 => ((coset_CheckTable.f k T).bind fun t232 => (if t232 = t231 then (galoislaw27_CosetChecks.j1 k T bt227.1 t231 (bt227.2 != t231)) else (galoislaw27_CosetChecks.j1 k T bt227.1 t231 true))))) (fun k => by simp only [galoislaw27_CosetChecks.j0, Bool.false_eq_true, if_false]) ?_
    refine Ev.bind (ordersP T) (Ev.bind (ref_ev T) (Ev.bind (check_ev T) ?_))
    simp only [if_true]
    exact j1P T
theorem CosetChecks : galoislaw27_CosetChecks.Pure := by
  intro l0 hl hw
  obtain ⟨c, hc⟩ := wide_ev l0
  have h : Ev (fun k => galoislaw27_CosetChecks.f k l0) true := Ev.congr (f := fun k => (galoislaw27_wide.f k l0).bind fun t225 => galoislaw27_CosetChecks.j0 k l0 t225) (fun k => rfl) (Ev.bind hc (j0P l0 c))
  exact Ev.rounds h
end Go.Proofs.Ytaaaljifclecnaa.Pure
end
