/- Plain facts on functions of the points below n that map them one to one: powers, periods, orbits. No program in sight. -/
import Derived.Test.YtobbdbkcailfkaaWMore
namespace Go.Proofs.Ytobbdbkcailfkaa.Plain
set_option linter.unusedVariables false
set_option linter.unusedSimpArgs false

/-! ### Iterates -/
def it (g : Nat → Nat) : Nat → Nat → Nat
  | 0, i => i
  | k + 1, i => g (it g k i)
theorem it_add (g : Nat → Nat) (a b i : Nat) : it g (a + b) i = it g b (it g a i) := by
  induction b with
  | zero => rfl
  | succ b ih => show g (it g (a + b) i) = g (it g b (it g a i)); rw [ih]
theorem it_succ' (g : Nat → Nat) (a i : Nat) : it g (a + 1) i = it g a (g i) := by
  have := it_add g 1 a i
  rw [Nat.add_comm 1 a] at this
  exact this

structure Bij (n : Nat) (g : Nat → Nat) : Prop where
  lt : ∀ i, i < n → g i < n
  inj : ∀ i j, i < n → j < n → g i = g j → i = j

theorem Bij.it_lt {n g} (h : Bij n g) (k : Nat) {i : Nat} (hi : i < n) : it g k i < n := by
  induction k with
  | zero => exact hi
  | succ k ih => exact h.lt _ ih
theorem Bij.it_inj {n g} (h : Bij n g) (k : Nat) {i j : Nat} (hi : i < n) (hj : j < n) (e : it g k i = it g k j) : i = j := by
  induction k with
  | zero => exact e
  | succ k ih => exact ih (h.inj _ _ (h.it_lt k hi) (h.it_lt k hj) e)

/-! ### Pigeons -/
theorem pigeon : ∀ (n : Nat) (f : Nat → Nat), (∀ i, i ≤ n → f i < n) → ∃ s t, s < t ∧ t ≤ n ∧ f s = f t := by
  intro n
  induction n with
  | zero => intro f h; exact absurd (h 0 (Nat.le_refl _)) (by omega)
  | succ n ih =>
    intro f h
    by_cases hx : ∃ s, s ≤ n ∧ f s = f (n + 1)
    · obtain ⟨s, hs, e⟩ := hx
      exact ⟨s, n + 1, by omega, Nat.le_refl _, e⟩
    · have hne : ∀ s, s ≤ n → f s ≠ f (n + 1) := fun s hs e => hx ⟨s, hs, e⟩
      obtain ⟨s, t, h1, h2, h3⟩ := ih (fun i => if f i = n then f (n + 1) else f i) (fun i hi => by
        show (if f i = n then f (n + 1) else f i) < n
        have a := h i (by omega); have b := h (n + 1) (Nat.le_refl _); have c := hne i hi
        split <;> omega)
      refine ⟨s, t, h1, by omega, ?_⟩
      have cs := hne s (by omega); have ct := hne t h2
      have h3' : (if f s = n then f (n + 1) else f s) = (if f t = n then f (n + 1) else f t) := h3
      split at h3' <;> split at h3' <;> omega

theorem Bij.returns {n g} (h : Bij n g) {i : Nat} (hi : i < n) : ∃ p, 0 < p ∧ p ≤ n ∧ it g p i = i := by
  obtain ⟨s, t, h1, h2, h3⟩ := pigeon n (fun k => it g k i) (fun k _ => h.it_lt k hi)
  refine ⟨t - s, by omega, by omega, ?_⟩
  have e : t = (t - s) + s := by omega
  have h3' : it g s i = it g t i := h3
  rw [e, it_add] at h3'
  exact (h.it_inj s hi (h.it_lt _ hi) h3').symm

/-! ### The period of a point -/
def per (g : Nat → Nat) (n i : Nat) : Nat := ((List.range n).find? (fun p => it g (p + 1) i == i)).getD 0 + 1
theorem per_pos (g : Nat → Nat) (n i : Nat) : 0 < per g n i := Nat.succ_pos _
theorem Bij.per_spec {n g} (h : Bij n g) {i : Nat} (hi : i < n) : it g (per g n i) i = i ∧ per g n i ≤ n ∧ ∀ q, 0 < q → q < per g n i → it g q i ≠ i := by
  obtain ⟨p, p0, pn, e⟩ := h.returns hi
  unfold per
  cases hf : (List.range n).find? (fun p => it g (p + 1) i == i) with
  | none =>
    have := List.find?_eq_none.1 hf (p - 1) (List.mem_range.2 (by omega))
    rw [show p - 1 + 1 = p by omega, e] at this
    simp at this
  | some q =>
    have h1 := List.find?_some hf
    have h2 := List.mem_range.1 (List.mem_of_find?_eq_some hf)
    simp only [beq_iff_eq] at h1
    refine ⟨h1, by simp only [Option.getD_some]; omega, fun r r0 hr e' => ?_⟩
    simp only [Option.getD_some] at hr
    obtain ⟨_, as, bs, hs, hno⟩ := List.find?_eq_some_iff_append.1 hf
    have hlt : r - 1 ∈ as := by
      have hl : (List.range n)[r - 1]? = some (r - 1) := by rw [List.getElem?_range (by omega)]
      have hq : (List.range n)[q]? = some q := by rw [List.getElem?_range h2]
      have hlen : as.length = q := by
        have ha : (List.range n)[as.length]? = some q := by rw [hs]; simp
        have hal : as.length < n := by
          have := congrArg List.length hs
          simp at this; omega
        rw [List.getElem?_range hal] at ha
        exact Option.some.inj ha
      rw [hs, List.getElem?_append_left (by omega)] at hl
      exact List.mem_of_getElem? hl
    have := hno _ hlt
    rw [show r - 1 + 1 = r by omega, e'] at this
    simp at this
theorem it_mul_of {g : Nat → Nat} {p i : Nat} (e : it g p i = i) (m : Nat) : it g (p * m) i = i := by
  induction m with
  | zero => rfl
  | succ m ih => rw [Nat.mul_succ, it_add, ih, e]
theorem it_mod {g : Nat → Nat} {p i : Nat} (e : it g p i = i) (k : Nat) : it g k i = it g (k % p) i := by
  have h := Nat.div_add_mod k p
  conv => lhs; rw [← h, it_add, it_mul_of e]
theorem Bij.it_fix {n g} (h : Bij n g) {i : Nat} (hi : i < n) (k : Nat) : it g k i = i ↔ per g n i ∣ k := by
  obtain ⟨e, _, hm⟩ := h.per_spec hi
  constructor
  · intro hk
    rw [it_mod e] at hk
    rcases Nat.eq_zero_or_pos (k % per g n i) with h0 | h0
    · exact Nat.dvd_of_mod_eq_zero h0
    · exact absurd hk (hm _ h0 (Nat.mod_lt _ (per_pos ..)))
  · rintro ⟨m, rfl⟩
    exact it_mul_of e m
theorem Bij.it_ne {n g} (h : Bij n g) {i : Nat} (hi : i < n) {s t : Nat} (hst : s < t) (ht : t < per g n i) : it g s i ≠ it g t i := by
  intro e
  obtain ⟨_, _, hm⟩ := h.per_spec hi
  rw [show t = (t - s) + s by omega, it_add] at e
  exact hm (t - s) (by omega) (by omega) (h.it_inj s hi (h.it_lt _ hi) e).symm

/-! ### Orbits -/
def orb (g : Nat → Nat) (n i : Nat) : List Nat := (List.range (per g n i)).map fun k => it g k i
theorem orb_length (g : Nat → Nat) (n i : Nat) : (orb g n i).length = per g n i := by simp [orb]
theorem Bij.mem_orb {n g} (h : Bij n g) {i : Nat} (hi : i < n) (x : Nat) : x ∈ orb g n i ↔ ∃ k, x = it g k i := by
  unfold orb
  simp only [List.mem_map, List.mem_range]
  constructor
  · rintro ⟨k, _, rfl⟩; exact ⟨k, rfl⟩
  · rintro ⟨k, rfl⟩
    exact ⟨k % per g n i, Nat.mod_lt _ (per_pos ..), (it_mod (h.per_spec hi).1 k).symm⟩
theorem Bij.orb_lt {n g} (h : Bij n g) {i x : Nat} (hi : i < n) (hx : x ∈ orb g n i) : x < n := by
  obtain ⟨k, rfl⟩ := (h.mem_orb hi x).1 hx
  exact h.it_lt k hi
theorem Bij.self_orb {n g} (h : Bij n g) {i : Nat} (hi : i < n) : i ∈ orb g n i := (h.mem_orb hi i).2 ⟨0, rfl⟩
/-- Each point leads back. -/
theorem Bij.back {n g} (h : Bij n g) {i : Nat} (hi : i < n) (k : Nat) : ∃ m, it g m (it g k i) = i := by
  obtain ⟨e, _, _⟩ := h.per_spec hi
  have hp := per_pos g n i
  refine ⟨per g n i * k - k, ?_⟩
  rw [← it_add, show k + (per g n i * k - k) = per g n i * k by
    have : k ≤ per g n i * k := Nat.le_mul_of_pos_left k hp
    omega]
  exact it_mul_of e k
theorem Bij.orb_symm {n g} (h : Bij n g) {i x : Nat} (hi : i < n) (hx : x ∈ orb g n i) : i ∈ orb g n x := by
  have hxn := h.orb_lt hi hx
  obtain ⟨k, rfl⟩ := (h.mem_orb hi x).1 hx
  obtain ⟨m, hm⟩ := h.back hi k
  exact (h.mem_orb hxn i).2 ⟨m, hm.symm⟩
theorem Bij.orb_trans {n g} (h : Bij n g) {i x y : Nat} (hi : i < n) (hx : x ∈ orb g n i) (hy : y ∈ orb g n x) : y ∈ orb g n i := by
  have hxn := h.orb_lt hi hx
  obtain ⟨k, rfl⟩ := (h.mem_orb hi x).1 hx
  obtain ⟨m, rfl⟩ := (h.mem_orb hxn y).1 hy
  exact (h.mem_orb hi _).2 ⟨k + m, (it_add g k m i).symm⟩
theorem Bij.per_orb {n g} (h : Bij n g) {i x : Nat} (hi : i < n) (hx : x ∈ orb g n i) : per g n x = per g n i := by
  have hxn := h.orb_lt hi hx
  obtain ⟨k, rfl⟩ := (h.mem_orb hi x).1 hx
  have a : it g (per g n i) (it g k i) = it g k i := by
    rw [← it_add, Nat.add_comm, it_add, (h.per_spec hi).1]
  have b : it g (per g n (it g k i)) i = i := by
    have := (h.per_spec hxn).1
    rw [← it_add, Nat.add_comm, it_add] at this
    exact h.it_inj k (h.it_lt _ hi) hi this
  exact Nat.dvd_antisymm ((h.it_fix hxn _).1 a) ((h.it_fix hi _).1 b)
theorem Bij.orb_nodup {n g} (h : Bij n g) {i : Nat} (hi : i < n) : (orb g n i).Nodup := by
  unfold orb
  rw [List.nodup_iff_pairwise_ne, List.pairwise_map]
  refine List.Pairwise.imp_of_mem ?_ (List.pairwise_lt_range)
  intro a b ha hb hab
  exact h.it_ne hi hab (List.mem_range.1 hb)

/-! ### The least point of an orbit, and the cycles -/
def isLeast (g : Nat → Nat) (n i : Nat) : Bool := (orb g n i).all fun x => decide (i ≤ x)
theorem isLeast_iff {g : Nat → Nat} {n i : Nat} : isLeast g n i = true ↔ ∀ x ∈ orb g n i, i ≤ x := by
  simp [isLeast]
def isHead (g : Nat → Nat) (n i : Nat) : Bool := isLeast g n i && decide (2 ≤ per g n i)
def cyc (g : Nat → Nat) (n m : Nat) : List (List Nat) := ((List.range m).filter (isHead g n)).map (orb g n)
theorem cyc_succ (g : Nat → Nat) (n m : Nat) : cyc g n (m + 1) = cyc g n m ++ (if isHead g n m = true then [orb g n m] else []) := by
  unfold cyc
  rw [List.range_succ, List.filter_append, List.map_append]
  congr 1
  by_cases e : isHead g n m = true <;> simp [e]
/-- Each point has a least one in its orbit. -/
theorem Bij.has_least {n g} (h : Bij n g) : ∀ i, i < n → ∃ j, j ≤ i ∧ i ∈ orb g n j ∧ isLeast g n j = true := by
  intro i
  induction i using Nat.strongRecOn with
  | _ i ih =>
    intro hi
    by_cases hl : isLeast g n i = true
    · exact ⟨i, Nat.le_refl _, h.self_orb hi, hl⟩
    · have : ∃ x, x ∈ orb g n i ∧ x < i := by
        apply Classical.byContradiction
        intro hc
        exact hl (isLeast_iff.2 fun x hx => by
          apply Classical.byContradiction
          intro hlt
          exact hc ⟨x, hx, by omega⟩)
      obtain ⟨x, hx, hlt⟩ := this
      obtain ⟨j, h1, h2, h3⟩ := ih x hlt (by omega)
      have hj : j < n := by omega
      exact ⟨j, by omega, h.orb_trans hj h2 (h.orb_symm hi hx), h3⟩

theorem Bij.least_iff {g : Nat → Nat} {n : Nat} (h : Bij n g) (m : Nat) (hm : m < n) : isLeast g n m = true ↔ ¬ ∃ j, j < m ∧ m ∈ orb g n j := by
  rw [isLeast_iff]
  constructor
  · rintro hl ⟨j, hj, hin⟩
    have := hl j (h.orb_symm (by omega) hin)
    omega
  · intro hno x hx
    apply Classical.byContradiction
    intro hlt
    exact hno ⟨x, by omega, h.orb_symm hm hx⟩

/-! ### The order -/
def lcmAll (l : List Nat) : Nat := l.foldl Nat.lcm 1
theorem foldl_lcm_dvd : ∀ (l : List Nat) (a m : Nat), l.foldl Nat.lcm a ∣ m ↔ a ∣ m ∧ ∀ x ∈ l, x ∣ m
  | [], a, m => by simp
  | x :: l, a, m => by
    rw [List.foldl_cons, foldl_lcm_dvd l]
    constructor
    · rintro ⟨h1, h2⟩
      exact ⟨Nat.dvd_trans (Nat.dvd_lcm_left a x) h1, fun y hy => by
        rcases List.mem_cons.1 hy with rfl | hy
        · exact Nat.dvd_trans (Nat.dvd_lcm_right a y) h1
        · exact h2 y hy⟩
    · rintro ⟨h1, h2⟩
      exact ⟨Nat.lcm_dvd h1 (h2 x (List.mem_cons_self ..)), fun y hy => h2 y (List.mem_cons_of_mem _ hy)⟩
def ord (g : Nat → Nat) (n : Nat) : Nat := ((cyc g n n).map List.length).foldl Nat.lcm 1
theorem Bij.ord_dvd {n g} (h : Bij n g) (k : Nat) : ord g n ∣ k ↔ ∀ i, i < n → it g k i = i := by
  unfold ord
  rw [foldl_lcm_dvd]
  constructor
  · rintro ⟨_, hc⟩ i hi
    rw [h.it_fix hi]
    obtain ⟨j, h1, h2, h3⟩ := h.has_least i hi
    have hj : j < n := by omega
    rw [h.per_orb hj h2]
    by_cases h4 : 2 ≤ per g n j
    · refine hc _ (List.mem_map.2 ⟨orb g n j, List.mem_map.2 ⟨j, List.mem_filter.2 ⟨List.mem_range.2 hj, ?_⟩, rfl⟩, orb_length ..⟩)
      simp [isHead, h3, h4]
    · have := per_pos g n j
      rw [show per g n j = 1 by omega]
      exact Nat.one_dvd _
  · intro hi
    refine ⟨Nat.one_dvd _, fun x hx => ?_⟩
    obtain ⟨c, hc, rfl⟩ := List.mem_map.1 hx
    obtain ⟨j, hj, rfl⟩ := List.mem_map.1 hc
    have hj' := List.mem_range.1 (List.mem_filter.1 hj).1
    rw [orb_length, ← h.it_fix hj']
    exact hi j hj'
/-- Of at most 20 points the order divides the least common multiple of 1 to 20. -/
theorem small_dvd (x : Nat) (h0 : 0 < x) (h1 : x ≤ 20) : x ∣ 232792560 := by
  have h : ∀ y, y < 20 → (y + 1) ∣ 232792560 := by decide
  have := h (x - 1) (by omega)
  rwa [show x - 1 + 1 = x by omega] at this
theorem Bij.ord_small {n g} (h : Bij n g) (hn : n ≤ 20) : ord g n ∣ 232792560 := by
  rw [h.ord_dvd]
  intro i hi
  rw [h.it_fix hi]
  exact small_dvd _ (per_pos ..) (Nat.le_trans (h.per_spec hi).2.1 hn)
theorem ord_pos (g : Nat → Nat) (n : Nat) : 0 < ord g n := by
  unfold ord
  have : ∀ (l : List Nat) (a : Nat), 0 < a → (∀ x ∈ l, 0 < x) → 0 < l.foldl Nat.lcm a := by
    intro l
    induction l with
    | nil => intro a ha _; exact ha
    | cons x l ih =>
      intro a ha hl
      exact ih _ (Nat.lcm_pos ha (hl x (List.mem_cons_self ..))) fun y hy => hl y (List.mem_cons_of_mem _ hy)
  refine this _ _ Nat.one_pos fun x hx => ?_
  obtain ⟨c, hc, rfl⟩ := List.mem_map.1 hx
  obtain ⟨j, hj, rfl⟩ := List.mem_map.1 hc
  rw [orb_length]
  exact per_pos ..
end Go.Proofs.Ytobbdbkcailfkaa.Plain
