/- The lengths of the cycles: how many points, how many cycles of each length; of conjugates, of powers. Plain: no program in sight. -/
import Derived.Test.YtoaalfpfklchfaaDoorZPermSplitsSigns
namespace Go.Proofs.YtoaalfpfklchfaaDoor.Plain
set_option linter.unusedVariables false
set_option linter.unusedSimpArgs false

/-- The least points of the cycles of length v. -/
def leasts (g : Nat → Nat) (n : Nat) (p : Nat → Bool) : List Nat := (List.range n).filter fun i => isLeast g n i && p (per g n i)
theorem mem_leasts {g : Nat → Nat} {n : Nat} {p : Nat → Bool} {i : Nat} : i ∈ leasts g n p ↔ i < n ∧ isLeast g n i = true ∧ p (per g n i) = true := by
  unfold leasts
  rw [List.mem_filter, List.mem_range, Bool.and_eq_true]
theorem leasts_nodup (g : Nat → Nat) (n : Nat) (p : Nat → Bool) : (leasts g n p).Nodup := by
  unfold leasts
  exact (List.nodup_range).filter _
/-- The points in the cycles whose length meets p, cycle by cycle. -/
theorem Bij.leasts_flat {g : Nat → Nat} {n : Nat} (h : Bij n g) (p : Nat → Bool) : ((leasts g n p).flatMap (orb g n)).Perm ((List.range n).filter fun i => p (per g n i)) := by
  refine (List.perm_ext_iff_of_nodup ?_ ((List.nodup_range).filter _)).2 fun x => ?_
  · rw [List.nodup_iff_pairwise_ne, List.pairwise_flatMap]
    refine ⟨fun a ha => List.nodup_iff_pairwise_ne.1 (h.orb_nodup (mem_leasts.1 ha).1), ?_⟩
    refine List.Pairwise.imp_of_mem ?_ (List.nodup_iff_pairwise_ne.1 (leasts_nodup g n p))
    intro a b ha hb hab x hx y hy e
    subst e
    have ha' := mem_leasts.1 ha
    have hb' := mem_leasts.1 hb
    have hba : b ∈ orb g n a := h.orb_trans ha'.1 hx (h.orb_symm hb'.1 hy)
    have hab' : a ∈ orb g n b := h.orb_symm ha'.1 hba
    have h1 := isLeast_iff.1 ha'.2.1 b hba
    have h2 := isLeast_iff.1 hb'.2.1 a hab'
    omega
  · rw [List.mem_flatMap, List.mem_filter, List.mem_range]
    constructor
    · rintro ⟨a, ha, hx⟩
      have ha' := mem_leasts.1 ha
      exact ⟨h.orb_lt ha'.1 hx, by rw [h.per_orb ha'.1 hx]; exact ha'.2.2⟩
    · rintro ⟨hx, hp⟩
      obtain ⟨j, h1, h2, h3⟩ := h.has_least x hx
      have hj : j < n := by omega
      exact ⟨j, mem_leasts.2 ⟨hj, h3, by rw [← h.per_orb hj h2]; exact hp⟩, h2⟩
/-- How many points lie in cycles of length v. -/
def pts (g : Nat → Nat) (n v : Nat) : Nat := ((List.range n).filter fun i => per g n i == v).length
/-- How many cycles have length v. -/
def cnt (g : Nat → Nat) (n v : Nat) : Nat := (leasts g n fun l => l == v).length
theorem length_flatMap_const {α β : Type} (f : α → List β) (v : Nat) : ∀ l : List α, (∀ a ∈ l, (f a).length = v) → (l.flatMap f).length = l.length * v
  | [], _ => by simp
  | a :: l, h => by
    rw [List.flatMap_cons, List.length_append, h a (List.mem_cons_self ..), length_flatMap_const f v l fun b hb => h b (List.mem_cons_of_mem _ hb), List.length_cons, Nat.add_mul, Nat.one_mul, Nat.add_comm]
theorem Bij.cnt_mul {g : Nat → Nat} {n : Nat} (h : Bij n g) (v : Nat) : cnt g n v * v = pts g n v := by
  unfold cnt pts
  rw [← (h.leasts_flat fun l => l == v).length_eq, length_flatMap_const (orb g n) v]
  intro a ha
  rw [orb_length]
  exact beq_iff_eq.1 (mem_leasts.1 ha).2.2
theorem pts_zero (g : Nat → Nat) (n : Nat) : pts g n 0 = 0 := by
  unfold pts
  rw [List.length_eq_zero_iff, List.filter_eq_nil_iff]
  intro i _ h
  have := per_pos g n i
  have := beq_iff_eq.1 h
  omega
theorem cnt_zero (g : Nat → Nat) (n : Nat) : cnt g n 0 = 0 := by
  unfold cnt
  rw [List.length_eq_zero_iff, List.eq_nil_iff_forall_not_mem]
  intro i hi
  have := per_pos g n i
  have := beq_iff_eq.1 (mem_leasts.1 hi).2.2
  omega
/-- The lengths of all cycles, with a 1 for each fixed point: as the least points come. -/
def lens (g : Nat → Nat) (n : Nat) : List Int := (leasts g n fun _ => true).map fun i => ((per g n i : Nat) : Int)
theorem lens_count (g : Nat → Nat) (n v : Nat) : (lens g n).count (v : Int) = cnt g n v := by
  unfold lens cnt
  rw [List.count, List.countP_map, List.countP_eq_length_filter]
  congr 1
  unfold leasts
  rw [List.filter_filter]
  refine List.filter_congr fun i _ => ?_
  simp only [Function.comp_apply, Bool.and_true]
  rw [Bool.and_comm]
  congr 1
  rw [Bool.eq_iff_iff]
  simp only [beq_iff_eq]
  exact ⟨fun e => by omega, fun e => by omega⟩
theorem lens_mem {g : Nat → Nat} {n : Nat} (h : Bij n g) {x : Int} (hx : x ∈ lens g n) : 1 ≤ x ∧ x ≤ (n : Int) := by
  unfold lens at hx
  obtain ⟨i, hi, rfl⟩ := List.mem_map.1 hx
  have h1 := per_pos g n i
  have h2 := (h.per_spec (mem_leasts.1 hi).1).2.1
  omega
theorem lens_perm {g h : Nat → Nat} {n m : Nat} (hg : Bij n g) (hh : Bij m h) (e : ∀ v, cnt g n v = cnt h m v) : (lens g n).Perm (lens h m) := by
  rw [List.perm_iff_count]
  intro x
  by_cases hx : 0 ≤ x
  · obtain ⟨v, rfl⟩ : ∃ v : Nat, x = (v : Int) := ⟨x.toNat, by omega⟩
    rw [lens_count, lens_count, e]
  · rw [List.count_eq_zero.2 fun hm => by have := lens_mem hg hm; omega, List.count_eq_zero.2 fun hm => by have := lens_mem hh hm; omega]
/-- Conjugates have the same periods. -/
theorem Bij.per_conj {g c : Nat → Nat} {n : Nat} (hg : Bij n g) (hc : Bij n c) {u : Nat → Nat} (hu : Bij n u) (e : ∀ i, i < n → u (c i) = c (g i)) {i : Nat} (hi : i < n) : per u n (c i) = per g n i := by
  have ek : ∀ k, Plain.it u k (c i) = c (Plain.it g k i) := by
    intro k
    induction k with
    | zero => rfl
    | succ k ih =>
      show u (Plain.it u k (c i)) = c (g (Plain.it g k i))
      rw [ih, e _ (hg.it_lt k hi)]
  have hci := hc.lt i hi
  refine Nat.dvd_antisymm ?_ ?_
  · rw [← hu.it_fix hci, ek, (hg.per_spec hi).1]
  · rw [← hg.it_fix hi]
    have := (hu.per_spec hci).1
    rw [ek] at this
    exact hc.inj _ _ (hg.it_lt _ hi) hi this
/-- A sum over the points does not see their order. -/
theorem Bij.filter_length {c : Nat → Nat} {n : Nat} (hc : Bij n c) (p : Nat → Bool) : ((List.range n).filter p).length = ((List.range n).filter fun i => p (c i)).length := by
  have hp : ((List.range n).map c).Perm (List.range n) := by
    refine (List.perm_ext_iff_of_nodup ?_ List.nodup_range).2 fun x => ?_
    · rw [List.nodup_iff_pairwise_ne, List.pairwise_map]
      refine List.Pairwise.imp_of_mem ?_ (List.nodup_iff_pairwise_ne.1 List.nodup_range)
      intro a b ha hb hab e
      exact hab (hc.inj a b (List.mem_range.1 ha) (List.mem_range.1 hb) e)
    · rw [List.mem_map, List.mem_range]
      constructor
      · rintro ⟨a, ha, rfl⟩
        exact hc.lt a (List.mem_range.1 ha)
      · intro hx
        exact ⟨Plain.inv c n x, List.mem_range.2 (hc.inv_lt hx), hc.g_inv hx⟩
  rw [← (hp.filter p).length_eq, List.filter_map, List.length_map]
  rfl
theorem Bij.pts_conj {g c u : Nat → Nat} {n : Nat} (hg : Bij n g) (hc : Bij n c) (hu : Bij n u) (e : ∀ i, i < n → u (c i) = c (g i)) (v : Nat) : pts u n v = pts g n v := by
  unfold pts
  rw [hc.filter_length]
  congr 1
  exact filter_eq fun i hi => by rw [hg.per_conj hc hu e hi]
theorem cnt_of_pts {g h : Nat → Nat} {n m : Nat} (hg : Bij n g) (hh : Bij m h) (v : Nat) (e : pts g n v = pts h m v) : cnt g n v = cnt h m v := by
  by_cases hv : v = 0
  · subst hv; rw [cnt_zero, cnt_zero]
  · have h1 := hg.cnt_mul v
    have h2 := hh.cnt_mul v
    exact Nat.eq_of_mul_eq_mul_right (Nat.pos_of_ne_zero hv) (by rw [h1, h2, e])
theorem lens_conj {g c u : Nat → Nat} {n : Nat} (hg : Bij n g) (hc : Bij n c) (hu : Bij n u) (e : ∀ i, i < n → u (c i) = c (g i)) : (lens u n).Perm (lens g n) :=
  lens_perm hu hg fun v => cnt_of_pts hu hg v (hg.pts_conj hc hu e v)
/-- The lengths as the program collects them: of the cycles of two points and more, then a 1 for each fixed point. -/
theorem lens_collected (g : Nat → Nat) (n : Nat) (h : Bij n g) : ((cyc g n n).map (fun c => ((c.length : Nat) : Int)) ++ ((List.range n).filter fun i => i == g i).map fun _ => (1 : Int)).Perm (lens g n) := by
  have e1 : (cyc g n n).map (fun c => ((c.length : Nat) : Int)) = ((leasts g n fun l => decide (2 ≤ l)).map fun i => ((per g n i : Nat) : Int)) := by
    unfold cyc leasts
    rw [List.map_map]
    have : (List.range n).filter (isHead g n) = (List.range n).filter fun i => isLeast g n i && decide (2 ≤ per g n i) := rfl
    rw [this]
    refine List.map_congr_left fun i _ => ?_
    simp [orb_length]
  have e2 : ((List.range n).filter fun i => i == g i).map (fun _ => (1 : Int)) = ((leasts g n fun l => !decide (2 ≤ l)).map fun i => ((per g n i : Nat) : Int)) := by
    have e3 : (leasts g n fun l => !decide (2 ≤ l)) = (List.range n).filter fun i => i == g i := by
      unfold leasts
      refine filter_eq fun i hi => ?_
      have hp := per_pos g n i
      simp only [Bool.and_eq_true, Bool.not_eq_true', decide_eq_false_iff_not, beq_iff_eq]
      constructor
      · rintro ⟨_, h2⟩
        have h3 : per g n i = 1 := by omega
        have := (h.per_spec hi).1
        rw [h3] at this
        exact this.symm
      · intro e
        have h3 : per g n i = 1 := Nat.dvd_one.1 ((h.it_fix hi 1).1 e.symm)
        refine ⟨?_, by omega⟩
        rw [isLeast_iff]
        intro x hx
        unfold orb at hx
        rw [h3] at hx
        simp [it] at hx
        omega
    rw [e3]
    refine List.map_congr_left fun i hi => ?_
    have hi' := List.mem_filter.1 hi
    have e : i = g i := beq_iff_eq.1 hi'.2
    have h3 : per g n i = 1 := Nat.dvd_one.1 ((h.it_fix (List.mem_range.1 hi'.1) 1).1 e.symm)
    rw [h3]; rfl
  rw [e1, e2, ← List.map_append]
  unfold lens
  refine List.Perm.map _ ?_
  have := List.filter_append_perm (fun i => decide (2 ≤ per g n i)) (leasts g n fun _ => true)
  have f1 : (leasts g n fun _ => true).filter (fun i => decide (2 ≤ per g n i)) = leasts g n fun l => decide (2 ≤ l) := by
    unfold leasts
    rw [List.filter_filter]
    exact List.filter_congr fun i _ => by simp [Bool.and_comm]
  have f2 : (leasts g n fun _ => true).filter (fun i => !decide (2 ≤ per g n i)) = leasts g n fun l => !decide (2 ≤ l) := by
    unfold leasts
    rw [List.filter_filter]
    exact List.filter_congr fun i _ => by simp [Bool.and_comm]
  rw [f1, f2] at this
  exact this
end Go.Proofs.YtoaalfpfklchfaaDoor.Plain
