/- Powers split cycles: a cycle of length l becomes gcd(l, e) cycles of length l / gcd(l, e). Plain: no program in sight. -/
import Derived.Test.YtoaalfpfklchfaaDoorZPermSplitsTypes
namespace Go.Proofs.YtoaalfpfklchfaaDoor.Plain
open Go.RowKit Go.Proofs.YtoaalfpfklchfaaDoorW.PrintWords Go.Proofs.YtoaalfpfklchfaaDoorW.PrintLast
set_option linter.unusedVariables false
set_option linter.unusedSimpArgs false

theorem it_it (g : Nat → Nat) (e : Nat) : ∀ k i, it (it g e) k i = it g (e * k) i
  | 0, _ => rfl
  | k + 1, i => by
    show it g e (it (it g e) k i) = _
    rw [it_it g e k i, ← it_add, Nat.mul_succ]
theorem dvd_mul_gcd (l e k : Nat) (hl : 0 < l) : l ∣ e * k ↔ l / Nat.gcd l e ∣ k := by
  obtain ⟨l', e', hc, h1, h2⟩ := Nat.exists_coprime l e
  have hd : 0 < Nat.gcd l e := Nat.gcd_pos_of_pos_left _ hl
  generalize Nat.gcd l e = d at *
  subst h1 h2
  rw [Nat.mul_div_cancel _ hd, Nat.mul_comm l' d, Nat.mul_comm e' d, Nat.mul_assoc, Nat.mul_dvd_mul_iff_left hd]
  exact ⟨fun h => hc.dvd_of_dvd_mul_left h, fun h => Nat.dvd_mul_left_of_dvd h _⟩
theorem eq_of_dvds {a b : Nat} (h : ∀ k, a ∣ k ↔ b ∣ k) : a = b :=
  Nat.dvd_antisymm ((h b).2 (Nat.dvd_refl b)) ((h a).1 (Nat.dvd_refl a))
theorem Bij.per_it {g : Nat → Nat} {n : Nat} (h : Bij n g) (e : Nat) {i : Nat} (hi : i < n) : per (Plain.it g e) n i = per g n i / Nat.gcd (per g n i) e :=
  eq_of_dvds fun k => by
    rw [← (h.it e).it_fix hi, it_it, h.it_fix hi, dvd_mul_gcd _ _ _ (per_pos g n i)]
theorem Bij.ord_it {g : Nat → Nat} {n : Nat} (h : Bij n g) (e : Nat) : ord (Plain.it g e) n = ord g n / Nat.gcd (ord g n) e :=
  eq_of_dvds fun k => by
    rw [(h.it e).ord_dvd, ← dvd_mul_gcd _ _ _ (ord_pos g n), h.ord_dvd]
    exact ⟨fun H i hi => by rw [← it_it]; exact H i hi, fun H i hi => by rw [it_it]; exact H i hi⟩
theorem gcd_rest (l o : Nat) (m : Int) (hl : l ∣ o) (ho : 0 < o) : Nat.gcd l (m % (o : Int)).toNat = Nat.gcd l m.natAbs := by
  have h0 := Int.emod_nonneg m (by omega : (o : Int) ≠ 0)
  have key : ∀ d : Nat, d ∣ l → (d ∣ (m % (o : Int)).toNat ↔ d ∣ m.natAbs) := by
    intro d hd
    have e1 : m = (o : Int) * (m / (o : Int)) + m % (o : Int) := (Int.mul_ediv_add_emod m o).symm
    have e2 : (((m % (o : Int)).toNat : Nat) : Int) = m % (o : Int) := Int.toNat_of_nonneg h0
    have e3 : ((d : Nat) : Int) ∣ (o : Int) * (m / (o : Int)) := Int.dvd_mul_of_dvd_left (Int.natCast_dvd_natCast.2 (Nat.dvd_trans hd hl))
    rw [← Int.natCast_dvd_natCast, e2, ← Int.ofNat_dvd_left]
    conv => rhs; rw [e1]
    exact (Int.dvd_add_right e3).symm
  refine Nat.dvd_antisymm ?_ ?_
  · exact Nat.dvd_gcd (Nat.gcd_dvd_left _ _) ((key _ (Nat.gcd_dvd_left _ _)).1 (Nat.gcd_dvd_right _ _))
  · exact Nat.dvd_gcd (Nat.gcd_dvd_left _ _) ((key _ (Nat.gcd_dvd_left _ _)).2 (Nat.gcd_dvd_right _ _))

/-! ### The count of the pieces -/
/-- How many pieces of length v: each length x gives gcd(x, m) pieces of length x / gcd(x, m). -/
def accI (m : Nat) (v : Nat) (T : List Int) : Int := (T.map fun x => if x.toNat / Nat.gcd x.toNat m = v then ((Nat.gcd x.toNat m : Nat) : Int) else 0).sum
theorem accI_concat (m v : Nat) (T : List Int) (x : Int) : accI m v (T ++ [x]) = accI m v T + if x.toNat / Nat.gcd x.toNat m = v then ((Nat.gcd x.toNat m : Nat) : Int) else 0 := by
  unfold accI
  rw [List.map_append, List.sum_append]
  simp
theorem accI_bound (m v : Nat) : ∀ (T : List Int), (∀ x ∈ T, 1 ≤ x ∧ x ≤ 20) → 0 ≤ accI m v T ∧ accI m v T ≤ 20 * (T.length : Int)
  | [], _ => by simp [accI]
  | x :: T, h => by
    have ih := accI_bound m v T fun y hy => h y (List.mem_cons_of_mem _ hy)
    have hx := h x (List.mem_cons_self ..)
    have hg : Nat.gcd x.toNat m ≤ x.toNat := Nat.le_of_dvd (by omega) (Nat.gcd_dvd_left _ _)
    have e : accI m v (x :: T) = (if x.toNat / Nat.gcd x.toNat m = v then ((Nat.gcd x.toNat m : Nat) : Int) else 0) + accI m v T := by
      unfold accI
      rw [List.map_cons, List.sum_cons]
    rw [e, List.length_cons]
    split <;> omega
theorem accI_perm (m v : Nat) {T T' : List Int} (h : T.Perm T') : accI m v T = accI m v T' := by
  unfold accI
  induction h with
  | nil => rfl
  | cons x _ ih => rw [List.map_cons, List.map_cons, List.sum_cons, List.sum_cons, ih]
  | swap x y l => simp only [List.map_cons, List.sum_cons]; omega
  | trans _ _ ih1 ih2 => exact ih1.trans ih2
theorem sum_filter (q : Nat → Bool) (f : Nat → Nat) : ∀ l : List Nat, ((l.filter q).map f).sum = (l.map fun i => if q i = true then f i else 0).sum
  | [] => rfl
  | a :: l => by
    rw [List.filter_cons, List.map_cons, List.sum_cons, ← sum_filter q f l]
    by_cases h : q a = true
    · rw [if_pos h, if_pos h, List.map_cons, List.sum_cons]
    · rw [if_neg h, if_neg h, Nat.zero_add]
theorem sum_pieces (p : Nat → Nat) (hp : ∀ i, 0 < p i) (e v : Nat) : ∀ l : List Nat, (l.map fun i => if p i / Nat.gcd (p i) e = v then Nat.gcd (p i) e else 0).sum * v = (l.map fun i => if (p i / Nat.gcd (p i) e == v) = true then p i else 0).sum
  | [] => by simp
  | a :: l => by
    rw [List.map_cons, List.sum_cons, List.map_cons, List.sum_cons, Nat.add_mul, sum_pieces p hp e v l]
    congr 1
    by_cases h : p a / Nat.gcd (p a) e = v
    · rw [if_pos h, if_pos (beq_iff_eq.2 h), ← h, Nat.mul_div_cancel' (Nat.gcd_dvd_left _ _)]
    · rw [if_neg h, if_neg (fun hc => h (beq_iff_eq.1 hc)), Nat.zero_mul]
theorem accI_lens (m v : Nat) (p : Nat → Nat) : ∀ l : List Nat, accI m v (l.map fun i => ((p i : Nat) : Int)) = (((l.map fun i => if p i / Nat.gcd (p i) m = v then Nat.gcd (p i) m else 0).sum : Nat) : Int)
  | [] => rfl
  | a :: l => by
    have ih := accI_lens m v p l
    unfold accI at ih ⊢
    simp only [List.map_cons, List.sum_cons, Int.toNat_natCast] at ih ⊢
    rw [ih, Int.natCast_add]
    congr 1
    split <;> rfl
/-- The pieces are the cycles of the power. -/
theorem Bij.splits {g : Nat → Nat} {n : Nat} (h : Bij n g) (e m : Nat) (he : ∀ i, i < n → Nat.gcd (per g n i) e = Nat.gcd (per g n i) m) (v : Nat) : accI m v (lens g n) = ((cnt (Plain.it g e) n v : Nat) : Int) := by
  have hp := per_pos g n
  rw [lens, accI_lens]
  congr 1
  by_cases hv : v = 0
  · subst hv
    rw [cnt_zero]
    have : ∀ l : List Nat, (l.map fun i => if per g n i / Nat.gcd (per g n i) m = 0 then Nat.gcd (per g n i) m else 0).sum = 0 := by
      intro l
      induction l with
      | nil => rfl
      | cons a l ih =>
        rw [List.map_cons, List.sum_cons, ih, if_neg]
        have h1 := Nat.gcd_dvd_left (per g n a) m
        have h2 := Nat.div_pos (Nat.le_of_dvd (hp a) h1) (Nat.gcd_pos_of_pos_left m (hp a))
        omega
    exact this _
  · refine Nat.eq_of_mul_eq_mul_right (Nat.pos_of_ne_zero hv) ?_
    rw [sum_pieces _ hp, (h.it e).cnt_mul v]
    have e1 : pts (Plain.it g e) n v = ((List.range n).filter fun i => (fun l => l / Nat.gcd l m == v) (per g n i)).length := by
      unfold pts
      congr 1
      exact filter_eq fun i hi => by rw [h.per_it e hi, he i hi]
    rw [e1, ← (h.leasts_flat fun l => l / Nat.gcd l m == v).length_eq, List.length_flatMap]
    have e2 : leasts g n (fun l => l / Nat.gcd l m == v) = (leasts g n fun _ => true).filter fun i => per g n i / Nat.gcd (per g n i) m == v := by
      unfold leasts
      rw [List.filter_filter]
      exact List.filter_congr fun i _ => by simp [Bool.and_comm]
    have e3 : (leasts g n fun l => l / Nat.gcd l m == v).map (fun a => (orb g n a).length) = (leasts g n fun l => l / Nat.gcd l m == v).map fun i => per g n i := List.map_congr_left fun i _ => orb_length g n i
    rw [e3, e2, sum_filter]
theorem map_set {α : Type} (f : Nat → α) (N c : Nat) (y : α) : ((List.range N).map f).set c y = (List.range N).map fun v => if v = c then y else f v := by
  apply List.ext_getElem?
  intro i
  rw [List.getElem?_set]
  simp only [List.getElem?_map, List.length_map, List.length_range]
  by_cases hi : i < N
  · rw [List.getElem?_range hi]
    by_cases hc : c = i
    · subst hc; simp [hi]
    · rw [if_neg hc]; simp [Ne.symm hc]
  · rw [List.getElem?_eq_none (by simpa using hi)]
    by_cases hc : c = i
    · subst hc; simp [hi]
    · rw [if_neg hc]; rfl
theorem rd_map (f : Nat → Int) (N c : Nat) (hc : c < N) : rd ((List.range N).map f) (c : Int) = f c := by
  rw [rd_get _ _ (by simpa using hc)]
  simp
/-- The array of the counts, after the lengths T and without the lengths U. -/
def splitC (m n : Nat) (T U : List Int) : List Int := (List.range (n + 1)).map fun v => accI m v T - ((U.count (v : Int) : Nat) : Int)
theorem splitC_length (m n : Nat) (T U : List Int) : (splitC m n T U).length = n + 1 := by simp [splitC]
theorem splitC_nil (m n : Nat) : splitC m n [] [] = List.replicate (n + 1) 0 := by
  unfold splitC
  rw [List.eq_replicate_iff]
  refine ⟨by simp, fun x hx => ?_⟩
  obtain ⟨v, _, rfl⟩ := List.mem_map.1 hx
  simp [accI]
theorem splitC_add (m n : Nat) (T : List Int) (x : Int) (c : Nat) (hc : c = x.toNat / Nat.gcd x.toNat m) (hn : c ≤ n) : (splitC m n T []).set c (rd (splitC m n T []) (c : Int) + ((Nat.gcd x.toNat m : Nat) : Int)) = splitC m n (T ++ [x]) [] := by
  unfold splitC
  rw [map_set, rd_map _ _ _ (by omega)]
  refine List.map_congr_left fun v _ => ?_
  rw [accI_concat]
  by_cases e : v = c
  · subst e
    rw [if_pos rfl, if_pos hc.symm]
    simp
  · rw [if_neg e, if_neg (fun h => e (by rw [hc, h]))]
    simp
theorem splitC_sub (m n : Nat) (T U : List Int) (c : Nat) (hn : c ≤ n) : (splitC m n T U).set c (rd (splitC m n T U) (c : Int) - 1) = splitC m n T (U ++ [(c : Int)]) := by
  unfold splitC
  rw [map_set, rd_map _ _ _ (by omega)]
  refine List.map_congr_left fun v _ => ?_
  rw [List.count_append]
  by_cases e : v = c
  · subst e
    rw [if_pos rfl]
    simp
    omega
  · rw [if_neg e]
    have : List.count (v : Int) [(c : Int)] = 0 := by
      rw [List.count_eq_zero]
      intro h
      have := List.mem_singleton.1 h
      omega
    rw [this]; simp
theorem splitC_bound (m n : Nat) (T U : List Int) (hT : ∀ x ∈ T, 1 ≤ x ∧ x ≤ 20) (c : Nat) (hn : c ≤ n) : -(U.length : Int) ≤ rd (splitC m n T U) (c : Int) ∧ rd (splitC m n T U) (c : Int) ≤ 20 * (T.length : Int) := by
  have h1 := accI_bound m c T hT
  have h2 : U.count (c : Int) ≤ U.length := List.count_le_length
  unfold splitC
  rw [rd_map _ _ _ (by omega)]
  omega
end Go.Proofs.YtoaalfpfklchfaaDoor.Plain
