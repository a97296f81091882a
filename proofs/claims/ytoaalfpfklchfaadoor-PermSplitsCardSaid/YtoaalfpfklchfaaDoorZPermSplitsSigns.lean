/- The sign of a permutation: by inversions, by cycles; it is multiplicative. Plain: no program in sight. -/
import Derived.Test.YtoaalfpfklchfaaDoorZPermSplitsLists
namespace Go.Proofs.YtoaalfpfklchfaaDoor.Plain
set_option linter.unusedVariables false
set_option linter.unusedSimpArgs false

/-- -1 if x stands above y. -/
def sg (x y : Int) : Int := if x > y then -1 else 1
theorem sg_swap {x y : Int} (h : x ≠ y) : sg x y = - sg y x := by
  unfold sg
  by_cases h1 : x > y
  · rw [if_pos h1, if_neg (by omega)]
  · rw [if_neg h1, if_pos (by omega)]; omega
theorem sg_sq (x y : Int) : sg x y * sg x y = 1 := by
  unfold sg; split <;> decide
/-- The product of t over x and the members of a list. -/
def rowP (t : Int → Int → Int) (x : Int) : List Int → Int
  | [] => 1
  | y :: l => t x y * rowP t x l
/-- The product of t over all pairs, in the list's order. -/
def pairP (t : Int → Int → Int) : List Int → Int
  | [] => 1
  | x :: l => rowP t x l * pairP t l
theorem rowP_append (t : Int → Int → Int) (x : Int) (l m : List Int) : rowP t x (l ++ m) = rowP t x l * rowP t x m := by
  induction l with
  | nil => simp [rowP]
  | cons y l ih => simp only [List.cons_append, rowP, ih, Int.mul_assoc]
theorem rowP_perm (t : Int → Int → Int) (x : Int) {l m : List Int} (h : l.Perm m) : rowP t x l = rowP t x m := by
  induction h with
  | nil => rfl
  | cons y _ ih => simp only [rowP, ih]
  | swap y z l => simp only [rowP, ← Int.mul_assoc, Int.mul_comm (t x z) (t x y)]
  | trans _ _ ih1 ih2 => exact ih1.trans ih2
theorem pairP_perm {t : Int → Int → Int} (ht : ∀ x y, t x y = t y x) {l m : List Int} (h : l.Perm m) : pairP t l = pairP t m := by
  induction h with
  | nil => rfl
  | cons x h ih => simp only [pairP, ih, rowP_perm t x h]
  | swap x y l =>
    simp only [pairP, rowP]
    rw [ht y x]
    rw [Int.mul_assoc, Int.mul_assoc]
    congr 1
    rw [← Int.mul_assoc, ← Int.mul_assoc, Int.mul_comm (rowP t y l)]
  | trans _ _ ih1 ih2 => exact ih1.trans ih2
theorem rowP_mul (t u : Int → Int → Int) (x : Int) (l : List Int) : rowP (fun a b => t a b * u a b) x l = rowP t x l * rowP u x l := by
  induction l with
  | nil => rfl
  | cons y l ih =>
    simp only [rowP, ih]
    rw [Int.mul_assoc, Int.mul_assoc]
    congr 1
    rw [← Int.mul_assoc, ← Int.mul_assoc, Int.mul_comm (u x y)]
theorem pairP_mul (t u : Int → Int → Int) (l : List Int) : pairP (fun a b => t a b * u a b) l = pairP t l * pairP u l := by
  induction l with
  | nil => rfl
  | cons x l ih =>
    simp only [pairP, ih, rowP_mul]
    rw [Int.mul_assoc, Int.mul_assoc]
    congr 1
    rw [← Int.mul_assoc, ← Int.mul_assoc, Int.mul_comm (rowP u x l)]
theorem rowP_map (t : Int → Int → Int) (f : Int → Int) (x : Int) (l : List Int) : rowP t (f x) (l.map f) = rowP (fun a b => t (f a) (f b)) x l := by
  induction l with
  | nil => rfl
  | cons y l ih => simp only [List.map_cons, rowP, ih]
theorem pairP_map (t : Int → Int → Int) (f : Int → Int) (l : List Int) : pairP t (l.map f) = pairP (fun a b => t (f a) (f b)) l := by
  induction l with
  | nil => rfl
  | cons x l ih => simp only [List.map_cons, pairP, ih, rowP_map]
theorem rowP_congr {t u : Int → Int → Int} {x : Int} : ∀ {l : List Int}, (∀ y ∈ l, t x y = u x y) → rowP t x l = rowP u x l
  | [], _ => rfl
  | y :: l, h => by
    simp only [rowP]
    rw [h y (List.mem_cons_self ..), rowP_congr fun z hz => h z (List.mem_cons_of_mem _ hz)]
theorem pairP_congr {t u : Int → Int → Int} : ∀ {l : List Int}, l.Pairwise (fun x y => t x y = u x y) → pairP t l = pairP u l
  | [], _ => rfl
  | x :: l, h => by
    simp only [pairP]
    rw [rowP_congr (List.pairwise_cons.1 h).1, pairP_congr (List.pairwise_cons.1 h).2]
/-- The sign by inversions. -/
def invS (l : List Int) : Int := pairP sg l

/-! ### Exchanging two members -/
theorem pairP_append (t : Int → Int → Int) : ∀ (l m : List Int), pairP t (l ++ m) = pairP t l * (l.foldr (fun x p => rowP t x m * p) 1) * pairP t m
  | [], m => by simp [pairP]
  | x :: l, m => by
    simp only [List.cons_append, pairP, List.foldr_cons, rowP_append, pairP_append t l m]
    ac_rfl
theorem foldr_rowP_perm (t : Int → Int → Int) {m m' : List Int} (h : m.Perm m') : ∀ l : List Int, l.foldr (fun x p => rowP t x m * p) 1 = l.foldr (fun x p => rowP t x m' * p) 1
  | [] => rfl
  | x :: l => by simp only [List.foldr_cons, rowP_perm t x h, foldr_rowP_perm t h l]
/-- The product over the members of l of t(member, y). -/
def colP (t : Int → Int → Int) (y : Int) : List Int → Int
  | [] => 1
  | m :: l => t m y * colP t y l
theorem pairP_insert (t : Int → Int → Int) (y : Int) : ∀ (l m : List Int), pairP t (l ++ y :: m) = colP t y l * rowP t y m * pairP t (l ++ m)
  | [], m => by simp [pairP, colP]
  | x :: l, m => by
    simp only [List.cons_append, pairP, colP, rowP_append, rowP, pairP_insert t y l m]
    ac_rfl
def alt (n : Nat) : Int := if n % 2 = 0 then 1 else -1
theorem alt_succ (n : Nat) : alt (n + 1) = - alt n := by
  unfold alt
  by_cases h : n % 2 = 0
  · rw [if_pos h, if_neg (by omega)]
  · rw [if_neg h, if_pos (by omega)]; rfl
theorem alt_sq (n : Nat) : alt n * alt n = 1 := by unfold alt; split <;> decide
theorem alt_add (a b : Nat) : alt (a + b) = alt a * alt b := by
  induction b with
  | zero => simp [alt]
  | succ b ih => rw [← Nat.add_assoc, alt_succ, alt_succ, ih, Int.mul_neg]
theorem colP_sg (y : Int) : ∀ (l : List Int), y ∉ l → colP sg y l = alt l.length * rowP sg y l
  | [], _ => by simp [colP, rowP, alt]
  | m :: l, h => by
    have h1 : m ≠ y := fun e => h (by rw [e]; exact List.mem_cons_self ..)
    have h2 : y ∉ l := fun e => h (List.mem_cons_of_mem _ e)
    simp only [colP, rowP, colP_sg y l h2, List.length_cons, alt_succ, sg_swap h1]
    rw [Int.neg_mul, Int.neg_mul, ← Int.mul_assoc, ← Int.mul_assoc, Int.mul_comm (sg y m)]
/-- Two members exchanged: the sign turns. -/
theorem invS_exchange (a b c : List Int) (x y : Int) (hxy : x ≠ y) (hx : x ∉ b) (hy : y ∉ b) : invS (a ++ x :: (b ++ y :: c)) = - invS (a ++ y :: (b ++ x :: c)) := by
  have hp : (x :: (b ++ y :: c)).Perm (y :: (b ++ x :: c)) := by
    have h1 : (x :: (b ++ y :: c)).Perm (x :: y :: (b ++ c)) := List.Perm.cons x List.perm_middle
    have h2 : (y :: (b ++ x :: c)).Perm (y :: x :: (b ++ c)) := List.Perm.cons y List.perm_middle
    exact h1.trans ((List.Perm.swap y x _).trans h2.symm)
  unfold invS
  rw [pairP_append sg a, pairP_append sg a, foldr_rowP_perm sg hp a, ← Int.mul_neg]
  congr 1
  simp only [pairP, rowP_append, rowP, pairP_insert, colP_sg y b hy, colP_sg x b hx]
  rw [sg_swap hxy]
  simp only [Int.neg_mul, Int.mul_neg, Int.mul_assoc, Int.neg_inj]
  have e : ∀ p q r s t u v : Int, p * (q * (r * (t * (u * (s * v))))) = u * (q * (s * (t * (p * (r * v))))) := by
    intro p q r s t u v
    ac_rfl
  exact e _ _ _ _ _ _ _

/-! ### The sign is multiplicative -/
theorem mem_lf {g : Nat → Nat} {n : Nat} (h : Bij n g) (x : Int) : x ∈ lf g n ↔ 0 ≤ x ∧ x < (n : Int) := by
  unfold lf
  rw [List.mem_map]
  constructor
  · rintro ⟨i, hi, rfl⟩
    have := h.lt i (List.mem_range.1 hi)
    omega
  · rintro ⟨h0, h1⟩
    refine ⟨inv g n x.toNat, List.mem_range.2 (h.inv_lt (by omega)), ?_⟩
    rw [h.g_inv (by omega)]
    omega
theorem lf_perm_id {g : Nat → Nat} {n : Nat} (h : Bij n g) : (lf g n).Perm (lf (fun i => i) n) :=
  (List.perm_ext_iff_of_nodup (lf_perm h).2 (lf_perm (Bij.id n)).2).2 fun x => by rw [mem_lf h, mem_lf (Bij.id n)]
theorem rowP_sq (x : Int) : ∀ l : List Int, rowP sg x l * rowP sg x l = 1
  | [] => rfl
  | y :: l => by
    simp only [rowP]
    have := rowP_sq x l
    have h2 := sg_sq x y
    calc sg x y * rowP sg x l * (sg x y * rowP sg x l) = (sg x y * sg x y) * (rowP sg x l * rowP sg x l) := by ac_rfl
      _ = 1 := by rw [this, h2]; rfl
theorem invS_sq : ∀ l : List Int, invS l * invS l = 1
  | [] => rfl
  | x :: l => by
    have h1 := rowP_sq x l
    have h2 := invS_sq l
    show rowP sg x l * invS l * (rowP sg x l * invS l) = 1
    calc rowP sg x l * invS l * (rowP sg x l * invS l) = (rowP sg x l * rowP sg x l) * (invS l * invS l) := by ac_rfl
      _ = 1 := by rw [h1, h2]; rfl
theorem invS_mul (g h : Nat → Nat) (n : Nat) (hg : Bij n g) (hh : Bij n h) : invS (lf (fun i => h (g i)) n) = invS (lf g n) * invS (lf h n) := by
  let B : Int → Int := fun z => ((h z.toNat : Nat) : Int)
  have eB : ∀ k : Nat → Nat, lf (fun i => h (k i)) n = (lf k n).map B := by
    intro k
    unfold lf
    rw [List.map_map]
    rfl
  have inj : ∀ a b : Int, 0 ≤ a → a < n → 0 ≤ b → b < n → a ≠ b → B a ≠ B b := by
    intro a b a0 a1 b0 b1 hab e
    have := hh.inj a.toNat b.toNat (by omega) (by omega) (by exact Int.ofNat.inj e)
    omega
  let t : Int → Int → Int := fun a b => if a = b ∨ B a = B b then 1 else sg (B a) (B b) * sg a b
  have ts : ∀ x y, t x y = t y x := by
    intro x y
    show (if x = y ∨ B x = B y then 1 else sg (B x) (B y) * sg x y) = (if y = x ∨ B y = B x then 1 else sg (B y) (B x) * sg y x)
    by_cases e : x = y ∨ B x = B y
    · rw [if_pos e, if_pos (e.imp Eq.symm Eq.symm)]
    · rw [if_neg e, if_neg (fun hc => e (hc.imp Eq.symm Eq.symm)), sg_swap (fun hc => e (.inr hc)), sg_swap (fun hc => e (.inl hc)), Int.neg_mul_neg]
  have one : pairP t (lf g n) = invS ((lf g n).map B) * invS (lf g n) := by
    unfold invS
    rw [pairP_map, ← pairP_mul]
    refine pairP_congr ?_
    have hp := (List.nodup_iff_pairwise_ne.1 (lf_perm hg).2)
    refine List.Pairwise.imp_of_mem ?_ hp
    intro a b ha hb hab
    have ha' := (mem_lf hg a).1 ha
    have hb' := (mem_lf hg b).1 hb
    exact if_neg (fun hc => hc.elim hab (inj a b ha'.1 ha'.2 hb'.1 hb'.2 hab))
  have two : pairP t (lf (fun i => i) n) = invS ((lf (fun i => i) n).map B) := by
    unfold invS
    rw [pairP_map]
    refine pairP_congr ?_
    unfold lf
    rw [List.pairwise_map]
    refine List.Pairwise.imp_of_mem ?_ (List.pairwise_lt_range)
    intro a b ha hb hab
    have ha' := List.mem_range.1 ha
    have hb' := List.mem_range.1 hb
    show (if (a : Int) = (b : Int) ∨ B a = B b then 1 else sg (B a) (B b) * sg (a : Int) (b : Int)) = sg (B a) (B b)
    rw [if_neg (fun hc => hc.elim (by omega) (inj a b (by omega) (by omega) (by omega) (by omega) (by omega)))]
    have : sg (a : Int) (b : Int) = 1 := if_neg (by omega)
    rw [this, Int.mul_one]
  have three := pairP_perm ts (lf_perm_id hg)
  rw [one, two, ← eB, ← eB] at three
  have sq := invS_sq (lf g n)
  calc invS (lf (fun i => h (g i)) n) = invS (lf (fun i => h (g i)) n) * (invS (lf g n) * invS (lf g n)) := by rw [sq, Int.mul_one]
    _ = invS (lf g n) * (invS (lf (fun i => h (g i)) n) * invS (lf g n)) := by ac_rfl
    _ = invS (lf g n) * invS (lf h n) := by rw [three]

/-! ### The sign by cycles -/
def orbits (g : Nat → Nat) (n : Nat) : Nat := ((List.range n).filter (isLeast g n)).length
theorem Bij.least_it {g : Nat → Nat} {n : Nat} (h : Bij n g) {i : Nat} (hi : i < n) : isLeast g n i = true ↔ ∀ k, i ≤ Plain.it g k i := by
  rw [isLeast_iff]
  constructor
  · intro hl k
    exact hl _ ((h.mem_orb hi _).2 ⟨k, rfl⟩)
  · intro hk x hx
    obtain ⟨k, rfl⟩ := (h.mem_orb hi x).1 hx
    exact hk k
theorem filter_eq {p q : Nat → Bool} {n : Nat} (h : ∀ i, i < n → (p i = true ↔ q i = true)) : (List.range n).filter p = (List.range n).filter q :=
  List.filter_congr fun i hi => by rw [Bool.eq_iff_iff]; exact h i (List.mem_range.1 hi)
theorem invS_last (l : List Int) (m : Int) (h : ∀ x ∈ l, x ≤ m) : invS (l ++ [m]) = invS l := by
  induction l with
  | nil => rfl
  | cons x l ih =>
    have h1 : rowP sg x (l ++ [m]) = rowP sg x l := by
      rw [rowP_append]
      have : sg x m = 1 := if_neg (by have := h x (List.mem_cons_self ..); omega)
      simp [rowP, this]
    show rowP sg x (l ++ [m]) * invS (l ++ [m]) = rowP sg x l * invS l
    rw [h1, ih fun y hy => h y (List.mem_cons_of_mem _ hy)]
theorem lf_succ (g : Nat → Nat) (n : Nat) : lf g (n + 1) = lf g n ++ [((g n : Nat) : Int)] := by
  unfold lf; rw [List.range_succ, List.map_append]; rfl
theorem orbits_le (g : Nat → Nat) (n : Nat) : orbits g n ≤ n := by
  unfold orbits
  exact Nat.le_trans (List.length_filter_le ..) (by simp)
theorem invS_orbits : ∀ (n : Nat) (g : Nat → Nat), Bij n g → invS (lf g n) = alt (n - orbits g n)
  | 0, g, _ => rfl
  | n + 1, g, h => by
    have hn : n < n + 1 := Nat.lt_succ_self n
    by_cases hf : g n = n
    · have h' : Bij n g := ⟨fun i hi => by
        have h1 := h.lt i (by omega)
        have h2 : g i ≠ n := fun e => by
          have := h.inj i n (by omega) hn (by rw [e, hf])
          omega
        omega, fun i j hi hj e => h.inj i j (by omega) (by omega) e⟩
      have ho : orbits g (n + 1) = orbits g n + 1 := by
        unfold orbits
        rw [List.range_succ, List.filter_append, List.length_append]
        have e1 : (List.range n).filter (isLeast g (n + 1)) = (List.range n).filter (isLeast g n) := filter_eq fun i hi => by rw [h.least_it (by omega), h'.least_it hi]
        have e2 : isLeast g (n + 1) n = true := by
          rw [h.least_it hn]
          intro k
          have : it g k n = n := by
            induction k with
            | zero => rfl
            | succ k ih => show g (it g k n) = n; rw [ih, hf]
          omega
        rw [e1]
        simp [e2]
      rw [lf_succ, hf, invS_last _ _ (fun x hx => by have := (mem_lf h' x).1 hx; omega), invS_orbits n g h', ho]
      have := orbits_le g n
      congr 1
      omega
    · have hk : g n < n := by have := h.lt n hn; omega
      obtain ⟨j, hj, ej⟩ : ∃ j, j < n ∧ g j = n := by
        refine ⟨inv g (n + 1) n, ?_, h.g_inv hn⟩
        have h1 := h.inv_lt hn
        have h2 : inv g (n + 1) n ≠ n := fun e => hf (by have := h.g_inv hn; rwa [e] at this)
        omega
      let g' : Nat → Nat := fun i => if i = j then g n else g i
      have gj : g' j = g n := if_pos rfl
      have gi : ∀ i, i ≠ j → g' i = g i := fun i hi => if_neg hi
      have only : ∀ i, i < n + 1 → g i = n → i = j := fun i hi e => h.inj i j hi (by omega) (by rw [e, ej])
      have h' : Bij n g' := by
        constructor
        · intro i hi
          by_cases e : i = j
          · rw [e, gj]; exact hk
          · rw [gi i e]
            have h1 := h.lt i (by omega)
            have h2 : g i ≠ n := fun e2 => e (only i (by omega) e2)
            omega
        · intro a b ha hb e
          by_cases ea : a = j
          · by_cases eb : b = j
            · rw [ea, eb]
            · rw [ea, gj, gi b eb] at e
              have := h.inj n b hn (by omega) e
              omega
          · by_cases eb : b = j
            · rw [eb, gj, gi a ea] at e
              have := h.inj a n (by omega) hn e
              omega
            · rw [gi a ea, gi b eb] at e
              exact h.inj a b (by omega) (by omega) e
      -- the orbits are the same, but for n
      have r1 : ∀ i, i < n → ∀ k, ∃ k', it g' k i = it g k' i := by
        intro i hi k
        induction k with
        | zero => exact ⟨0, rfl⟩
        | succ k ih =>
          obtain ⟨k', e⟩ := ih
          by_cases ej' : it g' k i = j
          · refine ⟨k' + 2, ?_⟩
            show g' (it g' k i) = g (g (it g k' i))
            rw [← e, ej', gj, ej]
          · refine ⟨k' + 1, ?_⟩
            show g' (it g' k i) = g (it g k' i)
            rw [← e, gi _ ej']
      have r2 : ∀ i, i < n → ∀ k, (it g k i ≠ n → ∃ k', it g k i = it g' k' i) ∧ (it g k i = n → ∃ k', it g' k' i = j) := by
        intro i hi k
        induction k with
        | zero => exact ⟨fun _ => ⟨0, rfl⟩, fun e => by have e' : i = n := e; omega⟩
        | succ k ih =>
          by_cases en : it g k i = n
          · obtain ⟨k', e⟩ := ih.2 en
            have es : it g (k + 1) i = g n := by show g (it g k i) = g n; rw [en]
            refine ⟨fun _ => ⟨k' + 1, ?_⟩, fun e2 => by omega⟩
            rw [es]
            show g n = g' (it g' k' i)
            rw [e, gj]
          · obtain ⟨k', e⟩ := ih.1 en
            have es : it g (k + 1) i = g (it g k i) := rfl
            by_cases ejj : it g k i = j
            · refine ⟨fun hne => absurd (by rw [es, ejj, ej]) hne, fun _ => ⟨k', by rw [← e, ejj]⟩⟩
            · refine ⟨fun _ => ⟨k' + 1, ?_⟩, fun e2 => absurd (only _ (h.it_lt k (by omega)) (by rw [← es, e2])) ejj⟩
              rw [es, ← gi _ ejj, e]
              rfl
      have ho : orbits g (n + 1) = orbits g' n := by
        unfold orbits
        rw [List.range_succ, List.filter_append, List.length_append]
        have e1 : (List.range n).filter (isLeast g (n + 1)) = (List.range n).filter (isLeast g' n) := filter_eq fun i hi => by
          rw [h.least_it (by omega), h'.least_it hi]
          constructor
          · intro hl k
            obtain ⟨k', e⟩ := r1 i hi k
            rw [e]; exact hl k'
          · intro hl k
            by_cases en : it g k i = n
            · omega
            · obtain ⟨k', e⟩ := (r2 i hi k).1 en
              rw [e]; exact hl k'
        have e2 : isLeast g (n + 1) n = false := by
          rw [Bool.eq_false_iff]
          intro hl
          have h1 : n ≤ g n := (h.least_it hn).1 hl 1
          omega
        rw [e1]
        simp [e2]
      -- the lists part in an exchange
      have hA : lf g' n = (lf g' n).take j ++ ((g n : Nat) : Int) :: (lf g' n).drop (j + 1) := by
        conv => lhs; rw [← List.take_append_drop j (lf g' n)]
        rw [List.drop_eq_getElem_cons (by rw [lf_length]; exact hj)]
        congr 2
        have := lf_getD g' n j hj
        rw [List.getD_eq_getElem?_getD, List.getElem?_eq_getElem (by rw [lf_length]; exact hj), gj] at this
        exact this
      have hB : lf g n = (lf g' n).take j ++ ((n : Nat) : Int) :: (lf g' n).drop (j + 1) := by
        apply List.ext_getElem?
        intro i
        by_cases hi : i < n
        · rw [lf_get? g n i hi]
          rcases Nat.lt_trichotomy i j with hlt | heq | hgt
          · rw [List.getElem?_append_left (by rw [List.length_take, lf_length]; omega), List.getElem?_take, if_pos hlt, lf_get? g' n i hi, gi i (by omega)]
          · subst heq
            rw [List.getElem?_append_right (by rw [List.length_take, lf_length]; omega), List.length_take, lf_length, show i - min i n = 0 by omega, List.getElem?_cons_zero, ej]
          · rw [List.getElem?_append_right (by rw [List.length_take, lf_length]; omega), List.length_take, lf_length, show i - min j n = (i - j - 1) + 1 by omega, List.getElem?_cons_succ, List.getElem?_drop, show j + 1 + (i - j - 1) = i by omega, lf_get? g' n i hi, gi i (by omega)]
        · rw [List.getElem?_eq_none (by rw [lf_length]; omega), List.getElem?_eq_none (by simp [lf_length]; omega)]
      have mem : ∀ x ∈ lf g' n, 0 ≤ x ∧ x < (n : Int) := fun x hx => (mem_lf h' x).1 hx
      have nd := (lf_perm h').2
      rw [hA] at nd
      have nd2 := List.perm_middle.nodup nd
      have nk : ((g n : Nat) : Int) ∉ (lf g' n).drop (j + 1) := fun hx => (List.nodup_cons.1 nd2).1 (List.mem_append_right _ hx)
      have nn : ((n : Nat) : Int) ∉ (lf g' n).drop (j + 1) := fun hx => by have := mem _ (List.mem_of_mem_drop hx); omega
      rw [lf_succ, hB, List.append_assoc, List.cons_append, invS_exchange _ _ [] _ _ (by omega) nn nk]
      have e3 : (lf g' n).take j ++ ((g n : Nat) : Int) :: ((lf g' n).drop (j + 1) ++ [((n : Nat) : Int)]) = lf g' n ++ [((n : Nat) : Int)] := by
        conv => rhs; rw [hA]
        rw [List.append_assoc, List.cons_append]
      rw [e3, invS_last _ _ (fun x hx => by have := mem x hx; omega), invS_orbits n g' h', ho]
      have := orbits_le g' n
      rw [show n + 1 - orbits g' n = (n - orbits g' n) + 1 by omega, alt_succ]
end Go.Proofs.YtoaalfpfklchfaaDoor.Plain
