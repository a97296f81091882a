/- Texts of this claim put together (wip/tools/merge.py). -/
import Derived.Test.YtmbldnoepjmhhaaZPermgroupFormsWWords
import Derived.Test.YtmbldnoepjmhhaaZPermgroupFormsWMore
import Derived.Laws.World
set_option linter.unusedVariables false
set_option linter.unusedSimpArgs false
section
/- Steps of a world that write nothing: told by instances (shorter texts). -/
namespace Go.Proofs.YtmbldnoepjmhhaaW.PrintWords
open Go.RowKit
class St (w w' : World) : Prop where
  b : Below w.heap.size w w'
instance (w : World) : St w w := ⟨Below.refl _ _⟩
instance (w w' : World) (o : Obj) [h : St w w'] : St w (w'.alloc o) := ⟨below_alloc h.b o⟩
instance (w w' : World) (m : Nat) [h : St w w'] : St w (w'.drewN m) := ⟨pw_below_drewN h.b m⟩
instance (w w' : World) [h : St w w'] : St w w'.drew := ⟨below_drew1 h.b⟩
theorem bel0 {w w' : World} [h : St w w'] : Below w.heap.size w w' := h.b
theorem bel {w w1 w2 : World} (h : Below w.heap.size w w1) [s : St w1 w2] : Below w.heap.size w w2 := below_step h s.b
theorem blkst {w w' : World} {g : Nat} {o : Obj} (h : w.heap[g]? = some o) [s : St w w'] : w'.heap[g]? = some o := (s.b.block _ (blk_lt h)).trans h
theorem Cst {α : Type} {d : Kd α} {w w' : World} {A : Option Addr} {n : Nat} {xs : List α} (h : d.C w A n xs) [s : St w w'] : d.C w' A n xs := Kd.C_below h s.b
theorem Rst {α : Type} {d : Kd α} {e base : Nat} {ok : Nat → Prop} {v : Value} {w w' : World} {xs : List α} (h : d.R e w base ok v xs) [s : St w w'] : d.R e w' base ok v xs := Kd.R_below h s.b
theorem Sst {α : Type} {d : Kd α} {e base : Nat} {ok : Nat → Prop} {v : Value} {w w' : World} {xs : List α} (h : Kd.S d e w base ok v xs) [s : St w w'] : Kd.S d e w' base ok v xs := Kd.S_below h s.b
theorem Vst {α : Type} {d : Kd α} {e base : Nat} {ok : Nat → Prop} {v : Value} {w w' : World} {xs : List α} (h : Kd.V d e w base ok v xs) [s : St w w'] : Kd.V d e w' base ok v xs := Kd.V_below h s.b
theorem Nst {α : Type} {d : Kd α} {e base : Nat} {ok : Nat → Prop} {v : Value} {w w' : World} {xs : List α} (h : Kd.N d e w base ok v xs) [s : St w w'] : Kd.N d e w' base ok v xs := Kd.N_below h s.b
end Go.Proofs.YtmbldnoepjmhhaaW.PrintWords
end
section
/- Plain facts on functions of the points below n that map them one to one: powers, periods, orbits. No program in sight. -/
namespace Go.Proofs.Ytmbldnoepjmhhaa.Plain
def it (g : Nat → Nat) : Nat → Nat → Nat
  | 0, i => i
  | k + 1, i => g (it g k i)
theorem it_add (g : Nat → Nat) (a b i : Nat) : it g (a + b) i = it g b (it g a i) := by
  induction b with
  | zero => rfl
  | succ b ih => show g (it g (a + b) i) = g (it g b (it g a i)); rw [ih]
structure Bij (n : Nat) (g : Nat → Nat) : Prop where
  lt : ∀ i, i < n → g i < n
  inj : ∀ i j, i < n → j < n → g i = g j → i = j
theorem Bij.it_lt {n g} (h : Bij n g) (k : Nat) {i : Nat} (hi : i < n) : it g k i < n := by
  induction k with
  | zero => exact hi
  | succ k ih => exact h.lt _ ih
theorem Bij.it_inj {n g} (h : Bij n g) (k : Nat) {i j : Nat} (hi : i < n) (hj : j < n) (e : it g k i = it g k j) : i = j := by
  induction k with
  | zero => exact e
  | succ k ih => exact ih (h.inj _ _ (h.it_lt k hi) (h.it_lt k hj) e)
theorem pigeon : ∀ (n : Nat) (f : Nat → Nat), (∀ i, i ≤ n → f i < n) → ∃ s t, s < t ∧ t ≤ n ∧ f s = f t := by
  intro n
  induction n with
  | zero => intro f h; exact absurd (h 0 (Nat.le_refl _)) (by omega)
  | succ n ih =>
    intro f h
    by_cases hx : ∃ s, s ≤ n ∧ f s = f (n + 1)
    · obtain ⟨s, hs, e⟩ := hx
      exact ⟨s, n + 1, by omega, Nat.le_refl _, e⟩
    · have hne : ∀ s, s ≤ n → f s ≠ f (n + 1) := fun s hs e => hx ⟨s, hs, e⟩
      obtain ⟨s, t, h1, h2, h3⟩ := ih (fun i => if f i = n then f (n + 1) else f i) (fun i hi => by
        show (if f i = n then f (n + 1) else f i) < n
        have a := h i (by omega); have b := h (n + 1) (Nat.le_refl _); have c := hne i hi
        split <;> omega)
      refine ⟨s, t, h1, by omega, ?_⟩
      have cs := hne s (by omega); have ct := hne t h2
      have h3' : (if f s = n then f (n + 1) else f s) = (if f t = n then f (n + 1) else f t) := h3
      split at h3' <;> split at h3' <;> omega
theorem Bij.returns {n g} (h : Bij n g) {i : Nat} (hi : i < n) : ∃ p, 0 < p ∧ p ≤ n ∧ it g p i = i := by
  obtain ⟨s, t, h1, h2, h3⟩ := pigeon n (fun k => it g k i) (fun k _ => h.it_lt k hi)
  refine ⟨t - s, by omega, by omega, ?_⟩
  have e : t = (t - s) + s := by omega
  have h3' : it g s i = it g t i := h3
  rw [e, it_add] at h3'
  exact (h.it_inj s hi (h.it_lt _ hi) h3').symm
def per (g : Nat → Nat) (n i : Nat) : Nat := ((List.range n).find? (fun p => it g (p + 1) i == i)).getD 0 + 1
theorem per_pos (g : Nat → Nat) (n i : Nat) : 0 < per g n i := Nat.succ_pos _
theorem Bij.per_spec {n g} (h : Bij n g) {i : Nat} (hi : i < n) : it g (per g n i) i = i ∧ per g n i ≤ n ∧ ∀ q, 0 < q → q < per g n i → it g q i ≠ i := by
  obtain ⟨p, p0, pn, e⟩ := h.returns hi
  unfold per
  cases hf : (List.range n).find? (fun p => it g (p + 1) i == i) with
  | none =>
    have := List.find?_eq_none.1 hf (p - 1) (List.mem_range.2 (by omega))
    rw [show p - 1 + 1 = p by omega, e] at this
    simp at this
  | some q =>
    have h1 := List.find?_some hf
    have h2 := List.mem_range.1 (List.mem_of_find?_eq_some hf)
    simp only [beq_iff_eq] at h1
    refine ⟨h1, by simp only [Option.getD_some]; omega, fun r r0 hr e' => ?_⟩
    simp only [Option.getD_some] at hr
    obtain ⟨_, as, bs, hs, hno⟩ := List.find?_eq_some_iff_append.1 hf
    have hlt : r - 1 ∈ as := by
      have hl : (List.range n)[r - 1]? = some (r - 1) := by rw [List.getElem?_range (by omega)]
      have hq : (List.range n)[q]? = some q := by rw [List.getElem?_range h2]
      have hlen : as.length = q := by
        have ha : (List.range n)[as.length]? = some q := by rw [hs]; simp
        have hal : as.length < n := by
          have := congrArg List.length hs
          simp at this; omega
        rw [List.getElem?_range hal] at ha
        exact Option.some.inj ha
      rw [hs, List.getElem?_append_left (by omega)] at hl
      exact List.mem_of_getElem? hl
    have := hno _ hlt
    rw [show r - 1 + 1 = r by omega, e'] at this
    simp at this
theorem it_mul_of {g : Nat → Nat} {p i : Nat} (e : it g p i = i) (m : Nat) : it g (p * m) i = i := by
  induction m with
  | zero => rfl
  | succ m ih => rw [Nat.mul_succ, it_add, ih, e]
theorem it_mod {g : Nat → Nat} {p i : Nat} (e : it g p i = i) (k : Nat) : it g k i = it g (k % p) i := by
  have h := Nat.div_add_mod k p
  conv => lhs; rw [← h, it_add, it_mul_of e]
theorem Bij.it_fix {n g} (h : Bij n g) {i : Nat} (hi : i < n) (k : Nat) : it g k i = i ↔ per g n i ∣ k := by
  obtain ⟨e, _, hm⟩ := h.per_spec hi
  constructor
  · intro hk
    rw [it_mod e] at hk
    rcases Nat.eq_zero_or_pos (k % per g n i) with h0 | h0
    · exact Nat.dvd_of_mod_eq_zero h0
    · exact absurd hk (hm _ h0 (Nat.mod_lt _ (per_pos ..)))
  · rintro ⟨m, rfl⟩
    exact it_mul_of e m
def orb (g : Nat → Nat) (n i : Nat) : List Nat := (List.range (per g n i)).map fun k => it g k i
theorem orb_length (g : Nat → Nat) (n i : Nat) : (orb g n i).length = per g n i := by simp [orb]
theorem Bij.mem_orb {n g} (h : Bij n g) {i : Nat} (hi : i < n) (x : Nat) : x ∈ orb g n i ↔ ∃ k, x = it g k i := by
  unfold orb
  simp only [List.mem_map, List.mem_range]
  constructor
  · rintro ⟨k, _, rfl⟩; exact ⟨k, rfl⟩
  · rintro ⟨k, rfl⟩
    exact ⟨k % per g n i, Nat.mod_lt _ (per_pos ..), (it_mod (h.per_spec hi).1 k).symm⟩
theorem Bij.orb_lt {n g} (h : Bij n g) {i x : Nat} (hi : i < n) (hx : x ∈ orb g n i) : x < n := by
  obtain ⟨k, rfl⟩ := (h.mem_orb hi x).1 hx
  exact h.it_lt k hi
theorem Bij.self_orb {n g} (h : Bij n g) {i : Nat} (hi : i < n) : i ∈ orb g n i := (h.mem_orb hi i).2 ⟨0, rfl⟩
theorem Bij.back {n g} (h : Bij n g) {i : Nat} (hi : i < n) (k : Nat) : ∃ m, it g m (it g k i) = i := by
  obtain ⟨e, _, _⟩ := h.per_spec hi
  have hp := per_pos g n i
  refine ⟨per g n i * k - k, ?_⟩
  rw [← it_add, show k + (per g n i * k - k) = per g n i * k by
    have : k ≤ per g n i * k := Nat.le_mul_of_pos_left k hp
    omega]
  exact it_mul_of e k
theorem Bij.orb_symm {n g} (h : Bij n g) {i x : Nat} (hi : i < n) (hx : x ∈ orb g n i) : i ∈ orb g n x := by
  have hxn := h.orb_lt hi hx
  obtain ⟨k, rfl⟩ := (h.mem_orb hi x).1 hx
  obtain ⟨m, hm⟩ := h.back hi k
  exact (h.mem_orb hxn i).2 ⟨m, hm.symm⟩
theorem Bij.orb_trans {n g} (h : Bij n g) {i x y : Nat} (hi : i < n) (hx : x ∈ orb g n i) (hy : y ∈ orb g n x) : y ∈ orb g n i := by
  have hxn := h.orb_lt hi hx
  obtain ⟨k, rfl⟩ := (h.mem_orb hi x).1 hx
  obtain ⟨m, rfl⟩ := (h.mem_orb hxn y).1 hy
  exact (h.mem_orb hi _).2 ⟨k + m, (it_add g k m i).symm⟩
theorem Bij.per_orb {n g} (h : Bij n g) {i x : Nat} (hi : i < n) (hx : x ∈ orb g n i) : per g n x = per g n i := by
  have hxn := h.orb_lt hi hx
  obtain ⟨k, rfl⟩ := (h.mem_orb hi x).1 hx
  have a : it g (per g n i) (it g k i) = it g k i := by
    rw [← it_add, Nat.add_comm, it_add, (h.per_spec hi).1]
  have b : it g (per g n (it g k i)) i = i := by
    have := (h.per_spec hxn).1
    rw [← it_add, Nat.add_comm, it_add] at this
    exact h.it_inj k (h.it_lt _ hi) hi this
  exact Nat.dvd_antisymm ((h.it_fix hxn _).1 a) ((h.it_fix hi _).1 b)
def isLeast (g : Nat → Nat) (n i : Nat) : Bool := (orb g n i).all fun x => decide (i ≤ x)
theorem isLeast_iff {g : Nat → Nat} {n i : Nat} : isLeast g n i = true ↔ ∀ x ∈ orb g n i, i ≤ x := by
  simp [isLeast]
def isHead (g : Nat → Nat) (n i : Nat) : Bool := isLeast g n i && decide (2 ≤ per g n i)
def cyc (g : Nat → Nat) (n m : Nat) : List (List Nat) := ((List.range m).filter (isHead g n)).map (orb g n)
theorem Bij.has_least {n g} (h : Bij n g) : ∀ i, i < n → ∃ j, j ≤ i ∧ i ∈ orb g n j ∧ isLeast g n j = true := by
  intro i
  induction i using Nat.strongRecOn with
  | _ i ih =>
    intro hi
    by_cases hl : isLeast g n i = true
    · exact ⟨i, Nat.le_refl _, h.self_orb hi, hl⟩
    · have : ∃ x, x ∈ orb g n i ∧ x < i := by
        apply Classical.byContradiction
        intro hc
        exact hl (isLeast_iff.2 fun x hx => by
          apply Classical.byContradiction
          intro hlt
          exact hc ⟨x, hx, by omega⟩)
      obtain ⟨x, hx, hlt⟩ := this
      obtain ⟨j, h1, h2, h3⟩ := ih x hlt (by omega)
      have hj : j < n := by omega
      exact ⟨j, by omega, h.orb_trans hj h2 (h.orb_symm hi hx), h3⟩
theorem foldl_lcm_dvd : ∀ (l : List Nat) (a m : Nat), l.foldl Nat.lcm a ∣ m ↔ a ∣ m ∧ ∀ x ∈ l, x ∣ m
  | [], a, m => by simp
  | x :: l, a, m => by
    rw [List.foldl_cons, foldl_lcm_dvd l]
    constructor
    · rintro ⟨h1, h2⟩
      exact ⟨Nat.dvd_trans (Nat.dvd_lcm_left a x) h1, fun y hy => by
        rcases List.mem_cons.1 hy with rfl | hy
        · exact Nat.dvd_trans (Nat.dvd_lcm_right a y) h1
        · exact h2 y hy⟩
    · rintro ⟨h1, h2⟩
      exact ⟨Nat.lcm_dvd h1 (h2 x (List.mem_cons_self ..)), fun y hy => h2 y (List.mem_cons_of_mem _ hy)⟩
def ord (g : Nat → Nat) (n : Nat) : Nat := ((cyc g n n).map List.length).foldl Nat.lcm 1
theorem Bij.ord_dvd {n g} (h : Bij n g) (k : Nat) : ord g n ∣ k ↔ ∀ i, i < n → it g k i = i := by
  unfold ord
  rw [foldl_lcm_dvd]
  constructor
  · rintro ⟨_, hc⟩ i hi
    rw [h.it_fix hi]
    obtain ⟨j, h1, h2, h3⟩ := h.has_least i hi
    have hj : j < n := by omega
    rw [h.per_orb hj h2]
    by_cases h4 : 2 ≤ per g n j
    · refine hc _ (List.mem_map.2 ⟨orb g n j, List.mem_map.2 ⟨j, List.mem_filter.2 ⟨List.mem_range.2 hj, ?_⟩, rfl⟩, orb_length ..⟩)
      simp [isHead, h3, h4]
    · have := per_pos g n j
      rw [show per g n j = 1 by omega]
      exact Nat.one_dvd _
  · intro hi
    refine ⟨Nat.one_dvd _, fun x hx => ?_⟩
    obtain ⟨c, hc, rfl⟩ := List.mem_map.1 hx
    obtain ⟨j, hj, rfl⟩ := List.mem_map.1 hc
    have hj' := List.mem_range.1 (List.mem_filter.1 hj).1
    rw [orb_length, ← h.it_fix hj']
    exact hi j hj'
theorem ord_pos (g : Nat → Nat) (n : Nat) : 0 < ord g n := by
  unfold ord
  have : ∀ (l : List Nat) (a : Nat), 0 < a → (∀ x ∈ l, 0 < x) → 0 < l.foldl Nat.lcm a := by
    intro l
    induction l with
    | nil => intro a ha _; exact ha
    | cons x l ih =>
      intro a ha hl
      exact ih _ (Nat.lcm_pos ha (hl x (List.mem_cons_self ..))) fun y hy => hl y (List.mem_cons_of_mem _ hy)
  refine this _ _ Nat.one_pos fun x hx => ?_
  obtain ⟨c, hc, rfl⟩ := List.mem_map.1 hx
  obtain ⟨j, hj, rfl⟩ := List.mem_map.1 hc
  rw [orb_length]
  exact per_pos ..
end Go.Proofs.Ytmbldnoepjmhhaa.Plain
end
section
/- Plain facts on lists of whole numbers that are permutations, and on loops that fill a list. No program in sight. -/
namespace Go.Proofs.Ytmbldnoepjmhhaa.Plain
open Go.RowKit Go.Proofs.YtmbldnoepjmhhaaW.PrintWords
theorem w64_small {i : Int} (h0 : -9223372036854775808 ≤ i) (h1 : i ≤ 9223372036854775807) : wrap64 i = i := by
  unfold wrap64; omega
theorem wrap_nat {i : Nat} (h : i < 4611686018427387904) : wrap64 ((i : Int) + 1) = ((i + 1 : Nat) : Int) := by
  unfold wrap64; omega
theorem rd_nat (l : List Int) (i : Nat) : rd l (i : Int) = l.getD i 0 := rfl
theorem rd_get (l : List Int) (i : Nat) (h : i < l.length) : rd l (i : Int) = l[i] := by
  rw [rd_nat, List.getD_eq_getElem?_getD, List.getElem?_eq_getElem h]; rfl
theorem set_fill {α : Type} (R S : List α) (i : Nat) (v : α) (hi : i < R.length) (hS : S.length = R.length) (hv : R[i]? = some v) :
    (R.take i ++ S.drop i).set i v = R.take (i + 1) ++ S.drop (i + 1) := by
  have hR : R[i] = v := by rw [List.getElem?_eq_getElem hi] at hv; exact Option.some.inj hv
  rw [List.set_append_right _ _ (by rw [List.length_take]; omega)]
  rw [show i - (R.take i).length = 0 by rw [List.length_take]; omega]
  rw [List.drop_eq_getElem_cons (by omega : i < S.length), List.set_cons_zero, List.take_succ_eq_append_getElem hi, hR]
  simp
theorem fill_end {α : Type} (R S : List α) (hS : S.length = R.length) : R.take R.length ++ S.drop R.length = R := by
  rw [List.take_length, List.drop_eq_nil_of_le (by omega), List.append_nil]
def chkFrom (l : List Int) : Nat → Int
  | 0 => 0
  | d + 1 => if l.getD (l.length - (d + 1)) 0 < 0 ∨ (l.length : Int) ≤ l.getD (l.length - (d + 1)) 0 then 3
    else if l.getD (l.length - (d + 1)) 0 ∈ l.take (l.length - (d + 1)) then 24 else chkFrom l d
def chk (l : List Int) : Int := if 20 < l.length then 4 else chkFrom l l.length
def IsPerm (l : List Int) : Prop := (∀ x ∈ l, 0 ≤ x ∧ x < (l.length : Int)) ∧ l.Nodup
theorem chkFrom_zero (l : List Int) : ∀ d, d ≤ l.length → (chkFrom l d = 0 ↔ ∀ i, l.length - d ≤ i → i < l.length → (0 ≤ l.getD i 0 ∧ l.getD i 0 < (l.length : Int)) ∧ l.getD i 0 ∉ l.take i)
  | 0, _ => by
    simp only [chkFrom, true_iff]
    intro i h1 h2; omega
  | d + 1, hd => by
    have ih := chkFrom_zero l d (by omega)
    simp only [chkFrom]
    by_cases h1 : l.getD (l.length - (d + 1)) 0 < 0 ∨ (l.length : Int) ≤ l.getD (l.length - (d + 1)) 0
    · rw [if_pos h1]
      refine ⟨fun h => by omega, fun h => ?_⟩
      have := (h (l.length - (d + 1)) (Nat.le_refl _) (by omega)).1
      omega
    · rw [if_neg h1]
      by_cases h2 : l.getD (l.length - (d + 1)) 0 ∈ l.take (l.length - (d + 1))
      · rw [if_pos h2]
        exact ⟨fun h => by omega, fun h => absurd h2 (h (l.length - (d + 1)) (Nat.le_refl _) (by omega)).2⟩
      · rw [if_neg h2, ih]
        constructor
        · intro h i hi hl
          by_cases e : i = l.length - (d + 1)
          · subst e
            exact ⟨by omega, h2⟩
          · exact h i (by omega) hl
        · intro h i hi hl
          exact h i (by omega) hl
theorem nodup_take (l : List Int) : l.Nodup ↔ ∀ i, i < l.length → l.getD i 0 ∉ l.take i := by
  rw [List.nodup_iff_pairwise_ne, List.pairwise_iff_getElem]
  constructor
  · intro h i hi hm
    obtain ⟨j, hj, e⟩ := List.getElem_of_mem hm
    rw [List.length_take] at hj
    have := h j i (by omega) hi (by omega)
    rw [List.getElem_take] at e
    rw [List.getD_eq_getElem?_getD, List.getElem?_eq_getElem hi] at e
    exact this e
  · intro h i j hi hj hij e
    refine h j hj ?_
    rw [List.getD_eq_getElem?_getD, List.getElem?_eq_getElem hj]
    show l[j] ∈ _
    rw [← e]
    exact List.mem_take_iff_getElem.2 ⟨i, by omega, rfl⟩
theorem chk_zero (l : List Int) : chk l = 0 ↔ l.length ≤ 20 ∧ IsPerm l := by
  unfold chk
  by_cases h : 20 < l.length
  · rw [if_pos h]
    exact ⟨fun h => by omega, fun h => by omega⟩
  · rw [if_neg h, chkFrom_zero l l.length (Nat.le_refl _)]
    unfold IsPerm
    rw [nodup_take]
    constructor
    · intro hh
      refine ⟨by omega, fun x hx => ?_, fun i hi => (hh i (by omega) hi).2⟩
      obtain ⟨i, hi, rfl⟩ := List.getElem_of_mem hx
      have := (hh i (by omega) hi).1
      rwa [List.getD_eq_getElem?_getD, List.getElem?_eq_getElem hi] at this
    · rintro ⟨_, h1, h2⟩ i _ hi
      refine ⟨?_, h2 i hi⟩
      rw [List.getD_eq_getElem?_getD, List.getElem?_eq_getElem hi]
      exact h1 _ (List.getElem_mem hi)
def gf (l : List Int) (i : Nat) : Nat := (l.getD i 0).toNat
theorem IsPerm.get {l : List Int} (h : IsPerm l) {i : Nat} (hi : i < l.length) : 0 ≤ l.getD i 0 ∧ l.getD i 0 < (l.length : Int) ∧ l.getD i 0 = ((gf l i : Nat) : Int) := by
  have : l.getD i 0 ∈ l := by
    rw [List.getD_eq_getElem?_getD, List.getElem?_eq_getElem hi]
    exact List.getElem_mem hi
  have := h.1 _ this
  unfold gf
  omega
theorem IsPerm.bij {l : List Int} (h : IsPerm l) : Bij l.length (gf l) where
  lt i hi := by have := h.get hi; omega
  inj i j hi hj e := by
    have a := h.get hi
    have b := h.get hj
    have e' : l.getD i 0 = l.getD j 0 := by rw [a.2.2, b.2.2, e]
    rw [List.getD_eq_getElem?_getD, List.getElem?_eq_getElem hi, List.getD_eq_getElem?_getD, List.getElem?_eq_getElem hj] at e'
    replace e' : l[i] = l[j] := e'
    have hp := List.pairwise_iff_getElem.1 (List.nodup_iff_pairwise_ne.1 h.2)
    rcases Nat.lt_trichotomy i j with hlt | hlt | hlt
    · exact absurd e' (hp i j hi hj hlt)
    · exact hlt
    · exact absurd e'.symm (hp j i hj hi hlt)
def lf (g : Nat → Nat) (n : Nat) : List Int := (List.range n).map fun i => ((g i : Nat) : Int)
theorem lf_length (g : Nat → Nat) (n : Nat) : (lf g n).length = n := by simp [lf]
theorem lf_getD (g : Nat → Nat) (n i : Nat) (hi : i < n) : (lf g n).getD i 0 = ((g i : Nat) : Int) := by
  rw [List.getD_eq_getElem?_getD]
  simp [lf, List.getElem?_map, List.getElem?_range hi]
theorem lf_get? (g : Nat → Nat) (n i : Nat) (hi : i < n) : (lf g n)[i]? = some ((g i : Nat) : Int) := by
  simp [lf, List.getElem?_map, List.getElem?_range hi]
theorem gf_lf (g : Nat → Nat) (n i : Nat) (hi : i < n) : gf (lf g n) i = g i := by
  unfold gf; rw [lf_getD g n i hi]; rfl
theorem lf_congr {g h : Nat → Nat} {n : Nat} (e : ∀ i, i < n → g i = h i) : lf g n = lf h n := by
  unfold lf
  exact List.map_congr_left fun i hi => by rw [e i (List.mem_range.1 hi)]
theorem IsPerm.eq_lf {l : List Int} (h : IsPerm l) : l = lf (gf l) l.length := by
  apply List.ext_getElem?
  intro i
  by_cases hi : i < l.length
  · rw [lf_get? _ _ _ hi, List.getElem?_eq_getElem hi]
    have := (h.get hi).2.2
    rw [List.getD_eq_getElem?_getD, List.getElem?_eq_getElem hi] at this
    exact congrArg some this
  · rw [List.getElem?_eq_none (by omega), List.getElem?_eq_none (by rw [lf_length]; omega)]
theorem lf_perm {g : Nat → Nat} {n : Nat} (h : Bij n g) : IsPerm (lf g n) := by
  constructor
  · intro x hx
    obtain ⟨i, hi, rfl⟩ := List.mem_map.1 hx
    have := h.lt i (List.mem_range.1 hi)
    rw [lf_length]
    omega
  · unfold lf
    rw [List.nodup_iff_pairwise_ne, List.pairwise_map]
    refine List.Pairwise.imp_of_mem ?_ (List.pairwise_lt_range)
    intro a b ha hb hab e
    have := h.inj a b (List.mem_range.1 ha) (List.mem_range.1 hb) (by omega)
    omega
theorem Bij.id (n : Nat) : Bij n (fun i => i) := ⟨fun _ h => h, fun _ _ _ _ e => e⟩
theorem Bij.comp {n : Nat} {g h : Nat → Nat} (hg : Bij n g) (hh : Bij n h) : Bij n (fun i => h (g i)) :=
  ⟨fun i hi => hh.lt _ (hg.lt i hi), fun i j hi hj e => hg.inj i j hi hj (hh.inj _ _ (hg.lt i hi) (hg.lt j hj) e)⟩
theorem Bij.it {n : Nat} {g : Nat → Nat} (hg : Bij n g) (k : Nat) : Bij n (it g k) :=
  ⟨fun _ hi => hg.it_lt k hi, fun _ _ hi hj e => hg.it_inj k hi hj e⟩
theorem Bij.congr {n : Nat} {g h : Nat → Nat} (hg : Bij n g) (e : ∀ i, i < n → g i = h i) : Bij n h :=
  ⟨fun i hi => by rw [← e i hi]; exact hg.lt i hi, fun i j hi hj ee => hg.inj i j hi hj (by rw [e i hi, e j hj, ee])⟩
def mulL (a b : List Int) : List Int := a.map fun x => rd b x
theorem mulL_lf (g h : Nat → Nat) (n : Nat) (hg : ∀ i, i < n → g i < n) : mulL (lf g n) (lf h n) = lf (fun i => h (g i)) n := by
  unfold mulL
  conv => lhs; unfold lf
  rw [List.map_map]
  refine List.map_congr_left fun i hi => ?_
  have hi := List.mem_range.1 hi
  show rd (lf h n) ((g i : Nat) : Int) = _
  rw [rd_nat, lf_getD h n _ (hg i hi)]
def inv (g : Nat → Nat) (n j : Nat) : Nat := it g (per g n j - 1) j
theorem Bij.inv_lt {n g} (h : Bij n g) {j : Nat} (hj : j < n) : inv g n j < n := h.it_lt _ hj
theorem Bij.g_inv {n g} (h : Bij n g) {j : Nat} (hj : j < n) : g (inv g n j) = j := by
  have e := (h.per_spec hj).1
  have hp := per_pos g n j
  rw [show per g n j = (per g n j - 1) + 1 by omega] at e
  exact e
theorem Bij.inv_g {n g} (h : Bij n g) {i : Nat} (hi : i < n) : inv g n (g i) = i :=
  h.inj _ _ (h.inv_lt (h.lt i hi)) hi (h.g_inv (h.lt i hi))
theorem Bij.inv {n g} (h : Bij n g) : Bij n (Plain.inv g n) :=
  ⟨fun _ hj => h.inv_lt hj, fun i j hi hj e => by rw [← h.g_inv hi, ← h.g_inv hj, e]⟩
def invL (g : Nat → Nat) (n i : Nat) : List Int := lf (fun j => if inv g n j < i then inv g n j else 0) n
theorem invL_zero (g : Nat → Nat) (n : Nat) : invL g n 0 = List.replicate n 0 := by
  apply List.ext_getElem?
  intro j
  by_cases hj : j < n
  · unfold invL; rw [lf_get? _ _ _ hj]; simp [hj]
  · rw [List.getElem?_eq_none (by unfold invL; rw [lf_length]; omega), List.getElem?_eq_none (by simp; omega)]
theorem invL_step {n : Nat} {g : Nat → Nat} (h : Bij n g) (i : Nat) (hi : i < n) : (invL g n i).set (g i) (i : Int) = invL g n (i + 1) := by
  apply List.ext_getElem?
  intro j
  unfold invL
  rw [List.getElem?_set, lf_length]
  by_cases hj : j < n
  · rw [lf_get? _ _ _ hj, lf_get? _ _ _ hj]
    by_cases e : g i = j
    · rw [if_pos e, if_pos (by omega), ← e, h.inv_g hi, if_pos (by omega)]
    · rw [if_neg e]
      have : Plain.inv g n j ≠ i := fun ee => e (by rw [← ee, h.g_inv hj])
      by_cases h1 : Plain.inv g n j < i
      · rw [if_pos h1, if_pos (by omega)]
      · rw [if_neg h1, if_neg (by omega)]
  · have := h.lt i hi
    rw [if_neg (by omega), List.getElem?_eq_none (by rw [lf_length]; omega), List.getElem?_eq_none (by rw [lf_length]; omega)]
theorem invL_end {n : Nat} {g : Nat → Nat} (h : Bij n g) : invL g n n = lf (inv g n) n :=
  lf_congr fun _ hj => if_pos (h.inv_lt hj)
def cmpL : List Int → List Int → Int
  | x :: a, y :: b => if x < y then -1 else if y < x then 1 else cmpL a b
  | _, _ => 0
def ints (l : List Nat) : List Int := l.map fun x => ((x : Nat) : Int)
end Go.Proofs.Ytmbldnoepjmhhaa.Plain
end
section
/- Permutations of n points as a type, with the laws of groups; what a list of them generates. No program in sight. -/
namespace Go.Proofs.Ytmbldnoepjmhhaa.Pms
open Go.Proofs.Ytmbldnoepjmhhaa.Plain
structure Pm (n : Nat) where
  l : List Int
  len : l.length = n
  ok : IsPerm l
variable {n : Nat}
def Pm.ap (p : Pm n) (i : Nat) : Nat := gf p.l i
theorem Pm.bij (p : Pm n) : Bij n p.ap := by have := p.ok.bij; rw [p.len] at this; exact this
theorem Pm.lt (p : Pm n) {i : Nat} (h : i < n) : p.ap i < n := p.bij.lt i h
theorem Pm.inj (p : Pm n) {i j : Nat} (hi : i < n) (hj : j < n) (e : p.ap i = p.ap j) : i = j := p.bij.inj i j hi hj e
theorem Pm.l_eq (p : Pm n) : p.l = lf p.ap n := by have := p.ok.eq_lf; rw [p.len] at this; exact this
theorem Pm.eq_of_l {p q : Pm n} (h : p.l = q.l) : p = q := by
  cases p; cases q; cases h; rfl
theorem Pm.ext' {p q : Pm n} (h : ∀ i, i < n → p.ap i = q.ap i) : p = q := by
  apply Pm.eq_of_l
  rw [p.l_eq, q.l_eq]
  exact lf_congr h
instance : DecidableEq (Pm n) := fun p q => if h : p.l = q.l then .isTrue (Pm.eq_of_l h) else .isFalse (fun e => h (by rw [e]))
def Pm.of (g : Nat → Nat) (h : Bij n g) : Pm n := ⟨lf g n, lf_length g n, lf_perm h⟩
theorem Pm.of_ap (g : Nat → Nat) (h : Bij n g) {i : Nat} (hi : i < n) : (Pm.of g h).ap i = g i := gf_lf g n i hi
instance : Mul (Pm n) := ⟨fun p q => Pm.of (fun i => q.ap (p.ap i)) (p.bij.comp q.bij)⟩
instance : One (Pm n) := ⟨Pm.of (fun i => i) (Bij.id n)⟩
instance : Inv (Pm n) := ⟨fun p => Pm.of (Plain.inv p.ap n) p.bij.inv⟩
theorem Pm.mul_ap (p q : Pm n) {i : Nat} (hi : i < n) : (p * q).ap i = q.ap (p.ap i) := Pm.of_ap _ _ hi
theorem Pm.one_ap {i : Nat} (hi : i < n) : (1 : Pm n).ap i = i := Pm.of_ap _ _ hi
theorem Pm.inv_ap (p : Pm n) {i : Nat} (hi : i < n) : (p⁻¹).ap i = Plain.inv p.ap n i := Pm.of_ap _ _ hi
theorem Pm.inv_ap_ap (p : Pm n) {i : Nat} (hi : i < n) : (p⁻¹).ap (p.ap i) = i := by rw [p.inv_ap (p.lt hi)]; exact p.bij.inv_g hi
theorem Pm.ap_inv_ap (p : Pm n) {i : Nat} (hi : i < n) : p.ap ((p⁻¹).ap i) = i := by rw [p.inv_ap hi]; exact p.bij.g_inv hi
theorem Pm.mul_assoc (a b c : Pm n) : a * b * c = a * (b * c) := Pm.ext' fun i hi => by
  rw [Pm.mul_ap _ _ hi, Pm.mul_ap _ _ hi, Pm.mul_ap _ _ hi, Pm.mul_ap _ _ (a.lt hi)]
theorem Pm.one_mul (a : Pm n) : 1 * a = a := Pm.ext' fun i hi => by rw [Pm.mul_ap _ _ hi, Pm.one_ap hi]
theorem Pm.mul_one (a : Pm n) : a * 1 = a := Pm.ext' fun i hi => by rw [Pm.mul_ap _ _ hi, Pm.one_ap (a.lt hi)]
theorem Pm.inv_mul (a : Pm n) : a⁻¹ * a = 1 := Pm.ext' fun i hi => by rw [Pm.mul_ap _ _ hi, Pm.one_ap hi, a.ap_inv_ap hi]
theorem Pm.mul_inv (a : Pm n) : a * a⁻¹ = 1 := Pm.ext' fun i hi => by rw [Pm.mul_ap _ _ hi, Pm.one_ap hi, a.inv_ap_ap hi]
theorem Pm.inv_mul_l (a b : Pm n) : a⁻¹ * (a * b) = b := by rw [← Pm.mul_assoc, Pm.inv_mul, Pm.one_mul]
theorem Pm.mul_inv_r (a b : Pm n) : a * b * b⁻¹ = a := by rw [Pm.mul_assoc, Pm.mul_inv, Pm.mul_one]
theorem Pm.inv_mul_r (a b : Pm n) : a * b⁻¹ * b = a := by rw [Pm.mul_assoc, Pm.inv_mul, Pm.mul_one]
theorem Pm.left_cancel {a b c : Pm n} (h : a * b = a * c) : b = c := by rw [← Pm.inv_mul_l a b, h, Pm.inv_mul_l]
theorem Pm.right_cancel {a b c : Pm n} (h : a * c = b * c) : a = b := by rw [← Pm.mul_inv_r a c, h, Pm.mul_inv_r]
theorem Pm.inv_unique {a b : Pm n} (h : a * b = 1) : a⁻¹ = b := Pm.left_cancel (a := a) (by rw [Pm.mul_inv, h])
theorem Pm.inv_one : (1 : Pm n)⁻¹ = 1 := Pm.inv_unique (Pm.one_mul 1)
theorem Pm.mul_one_inv (a : Pm n) : a * 1⁻¹ = a := by rw [Pm.inv_one, Pm.mul_one]
def Pm.pow (a : Pm n) : Nat → Pm n
  | 0 => 1
  | k + 1 => a.pow k * a
theorem Pm.pow_ap (a : Pm n) {i : Nat} (hi : i < n) : ∀ k, (a.pow k).ap i = it a.ap k i
  | 0 => Pm.one_ap hi
  | k + 1 => by rw [Pm.pow, Pm.mul_ap _ _ hi, Pm.pow_ap a hi k]; rfl
theorem Pm.pow_add (a : Pm n) (j : Nat) : ∀ k, a.pow (j + k) = a.pow j * a.pow k
  | 0 => by rw [Pm.pow, Pm.mul_one]; rfl
  | k + 1 => by rw [Pm.pow, ← Pm.mul_assoc, ← Pm.pow_add a j k]; rfl
theorem Pm.has_order (a : Pm n) : ∃ k, a.pow (k + 1) = 1 := by
  obtain ⟨m, hm⟩ : ∃ m, ord a.ap n = m + 1 := ⟨ord a.ap n - 1, by have := ord_pos a.ap n; omega⟩
  refine ⟨m, Pm.ext' fun i hi => ?_⟩
  rw [Pm.pow_ap a hi, Pm.one_ap hi, ← hm]
  exact (a.bij.ord_dvd _).1 (Nat.dvd_refl _) i hi
theorem Pm.inv_is_pow (a : Pm n) : ∃ k, a⁻¹ = a.pow k := by
  obtain ⟨k, hk⟩ := a.has_order
  exact ⟨k, Pm.left_cancel (a := a) (by rw [Pm.mul_inv, ← hk, Nat.add_comm, Pm.pow_add, Pm.pow, Pm.pow, Pm.one_mul])⟩
def prod : List (Pm n) → Pm n
  | [] => 1
  | a :: r => a * prod r
theorem prod_append : ∀ (a b : List (Pm n)), prod (a ++ b) = prod a * prod b
  | [], b => by rw [List.nil_append, prod, Pm.one_mul]
  | x :: a, b => by rw [List.cons_append, prod, prod, prod_append a b, Pm.mul_assoc]
theorem prod_one (a : Pm n) : prod [a] = a := Pm.mul_one a
def Gen (S : List (Pm n)) (p : Pm n) : Prop := ∃ l : List (Pm n), (∀ x ∈ l, x ∈ S) ∧ prod l = p
theorem Gen.one (S : List (Pm n)) : Gen S 1 := ⟨[], by simp, rfl⟩
theorem Gen.of {S : List (Pm n)} {a : Pm n} (h : a ∈ S) : Gen S a := ⟨[a], by simpa using h, prod_one a⟩
theorem Gen.mul {S : List (Pm n)} {a b : Pm n} (ha : Gen S a) (hb : Gen S b) : Gen S (a * b) := by
  obtain ⟨l, hl, rfl⟩ := ha
  obtain ⟨m, hm, rfl⟩ := hb
  exact ⟨l ++ m, fun x hx => (List.mem_append.1 hx).elim (hl x) (hm x), prod_append l m⟩
theorem Gen.pow {S : List (Pm n)} {a : Pm n} (ha : Gen S a) : ∀ k, Gen S (a.pow k)
  | 0 => Gen.one S
  | k + 1 => (Gen.pow ha k).mul ha
theorem Gen.inv {S : List (Pm n)} {a : Pm n} (ha : Gen S a) : Gen S a⁻¹ := by
  obtain ⟨k, hk⟩ := a.inv_is_pow
  rw [hk]
  exact ha.pow k
theorem Gen.mono {S S' : List (Pm n)} (h : ∀ x ∈ S, Gen S' x) {p : Pm n} (hp : Gen S p) : Gen S' p := by
  obtain ⟨l, hl, rfl⟩ := hp
  induction l with
  | nil => exact Gen.one _
  | cons a l ih => exact (h a (hl a (List.mem_cons_self ..))).mul (ih fun x hx => hl x (List.mem_cons_of_mem _ hx))
theorem Gen.induct {S : List (Pm n)} {P : Pm n → Prop} (h1 : P 1) (hs : ∀ p s, P p → Gen S p → s ∈ S → P (p * s)) {p : Pm n} (hp : Gen S p) : P p := by
  obtain ⟨l, hl, rfl⟩ := hp
  suffices h : ∀ (m : List (Pm n)) (p : Pm n), (∀ x ∈ m, x ∈ S) → Gen S p → P p → P (p * prod m) by
    have := h l 1 hl (Gen.one S) h1
    rwa [Pm.one_mul] at this
  intro m
  induction m with
  | nil => intro p _ _ hp; rw [prod, Pm.mul_one]; exact hp
  | cons a m ih =>
    intro p hm hg hp
    rw [prod, ← Pm.mul_assoc]
    have ha := hm a (List.mem_cons_self ..)
    exact ih _ (fun x hx => hm x (List.mem_cons_of_mem _ hx)) (hg.mul (Gen.of ha)) (hs _ _ hp hg ha)
theorem Gen.nil {p : Pm n} (h : Gen [] p) : p = 1 := by
  obtain ⟨l, hl, rfl⟩ := h
  cases l with
  | nil => rfl
  | cons a l => exact absurd (hl a (List.mem_cons_self ..)) (by simp)
def Fix (k : Nat) (p : Pm n) : Prop := ∀ i, i < k → i < n → p.ap i = i
theorem Fix.one (k : Nat) : Fix k (1 : Pm n) := fun i _ hi => Pm.one_ap hi
theorem Fix.mul {k : Nat} {p q : Pm n} (hp : Fix k p) (hq : Fix k q) : Fix k (p * q) := fun i h hi => by
  rw [Pm.mul_ap _ _ hi, hp i h hi, hq i h hi]
theorem Fix.inv {k : Nat} {p : Pm n} (hp : Fix k p) : Fix k p⁻¹ := fun i h hi => by
  conv => lhs; rw [← hp i h hi]
  exact p.inv_ap_ap hi
theorem Fix.gen {k : Nat} {S : List (Pm n)} (h : ∀ s ∈ S, Fix k s) {p : Pm n} (hp : Gen S p) : Fix k p :=
  Gen.induct (P := Fix k) (Fix.one k) (fun p s hp _ hs => hp.mul (h s hs)) hp
theorem Fix.all {p : Pm n} (h : Fix n p) : p = 1 := Pm.ext' fun i hi => by rw [h i hi hi, Pm.one_ap hi]
theorem Fix.less {k j : Nat} {p : Pm n} (h : Fix k p) (hj : j ≤ k) : Fix j p := fun i hi hn => h i (by omega) hn
theorem Fix.succ {k : Nat} {p : Pm n} (h : Fix k p) (hk : k < n → p.ap k = k) : Fix (k + 1) p := fun i hi hn => by
  by_cases e : i = k
  · subst e; exact hk hn
  · exact h i (by omega) hn
end Go.Proofs.Ytmbldnoepjmhhaa.Pms
end
section
/- The stabilizer chain as the Go code of package bsgs makes it, over lists; and that it is right: what it holds is what the generators generate. No program in sight. -/
namespace Go.Proofs.Ytmbldnoepjmhhaa.Bs
open Go.RowKit Go.Proofs.Ytmbldnoepjmhhaa.Plain Go.Proofs.Ytmbldnoepjmhhaa.Pms
def at_ (l : List Int) (x : Int) : Option Int := if 0 ≤ x then l[x.toNat]? else none
def mulA : List Int → List Int → Option (List Int)
  | [], _ => some []
  | x :: a, b => (at_ b x).bind fun y => (mulA a b).bind fun r => some (y :: r)
def mulO (a b : List Int) : Option (List Int) := if a.length ≤ 1000 then mulA a b else none
def invFill : List Int → Nat → List Int → List Int
  | [], _, out => out
  | x :: a, i, out => invFill a (i + 1) (out.set x.toNat (i : Int))
def invO (a : List Int) : Option (List Int) :=
  if a.length ≤ 1000 then (if (a.all fun x => decide (0 ≤ x) && decide (x < (a.length : Int))) = true then some (invFill a 0 (List.replicate a.length 0)) else none) else none
structure Lv where
  orbit : List Int
  words : List (Option (List Int))
  gens : List (List Int)
structure Ch where
  n : Nat
  levels : List Lv
def Ch.word (C : Ch) (k : Nat) (x : Int) : Option (Option (List Int)) := if 0 ≤ x then (C.levels[k]?).bind fun L => L.words[x.toNat]? else none
def Ch.put (C : Ch) (k : Nat) (L : Lv) : Ch := ⟨C.n, C.levels.set k L⟩
def sift : Nat → Ch → List Int → Nat → Option (List Int × Nat)
  | 0, _, _, _ => none
  | q + 1, C, p, k => if k < C.n then (p[k]?).bind fun x => (C.word k x).bind fun o => match o with
        | none => some (p, k)
        | some w => if x = (k : Int) then sift q C p (k + 1) else (invO w).bind fun i => (mulO p i).bind fun p' => sift q C p' (k + 1)
    else some (p, C.n)
def eachO (f : Ch → Int → Option Ch) : List Int → Ch → Option Ch
  | [], C => some C
  | x :: r, C => (f C x).bind (eachO f r)
def gensO (f : Ch → List Int → Option Ch) (k : Nat) : Nat → Nat → Ch → Option Ch
  | 0, _, _ => none
  | m + 1, i, C => (C.levels[k]?).bind fun L => match L.gens[i]? with
    | none => some C
    | some g => (f C g).bind (gensO f k m (i + 1))
def reach (ins : Ch → Nat → List Int → Option Ch) : Nat → Ch → Nat → List Int → Option Ch
  | 0, _, _, _ => none
  | q + 1, C, k, p => (C.levels[k]?).bind fun L => (p[k]?).bind fun x => (C.word k x).bind fun o => match o with
    | none => if L.orbit.length < 1000 then gensO (fun C g => (mulO p g).bind fun p' => reach ins q C k p') k 1000 0 (C.put k ⟨L.orbit ++ [x], L.words.set x.toNat (some p), L.gens⟩) else none
    | some w => (invO w).bind fun i => (mulO p i).bind fun rest => (sift 30 C rest (k + 1)).bind fun t => if t.2 < C.n then ins C (k + 1) rest else some C
def insert_ : Nat → Ch → Nat → List Int → Option Ch
  | 0, _, _, _ => none
  | d + 1, C, k, g => (C.levels[k]?).bind fun L => if L.gens.length < 1000 ∧ L.orbit.length < 1000 then
      eachO (fun C x => (C.word k x).bind fun o => o.bind fun w => (mulO w g).bind fun p => reach (insert_ d) 30 C k p) L.orbit (C.put k ⟨L.orbit, L.words, L.gens ++ [g]⟩) else none
def Ch.contains (C : Ch) (p : List Int) : Option Bool := (sift 30 C p 0).bind fun t => some (decide (t.2 = C.n))
def add (C : Ch) (g : List Int) : Option Ch := if 0 < C.n then (C.contains g).bind fun b => if b = true then some C else insert_ 30 C 0 g else some C
def idL (n : Nat) : List Int := (List.range n).map fun (i : Nat) => (i : Int)
def start (n : Nat) : Ch := ⟨n, (List.range n).map fun (i : Nat) => (⟨[(i : Int)], (List.replicate n none).set i (some (idL n)), []⟩ : Lv)⟩
def addAll : List (List Int) → Ch → Option Ch
  | [], C => some C
  | g :: r, C => (add C g).bind (addAll r)
def new_ (n : Nat) (gens : List (List Int)) : Option Ch := addAll gens (start n)
def belowF (C : Ch) (k : Nat) : Int := (C.levels.drop k).foldl (fun a L => wrap64 (a * (L.orbit.length : Int))) 1
def redLoop (total : Int) : List (List Int) → Ch → List (List Int) → Option (List (List Int))
  | [], _, out => some out
  | p :: r, C, out => (C.contains p).bind fun b => if b = true then (if belowF C 0 = total then some out else redLoop total r C out)
      else if out.length < 1000 then (add C p).bind fun C' => if belowF C' 0 = total then some (out ++ [p]) else redLoop total r C' (out ++ [p]) else none
def reducedM (n : Nat) (all : List (List Int)) : Option (List (List Int)) := (new_ n []).bind fun C => redLoop (all.length : Int) all C []
def idxIn (b : Int) (u : List Int) (pk : Int) : List Int → Int → Int → Option (Int × Int)
  | [], n, a => some (n, a)
  | x :: r, n, a => (at_ u x).bind fun ux => idxIn b u pk r (if ux < pk then wrap64 (n + b) else n) (if ux = pk then x else a)
def indexL (C : Ch) (p : List Int) : Nat → Nat → List Int → Int → Option (Int × Bool)
  | 0, _, _, _ => none
  | q + 1, k, u, n => if k < C.n then (C.levels[k]?).bind fun L => (p[k]?).bind fun pk => if L.orbit.length < 1000 then (idxIn (belowF C (k + 1)) u pk L.orbit n (-1)).bind fun t =>
      if t.2 < 0 then some (0, false) else (C.word k t.2).bind fun o => o.bind fun w => (mulO w u).bind fun u' => indexL C p q (k + 1) u' t.1 else none
    else some (n, true)
def indexM (C : Ch) (p : List Int) : Option (Int × Bool) := indexL C p 30 0 (idL C.n) 0
def bestO (u : List Int) : List Int → Int → Option Int
  | [], b => some b
  | x :: r, b => (at_ u x).bind fun ux => (at_ u b).bind fun ub => bestO u r (if ux < ub then x else b)
def leastM (C : Ch) : Nat → Nat → List Int → Option (List Int)
  | 0, _, _ => none
  | q + 1, k, u => if k < C.n then (C.levels[k]?).bind fun L => if L.orbit.length < 1000 then (L.orbit[0]?).bind fun b0 => (bestO u L.orbit b0).bind fun b => (C.word k b).bind fun o => o.bind fun w => (mulO w u).bind fun u' => leastM C q (k + 1) u' else none
    else some u
structure AC (n : Nat) where
  T : Nat → Nat → Option (Pm n)
  S : Nat → List (Pm n)
  O : Nat → List Nat
variable {n : Nat}
def AC.lv (A : AC n) (k : Nat) : Lv := ⟨ints (A.O k), (List.range n).map fun x => (A.T k x).map Pm.l, (A.S k).map Pm.l⟩
def AC.enc (A : AC n) : Ch := ⟨n, (List.range n).map A.lv⟩
theorem AC.level (A : AC n) {k : Nat} (hk : k < n) : A.enc.levels[k]? = some (A.lv k) := by simp [AC.enc, List.getElem?_map, List.getElem?_range hk]
theorem AC.words_at (A : AC n) {k x : Nat} (hx : x < n) : (A.lv k).words[x]? = some ((A.T k x).map Pm.l) := by simp [AC.lv, List.getElem?_map, List.getElem?_range hx]
theorem AC.word_at (A : AC n) {k x : Nat} (hk : k < n) (hx : x < n) : A.enc.word k (x : Int) = some ((A.T k x).map Pm.l) := by
  unfold Ch.word
  rw [if_pos (by omega), A.level hk]
  simp only [Option.bind_some, Int.toNat_natCast]
  exact A.words_at hx
def AC.addGen (A : AC n) (k : Nat) (g : Pm n) : AC n := ⟨A.T, fun j => if j = k then A.S k ++ [g] else A.S j, A.O⟩
def AC.addWord (A : AC n) (k x : Nat) (p : Pm n) : AC n := ⟨fun j y => if j = k ∧ y = x then some p else A.T j y, A.S, fun j => if j = k then A.O k ++ [x] else A.O j⟩
theorem map_range_set {α : Type} (f : Nat → α) (m k : Nat) (v : α) : ((List.range m).map f).set k v = (List.range m).map fun j => if j = k then v else f j := by
  apply List.ext_getElem?
  intro i
  rw [List.getElem?_set]
  by_cases hi : i < m
  · simp only [List.getElem?_map, List.getElem?_range hi, Option.map_some, List.length_map, List.length_range]
    by_cases e : k = i
    · subst e; simp [hi]
    · rw [if_neg e, if_neg (fun h => e h.symm)]
  · rw [List.getElem?_eq_none (l := (List.range m).map f) (by simp; omega), List.getElem?_eq_none (by simp; omega)]
    simp only [List.length_map, List.length_range]
    split
    · rw [if_neg (by omega)]
    · rfl
theorem AC.enc_addGen (A : AC n) (k : Nat) (g : Pm n) : A.enc.put k ⟨(A.lv k).orbit, (A.lv k).words, (A.lv k).gens ++ [g.l]⟩ = (A.addGen k g).enc := by
  unfold Ch.put AC.enc
  simp only [map_range_set]
  congr 1
  refine List.map_congr_left fun j hj => ?_
  by_cases e : j = k
  · subst e; simp [AC.lv, AC.addGen]
  · rw [if_neg e]; simp [AC.lv, AC.addGen, e]
theorem AC.enc_addWord (A : AC n) (k x : Nat) (p : Pm n) : A.enc.put k ⟨(A.lv k).orbit ++ [(x : Int)], (A.lv k).words.set x (some p.l), (A.lv k).gens⟩ = (A.addWord k x p).enc := by
  unfold Ch.put AC.enc
  simp only [map_range_set]
  congr 1
  refine List.map_congr_left fun j hj => ?_
  by_cases e : j = k
  · subst e
    simp only [if_true, AC.lv, AC.addWord, map_range_set]
    congr 1
    · simp [ints]
    · refine List.map_congr_left fun y hy => ?_
      by_cases ey : y = x
      · simp [ey]
      · simp [ey]
  · rw [if_neg e]; simp [AC.lv, AC.addWord, e]
theorem at_lf {g : Nat → Nat} {m i : Nat} (hi : i < m) : at_ (lf g m) (i : Int) = some ((g i : Nat) : Int) := by
  unfold at_
  rw [if_pos (by omega), Int.toNat_natCast, lf_get? _ _ _ hi]
theorem mulA_map (b : List Int) (g : Nat → Nat) (m : Nat) (hb : ∀ i, g i < b.length → at_ b ((g i : Nat) : Int) = some (b.getD (g i) 0)) : ∀ (l : List Nat), (∀ i ∈ l, g i < b.length) → mulA (l.map fun i => ((g i : Nat) : Int)) b = some (l.map fun i => b.getD (g i) 0)
  | [], _ => rfl
  | i :: l, h => by
    simp only [List.map_cons, mulA]
    rw [hb i (h i (List.mem_cons_self ..)), mulA_map b g m hb l (fun j hj => h j (List.mem_cons_of_mem _ hj))]
    rfl
theorem at_getD (b : List Int) {i : Nat} (hi : i < b.length) : at_ b (i : Int) = some (b.getD i 0) := by
  unfold at_
  rw [if_pos (by omega), Int.toNat_natCast, List.getD_eq_getElem?_getD, List.getElem?_eq_getElem hi]
  rfl
theorem Pm.mulO (hn : n ≤ 1000) (p q : Pm n) : mulO p.l q.l = some (p * q).l := by
  unfold Bs.mulO
  rw [if_pos (by rw [p.len]; exact hn), p.l_eq]
  refine (mulA_map q.l p.ap n (fun i hi => at_getD _ hi) (List.range n) (fun i hi => by rw [q.len]; exact p.lt (List.mem_range.1 hi))).trans ?_
  congr 1
  rw [(p * q).l_eq]
  refine List.map_congr_left fun i hi => ?_
  have hi := List.mem_range.1 hi
  rw [Pm.mul_ap _ _ hi, q.l_eq, lf_getD _ _ _ (p.lt hi)]
theorem invFill_lf {g : Nat → Nat} {m : Nat} (h : Bij m g) : ∀ (d i : Nat), m - i = d → i ≤ m → invFill ((lf g m).drop i) i (invL g m i) = invL g m m
  | 0, i, hd, hi => by
    rw [List.drop_eq_nil_of_le (by rw [lf_length]; omega), show i = m by omega]; rfl
  | d + 1, i, hd, hi => by
    rw [List.drop_eq_getElem_cons (by rw [lf_length]; omega)]
    have e : (lf g m)[i]'(by rw [lf_length]; omega) = ((g i : Nat) : Int) := by
      have := lf_get? g m i (by omega)
      rw [List.getElem?_eq_getElem (by rw [lf_length]; omega)] at this
      exact Option.some.inj this
    rw [e, invFill, Int.toNat_natCast, invL_step h i (by omega)]
    exact invFill_lf h d (i + 1) (by omega) (by omega)
theorem Pm.invO (hn : n ≤ 1000) (p : Pm n) : invO p.l = some (p⁻¹).l := by
  unfold Bs.invO
  rw [if_pos (by rw [p.len]; exact hn), if_pos]
  · congr 1
    have := invFill_lf p.bij n 0 rfl (Nat.zero_le _)
    rw [List.drop_zero, invL_zero, invL_end p.bij, ← p.l_eq] at this
    rw [p.len, this]
    rfl
  · rw [List.all_eq_true]
    intro x hx
    have := p.ok.1 x hx
    simp [this.1, this.2]
theorem Pm.at_ (p : Pm n) {k : Nat} (hk : k < n) : p.l[k]? = some ((p.ap k : Nat) : Int) := by
  have := lf_get? p.ap n k hk
  rwa [← p.l_eq] at this
def InD (A : AC n) : Nat → Nat → Pm n → Prop
  | 0, _, p => p = 1
  | d + 1, k, p => ∃ t, A.T k (p.ap k) = some t ∧ InD A d (k + 1) (p * t⁻¹)
def In (A : AC n) (k : Nat) (p : Pm n) : Prop := InD A (n - k) k p
theorem In.step {A : AC n} {k : Nat} (hk : k < n) {p : Pm n} : In A k p ↔ ∃ t, A.T k (p.ap k) = some t ∧ In A (k + 1) (p * t⁻¹) := by
  unfold In
  rw [show n - k = (n - (k + 1)) + 1 by omega]
  rfl
theorem In.last {A : AC n} {k : Nat} (hk : n ≤ k) {p : Pm n} : In A k p ↔ p = 1 := by
  unfold In
  rw [show n - k = 0 by omega]
  rfl
def More (A B : AC n) : Prop := ∀ k x t, A.T k x = some t → B.T k x = some t
theorem InD.mono {A B : AC n} (h : More A B) : ∀ (d k : Nat) (p : Pm n), InD A d k p → InD B d k p
  | 0, _, _, hp => hp
  | d + 1, k, p, hp => by
    obtain ⟨t, ht, hr⟩ := hp
    exact ⟨t, h _ _ _ ht, InD.mono h d _ _ hr⟩
theorem In.mono {A B : AC n} (h : More A B) {k : Nat} {p : Pm n} (hp : In A k p) : In B k p := InD.mono h _ _ _ hp
structure Inv (A : AC n) : Prop where
  word : ∀ k x t, A.T k x = some t → k < n ∧ x < n ∧ t.ap k = x ∧ Fix k t ∧ Gen (A.S k) t
  base : ∀ k, k < n → A.T k k = some 1
  orb : ∀ k x, k < n → (x ∈ A.O k ↔ A.T k x ≠ none)
  nodup : ∀ k, k < n → (A.O k).Nodup
  gens : ∀ k s, s ∈ A.S k → Fix k s
  down : ∀ k s, s ∈ A.S (k + 1) → Gen (A.S k) s
  top : ∀ k, n ≤ k → A.S k = []
def Cmp (A : AC n) (k : Nat) : Prop := ∀ j x t s, k ≤ j → j < n → A.T j x = some t → s ∈ A.S j → In A j (t * s)
theorem Cmp.less {A : AC n} {k : Nat} (h : Cmp A k) : Cmp A (k + 1) := fun j x t s hj => h j x t s (by omega)
theorem In.one {A : AC n} (h : Inv A) : ∀ (d k : Nat), n - k = d → In A k (1 : Pm n)
  | 0, k, hd => (In.last (by omega)).2 rfl
  | d + 1, k, hd => (In.step (by omega)).2 ⟨1, by rw [Pm.one_ap (by omega)]; exact h.base k (by omega), by rw [Pm.mul_one_inv]; exact In.one h d (k + 1) (by omega)⟩
theorem In.fix {A : AC n} (h : Inv A) : ∀ (d k : Nat) (p : Pm n), n - k = d → In A k p → Fix k p
  | 0, k, p, hd, hp => by
    rw [(In.last (by omega)).1 hp]; exact Fix.one k
  | d + 1, k, p, hd, hp => by
    obtain ⟨t, ht, hr⟩ := (In.step (by omega)).1 hp
    have h1 := In.fix h d (k + 1) _ (by omega) hr
    have := (h1.less (Nat.le_succ k)).mul (h.word _ _ _ ht).2.2.2.1
    rwa [Pm.inv_mul_r] at this
theorem rest_fix {A : AC n} (h : Inv A) {k : Nat} {p t : Pm n} (hf : Fix k p) (ht : A.T k (p.ap k) = some t) : Fix (k + 1) (p * t⁻¹) := by
  obtain ⟨hk, _, e, hft, _⟩ := h.word _ _ _ ht
  refine (hf.mul hft.inv).succ fun _ => ?_
  rw [Pm.mul_ap _ _ hk, ← e]
  exact t.inv_ap_ap hk
theorem In.iff_gen {A : AC n} (h : Inv A) : ∀ (d k : Nat), n - k = d → Cmp A k → ∀ p, In A k p ↔ Gen (A.S k) p := by
  intro d
  induction d with
  | zero =>
    intro k hd hc p
    rw [In.last (by omega), h.top k (by omega)]
    exact ⟨fun e => e ▸ Gen.one _, Gen.nil⟩
  | succ d ih =>
    intro k hd hc p
    have hk : k < n := by omega
    have ih' := ih (k + 1) (by omega) hc.less
    constructor
    · intro hp
      obtain ⟨t, ht, hr⟩ := (In.step hk).1 hp
      have h1 := Gen.mono (h.down k) ((ih' _).1 hr)
      have := h1.mul (h.word _ _ _ ht).2.2.2.2
      rwa [Pm.inv_mul_r] at this
    · intro hp
      refine Gen.induct (P := fun p => In A k p) (In.one h _ k hd) ?_ hp
      intro p s hp hgp hs
      obtain ⟨t, ht, hr⟩ := (In.step hk).1 hp
      obtain ⟨_, _, e1, hft, _⟩ := h.word _ _ _ ht
      have h2 := hc k _ t s (Nat.le_refl _) hk ht hs
      obtain ⟨t', ht', hr'⟩ := (In.step hk).1 h2
      have e : (p * s).ap k = (t * s).ap k := by
        rw [Pm.mul_ap _ _ hk, Pm.mul_ap _ _ hk, e1]
      refine (In.step hk).2 ⟨t', by rw [e]; exact ht', ?_⟩
      have h3 := (ih' _).2 (((ih' _).1 hr).mul ((ih' _).1 hr'))
      have e2 : p * t⁻¹ * (t * s * t'⁻¹) = p * s * t'⁻¹ := by
        rw [Pm.mul_assoc, ← Pm.mul_assoc t⁻¹, Pm.inv_mul_l, ← Pm.mul_assoc]
      rwa [e2] at h3
theorem sift_tells {A : AC n} (hn : n ≤ 20) (h : Inv A) : ∀ (d k q : Nat) (p : Pm n), n - k = d → k ≤ n → d < q → Fix k p → ∃ (rest : Pm n) (j : Nat), sift q A.enc p.l k = some (rest.l, j) ∧ j ≤ n ∧ (j = n ↔ In A k p) := by
  intro d
  induction d with
  | zero =>
    intro k q p hd hkn hq hf
    obtain ⟨q, rfl⟩ : ∃ m, q = m + 1 := ⟨q - 1, by omega⟩
    refine ⟨p, n, ?_, Nat.le_refl _, fun _ => (In.last (by omega)).2 ?_, fun _ => rfl⟩
    · rw [sift, if_neg (show ¬ k < A.enc.n from by show ¬ k < n; omega)]; rfl
    · have e : k = n := by omega
      subst e
      exact hf.all
  | succ d ih =>
    intro k q p hd hkn hq hf
    obtain ⟨q, rfl⟩ : ∃ m, q = m + 1 := ⟨q - 1, by omega⟩
    have hk : k < n := by omega
    rw [sift, if_pos (show k < A.enc.n from hk), Pm.at_ p hk]
    simp only [Option.bind_some]
    rw [A.word_at hk (p.lt hk)]
    simp only [Option.bind_some]
    cases ht : A.T k (p.ap k) with
    | none =>
      refine ⟨p, k, rfl, by omega, fun e => by omega, fun hi => ?_⟩
      obtain ⟨t, ht', _⟩ := (In.step hk).1 hi
      rw [ht] at ht'; cases ht'
    | some t =>
      simp only [Option.map_some]
      by_cases e : p.ap k = k
      · rw [if_pos (by rw [e])]
        have e1 : t = 1 := by
          rw [e, h.base k hk] at ht
          exact (Option.some.inj ht).symm
        obtain ⟨rest, j, hs, hj, hi⟩ := ih (k + 1) q p (by omega) (by omega) (by omega) (hf.succ fun _ => e)
        refine ⟨rest, j, hs, hj, hi.trans ?_⟩
        rw [In.step hk]
        constructor
        · intro hi
          exact ⟨t, ht, by rw [e1, Pm.mul_one_inv]; exact hi⟩
        · rintro ⟨t', ht', hr⟩
          rw [ht] at ht'
          obtain rfl := Option.some.inj ht'
          rwa [e1, Pm.mul_one_inv] at hr
      · rw [if_neg (by omega), Pm.invO (by omega), Option.bind_some, Pm.mulO (by omega), Option.bind_some]
        obtain ⟨rest, j, hs, hj, hi⟩ := ih (k + 1) q (p * t⁻¹) (by omega) (by omega) (by omega) (rest_fix h hf ht)
        refine ⟨rest, j, hs, hj, hi.trans ?_⟩
        rw [In.step hk]
        constructor
        · intro hi
          exact ⟨t, ht, hi⟩
        · rintro ⟨t', ht', hr⟩
          rw [ht] at ht'
          obtain rfl := Option.some.inj ht'
          exact hr
end Go.Proofs.Ytmbldnoepjmhhaa.Bs
end
section
/- How a stabilizer chain lies in memory: each block has a role; what is said stays where its blocks stay. -/
namespace Go.Proofs.Ytmbldnoepjmhhaa.Bs
open Go.RowKit Go.Proofs.YtmbldnoepjmhhaaW.PrintWords Go.Proofs.YtmbldnoepjmhhaaW.PrintLast Go.Proofs.YtmbldnoepjmhhaaW.PrintMore Go.Proofs.Ytmbldnoepjmhhaa.Plain
abbrev Sv := Option Addr × Nat × Nat
def svE (t : Sv) : Value := .slice t.1 t.2.1 t.2.2
abbrev kv : Kd Sv := Kd.scalar svE (fun _ => rfl)
def PermIn (ρ : Nat → Nat) (w : World) (v : Value) (p : List Int) : Prop := Kd.V (Kd.int .i64) 3 w 0 (fun b => ρ b = 0) v p
theorem PermIn.move {ρ ρ' : Nat → Nat} {w w' : World} {v : Value} {p : List Int} (h : PermIn ρ w v p) (hr : ∀ b, b < w.heap.size → ρ b = 0 → ρ' b = 0 ∧ w'.heap[b]? = w.heap[b]?) : PermIn ρ' w' v p := by
  have h1 := Kd.V_bound h
  exact Kd.V_step (Kd.V_mono (Kd.V_step h1 (fun k hk hlt => (hr k hlt hk.1).2)) (fun k hk => (hr k hk.2 hk.1).1)) (fun _ _ _ => rfl)
def WordIn (ρ : Nat → Nat) (w : World) (v : Value) : Option (List Int) → Prop
  | none => v = .slice none 0 0
  | some p => PermIn ρ w v p ∧ 0 < p.length
theorem WordIn.move {ρ ρ' : Nat → Nat} {w w' : World} {v : Value} {o : Option (List Int)} (h : WordIn ρ w v o) (hr : ∀ b, b < w.heap.size → ρ b = 0 → ρ' b = 0 ∧ w'.heap[b]? = w.heap[b]?) : WordIn ρ' w' v o := by
  cases o with
  | none => exact h
  | some p => exact ⟨h.1.move hr, h.2⟩
structure LD where
  bl : Nat
  bw : Nat
  vo : Value
  vg : Value
  ws : List Sv
  gs : List Sv
structure LevAt (ρ : Nat → Nat) (w : World) (base n k : Nat) (L : Lv) (D : LD) : Prop where
  rl : ρ D.bl = 4 * k + 1
  rw' : ρ D.bw = 4 * k + 2
  ro : ∀ b, D.vo.ownBlock = some b → ρ b = 4 * k + 3
  rg : ∀ b, D.vg.ownBlock = some b → ρ b = 4 * k + 4
  c1 : w.cell? ⟨D.bl, 1, none⟩ = some D.vo
  c2 : w.cell? ⟨D.bl, 2, none⟩ = some (.slice (some ⟨D.bw, 0, none⟩) n n)
  c3 : w.cell? ⟨D.bl, 3, none⟩ = some D.vg
  c0 : w.cell? ⟨D.bl, 0, none⟩ = some (.int .i64 (k : Int))
  fr : ∀ i, w.frozen? ⟨D.bl, i, none⟩ = false
  wrd : Kd.R kv 49 w base (fun b => b = D.bw) (.slice (some ⟨D.bw, 0, none⟩) n n) D.ws
  wlen : L.words.length = n
  wp : ∀ (x : Nat) (v : Sv) (o : Option (List Int)), D.ws[x]? = some v → L.words[x]? = some o → WordIn ρ w (svE v) o
  orb : Kd.R (Kd.int .i64) 3 w base (fun b => some b = D.vo.ownBlock) D.vo L.orbit
  gen : Kd.R kv 49 w base (fun b => some b = D.vg.ownBlock) D.vg D.gs
  glen : D.gs.length = L.gens.length
  gp : ∀ (j : Nat) (v : Sv) (p : List Int), D.gs[j]? = some v → L.gens[j]? = some p → PermIn ρ w (svE v) p
theorem cell_move {w w' : World} {b i : Nat} {v : Value} (h : w.cell? ⟨b, i, none⟩ = some v) (hr : b < w.heap.size → w'.heap[b]? = w.heap[b]?) : w'.cell? ⟨b, i, none⟩ = some v :=
  (World.cell?_of_block (w := w) (w' := w') (a := ⟨b, i, none⟩) (hr (World.block_lt_of_cell? w ⟨b, i, none⟩ h))).trans h
theorem LevAt.blt {ρ : Nat → Nat} {w : World} {base n k : Nat} {L : Lv} {D : LD} (h : LevAt ρ w base n k L D) : D.bl < w.heap.size := World.block_lt_of_cell? w ⟨D.bl, 0, none⟩ h.c0
theorem LevAt.bwlt {ρ : Nat → Nat} {w : World} {base n k : Nat} {L : Lv} {D : LD} (h : LevAt ρ w base n k L D) : D.bw < w.heap.size := Kd.R_lt h.wrd D.bw rfl
theorem LevAt.wslen {ρ : Nat → Nat} {w : World} {base n k : Nat} {L : Lv} {D : LD} (h : LevAt ρ w base n k L D) : D.ws.length = n := (Kd.R_reads' h.wrd).1.symm
theorem LevAt.move {ρ ρ' : Nat → Nat} {w w' : World} {base n k : Nat} {L : Lv} {D : LD} (h : LevAt ρ w base n k L D)
    (hρ : ∀ b, b < w.heap.size → ρ' b = ρ b) (hm : ∀ b, b < w.heap.size → (ρ b = 0 ∨ ρ b = 4 * k + 1 ∨ ρ b = 4 * k + 2 ∨ ρ b = 4 * k + 3 ∨ ρ b = 4 * k + 4) → w'.heap[b]? = w.heap[b]?) : LevAt ρ' w' base n k L D := by
  have hbl := h.blt
  have hbw := h.bwlt
  have hz : ∀ b, b < w.heap.size → ρ b = 0 → ρ' b = 0 ∧ w'.heap[b]? = w.heap[b]? := fun b hb hr => ⟨(hρ b hb).trans hr, hm b hb (.inl hr)⟩
  have ho : ∀ b, D.vo.ownBlock = some b → b < w.heap.size := fun b hb => Kd.R_lt h.orb b hb
  have hg : ∀ b, D.vg.ownBlock = some b → b < w.heap.size := fun b hb => Kd.R_lt h.gen b hb
  have hmb : w'.heap[D.bl]? = w.heap[D.bl]? := hm _ hbl (.inr (.inl h.rl))
  exact {
    rl := (hρ _ hbl).trans h.rl
    rw' := (hρ _ hbw).trans h.rw'
    ro := fun b hb => (hρ _ (ho b hb)).trans (h.ro b hb)
    rg := fun b hb => (hρ _ (hg b hb)).trans (h.rg b hb)
    c1 := cell_move h.c1 (fun _ => hmb)
    c2 := cell_move h.c2 (fun _ => hmb)
    c3 := cell_move h.c3 (fun _ => hmb)
    c0 := cell_move h.c0 (fun _ => hmb)
    fr := fun i => (World.frozen?_of_block (w := w) (w' := w') (a := ⟨D.bl, i, none⟩) hmb).trans (h.fr i)
    wrd := Kd.R_step h.wrd (fun b hb hlt => hm b hlt (.inr (.inr (.inl (hb ▸ h.rw')))))
    wlen := h.wlen
    wp := fun x v o hv hl => (h.wp x v o hv hl).move hz
    orb := Kd.R_step h.orb (fun b hb hlt => hm b hlt (.inr (.inr (.inr (.inl (h.ro b hb.symm))))))
    gen := Kd.R_step h.gen (fun b hb hlt => hm b hlt (.inr (.inr (.inr (.inr (h.rg b hb.symm))))))
    glen := h.glen
    gp := fun j v p hv hl => (h.gp j v p hv hl).move hz }
structure ChainAt (ρ : Nat → Nat) (w : World) (base c : Nat) (la : Option Addr) (capL : Nat) (C : Ch) (d : Nat → LD) : Prop where
  len : C.levels.length = C.n
  small : C.n ≤ 20
  fresh : ∀ b, w.heap.size ≤ b → ρ b = 0
  rb : ∀ b, ρ b ≠ 0 → base ≤ b
  rc : ρ c = 0
  hn : w.cell? ⟨c, 0, none⟩ = some (.int .i64 (C.n : Int))
  hl : w.cell? ⟨c, 1, none⟩ = some (.slice la C.n capL)
  hcap : C.n ≤ capL
  ls : 0 < C.n → ∃ b, la = some ⟨b, 0, none⟩ ∧ ρ b = 0 ∧ ∀ k, k < C.n → w.cell? ⟨b, k, none⟩ = some (.pointer (some ⟨(d k).bl, 0, none⟩))
  lv : ∀ k L, C.levels[k]? = some L → LevAt ρ w base C.n k L (d k)
structure Step (base : Nat) (ρ ρ' : Nat → Nat) (w w' : World) : Prop where
  bel : Below base w w'
  role : ∀ b, b < w.heap.size → ρ' b = ρ b
  keep : ∀ b, b < w.heap.size → (ρ b = 0 ∨ 1000 ≤ ρ b) → w'.heap[b]? = w.heap[b]?
theorem Step.refl (base : Nat) (ρ : Nat → Nat) (w : World) : Step base ρ ρ w w := ⟨Below.refl _ _, fun _ _ => rfl, fun _ _ _ => rfl⟩
theorem Step.trans {base : Nat} {ρ ρ' ρ'' : Nat → Nat} {w w' w'' : World} (h : Step base ρ ρ' w w') (g : Step base ρ' ρ'' w' w'') : Step base ρ ρ'' w w'' where
  bel := h.bel.trans g.bel
  role := fun b hb => (g.role b (Nat.lt_of_lt_of_le hb h.bel.size)).trans (h.role b hb)
  keep := fun b hb hr => (g.keep b (Nat.lt_of_lt_of_le hb h.bel.size) (by rw [h.role b hb]; exact hr)).trans (h.keep b hb hr)
theorem Step.of_below {base : Nat} {ρ : Nat → Nat} {w w' : World} (h : Below w.heap.size w w') (hb : base ≤ w.heap.size) : Step base ρ ρ w w' := ⟨h.mono hb, fun _ _ => rfl, fun b hb _ => h.block b hb⟩
theorem PermIn.step {base : Nat} {ρ ρ' : Nat → Nat} {w w' : World} {v : Value} {p : List Int} (h : PermIn ρ w v p) (g : Step base ρ ρ' w w') : PermIn ρ' w' v p := h.move fun b hb hr => ⟨(g.role b hb).trans hr, g.keep b hb (.inl hr)⟩
theorem ChainAt.below {ρ : Nat → Nat} {w w' : World} {base c capL : Nat} {la : Option Addr} {C : Ch} {d : Nat → LD} (h : ChainAt ρ w base c la capL C d) (hb : Below w.heap.size w w') : ChainAt ρ w' base c la capL C d where
  len := h.len
  small := h.small
  fresh := fun b hlt => h.fresh b (Nat.le_trans hb.size hlt)
  rb := h.rb
  rc := h.rc
  hn := cell_move h.hn (fun hlt => hb.block _ hlt)
  hl := cell_move h.hl (fun hlt => hb.block _ hlt)
  hcap := h.hcap
  ls := fun h0 => by
    obtain ⟨b, e, hr, hc⟩ := h.ls h0
    exact ⟨b, e, hr, fun k hk => cell_move (hc k hk) (fun hlt => hb.block _ hlt)⟩
  lv := fun k L hL => (h.lv k L hL).move (fun _ _ => rfl) (fun b hlt _ => hb.block b hlt)
theorem ChainAt.perm {ρ : Nat → Nat} {w w' : World} {base c capL : Nat} {la : Option Addr} {C : Ch} {d : Nat → LD} (h : ChainAt ρ w base c la capL C d) {v : Value} {p : List Int} (hp : Kd.R (Kd.int .i64) 3 w' w.heap.size (fun _ => True) v p) : PermIn ρ w' v p := by
  have h1 := Kd.R_bound hp
  exact Kd.V_mono (Kd.R_V h1) (fun k hk => h.fresh k hk.2.1)
theorem PermIn.reads {ρ : Nat → Nat} {w : World} {v : Value} {p : List Int} (h : PermIn ρ w v p) : ∃ A c, v = .slice A p.length c ∧ p.length ≤ c ∧ Kd.C (Kd.int .i64) w A p.length p := by
  obtain ⟨A, c, e, hc, hf⟩ := h
  exact ⟨A, c, e, hc, Kd.F_now hf⟩
end Go.Proofs.Ytmbldnoepjmhhaa.Bs
end
section
/- What a store into a stabilizer chain in memory does to what is said of it. -/
namespace Go.Proofs.Ytmbldnoepjmhhaa.Bs
open Go.RowKit Go.Proofs.YtmbldnoepjmhhaaW.PrintWords Go.Proofs.YtmbldnoepjmhhaaW.PrintLast Go.Proofs.YtmbldnoepjmhhaaW.PrintMore Go.Proofs.Ytmbldnoepjmhhaa.Plain
theorem Ch.put_level {C : Ch} {k : Nat} {L : Lv} (hk : k < C.levels.length) (j : Nat) : (C.put k L).levels[j]? = if j = k then some L else C.levels[j]? := by
  unfold Ch.put
  rw [List.getElem?_set]
  by_cases e : k = j
  · subst e; simp [hk]
  · rw [if_neg e, if_neg (fun h => e h.symm)]
theorem Ch.put_put (C : Ch) (k : Nat) (L L' : Lv) : (C.put k L).put k L' = C.put k L' := by
  unfold Ch.put
  simp
theorem Ch.put_len (C : Ch) (k : Nat) (L : Lv) : (C.put k L).levels.length = C.levels.length := by simp [Ch.put]
theorem getElem?_snoc {α : Type} (l : List α) (a : α) (j : Nat) : (l ++ [a])[j]? = if j < l.length then l[j]? else if j = l.length then some a else none := by
  by_cases h : j < l.length
  · rw [if_pos h, List.getElem?_append_left h]
  · rw [if_neg h]
    by_cases e : j = l.length
    · subst e; simp
    · rw [if_neg e, List.getElem?_eq_none (by simp; omega)]
section
variable {ρ : Nat → Nat} {w : World} {base c capL : Nat} {la : Option Addr} {C : Ch} {d : Nat → LD}
theorem ChainAt.klt (h : ChainAt ρ w base c la capL C d) {k : Nat} {L : Lv} (hL : C.levels[k]? = some L) : k < C.n := by
  rw [← h.len]; exact (List.getElem?_eq_some_iff.1 hL).1
theorem ChainAt.turn (h : ChainAt ρ w base c la capL C d) {k : Nat} {L L' : Lv} (hL : C.levels[k]? = some L) {ρ' : Nat → Nat} {w' : World} {D' : LD}
    (hbl : D'.bl = (d k).bl) (hs : w.heap.size ≤ w'.heap.size) (hρ : ∀ b, b < w.heap.size → ρ' b = ρ b) (hf : ∀ b, w'.heap.size ≤ b → ρ' b = 0) (hb : ∀ b, ρ' b ≠ 0 → base ≤ b) (hbel : Below base w w')
    (hm : ∀ b, b < w.heap.size → ¬ (4 * k + 1 ≤ ρ b ∧ ρ b ≤ 4 * k + 4) → w'.heap[b]? = w.heap[b]?)
    (hnew : LevAt ρ' w' base C.n k L' D') : ChainAt ρ' w' base c la capL (C.put k L') (fun j => if j = k then D' else d j) ∧ Step base ρ ρ' w w' := by
  have hk := h.klt hL
  have hc : c < w.heap.size := World.block_lt_of_cell? w ⟨c, 0, none⟩ h.hn
  have kc : w'.heap[c]? = w.heap[c]? := hm c hc (by rw [h.rc]; omega)
  refine ⟨{ len := ?_, small := h.small, fresh := hf, rb := hb, rc := (hρ c hc).trans h.rc, hn := cell_move h.hn (fun _ => kc), hl := cell_move h.hl (fun _ => kc), hcap := h.hcap, ls := ?_, lv := ?_ }, ⟨hbel, hρ, fun b hb hr => hm b hb (by have := h.small; omega)⟩⟩
  · rw [Ch.put_len]; exact h.len
  · intro h0
    obtain ⟨b, e, hr, hcell⟩ := h.ls h0
    have hbl' : b < w.heap.size := World.block_lt_of_cell? w ⟨b, k, none⟩ (hcell k hk)
    refine ⟨b, e, (hρ b hbl').trans hr, fun j hj => ?_⟩
    have := cell_move (w' := w') (hcell j hj) (fun hlt => hm b hlt (by rw [hr]; omega))
    by_cases ej : j = k
    · subst ej; rw [if_pos rfl, hbl]; exact this
    · rw [if_neg ej]; exact this
  · intro j M hM
    rw [Ch.put_level (by rw [h.len]; exact hk)] at hM
    by_cases ej : j = k
    · subst ej
      rw [if_pos rfl] at hM ⊢
      obtain rfl := Option.some.inj hM
      exact hnew
    · rw [if_neg ej] at hM ⊢
      exact (h.lv j M hM).move hρ (fun b hb hr => hm b hb (by omega))
theorem ChainAt.addGen (h : ChainAt ρ w base c la capL C d) {k : Nat} {L : Lv} (hL : C.levels[k]? = some L) {g : Sv} {p : List Int} (hg : PermIn ρ w (svE g) p) {ok : Nat → Prop} {v1 : Value} {w1 : World}
    (hR : Kd.R kv 49 w1 base ok v1 ((d k).gs ++ [g])) (hgr : w.grownBy w1 (d k).vg.ownBlock) (hat : v1.ownBlock = (d k).vg.ownBlock ∨ ∃ b, v1.ownBlock = some b ∧ w.heap.size ≤ b) (hbase : base ≤ w.heap.size) :
    ∃ ρ' d', ChainAt ρ' (w1.setCell ⟨(d k).bl, 3, none⟩ v1) base c la capL (C.put k ⟨L.orbit, L.words, L.gens ++ [p]⟩) d' ∧ (∀ j, (d' j).bl = (d j).bl) ∧ Step base ρ ρ' w (w1.setCell ⟨(d k).bl, 3, none⟩ v1) := by
  have hl := h.lv k L hL
  have hbl := hl.blt
  have hbb : base ≤ (d k).bl := h.rb _ (by rw [hl.rl]; omega)
  have hv1 : ∀ b, v1.ownBlock = some b → b ≠ (d k).bl ∧ (b < w.heap.size → ρ b = 4 * k + 4) ∧ base ≤ b ∧ b < w1.heap.size := by
    intro b hb
    have h1 : b < w.heap.size → ρ b = 4 * k + 4 := fun hlt => by
      rcases hat with e | ⟨b', e, hle⟩
      · exact hl.rg b (e ▸ hb)
      · rw [e] at hb; have := Option.some.inj hb; omega
    refine ⟨fun e => ?_, h1, Kd.R_base hR b hb, Kd.R_lt hR b hb⟩
    have := h1 (e ▸ hbl)
    rw [e, hl.rl] at this
    omega
  have hkeep : ∀ b, b < w.heap.size → b ≠ (d k).bl → ρ b ≠ 4 * k + 4 → (w1.setCell ⟨(d k).bl, 3, none⟩ v1).heap[b]? = w.heap[b]? := fun b hb hne hr =>
    (Below.heap_setCell w1 ⟨(d k).bl, 3, none⟩ v1 b hne).trans (hgr.block b hb (fun e => hr (hl.rg b e.symm)))
  have hsz : (w1.setCell ⟨(d k).bl, 3, none⟩ v1).heap.size = w1.heap.size := by simp [World.setCell]
  have hblr : w1.heap[(d k).bl]? = w.heap[(d k).bl]? := hgr.block _ hbl (fun e => by have := hl.rg _ e.symm; rw [hl.rl] at this; omega)
  have hρ : ∀ b, b < w.heap.size → (if some b = v1.ownBlock then 4 * k + 4 else ρ b) = ρ b := fun b hb => by
    by_cases e : some b = v1.ownBlock
    · rw [if_pos e, (hv1 b e.symm).2.1 hb]
    · rw [if_neg e]
  have T := h.turn (L' := ⟨L.orbit, L.words, L.gens ++ [p]⟩) (D' := { (d k) with vg := v1, gs := (d k).gs ++ [g] }) (ρ' := fun b => if some b = v1.ownBlock then 4 * k + 4 else ρ b) (w' := w1.setCell ⟨(d k).bl, 3, none⟩ v1) hL rfl (by rw [hsz]; exact hgr.size) hρ
    (fun b hb => by
      rw [hsz] at hb
      have hne : ¬ some b = v1.ownBlock := fun e => by have := (hv1 b e.symm).2.2.2; omega
      show (if some b = v1.ownBlock then 4 * k + 4 else ρ b) = 0
      rw [if_neg hne]
      exact h.fresh b (Nat.le_trans hgr.size hb))
    (fun b hb => by
      by_cases e : some b = v1.ownBlock
      · exact (hv1 b e.symm).2.2.1
      · have hb' : (if some b = v1.ownBlock then 4 * k + 4 else ρ b) ≠ 0 := hb
        rw [if_neg e] at hb'; exact h.rb b hb')
    (((Below.refl _ _).grown hgr hbase (fun b e => h.rb b (by rw [hl.rg b e]; omega))).setCell hbb _)
    (fun b hb hr => hkeep b hb (fun e => hr (by rw [e, hl.rl]; omega)) (fun e => hr (by omega)))
    { rl := (hρ _ hbl).trans hl.rl
      rw' := (hρ _ hl.bwlt).trans hl.rw'
      ro := fun b hb => (hρ b (Kd.R_lt hl.orb b hb)).trans (hl.ro b hb)
      rg := fun b hb => if_pos hb.symm
      c1 := (World.cell?_setCell_other _ _ _ _ (by simp)).trans (cell_move hl.c1 (fun _ => hblr))
      c2 := (World.cell?_setCell_other _ _ _ _ (by simp)).trans (cell_move hl.c2 (fun _ => hblr))
      c3 := World.cell?_setCell_same' _ _ _ (by rw [cell_move hl.c3 (fun _ => hblr)]; rfl)
      c0 := (World.cell?_setCell_other _ _ _ _ (by simp)).trans (cell_move hl.c0 (fun _ => hblr))
      fr := fun i => by rw [World.frozen?_setCell]; exact (World.frozen?_of_block (w := w) (a := ⟨(d k).bl, i, none⟩) hblr).trans (hl.fr i)
      wrd := Kd.R_step hl.wrd (fun b hb hlt => hkeep b hlt (fun e => by have := hl.rw'; rw [← hb, e, hl.rl] at this; omega) (fun e => by have := hl.rw'; rw [← hb, e] at this; omega))
      wlen := hl.wlen
      wp := fun x v o hv ho => (hl.wp x v o hv ho).move (fun b hb hr => ⟨(hρ b hb).trans hr, hkeep b hb (fun e => by rw [e, hl.rl] at hr; omega) (fun e => by omega)⟩)
      orb := Kd.R_step hl.orb (fun b hb hlt => hkeep b hlt (fun e => by have := hl.ro b hb.symm; rw [e, hl.rl] at this; omega) (fun e => by have := hl.ro b hb.symm; omega))
      gen := Kd.R_far (Kd.R_tight rfl hR) (fun b hb => (hv1 b hb.symm).1) _
      glen := by simp [hl.glen]
      gp := fun j v p' hv hp => by
        rw [getElem?_snoc] at hv hp
        rw [hl.glen] at hv
        by_cases h1 : j < L.gens.length
        · rw [if_pos h1] at hv hp
          exact (hl.gp j v p' hv hp).move (fun b hb hr => ⟨(hρ b hb).trans hr, hkeep b hb (fun e => by rw [e, hl.rl] at hr; omega) (fun e => by omega)⟩)
        · rw [if_neg h1] at hv hp
          by_cases h2 : j = L.gens.length
          · rw [if_pos h2] at hv hp
            obtain rfl := Option.some.inj hv
            obtain rfl := Option.some.inj hp
            exact hg.move (fun b hb hr => ⟨(hρ b hb).trans hr, hkeep b hb (fun e => by rw [e, hl.rl] at hr; omega) (fun e => by omega)⟩)
          · rw [if_neg h2] at hv; cases hv }
  exact ⟨_, _, T.1, fun j => by by_cases e : j = k <;> simp [e], T.2⟩
theorem ChainAt.addOrbit (h : ChainAt ρ w base c la capL C d) {k : Nat} {L : Lv} (hL : C.levels[k]? = some L) {x : Int} {ok : Nat → Prop} {v1 : Value} {w1 : World}
    (hR : Kd.R (Kd.int .i64) 3 w1 base ok v1 (L.orbit ++ [x])) (hgr : w.grownBy w1 (d k).vo.ownBlock) (hat : v1.ownBlock = (d k).vo.ownBlock ∨ ∃ b, v1.ownBlock = some b ∧ w.heap.size ≤ b) (hbase : base ≤ w.heap.size) :
    ∃ ρ' d', ChainAt ρ' (w1.setCell ⟨(d k).bl, 1, none⟩ v1) base c la capL (C.put k ⟨L.orbit ++ [x], L.words, L.gens⟩) d' ∧ (∀ j, (d' j).bl = (d j).bl) ∧ Step base ρ ρ' w (w1.setCell ⟨(d k).bl, 1, none⟩ v1) := by
  have hl := h.lv k L hL
  have hbl := hl.blt
  have hbb : base ≤ (d k).bl := h.rb _ (by rw [hl.rl]; omega)
  have hv1 : ∀ b, v1.ownBlock = some b → b ≠ (d k).bl ∧ (b < w.heap.size → ρ b = 4 * k + 3) ∧ base ≤ b ∧ b < w1.heap.size := by
    intro b hb
    have h1 : b < w.heap.size → ρ b = 4 * k + 3 := fun hlt => by
      rcases hat with e | ⟨b', e, hle⟩
      · exact hl.ro b (e ▸ hb)
      · rw [e] at hb; have := Option.some.inj hb; omega
    refine ⟨fun e => ?_, h1, Kd.R_base hR b hb, Kd.R_lt hR b hb⟩
    have := h1 (e ▸ hbl)
    rw [e, hl.rl] at this
    omega
  have hkeep : ∀ b, b < w.heap.size → b ≠ (d k).bl → ρ b ≠ 4 * k + 3 → (w1.setCell ⟨(d k).bl, 1, none⟩ v1).heap[b]? = w.heap[b]? := fun b hb hne hr =>
    (Below.heap_setCell w1 ⟨(d k).bl, 1, none⟩ v1 b hne).trans (hgr.block b hb (fun e => hr (hl.ro b e.symm)))
  have hsz : (w1.setCell ⟨(d k).bl, 1, none⟩ v1).heap.size = w1.heap.size := by simp [World.setCell]
  have hblr : w1.heap[(d k).bl]? = w.heap[(d k).bl]? := hgr.block _ hbl (fun e => by have := hl.ro _ e.symm; rw [hl.rl] at this; omega)
  have hρ : ∀ b, b < w.heap.size → (if some b = v1.ownBlock then 4 * k + 3 else ρ b) = ρ b := fun b hb => by
    by_cases e : some b = v1.ownBlock
    · rw [if_pos e, (hv1 b e.symm).2.1 hb]
    · rw [if_neg e]
  have T := h.turn (L' := ⟨L.orbit ++ [x], L.words, L.gens⟩) (D' := { (d k) with vo := v1 }) (ρ' := fun b => if some b = v1.ownBlock then 4 * k + 3 else ρ b) (w' := w1.setCell ⟨(d k).bl, 1, none⟩ v1) hL rfl (by rw [hsz]; exact hgr.size) hρ
    (fun b hb => by
      rw [hsz] at hb
      have hne : ¬ some b = v1.ownBlock := fun e => by have := (hv1 b e.symm).2.2.2; omega
      show (if some b = v1.ownBlock then 4 * k + 3 else ρ b) = 0
      rw [if_neg hne]
      exact h.fresh b (Nat.le_trans hgr.size hb))
    (fun b hb => by
      by_cases e : some b = v1.ownBlock
      · exact (hv1 b e.symm).2.2.1
      · have hb' : (if some b = v1.ownBlock then 4 * k + 3 else ρ b) ≠ 0 := hb
        rw [if_neg e] at hb'; exact h.rb b hb')
    (((Below.refl _ _).grown hgr hbase (fun b e => h.rb b (by rw [hl.ro b e]; omega))).setCell hbb _)
    (fun b hb hr => hkeep b hb (fun e => hr (by rw [e, hl.rl]; omega)) (fun e => hr (by omega)))
    { rl := (hρ _ hbl).trans hl.rl
      rw' := (hρ _ hl.bwlt).trans hl.rw'
      rg := fun b hb => (hρ b (Kd.R_lt hl.gen b hb)).trans (hl.rg b hb)
      ro := fun b hb => if_pos hb.symm
      c2 := (World.cell?_setCell_other _ _ _ _ (by simp)).trans (cell_move hl.c2 (fun _ => hblr))
      c3 := (World.cell?_setCell_other _ _ _ _ (by simp)).trans (cell_move hl.c3 (fun _ => hblr))
      c1 := World.cell?_setCell_same' _ _ _ (by rw [cell_move hl.c1 (fun _ => hblr)]; rfl)
      c0 := (World.cell?_setCell_other _ _ _ _ (by simp)).trans (cell_move hl.c0 (fun _ => hblr))
      fr := fun i => by rw [World.frozen?_setCell]; exact (World.frozen?_of_block (w := w) (a := ⟨(d k).bl, i, none⟩) hblr).trans (hl.fr i)
      wrd := Kd.R_step hl.wrd (fun b hb hlt => hkeep b hlt (fun e => by have := hl.rw'; rw [← hb, e, hl.rl] at this; omega) (fun e => by have := hl.rw'; rw [← hb, e] at this; omega))
      wlen := hl.wlen
      wp := fun x v o hv ho => (hl.wp x v o hv ho).move (fun b hb hr => ⟨(hρ b hb).trans hr, hkeep b hb (fun e => by rw [e, hl.rl] at hr; omega) (fun e => by omega)⟩)
      gen := Kd.R_step hl.gen (fun b hb hlt => hkeep b hlt (fun e => by have := hl.rg b hb.symm; rw [e, hl.rl] at this; omega) (fun e => by have := hl.rg b hb.symm; omega))
      orb := Kd.R_far (Kd.R_tight rfl hR) (fun b hb => (hv1 b hb.symm).1) _
      glen := hl.glen
      gp := fun j v p' hv hp => (hl.gp j v p' hv hp).move (fun b hb hr => ⟨(hρ b hb).trans hr, hkeep b hb (fun e => by rw [e, hl.rl] at hr; omega) (fun e => by omega)⟩) }
  exact ⟨_, _, T.1, fun j => by by_cases e : j = k <;> simp [e], T.2⟩
theorem ChainAt.setWord (h : ChainAt ρ w base c la capL C d) {k : Nat} {L : Lv} (hL : C.levels[k]? = some L) {x : Nat} (hx : x < C.n) {g : Sv} {p : List Int} (hg : PermIn ρ w (svE g) p) (hp0 : 0 < p.length) :
    ∃ d', ChainAt ρ (w.setCell ⟨(d k).bw, x, none⟩ (svE g)) base c la capL (C.put k ⟨L.orbit, L.words.set x (some p), L.gens⟩) d' ∧ (∀ j, (d' j).bl = (d j).bl ∧ (d' j).vo = (d j).vo) ∧ Step base ρ ρ w (w.setCell ⟨(d k).bw, x, none⟩ (svE g)) := by
  have hl := h.lv k L hL
  have hbw := hl.bwlt
  have hbb : base ≤ (d k).bw := h.rb _ (by rw [hl.rw']; omega)
  have hkeep : ∀ b, b < w.heap.size → b ≠ (d k).bw → (w.setCell ⟨(d k).bw, x, none⟩ (svE g)).heap[b]? = w.heap[b]? := fun b _ hne => Below.heap_setCell w ⟨(d k).bw, x, none⟩ (svE g) b hne
  have hsz : (w.setCell ⟨(d k).bw, x, none⟩ (svE g)).heap.size = w.heap.size := by simp [World.setCell]
  have hblr : (w.setCell ⟨(d k).bw, x, none⟩ (svE g)).heap[(d k).bl]? = w.heap[(d k).bl]? := hkeep _ hl.blt (fun e => by have := hl.rl; rw [e, hl.rw'] at this; omega)
  have hz : ∀ b, b < w.heap.size → ρ b = 0 → ρ b = 0 ∧ (w.setCell ⟨(d k).bw, x, none⟩ (svE g)).heap[b]? = w.heap[b]? := fun b hb hr => ⟨hr, hkeep b hb (fun e => by rw [e, hl.rw'] at hr; omega)⟩
  have T := h.turn (L' := ⟨L.orbit, L.words.set x (some p), L.gens⟩) (D' := { (d k) with ws := (d k).ws.set x g }) (ρ' := ρ) (w' := w.setCell ⟨(d k).bw, x, none⟩ (svE g)) hL rfl (by rw [hsz]; exact Nat.le_refl _) (fun _ _ => rfl)
    (fun b hb => h.fresh b (by rw [hsz] at hb; exact hb)) h.rb ((Below.refl _ _).setCell hbb _)
    (fun b hb hr => hkeep b hb (fun e => hr (by rw [e, hl.rw']; omega)))
    { rl := hl.rl
      rw' := hl.rw'
      ro := hl.ro
      rg := hl.rg
      c1 := cell_move hl.c1 (fun _ => hblr)
      c2 := cell_move hl.c2 (fun _ => hblr)
      c3 := cell_move hl.c3 (fun _ => hblr)
      c0 := cell_move hl.c0 (fun _ => hblr)
      fr := fun i => (World.frozen?_of_block (w := w) (a := ⟨(d k).bl, i, none⟩) hblr).trans (hl.fr i)
      wrd := by
        have := Kd.R_putn hl.wrd (x : Int) g
        simpa using this
      wlen := by rw [List.length_set]; exact hl.wlen
      wp := fun y v o hv ho => by
        have hlen := hl.wslen
        have hwl := hl.wlen
        rw [List.getElem?_set] at hv ho
        by_cases e : x = y
        · subst e
          rw [if_pos rfl, if_pos (by omega)] at hv ho
          obtain rfl := Option.some.inj hv
          obtain rfl := Option.some.inj ho
          exact ⟨hg.move hz, hp0⟩
        · rw [if_neg e] at hv ho
          exact (hl.wp y v o hv ho).move hz
      orb := Kd.R_step hl.orb (fun b hb hlt => hkeep b hlt (fun e => by have := hl.ro b hb.symm; rw [e, hl.rw'] at this; omega))
      gen := Kd.R_step hl.gen (fun b hb hlt => hkeep b hlt (fun e => by have := hl.rg b hb.symm; rw [e, hl.rw'] at this; omega))
      glen := hl.glen
      gp := fun j v p' hv hp => (hl.gp j v p' hv hp).move hz }
  exact ⟨_, T.1, fun j => by by_cases e : j = k <;> simp [e], T.2⟩
end
end Go.Proofs.Ytmbldnoepjmhhaa.Bs
end
section
/- Adding to a stabilizer chain comes to an end, and keeps it right. No program in sight. -/
namespace Go.Proofs.Ytmbldnoepjmhhaa.Bs
open Go.RowKit Go.Proofs.Ytmbldnoepjmhhaa.Plain Go.Proofs.Ytmbldnoepjmhhaa.Pms
variable {n : Nat}
structure Ext (k : Nat) (A B : AC n) : Prop where
  more : More A B
  low : ∀ j, j < k → (∀ x, B.T j x = A.T j x) ∧ B.S j = A.S j ∧ B.O j = A.O j
  pre : ∀ j, A.O j <+: B.O j
  len : ∀ j, (A.S j).length ≤ (B.S j).length
theorem Ext.refl (k : Nat) (A : AC n) : Ext k A A := ⟨fun _ _ _ h => h, fun _ _ => ⟨fun _ => rfl, rfl, rfl⟩, fun _ => List.prefix_refl _, fun _ => Nat.le_refl _⟩
theorem Ext.trans {k : Nat} {A B C : AC n} (h : Ext k A B) (g : Ext k B C) : Ext k A C where
  more := fun j x t ht => g.more _ _ _ (h.more _ _ _ ht)
  low := fun j hj => ⟨fun x => ((g.low j hj).1 x).trans ((h.low j hj).1 x), (g.low j hj).2.1.trans (h.low j hj).2.1, (g.low j hj).2.2.trans (h.low j hj).2.2⟩
  pre := fun j => (h.pre j).trans (g.pre j)
  len := fun j => Nat.le_trans (h.len j) (g.len j)
theorem Ext.less {k j : Nat} {A B : AC n} (h : Ext k A B) (hj : j ≤ k) : Ext j A B := ⟨h.more, fun i hi => h.low i (by omega), h.pre, h.len⟩
def Bd (A : AC n) (k : Nat) : Prop := ∀ j, k ≤ j → j < n → (A.S j).length + 1 ≤ (A.O j).length + (A.S (j + 1)).length
structure Mid (k : Nat) (A B : AC n) : Prop where
  ext : Ext k A B
  inv : Inv B
  cmp : Cmp B (k + 1)
  bd : Bd B (k + 1)
  same : B.S k = A.S k
  new : ∀ x t s, B.T k x = some t → A.T k x = none → s ∈ A.S k → In B k (t * s)
  quiet : (B.S (k + 1)).length = (A.S (k + 1)).length → ∀ j, k < j → ∀ x, B.T j x = A.T j x
theorem Mid.refl {k : Nat} {A : AC n} (hi : Inv A) (hc : Cmp A (k + 1)) (hb : Bd A (k + 1)) : Mid k A A :=
  ⟨Ext.refl k A, hi, hc, hb, rfl, fun x t s h1 h2 => (by rw [h1] at h2; cases h2), fun _ _ _ _ => rfl⟩
theorem Mid.trans {k : Nat} {A B C : AC n} (h : Mid k A B) (g : Mid k B C) : Mid k A C where
  ext := h.ext.trans g.ext
  inv := g.inv
  cmp := g.cmp
  bd := g.bd
  same := g.same.trans h.same
  new := fun x t s ht hn hs => by
    cases hb : B.T k x with
    | none => exact g.new x t s ht hb (by rw [h.same]; exact hs)
    | some t' =>
      have := g.ext.more _ _ _ hb
      rw [ht] at this
      obtain rfl := Option.some.inj this
      exact In.mono g.ext.more (h.new x t s hb hn hs)
  quiet := fun he j hj x => by
    have h1 := h.ext.len (k + 1)
    have h2 := g.ext.len (k + 1)
    exact (g.quiet (by omega) j hj x).trans (h.quiet (by omega) j hj x)
structure IPost (k : Nat) (g : Pm n) (A B : AC n) : Prop where
  ext : Ext k A B
  inv : Inv B
  cmp : Cmp B k
  bd : Bd B k
  has : In B k g
  gens : B.S k = A.S k ++ [g]
theorem Inv.addWord {A : AC n} (h : Inv A) {k : Nat} (hk : k < n) {p : Pm n} (hn : A.T k (p.ap k) = none) (hf : Fix k p) (hg : Gen (A.S k) p) : Inv (A.addWord k (p.ap k) p) where
  word := fun j y t ht => by
    simp only [AC.addWord] at ht ⊢
    by_cases e : j = k ∧ y = p.ap k
    · rw [if_pos e] at ht
      obtain rfl := Option.some.inj ht
      obtain ⟨rfl, rfl⟩ := e
      exact ⟨hk, p.lt hk, rfl, hf, hg⟩
    · rw [if_neg e] at ht
      exact h.word _ _ _ ht
  base := fun j hj => by
    simp only [AC.addWord]
    by_cases e : j = k ∧ j = p.ap k
    · obtain ⟨rfl, e⟩ := e
      rw [← e, h.base j hk] at hn
      cases hn
    · rw [if_neg e]; exact h.base j hj
  orb := fun j x hj => by
    simp only [AC.addWord]
    by_cases e : j = k
    · subst e
      rw [if_pos rfl, List.mem_append, List.mem_singleton, h.orb j x hj]
      by_cases ex : x = p.ap j
      · simp [ex]
      · simp [ex]
    · simp only [if_neg e, e, false_and, if_false]
      exact h.orb j x hj
  nodup := fun j hj => by
    simp only [AC.addWord]
    by_cases e : j = k
    · subst e
      rw [if_pos rfl, List.nodup_append]
      refine ⟨h.nodup j hj, by simp, ?_⟩
      intro a ha b hb hab
      rw [List.mem_singleton] at hb
      subst hab; subst hb
      exact (h.orb j _ hj).1 ha hn
    · rw [if_neg e]; exact h.nodup j hj
  gens := h.gens
  down := h.down
  top := h.top
theorem more_addWord {A : AC n} {k : Nat} {p : Pm n} (hn : A.T k (p.ap k) = none) : More A (A.addWord k (p.ap k) p) := fun j x t ht => by
  simp only [AC.addWord]
  by_cases e : j = k ∧ x = p.ap k
  · obtain ⟨rfl, rfl⟩ := e
    rw [ht] at hn; cases hn
  · rw [if_neg e]; exact ht
theorem ext_addWord {A : AC n} {k : Nat} {p : Pm n} (hn : A.T k (p.ap k) = none) : Ext k A (A.addWord k (p.ap k) p) where
  more := more_addWord hn
  low := fun j hj => by
    have : j ≠ k := by omega
    simp [AC.addWord, this]
  pre := fun j => by
    simp only [AC.addWord]
    split
    · rename_i e; subst e; exact List.prefix_append _ _
    · exact List.prefix_refl _
  len := fun j => Nat.le_refl _
theorem gensO_spec (f : Ch → List Int → Option Ch) (k : Nat) (hk : k < n) (A1 : AC n) (Done : Pm n → AC n → Prop) (hmono : ∀ s B B', Mid k B B' → Done s B → Done s B')
    (hf : ∀ B s, Mid k A1 B → s ∈ A1.S k → ∃ B', f B.enc s.l = some B'.enc ∧ Mid k B B' ∧ Done s B') :
    ∀ (d i m : Nat) (B : AC n), (A1.S k).length - i = d → i ≤ (A1.S k).length → d < m → Mid k A1 B →
      ∃ B', gensO f k m i B.enc = some B'.enc ∧ Mid k B B' ∧ ∀ j s, i ≤ j → (A1.S k)[j]? = some s → Done s B' := by
  intro d
  induction d with
  | zero =>
    intro i m B hd hi hm h1
    obtain ⟨m, rfl⟩ : ∃ r, m = r + 1 := ⟨m - 1, by omega⟩
    refine ⟨B, ?_, Mid.refl h1.inv h1.cmp h1.bd, fun j s hj hs => ?_⟩
    · rw [gensO, B.level hk]
      simp only [Option.bind_some, AC.lv, h1.same]
      rw [List.getElem?_eq_none (by simp; omega)]
    · rw [List.getElem?_eq_none (by omega)] at hs; cases hs
  | succ d ih =>
    intro i m B hd hi hm h1
    obtain ⟨m, rfl⟩ : ∃ r, m = r + 1 := ⟨m - 1, by omega⟩
    have hil : i < (A1.S k).length := by omega
    obtain ⟨B1, e1, m1, d1⟩ := hf B (A1.S k)[i] h1 (List.getElem_mem hil)
    obtain ⟨B2, e2, m2, d2⟩ := ih (i + 1) m B1 (by omega) (by omega) (by omega) (h1.trans m1)
    refine ⟨B2, ?_, m1.trans m2, fun j s hj hs => ?_⟩
    · rw [gensO, B.level hk]
      simp only [Option.bind_some, AC.lv, h1.same, List.getElem?_map, List.getElem?_eq_getElem hil, Option.map_some]
      rw [e1]
      exact e2
    · by_cases e : j = i
      · subst e
        rw [List.getElem?_eq_getElem hil] at hs
        obtain rfl := Option.some.inj hs
        exact hmono _ _ _ m2 d1
      · exact d2 j s (by omega) hs
theorem orb_len {A : AC n} (h : Inv A) {k : Nat} (hk : k < n) : (A.O k).length ≤ n := by
  have hsub : ∀ x ∈ A.O k, x ∈ List.range n := fun x hx => by
    have := (h.orb k x hk).1 hx
    cases ht : A.T k x with
    | none => exact absurd ht this
    | some t => exact List.mem_range.2 (h.word _ _ _ ht).2.1
  have := (h.nodup k hk).length_le_of_subset hsub
  simpa using this
theorem reach_spec (ins : Ch → Nat → List Int → Option Ch) (k : Nat) (hk : k < n) (hn : n ≤ 20)
    (hins : ∀ (A : AC n) (g : Pm n), Inv A → Cmp A (k + 1) → Bd A (k + 1) → k + 1 < n → Fix (k + 1) g → Gen (A.S k) g → ¬ In A (k + 1) g → ∃ B, ins A.enc (k + 1) g.l = some B.enc ∧ IPost (k + 1) g A B) :
    ∀ (q : Nat) (A : AC n) (p : Pm n), Inv A → Cmp A (k + 1) → Bd A (k + 1) → (A.S k).length < 900 → Fix k p → Gen (A.S k) p → n < q + (A.O k).length →
      ∃ B, reach ins q A.enc k p.l = some B.enc ∧ Mid k A B ∧ In B k p := by
  intro q
  induction q with
  | zero =>
    intro A p h1 _ _ _ _ _ hq
    have := orb_len h1 hk
    omega
  | succ q ih =>
    intro A p h1 h2 h3 h4 hf hg hq
    have hx := p.lt hk
    cases ht : A.T k (p.ap k) with
    | none =>
      have i1 := h1.addWord hk ht hf hg
      have x1 := ext_addWord ht
      have eT : ∀ j, k < j → ∀ x, (A.addWord k (p.ap k) p).T j x = A.T j x := fun j hj x => by
        have : j ≠ k := by omega
        simp [AC.addWord, this]
      have c1 : Cmp (A.addWord k (p.ap k) p) (k + 1) := fun j x t s hj hjn hT hs => by
        rw [eT j hj] at hT
        exact In.mono x1.more (h2 j x t s hj hjn hT hs)
      have b1 : Bd (A.addWord k (p.ap k) p) (k + 1) := fun j hj hjn => by
        have e : (A.addWord k (p.ap k) p).O j = A.O j := by
          have : j ≠ k := by omega
          simp [AC.addWord, this]
        rw [e]
        exact h3 j hj hjn
      have ol : ((A.addWord k (p.ap k) p).O k).length = (A.O k).length + 1 := by simp [AC.addWord]
      obtain ⟨B, eB, mB, dB⟩ := gensO_spec (n := n) (fun C g => (mulO p.l g).bind fun p' => reach ins q C k p') k hk (A.addWord k (p.ap k) p) (fun s B => In B k (p * s)) (fun s B B' m h => In.mono m.ext.more h)
        (fun B s m hs => by
          simp only [Pm.mulO (show n ≤ 1000 by omega), Option.bind_some]
          have hl := (m.ext.pre k).length_le
          have hs' : s ∈ B.S k := by rw [m.same]; exact hs
          refine ih B (p * s) m.inv m.cmp m.bd (by rw [m.same]; exact h4) (hf.mul (m.inv.gens k s hs')) ?_ (by omega)
          rw [m.same]
          exact hg.mul (Gen.of hs)) _ 0 1000 (A.addWord k (p.ap k) p) rfl (Nat.zero_le _) (by show (A.S k).length - 0 < 1000; omega) (Mid.refl i1 c1 b1)
      have hp : B.T k (p.ap k) = some p := mB.ext.more _ _ _ (by simp [AC.addWord])
      refine ⟨B, ?_, ?_, ?_⟩
      · rw [reach, A.level hk, Option.bind_some, Pm.at_ p hk, Option.bind_some, A.word_at hk hx, ht]
        simp only [Option.bind_some, Option.map_none, Int.toNat_natCast]
        rw [if_pos (by have := orb_len h1 hk; simp [AC.lv, ints]; omega), A.enc_addWord]
        exact eB
      · exact {
          ext := x1.trans mB.ext
          inv := mB.inv
          cmp := mB.cmp
          bd := mB.bd
          same := mB.same
          new := fun x t s hT hno hs => by
            by_cases e : x = p.ap k
            · subst e
              rw [hp] at hT
              obtain rfl := Option.some.inj hT
              obtain ⟨j, hj, ej⟩ := List.getElem_of_mem hs
              exact dB j s (Nat.zero_le _) (by show (A.S k)[j]? = _; rw [List.getElem?_eq_getElem hj, ej])
            · exact mB.new x t s hT (by simp [AC.addWord, e, hno]) hs
          quiet := fun he j hj x => (mB.quiet he j hj x).trans (eT j hj x) }
      · exact (In.step hk).2 ⟨p, hp, by rw [Pm.mul_inv]; exact In.one mB.inv _ _ rfl⟩
    | some t =>
      have hrf := rest_fix h1 hf ht
      obtain ⟨r, j, hs, hj, hi⟩ := sift_tells hn h1 (n - (k + 1)) (k + 1) 30 (p * t⁻¹) rfl (by omega) (by omega) hrf
      have hstep : ∀ X : Option Ch, (if j < n then ins A.enc (k + 1) (p * t⁻¹).l else some A.enc) = X → reach ins (q + 1) A.enc k p.l = X := by
        rintro X rfl
        rw [reach, A.level hk, Option.bind_some, Pm.at_ p hk, Option.bind_some, A.word_at hk hx, ht]
        simp only [Option.bind_some, Option.map_some]
        rw [Pm.invO (by omega), Option.bind_some, Pm.mulO (by omega), Option.bind_some, hs, Option.bind_some]
        rfl
      by_cases hjn : j < n
      · have hno : ¬ In A (k + 1) (p * t⁻¹) := fun h => by have := hi.2 h; omega
        have hk1 : k + 1 < n := by
          apply Classical.byContradiction
          intro hge
          exact hno ((In.last (by omega)).2 (by
            have : Fix n (p * t⁻¹) := hrf.less (by omega)
            exact this.all))
        have hgt : Gen (A.S k) (p * t⁻¹) := hg.mul (h1.word _ _ _ ht).2.2.2.2.inv
        obtain ⟨B, eB, pB⟩ := hins A (p * t⁻¹) h1 h2 h3 hk1 hrf hgt hno
        have lo := pB.ext.low k (by omega)
        refine ⟨B, hstep _ (by rw [if_pos hjn]; exact eB), ?_, ?_⟩
        · exact {
            ext := pB.ext.less (by omega)
            inv := pB.inv
            cmp := pB.cmp
            bd := pB.bd
            same := lo.2.1
            new := fun x t' s hT hno' hs => by rw [lo.1, hno'] at hT; cases hT
            quiet := fun he => by
              rw [pB.gens, List.length_append, List.length_singleton] at he
              omega }
        · exact (In.step hk).2 ⟨t, pB.ext.more _ _ _ ht, pB.has⟩
      · have hin := hi.1 (by omega)
        exact ⟨A, hstep _ (if_neg hjn), Mid.refl h1 h2 h3, (In.step hk).2 ⟨t, ht, hin⟩⟩
theorem Bd.bound {A : AC n} (h : Inv A) : ∀ (d k : Nat), n - k = d → Bd A k → (A.S k).length ≤ d * n
  | 0, k, hd, hb => by rw [h.top k (by omega)]; simp
  | d + 1, k, hd, hb => by
    have h1 := hb k (Nat.le_refl _) (by omega)
    have h2 := Bd.bound h d (k + 1) (by omega) (fun j hj hjn => hb j (by omega) hjn)
    have h3 := orb_len h (show k < n by omega)
    rw [Nat.succ_mul]
    omega
theorem eachO_spec (f : Ch → Int → Option Ch) (k : Nat) (A1 : AC n) (Done : Nat → AC n → Prop) (hmono : ∀ x B B', Mid k B B' → Done x B → Done x B') (l : List Nat)
    (hf : ∀ B x, Mid k A1 B → x ∈ l → ∃ B', f B.enc (x : Int) = some B'.enc ∧ Mid k B B' ∧ Done x B') :
    ∀ (m : List Nat) (B : AC n), (∀ x ∈ m, x ∈ l) → Mid k A1 B → ∃ B', eachO f (ints m) B.enc = some B'.enc ∧ Mid k B B' ∧ ∀ x ∈ m, Done x B' := by
  intro m
  induction m with
  | nil => intro B _ h1; exact ⟨B, rfl, Mid.refl h1.inv h1.cmp h1.bd, by simp⟩
  | cons x m ih =>
    intro B hm h1
    obtain ⟨B1, e1, m1, d1⟩ := hf B x h1 (hm x (List.mem_cons_self ..))
    obtain ⟨B2, e2, m2, d2⟩ := ih B1 (fun y hy => hm y (List.mem_cons_of_mem _ hy)) (h1.trans m1)
    refine ⟨B2, ?_, m1.trans m2, fun y hy => ?_⟩
    · show (f B.enc (x : Int)).bind _ = _
      rw [e1]
      exact e2
    · rcases List.mem_cons.1 hy with rfl | hy
      · exact hmono _ _ _ m2 d1
      · exact d2 y hy
theorem Inv.addGen {A : AC n} (h : Inv A) {k : Nat} (hk : k < n) {g : Pm n} (hf : Fix k g) (hd : ∀ j, k = j + 1 → Gen (A.S j) g) : Inv (A.addGen k g) := by
  have hsub : ∀ j s, s ∈ A.S j → s ∈ (A.addGen k g).S j := fun j s hs => by
    simp only [AC.addGen]
    split
    · rename_i e; subst e; exact List.mem_append_left _ hs
    · exact hs
  have hgen : ∀ j p, Gen (A.S j) p → Gen ((A.addGen k g).S j) p := fun j p hp => Gen.mono (fun s hs => Gen.of (hsub j s hs)) hp
  exact {
    word := fun j x t ht => by
      obtain ⟨a, b, c, d, e⟩ := h.word j x t ht
      exact ⟨a, b, c, d, hgen j t e⟩
    base := h.base
    orb := h.orb
    nodup := h.nodup
    gens := fun j s hs => by
      simp only [AC.addGen] at hs
      split at hs
      · rename_i e
        subst e
        rcases List.mem_append.1 hs with hs | hs
        · exact h.gens j s hs
        · rw [List.mem_singleton] at hs; subst hs; exact hf
      · exact h.gens j s hs
    down := fun j s hs => by
      simp only [AC.addGen] at hs
      split at hs
      · rename_i e
        subst e
        rcases List.mem_append.1 hs with hs | hs
        · exact hgen j s (h.down j s hs)
        · rw [List.mem_singleton] at hs; subst hs; exact hgen j _ (hd j rfl)
      · exact hgen j s (h.down j s hs)
    top := fun j hj => by
      simp only [AC.addGen]
      rw [if_neg (by omega)]
      exact h.top j hj }
theorem insert_spec (hn : n ≤ 20) : ∀ (d k : Nat) (A : AC n) (g : Pm n), k < n → n < d + k → Inv A → Cmp A k → Bd A k → Fix k g → (∀ j, k = j + 1 → Gen (A.S j) g) → ¬ In A k g → ∃ B, insert_ d A.enc k g.l = some B.enc ∧ IPost k g A B := by
  intro d
  induction d with
  | zero => intro k A g hk hd; omega
  | succ d ih =>
    intro k A g hk hd h1 h2 h3 hf hdn hno
    have hl : (A.S k).length ≤ 400 := by
      have := Bd.bound h1 (n - k) k rfl h3
      have : (n - k) * n ≤ 20 * 20 := Nat.mul_le_mul (by omega) hn
      omega
    have i1 := h1.addGen hk hf hdn
    have eS : (A.addGen k g).S k = A.S k ++ [g] := by simp [AC.addGen]
    have eS' : ∀ j, j ≠ k → (A.addGen k g).S j = A.S j := fun j hj => by simp [AC.addGen, hj]
    have c1 : Cmp (A.addGen k g) (k + 1) := fun j x t s hj hjn hT hs => by
      rw [eS' j (by omega)] at hs
      exact In.mono (A := A) (B := A.addGen k g) (fun _ _ _ h => h) (h2 j x t s (Nat.le_of_succ_le hj) hjn hT hs)
    have b1 : Bd (A.addGen k g) (k + 1) := fun j hj hjn => by
      rw [eS' j (by omega), eS' (j + 1) (by omega)]
      exact h3 j (by omega) hjn
    have x1 : Ext k A (A.addGen k g) := {
      more := fun _ _ _ h => h
      low := fun j hj => ⟨fun _ => rfl, eS' j (by omega), rfl⟩
      pre := fun _ => List.prefix_refl _
      len := fun j => by
        by_cases e : j = k
        · subst e; rw [eS, List.length_append]; omega
        · rw [eS' j e]; exact Nat.le_refl _ }
    have m0 := Mid.refl (k := k) i1 c1 b1
    obtain ⟨B, eB, mB, dB⟩ := eachO_spec (n := n) (fun C x => (C.word k x).bind fun o => o.bind fun w => (mulO w g.l).bind fun p => reach (insert_ d) 30 C k p) k (A.addGen k g) (fun x B => ∀ t, A.T k x = some t → In B k (t * g)) (fun x B B' m h t ht => In.mono m.ext.more (h t ht)) (A.O k)
      (fun B x m hx => by
        obtain ⟨t, ht⟩ : ∃ t, A.T k x = some t := by
          cases hT : A.T k x with
          | none => exact absurd hT ((h1.orb k x hk).1 hx)
          | some t => exact ⟨t, rfl⟩
        have htB : B.T k x = some t := m.ext.more _ _ _ ht
        obtain ⟨_, hxn, _, hft, hgt⟩ := m.inv.word _ _ _ htB
        have hgB : g ∈ B.S k := by rw [m.same, eS]; simp
        obtain ⟨B', e', m', i'⟩ := reach_spec (insert_ d) k hk hn (fun A' g' a1 a2 a3 a4 a5 a6 a7 => ih (k + 1) A' g' a4 (by omega) a1 a2 a3 a5 (fun j hj => Nat.succ.inj hj ▸ a6) a7) 30 B (t * g) m.inv m.cmp m.bd (by rw [m.same, eS, List.length_append, List.length_singleton]; omega) (hft.mul hf) (hgt.mul (Gen.of hgB)) (by omega)
        refine ⟨B', ?_, m', fun t' ht' => ?_⟩
        · simp only [B.word_at hk hxn, htB, Option.bind_some, Option.map_some, Pm.mulO (show n ≤ 1000 by omega)]
          exact e'
        · rw [ht] at ht'
          obtain rfl := Option.some.inj ht'
          exact i') (A.O k) (A.addGen k g) (fun x hx => hx) m0
    have sB : B.S k = A.S k ++ [g] := mB.same.trans eS
    have cB : Cmp B k := fun j x t s hj hjn hT hs => by
      by_cases e : j = k
      · subst e
        rw [sB] at hs
        cases hA : A.T j x with
        | none => exact mB.new x t s hT hA (by rw [eS]; exact hs)
        | some t' =>
          have := mB.ext.more j x t' hA
          rw [hT] at this
          obtain rfl := Option.some.inj this
          rcases List.mem_append.1 hs with hs | hs
          · exact In.mono (A := A) mB.ext.more (h2 j x t s (Nat.le_refl _) hjn hA hs)
          · rw [List.mem_singleton] at hs
            subst hs
            exact dB x ((h1.orb j x hjn).2 (by rw [hA]; simp)) t hA
      · exact mB.cmp j x t s (by omega) hjn hT hs
    have hin : In B k g := (In.iff_gen mB.inv _ k rfl cB g).2 (Gen.of (by rw [sB]; simp))
    refine ⟨B, ?_, { ext := x1.trans mB.ext, inv := mB.inv, cmp := cB, bd := ?_, has := hin, gens := sB }⟩
    · rw [insert_, A.level hk, Option.bind_some, if_pos (by have := orb_len h1 hk; simp [AC.lv, ints]; omega), A.enc_addGen]
      exact eB
    · intro j hj hjn
      by_cases e : j = k
      · subst e
        rw [sB, List.length_append, List.length_singleton]
        have h5 := h3 j (Nat.le_refl _) hjn
        have h6 : (A.O j).length ≤ (B.O j).length := (mB.ext.pre j).length_le
        have h7 : (A.S (j + 1)).length ≤ (B.S (j + 1)).length := by
          have := mB.ext.len (j + 1)
          rwa [eS' (j + 1) (by omega)] at this
        have h8 : ¬ ((B.O j).length = (A.O j).length ∧ (B.S (j + 1)).length = (A.S (j + 1)).length) := by
          rintro ⟨e1, e2⟩
          apply hno
          have eO : A.O j = B.O j := List.IsPrefix.eq_of_length (mB.ext.pre j) e1.symm
          have hT : ∀ i, j ≤ i → ∀ x, i < n → B.T i x = A.T i x := by
            intro i hi x hi'
            by_cases ei : i = j
            · subst ei
              cases hA : A.T i x with
              | some t => exact mB.ext.more _ _ _ hA
              | none =>
                cases hB : B.T i x with
                | none => rfl
                | some t =>
                  have := (mB.inv.orb i x hi').2 (by rw [hB]; simp)
                  rw [← eO] at this
                  exact absurd hA ((h1.orb i x hi').1 this)
            · exact mB.quiet (by rw [e2, eS' (j + 1) (by omega)]) i (by omega) x
          have key : ∀ (d i : Nat) (p : Pm n), n - i = d → j ≤ i → In B i p → In A i p := by
            intro d
            induction d with
            | zero => intro i p hd hi hp; exact (In.last (by omega)).2 ((In.last (by omega)).1 hp)
            | succ d ih =>
              intro i p hd hi hp
              obtain ⟨t, ht, hr⟩ := (In.step (by omega)).1 hp
              exact (In.step (by omega)).2 ⟨t, by rw [← hT i hi _ (by omega)]; exact ht, ih (i + 1) _ (by omega) (by omega) hr⟩
          exact key _ j g rfl (Nat.le_refl _) hin
        omega
      · exact mB.bd j (by omega) hjn
end Go.Proofs.Ytmbldnoepjmhhaa.Bs
end
section
/- The chain that New makes holds what the generators generate. No program in sight. -/
namespace Go.Proofs.Ytmbldnoepjmhhaa.Bs
open Go.RowKit Go.Proofs.Ytmbldnoepjmhhaa.Plain Go.Proofs.Ytmbldnoepjmhhaa.Pms
variable {n : Nat}
structure Good (A : AC n) (G : Pm n → Prop) : Prop where
  inv : Inv A
  cmp : Cmp A 0
  bd : Bd A 0
  holds : ∀ p, In A 0 p ↔ G p
def AC.start0 (n : Nat) : AC n := ⟨fun k x => if k = x ∧ k < n then some 1 else none, fun _ => [], fun k => [k]⟩
theorem idL_one : idL n = (1 : Pm n).l := rfl
theorem AC.enc_start0 : (AC.start0 n).enc = start n := by
  unfold AC.enc start
  congr 1
  refine List.map_congr_left fun i hi => ?_
  have hi := List.mem_range.1 hi
  unfold AC.lv AC.start0
  simp only [ints, List.map_cons, List.map_nil]
  congr 1
  apply List.ext_getElem?
  intro x
  rw [List.getElem?_set]
  by_cases hx : x < n
  · simp only [List.getElem?_map, List.getElem?_range hx, Option.map_some, List.length_replicate]
    by_cases e : i = x
    · subst e; simp [hx, idL_one]
    · simp [e, hx]
  · rw [List.getElem?_eq_none (by simp; omega)]
    rw [if_neg (by omega), List.getElem?_eq_none (by simp; omega)]
theorem good_start : Good (AC.start0 n) (Gen []) where
  inv := {
    word := fun k x t ht => by
      simp only [AC.start0] at ht
      split at ht
      · rename_i h
        obtain rfl := Option.some.inj ht
        obtain ⟨rfl, hk⟩ := h
        exact ⟨hk, hk, Pm.one_ap hk, Fix.one k, Gen.one _⟩
      · cases ht
    base := fun k hk => by simp [AC.start0, hk]
    orb := fun k x hk => by
      simp only [AC.start0, List.mem_singleton]
      by_cases e : k = x
      · subst e; simp [hk]
      · simp [e]; exact fun h => e h.symm
    nodup := fun k _ => by simp [AC.start0]
    gens := fun k s hs => by simp [AC.start0] at hs
    down := fun k s hs => by simp [AC.start0] at hs
    top := fun k _ => rfl }
  cmp := fun j x t s _ _ _ hs => by simp [AC.start0] at hs
  bd := fun j _ _ => by simp [AC.start0]
  holds := fun p => by
    have hi : Inv (AC.start0 n) := {
      word := fun k x t ht => by
        simp only [AC.start0] at ht
        split at ht
        · rename_i h
          obtain rfl := Option.some.inj ht
          obtain ⟨rfl, hk⟩ := h
          exact ⟨hk, hk, Pm.one_ap hk, Fix.one k, Gen.one _⟩
        · cases ht
      base := fun k hk => by simp [AC.start0, hk]
      orb := fun k x hk => by
        simp only [AC.start0, List.mem_singleton]
        by_cases e : k = x
        · subst e; simp [hk]
        · simp [e]; exact fun h => e h.symm
      nodup := fun k _ => by simp [AC.start0]
      gens := fun k s hs => by simp [AC.start0] at hs
      down := fun k s hs => by simp [AC.start0] at hs
      top := fun k _ => rfl }
    exact In.iff_gen hi n 0 rfl (fun j x t s _ _ _ hs => by simp [AC.start0] at hs) p
theorem contains_spec {A : AC n} {G : Pm n → Prop} (hn : n ≤ 20) (h : Good A G) (p : Pm n) : ∃ b, A.enc.contains p.l = some b ∧ (b = true ↔ G p) := by
  obtain ⟨rest, j, hs, hj, hi⟩ := sift_tells hn h.inv n 0 30 p rfl (Nat.zero_le _) (by omega) (fun i hi => by omega)
  refine ⟨decide (j = n), ?_, ?_⟩
  · unfold Ch.contains
    rw [hs]; rfl
  · rw [decide_eq_true_iff, hi]
    exact h.holds p
theorem Gen.append_same {S : List (Pm n)} {g : Pm n} (h : Gen S g) (p : Pm n) : Gen (S ++ [g]) p ↔ Gen S p :=
  ⟨fun hp => Gen.mono (fun x hx => (List.mem_append.1 hx).elim Gen.of (fun e => by rw [List.mem_singleton] at e; subst e; exact h)) hp, fun hp => Gen.mono (fun x hx => Gen.of (List.mem_append_left _ hx)) hp⟩
theorem Gen.append_congr {S S' : List (Pm n)} (g : Pm n) (h : ∀ p, Gen S p ↔ Gen S' p) (p : Pm n) : Gen (S ++ [g]) p ↔ Gen (S' ++ [g]) p := by
  have key : ∀ {S S' : List (Pm n)}, (∀ p, Gen S p ↔ Gen S' p) → Gen (S ++ [g]) p → Gen (S' ++ [g]) p := fun {S S'} h hp =>
    Gen.mono (fun x hx => (List.mem_append.1 hx).elim (fun hx => Gen.mono (fun y hy => Gen.of (List.mem_append_left _ hy)) ((h x).1 (Gen.of hx))) (fun e => Gen.of (List.mem_append_right _ e))) hp
  exact ⟨key h, key (fun p => (h p).symm)⟩
theorem add_spec {A : AC n} {S : List (Pm n)} (hn : n ≤ 20) (h : Good A (Gen S)) (g : Pm n) : ∃ B, add A.enc g.l = some B.enc ∧ Good B (Gen (S ++ [g])) := by
  unfold add
  by_cases h0 : 0 < n
  · rw [if_pos (show 0 < A.enc.n from h0)]
    obtain ⟨b, hb, hbi⟩ := contains_spec hn h g
    rw [hb, Option.bind_some]
    cases b with
    | true =>
      refine ⟨A, rfl, h.inv, h.cmp, h.bd, fun p => ?_⟩
      rw [h.holds]
      exact (Gen.append_same (hbi.1 rfl) p).symm
    | false =>
      have hno : ¬ In A 0 g := fun hi => by
        have := hbi.2 ((h.holds g).1 hi)
        cases this
      obtain ⟨B, e, pB⟩ := insert_spec hn 30 0 A g h0 (by omega) h.inv h.cmp h.bd (fun i hi => by omega) (fun j hj => by omega) hno
      refine ⟨B, e, pB.inv, pB.cmp, pB.bd, fun p => ?_⟩
      rw [In.iff_gen pB.inv n 0 rfl pB.cmp p, pB.gens]
      refine Gen.append_congr g (fun q => ?_) p
      rw [← In.iff_gen h.inv n 0 rfl h.cmp q]
      exact h.holds q
  · rw [if_neg (show ¬ 0 < A.enc.n from h0)]
    refine ⟨A, rfl, h.inv, h.cmp, h.bd, fun p => ?_⟩
    have hg : g = 1 := Pm.ext' fun i hi => by omega
    rw [h.holds, hg]
    exact (Gen.append_same (Gen.one _) p).symm
theorem addAll_spec (hn : n ≤ 20) : ∀ (gens : List (Pm n)) (A : AC n) (S : List (Pm n)), Good A (Gen S) → ∃ B, addAll (gens.map Pm.l) A.enc = some B.enc ∧ Good B (Gen (S ++ gens))
  | [], A, S, h => ⟨A, rfl, by rw [List.append_nil]; exact h⟩
  | g :: gens, A, S, h => by
    obtain ⟨B, e, hB⟩ := add_spec hn h g
    obtain ⟨B', e', hB'⟩ := addAll_spec hn gens B (S ++ [g]) hB
    refine ⟨B', ?_, by rw [List.append_assoc] at hB'; exact hB'⟩
    rw [List.map_cons, addAll, e, Option.bind_some]
    exact e'
theorem new_spec (hn : n ≤ 20) (gens : List (Pm n)) : ∃ A : AC n, new_ n (gens.map Pm.l) = some A.enc ∧ Good A (Gen gens) := by
  obtain ⟨B, e, h⟩ := addAll_spec hn gens (AC.start0 n) [] good_start
  refine ⟨B, ?_, h⟩
  unfold new_
  rw [← AC.enc_start0]
  exact e
end Go.Proofs.Ytmbldnoepjmhhaa.Bs
end
section
/- Whole numbers sorted by keys. Plain: no program in sight. -/
namespace Go.Proofs.Ytmbldnoepjmhhaa.Plain
def insKey (key : Int → Int) (x : Int) : List Int → List Int
  | [] => [x]
  | y :: r => if key x ≤ key y then x :: y :: r else y :: insKey key x r
def sortKey (key : Int → Int) : List Int → List Int
  | [] => []
  | x :: r => insKey key x (sortKey key r)
theorem insKey_perm (key : Int → Int) (x : Int) : ∀ l : List Int, (insKey key x l).Perm (x :: l)
  | [] => List.Perm.refl _
  | y :: r => by
    rw [insKey]
    split
    · exact List.Perm.refl _
    · exact ((insKey_perm key x r).cons y).trans (List.Perm.swap x y r)
theorem insKey_sorted (key : Int → Int) (x : Int) : ∀ l : List Int, l.Pairwise (fun x y => key x ≤ key y) → (insKey key x l).Pairwise (fun x y => key x ≤ key y)
  | [], _ => List.pairwise_singleton _ _
  | y :: r, h => by
    rw [insKey]
    have h1 := List.pairwise_cons.1 h
    split
    · rename_i e
      refine List.pairwise_cons.2 ⟨fun z hz => ?_, h⟩
      rcases List.mem_cons.1 hz with rfl | hz
      · exact e
      · exact Int.le_trans e (h1.1 z hz)
    · rename_i e
      refine List.pairwise_cons.2 ⟨fun z hz => ?_, insKey_sorted key x r h1.2⟩
      rcases List.mem_cons.1 ((insKey_perm key x r).subset hz) with rfl | hz
      · omega
      · exact h1.1 z hz
theorem sortKey_perm (key : Int → Int) : ∀ l : List Int, (sortKey key l).Perm l
  | [] => List.Perm.refl _
  | x :: r => (insKey_perm key x _).trans ((sortKey_perm key r).cons x)
theorem sortKey_sorted (key : Int → Int) : ∀ l : List Int, (sortKey key l).Pairwise (fun x y => key x ≤ key y)
  | [] => List.Pairwise.nil
  | x :: r => insKey_sorted key x _ (sortKey_sorted key r)
theorem key_unique (key : Int → Int) : ∀ {l l' : List Int}, (∀ x ∈ l, ∀ y ∈ l, key x = key y → x = y) → l.Perm l' → l.Pairwise (fun x y => key x ≤ key y) → l'.Pairwise (fun x y => key x ≤ key y) → l = l' := by
  intro l
  induction l with
  | nil => intro l' _ h _ _; exact (List.nil_perm.1 h).symm
  | cons a l ih =>
    intro l' hk h h1 h2
    cases l' with
    | nil => exact absurd h (by simp)
    | cons b l' =>
      have hab : a = b := by
        have ha : a ∈ b :: l' := h.subset (List.mem_cons_self ..)
        have hb : b ∈ a :: l := h.symm.subset (List.mem_cons_self ..)
        rcases List.mem_cons.1 ha with rfl | ha'
        · rfl
        · rcases List.mem_cons.1 hb with rfl | hb'
          · rfl
          · have p := (List.pairwise_cons.1 h2).1 a ha'
            have q := (List.pairwise_cons.1 h1).1 b hb'
            exact hk a (List.mem_cons_self ..) b hb (by omega)
      subst hab
      rw [ih (fun x hx y hy => hk x (List.mem_cons_of_mem _ hx) y (List.mem_cons_of_mem _ hy)) (List.perm_cons a |>.1 h) (List.pairwise_cons.1 h1).2 (List.pairwise_cons.1 h2).2]
end Go.Proofs.Ytmbldnoepjmhhaa.Plain
end
section
/- The elements of a chain, in ascending order, and their number. No program in sight. -/
namespace Go.Proofs.Ytmbldnoepjmhhaa.Bs
open Go.RowKit Go.Proofs.YtmbldnoepjmhhaaW.PrintWords Go.Proofs.Ytmbldnoepjmhhaa.Plain Go.Proofs.Ytmbldnoepjmhhaa.Pms
def goodKeys (u l : List Int) : Bool :=
  decide (0 < l.length) && decide (l.length < 1000) && (l.all fun x => decide (0 ≤ x) && decide (x < (u.length : Int)) && decide (0 ≤ rd u x) && decide (rd u x < 1000)) && l.all fun x => l.all fun y => decide (rd u x = rd u y → x = y)
def eachM {α : Type} (f : α → Int → Option α) : List Int → α → Option α
  | [], a => some a
  | x :: r, a => (f a x).bind (eachM f r)
def more : Nat → Ch → Nat → List Int → List (List Int) → Option (List (List Int))
  | 0, _, _, _, _ => none
  | q + 1, C, k, u, out => if k = C.n then (if out.length < 100000 then some (out ++ [u]) else none) else (C.levels[k]?).bind fun L => if goodKeys u L.orbit = true then
      eachM (fun out x => (C.word k x).bind fun o => o.bind fun w => (mulO w u).bind fun u' => more q C (k + 1) u' out) (sortKey (rd u) L.orbit) out else none
def elements (C : Ch) : Option (List (List Int)) := more 30 C 0 (idL C.n) []
variable {n : Nat}
def Lt (p q : Pm n) : Prop := ∃ k, k < n ∧ (∀ i, i < k → p.ap i = q.ap i) ∧ p.ap k < q.ap k
theorem Lt.irrefl (p : Pm n) : ¬ Lt p p := fun ⟨k, _, _, h⟩ => by omega
theorem Lt.trans {p q r : Pm n} (h : Lt p q) (g : Lt q r) : Lt p r := by
  obtain ⟨k, hk, h1, h2⟩ := h
  obtain ⟨j, hj, g1, g2⟩ := g
  rcases Nat.lt_trichotomy k j with hlt | hlt | hlt
  · exact ⟨k, hk, fun i hi => (h1 i hi).trans (g1 i (by omega)), by rw [← g1 k hlt]; exact h2⟩
  · subst hlt
    exact ⟨k, hk, fun i hi => (h1 i hi).trans (g1 i hi), by omega⟩
  · exact ⟨j, hj, fun i hi => (h1 i (by omega)).trans (g1 i hi), by rw [h1 j hlt]; exact g2⟩
theorem Lt.total (p q : Pm n) : Lt p q ∨ p = q ∨ Lt q p := by
  by_cases h : p = q
  · exact .inr (.inl h)
  · have : ∃ i, i < n ∧ p.ap i ≠ q.ap i := by
      apply Classical.byContradiction
      intro hno
      exact h (Pm.ext' fun i hi => Classical.byContradiction fun hne => hno ⟨i, hi, hne⟩)
    obtain ⟨i, hi, hne⟩ := this
    have key : ∀ m, (∀ j, j < m → j < n → p.ap j = q.ap j) ∨ ∃ k, k < m ∧ k < n ∧ (∀ j, j < k → p.ap j = q.ap j) ∧ p.ap k ≠ q.ap k := by
      intro m
      induction m with
      | zero => exact .inl fun j hj => by omega
      | succ m ih =>
        rcases ih with ih | ⟨k, h1, h2, h3, h4⟩
        · by_cases e : m < n → p.ap m = q.ap m
          · exact .inl fun j hj hjn => by
              by_cases ej : j = m
              · subst ej; exact e hjn
              · exact ih j (by omega) hjn
          · have hmn : m < n := Classical.byContradiction fun hge => e fun h => absurd h hge
            exact .inr ⟨m, by omega, hmn, fun j hj => ih j hj (by omega), fun he => e fun _ => he⟩
        · exact .inr ⟨k, by omega, h2, h3, h4⟩
    rcases key (i + 1) with h | ⟨k, _, h2, h3, h4⟩
    · exact absurd (h i (by omega) hi) hne
    · rcases Nat.lt_or_ge (p.ap k) (q.ap k) with hlt | hge
      · exact .inl ⟨k, h2, h3, hlt⟩
      · exact .inr (.inr ⟨k, h2, fun j hj => (h3 j hj).symm, by omega⟩)
theorem sorted_eq : ∀ {a b : List (Pm n)}, a.Pairwise Lt → b.Pairwise Lt → (∀ p, p ∈ a ↔ p ∈ b) → a = b := by
  intro a
  induction a with
  | nil =>
    intro b _ _ h
    cases b with
    | nil => rfl
    | cons y b => exact absurd ((h y).2 (List.mem_cons_self ..)) (by simp)
  | cons x a ih =>
    intro b ha hb h
    cases b with
    | nil => exact absurd ((h x).1 (List.mem_cons_self ..)) (by simp)
    | cons y b =>
      have ha' := List.pairwise_cons.1 ha
      have hb' := List.pairwise_cons.1 hb
      have hxy : x = y := by
        rcases List.mem_cons.1 ((h x).1 (List.mem_cons_self ..)) with e | hx
        · exact e
        · rcases List.mem_cons.1 ((h y).2 (List.mem_cons_self ..)) with e | hy
          · exact e.symm
          · exact absurd ((ha'.1 y hy).trans (hb'.1 x hx)) (Lt.irrefl x)
      subst hxy
      rw [ih ha'.2 hb'.2 fun p => ?_]
      constructor
      · intro hp
        rcases List.mem_cons.1 ((h p).1 (List.mem_cons_of_mem _ hp)) with e | hp'
        · subst e; exact absurd (ha'.1 p hp) (Lt.irrefl p)
        · exact hp'
      · intro hp
        rcases List.mem_cons.1 ((h p).2 (List.mem_cons_of_mem _ hp)) with e | hp'
        · subst e; exact absurd (hb'.1 p hp) (Lt.irrefl p)
        · exact hp'
theorem sorted_nodup {a : List (Pm n)} (h : a.Pairwise Lt) : a.Nodup := by
  rw [List.nodup_iff_pairwise_ne]
  exact h.imp fun {p q} hpq e => by subst e; exact Lt.irrefl _ hpq
def sortO (A : AC n) (k : Nat) (u : Pm n) : List Nat := (A.O k).mergeSort (fun x y => decide (u.ap x ≤ u.ap y))
theorem sortO_perm (A : AC n) (k : Nat) (u : Pm n) : (sortO A k u).Perm (A.O k) := List.mergeSort_perm _ _
theorem rd_ap (u : Pm n) {x : Nat} (hx : x < n) : rd u.l (x : Int) = ((u.ap x : Nat) : Int) := by
  rw [rd_nat]
  exact (u.ok.get (by rw [u.len]; exact hx)).2.2
theorem orb_lt {A : AC n} (h : Inv A) {k x : Nat} (hk : k < n) (hx : x ∈ A.O k) : x < n := by
  cases ht : A.T k x with
  | none => exact absurd ht ((h.orb k x hk).1 hx)
  | some t => exact (h.word _ _ _ ht).2.1
theorem sortKey_ints {A : AC n} (h : Inv A) {k : Nat} (hk : k < n) (u : Pm n) : sortKey (rd u.l) (ints (A.O k)) = ints (sortO A k u) := by
  have hmem : ∀ x ∈ sortKey (rd u.l) (ints (A.O k)), ∃ y : Nat, x = (y : Int) ∧ y ∈ A.O k := fun x hx => by
    have := (sortKey_perm _ _).subset hx
    obtain ⟨y, hy, rfl⟩ := List.mem_map.1 this
    exact ⟨y, rfl, hy⟩
  refine key_unique (rd u.l) ?_ ((sortKey_perm _ _).trans ((sortO_perm A k u).map _).symm) (sortKey_sorted _ _) ?_
  · intro x hx y hy e
    obtain ⟨a, rfl, ha⟩ := hmem x hx
    obtain ⟨b, rfl, hb⟩ := hmem y hy
    have la := orb_lt h hk ha
    have lb := orb_lt h hk hb
    rw [rd_ap u la, rd_ap u lb] at e
    have := u.inj la lb (by omega)
    omega
  · unfold ints
    rw [List.pairwise_map]
    have := List.pairwise_mergeSort (le := fun x y : Nat => decide (u.ap x ≤ u.ap y)) (by intro a b c; simp; omega) (by intro a b; simp; omega) (A.O k)
    refine List.Pairwise.imp_of_mem ?_ this
    intro a b ha hb hab
    have la := orb_lt h hk ((sortO_perm A k u).subset ha)
    have lb := orb_lt h hk ((sortO_perm A k u).subset hb)
    rw [rd_ap u la, rd_ap u lb]
    have := of_decide_eq_true hab
    omega
def El (A : AC n) : Nat → Nat → Pm n → List (Pm n)
  | 0, _, u => [u]
  | d + 1, k, u => (sortO A k u).flatMap fun x => match A.T k x with
    | some t => El A d (k + 1) (t * u)
    | none => []
theorem El.mem {A : AC n} (h : Inv A) : ∀ (d k : Nat) (u p : Pm n), n - k = d → k ≤ n → (p ∈ El A d k u ↔ ∃ g, In A k g ∧ p = g * u)
  | 0, k, u, p, hd, hk => by
    rw [El, List.mem_singleton]
    constructor
    · rintro rfl
      exact ⟨1, (In.last (by omega)).2 rfl, (Pm.one_mul _).symm⟩
    · rintro ⟨g, hg, rfl⟩
      rw [(In.last (by omega)).1 hg, Pm.one_mul]
  | d + 1, k, u, p, hd, hk => by
    have hkn : k < n := by omega
    rw [El, List.mem_flatMap]
    constructor
    · rintro ⟨x, hx, hp⟩
      cases ht : A.T k x with
      | none => rw [ht] at hp; simp at hp
      | some t =>
        rw [ht] at hp
        obtain ⟨g, hg, rfl⟩ := (El.mem h d (k + 1) (t * u) p (by omega) (by omega)).1 hp
        have hfix := In.fix h d (k + 1) g (by omega) hg
        have hw := h.word _ _ _ ht
        refine ⟨g * t, (In.step hkn).2 ⟨t, ?_, by rw [Pm.mul_inv_r]; exact hg⟩, (Pm.mul_assoc ..).symm⟩
        rw [Pm.mul_ap _ _ hkn, hfix k (by omega) hkn, hw.2.2.1]
        exact ht
    · rintro ⟨g, hg, rfl⟩
      obtain ⟨t, ht, hr⟩ := (In.step hkn).1 hg
      refine ⟨g.ap k, (sortO_perm A k u).symm.subset ((h.orb k _ hkn).2 (by rw [ht]; simp)), ?_⟩
      rw [ht]
      exact (El.mem h d (k + 1) (t * u) _ (by omega) (by omega)).2 ⟨g * t⁻¹, hr, by rw [← Pm.mul_assoc, Pm.inv_mul_r]⟩
theorem El.sorted {A : AC n} (h : Inv A) : ∀ (d k : Nat) (u : Pm n), n - k = d → k ≤ n → (El A d k u).Pairwise Lt
  | 0, k, u, hd, hk => List.pairwise_singleton _ _
  | d + 1, k, u, hd, hk => by
    have hkn : k < n := by omega
    rw [El, List.pairwise_flatMap]
    refine ⟨fun x hx => ?_, ?_⟩
    · cases ht : A.T k x with
      | none => exact List.Pairwise.nil
      | some t => exact El.sorted h d (k + 1) _ (by omega) (by omega)
    · have hs := List.pairwise_mergeSort (le := fun x y : Nat => decide (u.ap x ≤ u.ap y)) (by intro a b c; simp; omega) (by intro a b; simp; omega) (A.O k)
      have hn : (sortO A k u).Nodup := (sortO_perm A k u).nodup_iff.2 (h.nodup k hkn)
      refine List.Pairwise.imp_of_mem ?_ (hs.and (List.nodup_iff_pairwise_ne.1 hn))
      rintro x y hx hy ⟨hle, hne⟩ p hp q hq
      have lx := orb_lt h hkn ((sortO_perm A k u).subset hx)
      have ly := orb_lt h hkn ((sortO_perm A k u).subset hy)
      have hlt : u.ap x < u.ap y := by
        have := of_decide_eq_true hle
        have : u.ap x ≠ u.ap y := fun e => hne (u.inj lx ly e)
        omega
      have image : ∀ z, ∀ r, r ∈ (match A.T k z with | some t => El A d (k + 1) (t * u) | none => []) → (∀ i, i < k → r.ap i = u.ap i) ∧ r.ap k = u.ap z := by
        intro z r hr
        cases ht : A.T k z with
        | none => rw [ht] at hr; simp at hr
        | some t =>
          rw [ht] at hr
          obtain ⟨g, hg, rfl⟩ := (El.mem h d (k + 1) (t * u) r (by omega) (by omega)).1 hr
          have hfix := In.fix h d (k + 1) g (by omega) hg
          have hw := h.word _ _ _ ht
          refine ⟨fun i hi => ?_, ?_⟩
          · have hin : i < n := by omega
            rw [Pm.mul_ap _ _ hin, hfix i (by omega) hin, Pm.mul_ap _ _ hin, hw.2.2.2.1 i hi hin]
          · rw [Pm.mul_ap _ _ hkn, hfix k (by omega) hkn, Pm.mul_ap _ _ hkn, hw.2.2.1]
      have ip := image x p hp
      have iq := image y q hq
      exact ⟨k, hkn, fun i hi => (ip.1 i hi).trans (iq.1 i hi).symm, by rw [ip.2, iq.2]; exact hlt⟩
def ordN (A : AC n) : Nat → Nat → Nat
  | 0, _ => 1
  | d + 1, k => (A.O k).length * ordN A d (k + 1)
theorem El.len {A : AC n} (h : Inv A) : ∀ (d k : Nat) (u : Pm n), n - k = d → k ≤ n → (El A d k u).length = ordN A d k
  | 0, k, u, hd, hk => rfl
  | d + 1, k, u, hd, hk => by
    have hkn : k < n := by omega
    rw [El, List.length_flatMap, ordN, ← (sortO_perm A k u).length_eq]
    have : ∀ l : List Nat, (∀ x ∈ l, x ∈ A.O k) → (l.map fun x => (match A.T k x with | some t => El A d (k + 1) (t * u) | none => []).length).sum = l.length * ordN A d (k + 1) := by
      intro l
      induction l with
      | nil => intro _; simp
      | cons x l ih =>
        intro hl
        rw [List.map_cons, List.sum_cons, ih fun y hy => hl y (List.mem_cons_of_mem _ hy), List.length_cons, Nat.succ_mul]
        have hx := (h.orb k x hkn).1 (hl x (List.mem_cons_self ..))
        cases ht : A.T k x with
        | none => exact absurd ht hx
        | some t => simp only []; rw [El.len h d (k + 1) (t * u) (by omega) (by omega)]; omega
    exact this _ fun x hx => (sortO_perm A k u).subset hx
end Go.Proofs.Ytmbldnoepjmhhaa.Bs
end
section
/- What the steps of Elements and of Order come to. No program in sight. -/
namespace Go.Proofs.Ytmbldnoepjmhhaa.Bs
open Go.RowKit Go.Proofs.YtmbldnoepjmhhaaW.PrintWords Go.Proofs.Ytmbldnoepjmhhaa.Plain Go.Proofs.Ytmbldnoepjmhhaa.Pms
variable {n : Nat}
theorem self_orb {A : AC n} (h : Inv A) {k : Nat} (hk : k < n) : k ∈ A.O k := (h.orb k k hk).2 (by rw [h.base k hk]; simp)
theorem orb_pos {A : AC n} (h : Inv A) {k : Nat} (hk : k < n) : 0 < (A.O k).length := List.length_pos_of_mem (self_orb h hk)
theorem ordN_pos {A : AC n} (h : Inv A) : ∀ (d k : Nat), n - k = d → 0 < ordN A d k
  | 0, _, _ => Nat.one_pos
  | d + 1, k, hd => Nat.mul_pos (orb_pos h (by omega)) (ordN_pos h d (k + 1) (by omega))
theorem orb_ge {A : AC n} (h : Inv A) {k x : Nat} (hk : k < n) (hx : x ∈ A.O k) : k ≤ x := by
  cases ht : A.T k x with
  | none => exact absurd ht ((h.orb k x hk).1 hx)
  | some t =>
    obtain ⟨_, hxn, e, hf, _⟩ := h.word _ _ _ ht
    apply Classical.byContradiction
    intro hlt
    have h1 := hf x (by omega) hxn
    have := t.inj hxn hk (h1.trans e.symm)
    omega
theorem orb_le {A : AC n} (h : Inv A) {k : Nat} (hk : k < n) : (A.O k).length ≤ n - k := by
  have hsub : ∀ x ∈ A.O k, x ∈ List.range' k (n - k) := fun x hx => by
    have h1 := orb_ge h hk hx
    have h2 := orb_lt h hk hx
    rw [List.mem_range'_1]
    omega
  have := (h.nodup k hk).length_le_of_subset hsub
  simpa using this
def fact : Nat → Nat
  | 0 => 1
  | d + 1 => (d + 1) * fact d
theorem fact_mono {a b : Nat} (h : a ≤ b) : fact a ≤ fact b := by
  induction h with
  | refl => exact Nat.le_refl _
  | step h ih => exact Nat.le_trans ih (Nat.le_mul_of_pos_left _ (Nat.succ_pos _))
theorem fact_small {d : Nat} (h : d ≤ 20) : fact d ≤ 2432902008176640000 := fact_mono h
theorem ordN_le {A : AC n} (h : Inv A) : ∀ (d k : Nat), n - k = d → ordN A d k ≤ fact d
  | 0, _, _ => Nat.le_refl _
  | d + 1, k, hd => Nat.mul_le_mul (by have := orb_le h (show k < n by omega); omega) (ordN_le h d (k + 1) (by omega))
theorem good_keys {A : AC n} (hn : n ≤ 20) (h : Inv A) {k : Nat} (hk : k < n) (u : Pm n) : goodKeys u.l (ints (A.O k)) = true := by
  unfold goodKeys
  have hl : (ints (A.O k)).length = (A.O k).length := by simp [ints]
  have h1 := orb_pos h hk
  have h2 := orb_len h hk
  have hmem : ∀ x ∈ ints (A.O k), ∃ y : Nat, x = (y : Int) ∧ y < n := fun x hx => by
    obtain ⟨y, hy, rfl⟩ := List.mem_map.1 hx
    exact ⟨y, rfl, orb_lt h hk hy⟩
  simp only [Bool.and_eq_true, decide_eq_true_eq, List.all_eq_true]
  refine ⟨⟨⟨by omega, by omega⟩, fun x hx => ?_⟩, fun x hx y hy e => ?_⟩
  · obtain ⟨a, rfl, ha⟩ := hmem x hx
    rw [rd_ap u ha, u.len]
    have := u.lt ha
    omega
  · obtain ⟨a, rfl, ha⟩ := hmem x hx
    obtain ⟨b, rfl, hb⟩ := hmem y hy
    rw [rd_ap u ha, rd_ap u hb] at e
    have := u.inj ha hb (by omega)
    omega
theorem more_spec {A : AC n} (hn : n ≤ 20) (h : Inv A) : ∀ (d k q : Nat) (u : Pm n) (out : List (List Int)), n - k = d → k ≤ n → d < q → out.length + ordN A d k < 100000 → more q A.enc k u.l out = some (out ++ (El A d k u).map Pm.l) := by
  intro d
  induction d with
  | zero =>
    intro k q u out hd hk hq hb
    obtain ⟨q, rfl⟩ : ∃ m, q = m + 1 := ⟨q - 1, by omega⟩
    rw [more, if_pos (show k = A.enc.n from (by omega : k = n)), if_pos (by omega)]
    rfl
  | succ d ih =>
    intro k q u out hd hk hq hb
    obtain ⟨q, rfl⟩ : ∃ m, q = m + 1 := ⟨q - 1, by omega⟩
    have hkn : k < n := by omega
    rw [more, if_neg (show ¬ k = A.enc.n from (by omega : ¬ k = n)), A.level hkn, Option.bind_some, show (A.lv k).orbit = ints (A.O k) from rfl, if_pos (good_keys hn h hkn u), sortKey_ints h hkn u]
    have key : ∀ (l : List Nat) (out : List (List Int)), (∀ x ∈ l, x ∈ A.O k) → out.length + l.length * ordN A d (k + 1) < 100000 →
        eachM (fun out x => (A.enc.word k x).bind fun o => o.bind fun w => (mulO w u.l).bind fun u' => more q A.enc (k + 1) u' out) (ints l) out = some (out ++ (l.flatMap fun x => match A.T k x with | some t => El A d (k + 1) (t * u) | none => []).map Pm.l) := by
      intro l
      induction l with
      | nil => intro out _ _; simp [ints, eachM]
      | cons x l ihl =>
        intro out hl hb
        have hxn := orb_lt h hkn (hl x (List.mem_cons_self ..))
        rw [List.length_cons, Nat.succ_mul] at hb
        cases ht : A.T k x with
        | none => exact absurd ht ((h.orb k x hkn).1 (hl x (List.mem_cons_self ..)))
        | some t =>
          show (((A.enc.word k (x : Int)).bind fun o => o.bind fun w => (mulO w u.l).bind fun u' => more q A.enc (k + 1) u' out).bind (eachM _ (ints l))) = _
          rw [A.word_at hkn hxn, ht]
          simp only [Option.map_some, Option.bind_some]
          rw [Pm.mulO (by omega), Option.bind_some, ih (k + 1) q (t * u) out (by omega) (by omega) (by omega) (by omega), Option.bind_some, ihl _ (fun y hy => hl y (List.mem_cons_of_mem _ hy)) ?_]
          · simp [ht]
          · rw [List.length_append, List.length_map, El.len h d (k + 1) (t * u) (by omega) (by omega)]
            omega
    rw [key (sortO A k u) out (fun x hx => (sortO_perm A k u).subset hx) ?_]
    · rfl
    · rw [(sortO_perm A k u).length_eq]
      exact hb
theorem below_spec {A : AC n} (hn : n ≤ 20) (h : Inv A) {k : Nat} (hk : k ≤ n) : belowF A.enc k = (ordN A (n - k) k : Int) := by
  have key : ∀ (d k : Nat) (acc : Nat), n - k = d → k ≤ n → acc * ordN A d k ≤ 9223372036854775807 → (A.enc.levels.drop k).foldl (fun a L => wrap64 (a * (L.orbit.length : Int))) (acc : Int) = ((acc * ordN A d k : Nat) : Int) := by
    intro d
    induction d with
    | zero =>
      intro k acc hd hk _
      rw [List.drop_eq_nil_of_le (by simp [AC.enc]; omega)]
      simp [ordN]
    | succ d ih =>
      intro k acc hd hk hb
      have hkn : k < n := by omega
      have e := A.level hkn
      have hlt : k < A.enc.levels.length := by simp [AC.enc]; exact hkn
      rw [List.drop_eq_getElem_cons hlt]
      have eL : A.enc.levels[k] = A.lv k := by rw [List.getElem?_eq_getElem hlt] at e; exact Option.some.inj e
      rw [eL, List.foldl_cons]
      have hl : ((A.lv k).orbit.length : Int) = ((A.O k).length : Int) := by simp [AC.lv, ints]
      have hp := ordN_pos h d (k + 1) (by omega)
      have hm : acc * (A.O k).length ≤ acc * (A.O k).length * ordN A d (k + 1) := Nat.le_mul_of_pos_right _ hp
      have hb' : acc * (A.O k).length * ordN A d (k + 1) ≤ 9223372036854775807 := by rw [Nat.mul_assoc]; exact hb
      rw [hl, ← Int.natCast_mul, w64_small (by omega) (by omega), ih (k + 1) _ (by omega) (by omega) hb']
      rw [ordN, Nat.mul_assoc]
  unfold belowF
  have := key (n - k) k 1 rfl hk (by rw [Nat.one_mul]; have := ordN_le h (n - k) k rfl; have := fact_small (d := n - k) (by omega); omega)
  rw [Nat.one_mul] at this
  exact this
theorem elements_spec {A : AC n} {G : Pm n → Prop} (hn : n ≤ 20) (h : Good A G) : ∃ E : List (Pm n), E.Pairwise Lt ∧ (∀ p, p ∈ E ↔ G p) ∧ belowF A.enc 0 = (E.length : Int) ∧ (E.length < 100000 → elements A.enc = some (E.map Pm.l)) := by
  refine ⟨El A n 0 1, El.sorted h.inv n 0 1 rfl (Nat.zero_le _), fun p => ?_, ?_, fun hb => ?_⟩
  · rw [El.mem h.inv n 0 1 p rfl (Nat.zero_le _), ← h.holds p]
    constructor
    · rintro ⟨g, hg, rfl⟩; rw [Pm.mul_one]; exact hg
    · intro hp; exact ⟨p, hp, (Pm.mul_one p).symm⟩
  · rw [El.len h.inv n 0 1 rfl (Nat.zero_le _), below_spec hn h.inv (Nat.zero_le _)]
    rfl
  · rw [El.len h.inv n 0 1 rfl (Nat.zero_le _)] at hb
    unfold elements
    have := more_spec hn h.inv n 0 30 1 [] rfl (Nat.zero_le _) (by omega) (by simpa using hb)
    rw [List.nil_append] at this
    exact this
end Go.Proofs.Ytmbldnoepjmhhaa.Bs
end
section
/- least: the least element of a coset; Index and Element: places in the list of all elements. No program in sight. -/
namespace Go.Proofs.Ytmbldnoepjmhhaa.Bs
open Go.RowKit Go.Proofs.YtmbldnoepjmhhaaW.PrintWords Go.Proofs.Ytmbldnoepjmhhaa.Plain Go.Proofs.Ytmbldnoepjmhhaa.Pms
variable {n : Nat}
theorem ap_at (u : Pm n) {x : Nat} (hx : x < n) : at_ u.l (x : Int) = some ((u.ap x : Nat) : Int) := by
  rw [u.l_eq]; exact at_lf hx
theorem bestO_spec (u : Pm n) : ∀ (l : List Nat) (b : Nat), b < n → (∀ x ∈ l, x < n) → ∃ x : Nat, bestO u.l (ints l) (b : Int) = some (x : Int) ∧ x < n ∧ (x = b ∨ x ∈ l) ∧ u.ap x ≤ u.ap b ∧ ∀ y ∈ l, u.ap x ≤ u.ap y
  | [], b, hb, _ => ⟨b, rfl, hb, .inl rfl, Nat.le_refl _, fun y hy => by cases hy⟩
  | x :: r, b, hb, hl => by
    have hx := hl x List.mem_cons_self
    have hr := fun y hy => hl y (List.mem_cons_of_mem _ hy)
    have e : bestO u.l (ints (x :: r)) (b : Int) = bestO u.l (ints r) (if ((u.ap x : Nat) : Int) < ((u.ap b : Nat) : Int) then (x : Int) else (b : Int)) := by
      show ((at_ u.l (x : Int)).bind fun ux => (at_ u.l (b : Int)).bind fun ub => bestO u.l (ints r) (if ux < ub then (x : Int) else (b : Int))) = _
      rw [ap_at u hx, ap_at u hb]; rfl
    rw [e]
    by_cases h : u.ap x < u.ap b
    · rw [if_pos (by omega)]
      obtain ⟨z, h1, hz, h2, h3, h4⟩ := bestO_spec u r x hx hr
      refine ⟨z, h1, hz, .inr ?_, by omega, fun y hy => ?_⟩
      · rcases h2 with rfl | h2
        · exact List.mem_cons_self
        · exact List.mem_cons_of_mem _ h2
      · rcases List.mem_cons.1 hy with rfl | hy
        · exact h3
        · exact h4 y hy
    · rw [if_neg (by omega)]
      obtain ⟨z, h1, hz, h2, h3, h4⟩ := bestO_spec u r b hb hr
      refine ⟨z, h1, hz, h2.imp id (List.mem_cons_of_mem _), h3, fun y hy => ?_⟩
      rcases List.mem_cons.1 hy with rfl | hy
      · omega
      · exact h4 y hy
theorem sortO_sorted (A : AC n) (k : Nat) (u : Pm n) : (sortO A k u).Pairwise (fun x y => u.ap x ≤ u.ap y) :=
  (List.pairwise_mergeSort (le := fun x y : Nat => decide (u.ap x ≤ u.ap y)) (by intro a b c; simp; omega) (by intro a b; simp; omega) (A.O k)).imp of_decide_eq_true
theorem head_sortO {A : AC n} (h : Inv A) {k : Nat} (hk : k < n) (u : Pm n) {x : Nat} (hx : x ∈ A.O k) (hm : ∀ y ∈ A.O k, u.ap x ≤ u.ap y) : ∃ r, sortO A k u = x :: r := by
  have hxs := (sortO_perm A k u).symm.subset hx
  have hs := sortO_sorted A k u
  have hp := sortO_perm A k u
  cases e : sortO A k u with
  | nil => rw [e] at hxs; cases hxs
  | cons a r =>
    rw [e] at hxs hs hp
    have ha := hp.subset List.mem_cons_self
    have h1 := hm a ha
    have h2 : u.ap a ≤ u.ap x := by
      rcases List.mem_cons.1 hxs with rfl | h3
      · exact Nat.le_refl _
      · exact (List.pairwise_cons.1 hs).1 x h3
    have := u.inj (orb_lt h hk hx) (orb_lt h hk ha) (by omega)
    subst this
    exact ⟨r, rfl⟩
theorem least_spec {A : AC n} (hn : n ≤ 20) (h : Inv A) : ∀ (d k q : Nat) (u : Pm n), n - k = d → k ≤ n → d < q → ∃ m r, El A d k u = m :: r ∧ leastM A.enc q k u.l = some m.l
  | 0, k, q, u, hd, hk, hq => by
    obtain ⟨q, rfl⟩ : ∃ m, q = m + 1 := ⟨q - 1, by omega⟩
    refine ⟨u, [], rfl, ?_⟩
    rw [leastM, if_neg (show ¬ k < A.enc.n from (by omega : ¬ k < n))]
  | d + 1, k, q, u, hd, hk, hq => by
    obtain ⟨q, rfl⟩ : ∃ m, q = m + 1 := ⟨q - 1, by omega⟩
    have hkn : k < n := by omega
    have hll : (A.lv k).orbit.length = (A.O k).length := by simp [AC.lv, ints]
    have hol := orb_len h hkn
    have hop := orb_pos h hkn
    obtain ⟨b0, r0, e0⟩ : ∃ b r, A.O k = b :: r := by
      cases e : A.O k with
      | nil => rw [e] at hop; cases hop
      | cons b r => exact ⟨b, r, rfl⟩
    have hlt : ∀ x ∈ A.O k, x < n := fun x hx => orb_lt h hkn hx
    have hb0 : b0 ∈ A.O k := by rw [e0]; exact List.mem_cons_self
    obtain ⟨x, hx, hxn, hx2, hx3, hx4⟩ := bestO_spec u (A.O k) b0 (hlt _ hb0) hlt
    have hxm : x ∈ A.O k := hx2.elim (fun e => e ▸ hb0) id
    obtain ⟨r1, e1⟩ := head_sortO h hkn u hxm hx4
    cases ht : A.T k x with
    | none => exact absurd ht ((h.orb k x hkn).1 hxm)
    | some t =>
      obtain ⟨m, r, e2, e3⟩ := least_spec hn h d (k + 1) q (t * u) (by omega) (by omega) (by omega)
      refine ⟨m, r ++ r1.flatMap (fun x => match A.T k x with | some t => El A d (k + 1) (t * u) | none => []), ?_, ?_⟩
      · rw [El, e1, List.flatMap_cons, ht]
        show El A d (k + 1) (t * u) ++ _ = _
        rw [e2]; rfl
      · rw [leastM, if_pos (show k < A.enc.n from hkn), A.level hkn, Option.bind_some, if_pos (by omega)]
        have hz : (A.lv k).orbit[0]? = some (b0 : Int) := by show (ints (A.O k))[0]? = _; rw [e0]; rfl
        rw [hz, Option.bind_some, show (A.lv k).orbit = ints (A.O k) from rfl, hx, Option.bind_some, A.word_at hkn hxn, ht]
        simp only [Option.map_some, Option.bind_some]
        rw [Pm.mulO (by omega), Option.bind_some]
        exact e3
def blk (A : AC n) (d k : Nat) (u : Pm n) (x : Nat) : List (Pm n) := match A.T k x with
  | some t => El A d (k + 1) (t * u)
  | none => []
theorem El_blk (A : AC n) (d k : Nat) (u : Pm n) : El A (d + 1) k u = (sortO A k u).flatMap (blk A d k u) := rfl
theorem blk_len {A : AC n} (h : Inv A) {d k : Nat} (u : Pm n) (hd : n - k = d + 1) {x : Nat} (hx : x ∈ A.O k) : (blk A d k u x).length = ordN A d (k + 1) := by
  unfold blk
  cases ht : A.T k x with
  | none => exact absurd ht ((h.orb k x (by omega)).1 hx)
  | some t => exact El.len h d (k + 1) (t * u) (by omega) (by omega)
theorem idxIn_spec (s : Nat) (u : Pm n) (pk : Nat) : ∀ (l : List Nat) (c : Nat) (a : Int), (∀ x ∈ l, x < n) → c + l.length * s ≤ 9223372036854775807 →
    ∃ a', idxIn (s : Int) u.l (pk : Int) (ints l) (c : Int) a = some (((c + l.countP (fun x => decide (u.ap x < pk)) * s : Nat) : Int), a') ∧ ((a' = a ∧ ∀ x ∈ l, u.ap x ≠ pk) ∨ ∃ x ∈ l, u.ap x = pk ∧ a' = (x : Int))
  | [], c, a, _, _ => ⟨a, by simp [ints, idxIn], .inl ⟨rfl, fun x hx => by cases hx⟩⟩
  | x :: r, c, a, hl, hc => by
    have hx := hl x List.mem_cons_self
    rw [List.length_cons, Nat.succ_mul] at hc
    obtain ⟨c', ec⟩ : ∃ c', c' = (if u.ap x < pk then c + s else c) := ⟨_, rfl⟩
    obtain ⟨a1, ea⟩ : ∃ a1, a1 = (if u.ap x = pk then (x : Int) else a) := ⟨_, rfl⟩
    have hc' : c' + r.length * s ≤ 9223372036854775807 := by rw [ec]; split <;> omega
    obtain ⟨a', h1, h2⟩ := idxIn_spec s u pk r c' a1 (fun y hy => hl y (List.mem_cons_of_mem _ hy)) hc'
    refine ⟨a', ?_, ?_⟩
    · show ((at_ u.l (x : Int)).bind fun ux => idxIn (s : Int) u.l (pk : Int) (ints r) (if ux < (pk : Int) then wrap64 ((c : Int) + (s : Int)) else (c : Int)) (if ux = (pk : Int) then (x : Int) else a)) = _
      rw [ap_at u hx, Option.bind_some]
      have e1 : (if ((u.ap x : Nat) : Int) < (pk : Int) then wrap64 ((c : Int) + (s : Int)) else (c : Int)) = (c' : Int) := by
        rw [ec]
        by_cases h : u.ap x < pk
        · rw [if_pos (by omega), if_pos h, w64_small (by omega) (by omega)]; omega
        · rw [if_neg (by omega), if_neg h]
      have e2 : (if ((u.ap x : Nat) : Int) = (pk : Int) then (x : Int) else a) = a1 := by
        rw [ea]
        by_cases h : u.ap x = pk
        · rw [if_pos (by omega), if_pos h]
        · rw [if_neg (by omega), if_neg h]
      rw [e1, e2, h1, List.countP_cons]
      congr 2
      rw [ec]
      by_cases h : u.ap x < pk
      · rw [if_pos h, if_pos (decide_eq_true h), Nat.succ_mul]; omega
      · rw [if_neg h, if_neg (by simpa using h)]; simp
    · rcases h2 with ⟨e, hne⟩ | ⟨y, hy, e1, e2⟩
      · by_cases h : u.ap x = pk
        · exact .inr ⟨x, List.mem_cons_self, h, by rw [e, ea, if_pos h]⟩
        · refine .inl ⟨by rw [e, ea, if_neg h], fun y hy => ?_⟩
          rcases List.mem_cons.1 hy with rfl | hy
          · exact h
          · exact hne y hy
      · exact .inr ⟨y, List.mem_cons_of_mem _ hy, e1, e2⟩
theorem blk_image {A : AC n} (h : Inv A) {d k : Nat} (u : Pm n) (hd : n - k = d + 1) {z : Nat} {r : Pm n} (hr : r ∈ blk A d k u z) : r.ap k = u.ap z := by
  unfold blk at hr
  have hkn : k < n := by omega
  cases ht : A.T k z with
  | none => rw [ht] at hr; simp at hr
  | some t =>
    rw [ht] at hr
    obtain ⟨g, hg, rfl⟩ := (El.mem h d (k + 1) (t * u) r (by omega) (by omega)).1 hr
    have hfix := In.fix h d (k + 1) g (by omega) hg
    have hw := h.word _ _ _ ht
    rw [Pm.mul_ap _ _ hkn, hfix k (by omega) hkn, Pm.mul_ap _ _ hkn, hw.2.2.1]
theorem flat_len {α β : Type} (f : α → List β) (s : Nat) : ∀ l : List α, (∀ x ∈ l, (f x).length = s) → (l.flatMap f).length = l.length * s
  | [], _ => by simp
  | x :: r, h => by
    rw [List.flatMap_cons, List.length_append, h x List.mem_cons_self, flat_len f s r (fun y hy => h y (List.mem_cons_of_mem _ hy)), List.length_cons, Nat.succ_mul]; omega
theorem index_spec {A : AC n} (hn : n ≤ 20) (h : Inv A) (p : Pm n) : ∀ (d k q c : Nat) (u : Pm n), n - k = d → k ≤ n → d < q → (∀ i, i < k → p.ap i = u.ap i) → c + ordN A d k ≤ 9223372036854775807 → indexL A.enc p.l q k u.l (c : Int) = if p ∈ El A d k u then some (((c + (El A d k u).idxOf p : Nat) : Int), true) else some (0, false)
  | 0, k, q, c, u, hd, hk, hq, hp, hc => by
    obtain ⟨q, rfl⟩ : ∃ m, q = m + 1 := ⟨q - 1, by omega⟩
    have e : p = u := Pm.ext' fun i hi => hp i (by omega)
    subst e
    rw [indexL, if_neg (show ¬ k < A.enc.n from (by omega : ¬ k < n)), if_pos (by simp [El])]
    simp [El, List.idxOf_cons]
  | d + 1, k, q, c, u, hd, hk, hq, hp, hc => by
    obtain ⟨q, rfl⟩ : ∃ m, q = m + 1 := ⟨q - 1, by omega⟩
    have hkn : k < n := by omega
    have hll : (A.lv k).orbit.length = (A.O k).length := by simp [AC.lv, ints]
    have hol := orb_len h hkn
    have hlt : ∀ x ∈ A.O k, x < n := fun x hx => orb_lt h hkn hx
    have hs := ordN_pos h d (k + 1) (by omega)
    have hb : belowF A.enc (k + 1) = (ordN A d (k + 1) : Int) := by rw [below_spec hn h (by omega), show n - (k + 1) = d by omega]
    have hord : ordN A (d + 1) k = (A.O k).length * ordN A d (k + 1) := rfl
    obtain ⟨a', h1, h2⟩ := idxIn_spec (ordN A d (k + 1)) u (p.ap k) (A.O k) c (-1) hlt (by omega)
    rw [indexL, if_pos (show k < A.enc.n from hkn), A.level hkn, Option.bind_some, Pm.at_ p hkn, Option.bind_some, if_pos (by omega), hb, show (A.lv k).orbit = ints (A.O k) from rfl, h1, Option.bind_some]
    show (if a' < 0 then some (0, false) else _) = _
    rcases h2 with ⟨rfl, hne⟩ | ⟨x, hx, e1, rfl⟩
    · rw [if_pos (by omega), if_neg]
      intro hm
      rw [El_blk, List.mem_flatMap] at hm
      obtain ⟨z, hz, hr⟩ := hm
      exact hne z ((sortO_perm A k u).subset hz) (blk_image h u hd hr).symm
    · rw [if_neg (by omega)]
      have hxn := hlt x hx
      cases ht : A.T k x with
      | none => exact absurd ht ((h.orb k x hkn).1 hx)
      | some t =>
        have hw := h.word _ _ _ ht
        have hbl : blk A d k u x = El A d (k + 1) (t * u) := by unfold blk; rw [ht]
        have hle : c + (A.O k).countP (fun x => decide (u.ap x < p.ap k)) * ordN A d (k + 1) + ordN A d (k + 1) ≤ 9223372036854775807 := by
          have hlt : (A.O k).countP (fun x => decide (u.ap x < p.ap k)) < (A.O k).length := by
            have hle := List.countP_le_length (p := fun x => decide (u.ap x < p.ap k)) (l := A.O k)
            rcases Nat.lt_or_eq_of_le hle with h3 | h3
            · exact h3
            · have := (List.countP_eq_length.1 h3) x hx
              rw [decide_eq_true_iff] at this
              omega
          have := Nat.mul_le_mul_right (ordN A d (k + 1)) (Nat.succ_le_of_lt hlt)
          rw [Nat.succ_mul] at this
          omega
        have ih := index_spec hn h p d (k + 1) q (c + (A.O k).countP (fun x => decide (u.ap x < p.ap k)) * ordN A d (k + 1)) (t * u) (by omega) (by omega) (by omega) (fun i hi => ?_) hle
        · show ((A.enc.word k (x : Int)).bind fun o => o.bind fun w => (mulO w u.l).bind fun u' => indexL A.enc p.l q (k + 1) u' _) = _
          rw [A.word_at hkn hxn, ht]
          simp only [Option.map_some, Option.bind_some]
          rw [Pm.mulO (by omega), Option.bind_some, ih]
          have hxs := (sortO_perm A k u).symm.subset hx
          obtain ⟨l1, l2, e3⟩ := List.append_of_mem hxs
          have hnd : (sortO A k u).Nodup := (sortO_perm A k u).nodup_iff.2 (h.nodup k hkn)
          have hss := sortO_sorted A k u
          have hmem : ∀ y ∈ sortO A k u, y ∈ A.O k := fun y hy => (sortO_perm A k u).subset hy
          rw [e3] at hnd hss hmem
          have hone : ∀ y ∈ A.O k, p ∈ blk A d k u y → y = x := fun y hy hp => u.inj (hlt y hy) hxn (((blk_image h u hd hp).symm).trans e1.symm)
          have hl1 : ∀ y ∈ l1, y ≠ x := fun y hy e => by
            subst e
            have := (List.nodup_append.1 hnd).2.2 y hy y List.mem_cons_self
            exact this rfl
          have hl2 : ∀ y ∈ l2, y ≠ x := fun y hy e => by
            subst e
            have := (List.nodup_cons.1 (List.nodup_append.1 hnd).2.1).1
            exact this hy
          have hm1 : ∀ y ∈ l1, y ∈ A.O k := fun y hy => hmem y (List.mem_append_left _ hy)
          have hm2 : ∀ y ∈ l2, y ∈ A.O k := fun y hy => hmem y (List.mem_append_right _ (List.mem_cons_of_mem _ hy))
          have hc1 : (A.O k).countP (fun x => decide (u.ap x < p.ap k)) = l1.length := by
            rw [← (sortO_perm A k u).countP_eq, e3, List.countP_append, List.countP_cons, if_neg (by rw [decide_eq_true_iff]; omega)]
            have c1 : l1.countP (fun x => decide (u.ap x < p.ap k)) = l1.length := List.countP_eq_length.2 fun y hy => by
              rw [decide_eq_true_iff]
              have h4 := (List.pairwise_append.1 hss).2.2 y hy x List.mem_cons_self
              have h5 : u.ap y ≠ u.ap x := fun e => hl1 y hy (u.inj (hlt y (hm1 y hy)) hxn e)
              omega
            have c2 : l2.countP (fun x => decide (u.ap x < p.ap k)) = 0 := List.countP_eq_zero.2 fun y hy => by
              rw [decide_eq_true_iff]
              have h4 := (List.pairwise_cons.1 (List.pairwise_append.1 hss).2.1).1 y hy
              omega
            omega
          rw [El_blk, e3, List.flatMap_append, List.flatMap_cons, hbl]
          have hn1 : p ∉ l1.flatMap (blk A d k u) := fun hm => by
            obtain ⟨y, hy, hr⟩ := List.mem_flatMap.1 hm
            exact hl1 y hy (hone y (hm1 y hy) hr)
          by_cases hpe : p ∈ El A d (k + 1) (t * u)
          · rw [if_pos hpe, if_pos (List.mem_append_right _ (List.mem_append_left _ hpe)), List.idxOf_append, if_neg hn1, List.idxOf_append, if_pos hpe, flat_len (blk A d k u) (ordN A d (k + 1)) l1 (fun y hy => blk_len h u hd (hm1 y hy)), hc1]
            congr 3
            omega
          · rw [if_neg hpe, if_neg]
            intro hm
            rcases List.mem_append.1 hm with hm | hm
            · exact hn1 hm
            · rcases List.mem_append.1 hm with hm | hm
              · exact hpe hm
              · obtain ⟨y, hy, hr⟩ := List.mem_flatMap.1 hm
                exact hl2 y hy (hone y (hm2 y hy) hr)
        · rw [Pm.mul_ap _ _ (by omega)]
          by_cases hi2 : i = k
          · subst hi2; rw [hw.2.2.1, e1]
          · rw [hw.2.2.2.1 i (by omega) (by omega)]; exact hp i (by omega)
theorem el_all {A : AC n} {G : Pm n → Prop} (h : Good A G) {E : List (Pm n)} (hE : E.Pairwise Lt) (hG : ∀ p, p ∈ E ↔ G p) : El A n 0 1 = E := by
  refine sorted_eq (El.sorted h.inv n 0 1 rfl (Nat.zero_le _)) hE fun p => ?_
  rw [El.mem h.inv n 0 1 p rfl (Nat.zero_le _), hG, ← h.holds p]
  constructor
  · rintro ⟨g, hg, rfl⟩; rw [Pm.mul_one]; exact hg
  · intro hp; exact ⟨p, hp, (Pm.mul_one p).symm⟩
end Go.Proofs.Ytmbldnoepjmhhaa.Bs
end
section
/- The order of a subgroup divides the order. No program in sight. -/
namespace Go.Proofs.Ytmbldnoepjmhhaa.Pms
open Go.RowKit Go.Proofs.YtmbldnoepjmhhaaW.PrintWords Go.Proofs.Ytmbldnoepjmhhaa.Plain Go.Proofs.Ytmbldnoepjmhhaa.Bs
variable {n : Nat}
theorem coset_div {E : List (Pm n)} (hE : E.Nodup) (h1 : (1 : Pm n) ∈ E) (hm : ∀ a ∈ E, ∀ b ∈ E, a * b ∈ E) (hi : ∀ a ∈ E, a⁻¹ ∈ E) : ∀ (m : Nat) (L : List (Pm n)), L.length ≤ m → L.Nodup → (∀ x ∈ L, ∀ a ∈ E, a * x ∈ L) → E.length ∣ L.length := by
  intro m
  induction m with
  | zero => intro L hl _ _; rw [show L.length = 0 by omega]; exact Nat.dvd_zero _
  | succ m ih =>
    intro L hl hn hc
    cases L with
    | nil => exact Nat.dvd_zero _
    | cons x r =>
      obtain ⟨L, hL⟩ : ∃ L, L = x :: r := ⟨_, rfl⟩
      rw [← hL] at hl hn hc ⊢
      have hx : x ∈ L := by rw [hL]; exact List.mem_cons_self
      have hp := List.filter_append_perm (fun y => decide (y ∈ E.map (· * x))) L
      have hC : (E.map (· * x)).Nodup := List.Pairwise.map _ (fun a b hab e => hab (Pm.right_cancel e)) hE
      have hA : (L.filter (fun y => decide (y ∈ E.map (· * x)))).Perm (E.map (· * x)) := (List.perm_ext_iff_of_nodup (hn.filter _) hC).2 fun y => by
        rw [List.mem_filter, decide_eq_true_iff]
        refine ⟨fun h => h.2, fun h => ⟨?_, h⟩⟩
        obtain ⟨a, ha, rfl⟩ := List.mem_map.1 h
        exact hc x hx a ha
      have hlA := hA.length_eq
      rw [List.length_map] at hlA
      have hlp := hp.length_eq
      rw [List.length_append, hlA] at hlp
      have hpos : 0 < E.length := List.length_pos_of_mem h1
      have hd := ih (L.filter (fun y => !decide (y ∈ E.map (· * x)))) (by omega) (hn.filter _) (fun y hy a ha => by
        rw [List.mem_filter] at hy ⊢
        refine ⟨hc y hy.1 a ha, ?_⟩
        have h2 := hy.2
        rw [Bool.not_eq_true', decide_eq_false_iff_not] at h2 ⊢
        intro h3
        obtain ⟨b, hb, e⟩ := List.mem_map.1 h3
        refine h2 (List.mem_map.2 ⟨a⁻¹ * b, hm _ (hi a ha) _ hb, ?_⟩)
        rw [Pm.mul_assoc]
        have e : b * x = a * y := e
        rw [e, Pm.inv_mul_l])
      rw [← hlp]
      exact Nat.dvd_add (Nat.dvd_refl _) hd
theorem gen_dvd {S T : List (Pm n)} {E F : List (Pm n)} (hE : E.Nodup) (hF : F.Nodup) (e : ∀ x, x ∈ E ↔ Gen S x) (f : ∀ x, x ∈ F ↔ Gen T x) (h : ∀ g ∈ S, Gen T g) : E.length ∣ F.length := by
  refine coset_div hE ((e _).2 (Gen.one _)) (fun a ha b hb => (e _).2 (((e _).1 ha).mul ((e _).1 hb))) (fun a ha => (e _).2 ((e _).1 ha).inv) F.length F (Nat.le_refl _) hF fun x hx a ha => ?_
  exact (f _).2 ((Gen.mono h ((e _).1 ha)).mul ((f _).1 hx))
theorem subset_of_len {E F : List (Pm n)} (hE : E.Nodup) (hs : ∀ x ∈ E, x ∈ F) (hl : F.length ≤ E.length) : ∀ x ∈ F, x ∈ E := fun x hx => Classical.byContradiction fun hn => by
  have h1 : (x :: E).Nodup := List.nodup_cons.2 ⟨hn, hE⟩
  have := h1.length_le_of_subset (l₂ := F) (fun y hy => by
    rcases List.mem_cons.1 hy with rfl | hy
    · exact hx
    · exact hs y hy)
  rw [List.length_cons] at this
  omega
theorem gen_eq_of_len {S T : List (Pm n)} {E F : List (Pm n)} (hE : E.Nodup) (hF : F.Nodup) (e : ∀ x, x ∈ E ↔ Gen S x) (f : ∀ x, x ∈ F ↔ Gen T x) (h : ∀ g ∈ S, Gen T g) (hl : F.length = E.length) (x : Pm n) : Gen T x → Gen S x := fun hx =>
  (e x).1 (subset_of_len hE (fun y hy => (f y).2 (Gen.mono h ((e y).1 hy))) (by omega) x ((f x).2 hx))
end Go.Proofs.Ytmbldnoepjmhhaa.Pms
end
section
/- Rising lists of permutations: the place of a permutation, a list with one more, and all products (as the reference makes them). No program in sight. -/
namespace Go.Proofs.Ytmbldnoepjmhhaa.Pms
open Go.RowKit Go.Proofs.YtmbldnoepjmhhaaW.PrintWords Go.Proofs.Ytmbldnoepjmhhaa.Plain Go.Proofs.Ytmbldnoepjmhhaa.Bs
variable {n : Nat}
theorem cmpL_tells : ∀ (a b : List Int), a.length = b.length → (cmpL a b < 0 ↔ ∃ k, k < a.length ∧ (∀ i, i < k → a.getD i 0 = b.getD i 0) ∧ a.getD k 0 < b.getD k 0) ∧ (cmpL a b = 0 ↔ a = b)
  | [], [], _ => ⟨⟨fun h => absurd h (by decide), fun ⟨k, hk, _⟩ => absurd hk (by simp)⟩, by simp [cmpL]⟩
  | x :: a, y :: b, hl => by
    obtain ⟨h1, h2⟩ := cmpL_tells a b (by simpa using hl)
    have e : cmpL (x :: a) (y :: b) = if x < y then -1 else if y < x then 1 else cmpL a b := rfl
    rw [e]
    by_cases h3 : x < y
    · rw [if_pos h3]
      refine ⟨⟨fun _ => ⟨0, by simp, fun i hi => by omega, by simpa using h3⟩, fun _ => by decide⟩, ⟨fun h => absurd h (by decide), fun h => ?_⟩⟩
      injection h with h4 h5; omega
    · rw [if_neg h3]
      by_cases h4 : y < x
      · rw [if_pos h4]
        refine ⟨⟨fun h => absurd h (by decide), fun ⟨k, hk, h5, h6⟩ => ?_⟩, ⟨fun h => absurd h (by decide), fun h => ?_⟩⟩
        · cases k with
          | zero => simp at h6; omega
          | succ k => have := h5 0 (by omega); simp at this; omega
        · injection h with h5 h6; omega
      · rw [if_neg h4]
        have e3 : x = y := by omega
        subst e3
        refine ⟨h1.trans ⟨fun ⟨k, hk, h5, h6⟩ => ⟨k + 1, by simp; omega, fun i hi => ?_, by simpa using h6⟩, fun ⟨k, hk, h5, h6⟩ => ?_⟩, h2.trans (by simp)⟩
        · cases i with
          | zero => simp
          | succ i => simpa using h5 i (by omega)
        · cases k with
          | zero => simp at h6
          | succ k => exact ⟨k, by simpa using hk, fun i hi => by simpa using h5 (i + 1) (by omega), by simpa using h6⟩
theorem Pm.getD (p : Pm n) {i : Nat} (hi : i < n) : p.l.getD i 0 = ((p.ap i : Nat) : Int) := rd_ap p hi
theorem cmp_lt (p q : Pm n) : cmpL p.l q.l < 0 ↔ Lt p q := by
  rw [(cmpL_tells p.l q.l (by rw [p.len, q.len])).1, p.len]
  constructor
  · rintro ⟨k, hk, h1, h2⟩
    refine ⟨k, hk, fun i hi => ?_, ?_⟩
    · have := h1 i hi; rw [p.getD (by omega), q.getD (by omega)] at this; omega
    · rw [p.getD hk, q.getD hk] at h2; omega
  · rintro ⟨k, hk, h1, h2⟩
    refine ⟨k, hk, fun i hi => ?_, ?_⟩
    · rw [p.getD (by omega), q.getD (by omega), h1 i hi]
    · rw [p.getD hk, q.getD hk]; omega
instance (p q : Pm n) : Decidable (Lt p q) := decidable_of_iff _ (cmp_lt p q)
def place (l : List (Pm n)) (p : Pm n) : Nat := l.countP fun q => decide (Lt q p)
theorem place_le (l : List (Pm n)) (p : Pm n) : place l p ≤ l.length := List.countP_le_length
theorem place_iff {p : Pm n} : ∀ {l : List (Pm n)}, l.Pairwise Lt → ∀ (i : Nat) (hi : i < l.length), Lt l[i] p ↔ i < place l p
  | [], _, i, hi => absurd hi (by simp)
  | x :: r, h, i, hi => by
    obtain ⟨h1, h2⟩ := List.pairwise_cons.1 h
    unfold place
    rw [List.countP_cons]
    by_cases hx : Lt x p
    · rw [if_pos (decide_eq_true hx)]
      cases i with
      | zero => simp [hx]
      | succ i =>
        rw [List.getElem_cons_succ]
        have := place_iff (p := p) h2 i (by simpa using hi)
        unfold place at this
        rw [this]; omega
    · rw [if_neg (by simpa using hx)]
      have h0 : r.countP (fun q => decide (Lt q p)) = 0 := List.countP_eq_zero.2 fun y hy => by
        rw [decide_eq_true_iff]; exact fun hy2 => hx ((h1 y hy).trans hy2)
      rw [h0]
      cases i with
      | zero => simp [hx]
      | succ i =>
        rw [List.getElem_cons_succ]
        refine ⟨fun h3 => absurd ((h1 _ (List.getElem_mem _)).trans h3) hx, fun h3 => by omega⟩
theorem place_mem {l : List (Pm n)} {p : Pm n} (h : l.Pairwise Lt) : p ∈ l ↔ ∃ hi : place l p < l.length, l[place l p] = p := by
  constructor
  · intro hp
    obtain ⟨i, hi, rfl⟩ := List.getElem_of_mem hp
    have e : place l l[i] = i := by
      have h1 := (place_iff (p := l[i]) h i hi)
      have h2 : ¬ i < place l l[i] := fun h3 => Lt.irrefl _ (h1.2 h3)
      cases hp : place l l[i] with
      | zero => rw [hp] at h2; rcases Nat.eq_zero_or_pos i with rfl | h0
                · rfl
                · have := (place_iff (p := l[i]) h 0 (by omega)).1 (List.pairwise_iff_getElem.1 h 0 i (by omega) hi h0)
                  omega
      | succ m =>
        rw [hp] at h2
        rcases Nat.lt_or_ge m i with h3 | h3
        · rcases Nat.lt_or_ge (m + 1) i with h4 | h4
          · have := (place_iff (p := l[i]) h (m + 1) (by omega)).1 (List.pairwise_iff_getElem.1 h (m + 1) i (by omega) hi h4)
            omega
          · omega
        · omega
    exact ⟨by rw [e]; exact hi, by simp only [e]⟩
  · rintro ⟨hi, e⟩
    rw [← e]; exact List.getElem_mem _
def ins (l : List (Pm n)) (p : Pm n) : List (Pm n) := l.take (place l p) ++ p :: l.drop (place l p)
theorem ins_perm (l : List (Pm n)) (p : Pm n) : (ins l p).Perm (p :: l) := by
  unfold ins
  refine List.perm_middle.trans ?_
  rw [List.take_append_drop]
theorem ins_sorted {l : List (Pm n)} {p : Pm n} (h : l.Pairwise Lt) (hp : p ∉ l) : (ins l p).Pairwise Lt := by
  unfold ins
  have hlt : ∀ x ∈ l.take (place l p), Lt x p := fun x hx => by
    obtain ⟨i, hi, rfl⟩ := List.getElem_of_mem hx
    rw [List.length_take] at hi
    rw [List.getElem_take]
    exact (place_iff h i (by omega)).2 (by omega)
  have hgt : ∀ x ∈ l.drop (place l p), Lt p x := fun x hx => by
    obtain ⟨i, hi, rfl⟩ := List.getElem_of_mem hx
    rw [List.length_drop] at hi
    rw [List.getElem_drop]
    rcases Lt.total p l[place l p + i] with h1 | h1 | h1
    · exact h1
    · exact absurd (by rw [h1]; exact List.getElem_mem _) hp
    · have := (place_iff h (place l p + i) (by omega)).1 h1
      omega
  rw [List.pairwise_append]
  refine ⟨h.sublist (List.take_sublist _ _), List.pairwise_cons.2 ⟨hgt, h.sublist (List.drop_sublist _ _)⟩, fun x hx y hy => ?_⟩
  rcases List.mem_cons.1 hy with rfl | hy
  · exact hlt x hx
  · exact (hlt x hx).trans (hgt y hy)
theorem all_exists (hn : n ≤ 20) (S : List (Pm n)) : ∃ E : List (Pm n), E.Pairwise Lt ∧ ∀ p, p ∈ E ↔ Gen S p := by
  obtain ⟨A, h1, h2⟩ := new_spec hn S
  obtain ⟨E, e1, e2, e3, e4⟩ := elements_spec hn h2
  exact ⟨E, e1, e2⟩
end Go.Proofs.Ytmbldnoepjmhhaa.Pms
end
section
/- Reduced: of the elements in rising order those that are not products of the ones before. No program in sight. -/
namespace Go.Proofs.Ytmbldnoepjmhhaa.Pms
open Go.RowKit Go.Proofs.YtmbldnoepjmhhaaW.PrintWords Go.Proofs.Ytmbldnoepjmhhaa.Plain Go.Proofs.Ytmbldnoepjmhhaa.Bs
variable {n : Nat}
open Classical in
noncomputable def greedy : List (Pm n) → List (Pm n) → List (Pm n)
  | [], out => out
  | p :: r, out => if Gen out p then greedy r out else greedy r (out ++ [p])
theorem greedy_stop : ∀ (l out : List (Pm n)), (∀ x ∈ l, Gen out x) → greedy l out = out
  | [], _, _ => rfl
  | p :: r, out, h => by
    rw [greedy, if_pos (h p List.mem_cons_self)]
    exact greedy_stop r out (fun x hx => h x (List.mem_cons_of_mem _ hx))
theorem add_new {A : AC n} {S : List (Pm n)} (hn : n ≤ 20) (h0 : 0 < n) (h : Bs.Good A (Gen S)) (g : Pm n) (hg : ¬ Gen S g) : ∃ B, add A.enc g.l = some B.enc ∧ Bs.Good B (Gen (S ++ [g])) ∧ B.S 0 = A.S 0 ++ [g] := by
  unfold add
  rw [if_pos (show 0 < A.enc.n from h0)]
  obtain ⟨b, hb, hbi⟩ := contains_spec hn h g
  rw [hb, Option.bind_some]
  cases b with
  | true => exact absurd (hbi.1 rfl) hg
  | false =>
    have hno : ¬ In A 0 g := fun hi => hg ((h.holds g).1 hi)
    obtain ⟨B, e, pB⟩ := insert_spec hn 30 0 A g h0 (by omega) h.inv h.cmp h.bd (fun i hi => by omega) (fun j hj => by omega) hno
    refine ⟨B, e, ⟨pB.inv, pB.cmp, pB.bd, fun p => ?_⟩, pB.gens⟩
    rw [In.iff_gen pB.inv n 0 rfl pB.cmp p, pB.gens]
    refine Gen.append_congr g (fun q => ?_) p
    rw [← In.iff_gen h.inv n 0 rfl h.cmp q]
    exact h.holds q
theorem gen_all (h0 : n = 0) (S : List (Pm n)) (p : Pm n) : Gen S p := by
  have : p = 1 := Pm.ext' fun i hi => by omega
  rw [this]; exact Gen.one _
theorem redLoop_spec (hn : n ≤ 20) {T : List (Pm n)} {E : List (Pm n)} (hE : E.Nodup) (hG : ∀ p, p ∈ E ↔ Gen T p) : ∀ (r : List (Pm n)) (A : AC n) (out : List (Pm n)), (∀ x ∈ r, x ∈ E) → (∀ x ∈ out, x ∈ E) → Bs.Good A (Gen out) → out.length ≤ (A.S 0).length → redLoop (E.length : Int) (r.map Pm.l) A.enc (out.map Pm.l) = some ((greedy r out).map Pm.l)
  | [], A, out, _, _, _, _ => rfl
  | p :: r, A, out, hr, ho, hA, hS => by
    have hout : ∀ x ∈ out, Gen T x := fun x hx => (hG x).1 (ho x hx)
    have stop : ∀ (B : AC n) (o : List (Pm n)), Bs.Good B (Gen o) → (∀ x ∈ o, x ∈ E) → belowF B.enc 0 = (E.length : Int) → ∀ l : List (Pm n), (∀ x ∈ l, x ∈ E) → greedy l o = o := fun B o hB ho2 hb l hl => by
      obtain ⟨F, f1, f2, f3, _⟩ := elements_spec hn hB
      refine greedy_stop l o fun x hx => ?_
      exact gen_eq_of_len (sorted_nodup f1) hE f2 hG (fun g hg => (hG g).1 (ho2 g hg)) (by omega) x ((hG x).1 (hl x hx))
    have hr2 := fun x hx => hr x (List.mem_cons_of_mem _ hx)
    obtain ⟨b, hb, hb2⟩ := contains_spec hn hA p
    rw [List.map_cons, redLoop, hb, Option.bind_some, greedy]
    by_cases hp : Gen out p
    · rw [if_pos (hb2.2 hp), if_pos hp]
      by_cases he : belowF A.enc 0 = (E.length : Int)
      · rw [if_pos he, stop A out hA ho he r hr2]
      · rw [if_neg he]
        exact redLoop_spec hn hE hG r A out hr2 ho hA hS
    · rw [if_neg (fun h => hp (hb2.1 h)), if_neg hp]
      have h0 : 0 < n := Nat.pos_of_ne_zero fun h => hp (gen_all h _ _)
      have hbd := Bd.bound hA.inv n 0 rfl hA.bd
      have hnn : n * n ≤ 400 := Nat.mul_le_mul hn hn
      obtain ⟨B, e, hB, hBS⟩ := add_new hn h0 hA p hp
      have ho' : ∀ x ∈ out ++ [p], x ∈ E := fun x hx => by
        rcases List.mem_append.1 hx with h | h
        · exact ho x h
        · rw [List.mem_singleton] at h; subst h; exact hr x List.mem_cons_self
      rw [if_pos (by rw [List.length_map]; omega), e, Option.bind_some]
      have em : out.map Pm.l ++ [p.l] = (out ++ [p]).map Pm.l := by rw [List.map_append]; rfl
      rw [em]
      by_cases he : belowF B.enc 0 = (E.length : Int)
      · rw [if_pos he, stop B _ hB ho' he r hr2]
      · rw [if_neg he]
        exact redLoop_spec hn hE hG r B _ hr2 ho' hB (by rw [hBS, List.length_append, List.length_append]; simp; exact hS)
theorem reduced_spec (hn : n ≤ 20) {T : List (Pm n)} {E : List (Pm n)} (hE : E.Nodup) (hG : ∀ p, p ∈ E ↔ Gen T p) : reducedM n (E.map Pm.l) = some ((greedy E []).map Pm.l) := by
  unfold reducedM
  have e : new_ n [] = some (AC.start0 n).enc := by unfold new_ addAll; rw [AC.enc_start0]
  rw [e, Option.bind_some, List.length_map]
  exact redLoop_spec hn hE hG E (AC.start0 n) [] (fun _ h => h) (fun x hx => by cases hx) good_start (Nat.zero_le _)
end Go.Proofs.Ytmbldnoepjmhhaa.Pms
end
section
/- The reduced form: it generates the group, and is short. No program in sight. -/
namespace Go.Proofs.Ytmbldnoepjmhhaa.Pms
open Go.RowKit Go.Proofs.Ytmbldnoepjmhhaa.Plain Go.Proofs.Ytmbldnoepjmhhaa.Bs
variable {n : Nat}
theorem greedy_dbl (hn : n ≤ 20) {T E : List (Pm n)} (hE : E.Nodup) (hG : ∀ p, p ∈ E ↔ Gen T p) : ∀ (l out F : List (Pm n)), F.Pairwise Lt → (∀ p, p ∈ F ↔ Gen out p) → (∀ x ∈ l, x ∈ E) → (∀ x ∈ out, x ∈ E) → 2 ^ out.length ≤ F.length → 2 ^ (greedy l out).length ≤ E.length
  | [], out, F, hF, hg, _, ho, hl => by
    show 2 ^ out.length ≤ E.length
    have : F.length ∣ E.length := gen_dvd (sorted_nodup hF) hE hg hG (fun g hgo => (hG g).1 (ho g hgo))
    have h0 : 0 < E.length := List.length_pos_of_mem ((hG 1).2 (Gen.one _))
    exact Nat.le_trans hl (Nat.le_of_dvd h0 this)
  | p :: r, out, F, hF, hg, hr, ho, hl => by
    rw [greedy]
    split
    · exact greedy_dbl hn hE hG r out F hF hg (fun x hx => hr x (List.mem_cons_of_mem _ hx)) ho hl
    · rename_i hp
      obtain ⟨F2, h1, h2⟩ := all_exists hn (out ++ [p])
      have hd : F.length ∣ F2.length := gen_dvd (sorted_nodup hF) (sorted_nodup h1) hg h2 (fun g hgo => Gen.of (List.mem_append_left _ hgo))
      have hne : F2.length ≠ F.length := fun e => by
        have := gen_eq_of_len (sorted_nodup hF) (sorted_nodup h1) hg h2 (fun g hgo => Gen.of (List.mem_append_left _ hgo)) e p (Gen.of (List.mem_append_right _ (List.mem_singleton.2 rfl)))
        exact hp this
      have h0 : 0 < F2.length := List.length_pos_of_mem ((h2 1).2 (Gen.one _))
      obtain ⟨c, hc⟩ := hd
      have hc2 : 2 ≤ c := by
        rcases c with _ | _ | c
        · rw [Nat.mul_zero] at hc; omega
        · rw [Nat.zero_add, Nat.mul_one] at hc; exact absurd hc hne
        · omega
      refine greedy_dbl hn hE hG r (out ++ [p]) F2 h1 h2 (fun x hx => hr x (List.mem_cons_of_mem _ hx)) (fun x hx => ?_) ?_
      · rcases List.mem_append.1 hx with h | h
        · exact ho x h
        · rw [List.mem_singleton] at h; subst h; exact hr _ List.mem_cons_self
      · rw [List.length_append, List.length_singleton, Nat.pow_succ, hc]
        exact Nat.mul_le_mul hl hc2
theorem greedy_len (hn : n ≤ 20) {T E : List (Pm n)} (hE : E.Nodup) (hG : ∀ p, p ∈ E ↔ Gen T p) : 2 ^ (greedy E []).length ≤ E.length :=
  greedy_dbl hn hE hG E [] [1] (List.pairwise_singleton _ _) (fun p => by
    rw [List.mem_singleton]
    exact ⟨fun e => e ▸ Gen.one _, Gen.nil⟩) (fun _ h => h) (fun x hx => by cases hx) (by simp)
theorem greedy_short (hn : n ≤ 20) {T E : List (Pm n)} (hE : E.Nodup) (hG : ∀ p, p ∈ E ↔ Gen T p) (hl : E.length ≤ 5040) : (greedy E []).length ≤ 12 := by
  have h := greedy_len hn hE hG
  refine Classical.byContradiction fun hh => ?_
  have : 2 ^ 13 ≤ 2 ^ (greedy E []).length := Nat.pow_le_pow_right (by decide) (by omega)
  have e : (2 : Nat) ^ 13 = 8192 := by decide
  omega
end Go.Proofs.Ytmbldnoepjmhhaa.Pms
end
section
/- Fixing: what it computes. No program in sight. -/
namespace Go.Proofs.Ytmbldnoepjmhhaa.Pms
open Go.RowKit Go.Proofs.Ytmbldnoepjmhhaa.Plain Go.Proofs.Ytmbldnoepjmhhaa.Bs
def gensF (C : Ch) (k : Nat) : List (List Int) := (C.levels.drop k).flatMap fun L => L.gens
def inP (P : List Int) (x : Int) : Bool := decide (x ∈ P)
def fixN (n : Nat) (P : List Int) : Nat := ((List.range n).filter (fun x : Nat => inP P (x : Int))).length
def ordM (n : Nat) (P : List Int) : List Int := (idL n).filter (fun x => inP P x) ++ (idL n).filter (fun x => !inP P x)
def mapL (f : List Int → Option (List Int)) : List (List Int) → List (List Int) → Option (List (List Int))
  | [], acc => some acc
  | g :: r, acc => (f g).bind fun x => mapL f r (acc ++ [x])
def trip (a b : List Int) (g : List Int) : Option (List Int) := (mulO a g).bind fun x => mulO x b
def fixM (n : Nat) (gens : List (List Int)) (P : List Int) : Option (List (List Int)) :=
  (invO (ordM n P)).bind fun back => (mapL (trip (ordM n P) back) gens []).bind fun moved => if moved.length ≤ 100000 then (new_ n moved).bind fun C => if fixN n P ≤ C.n ∧ (gensF C (fixN n P)).length ≤ 100000 then mapL (trip back (ordM n P)) (gensF C (fixN n P)) [] else none else none
end Go.Proofs.Ytmbldnoepjmhhaa.Pms
end
