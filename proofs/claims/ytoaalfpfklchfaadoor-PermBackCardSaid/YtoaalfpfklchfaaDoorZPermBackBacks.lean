/- Back: a permutation is found again from its cycles, its rank and its text; permutations are compared as their ranks. Plain: no program in sight. -/
import Derived.Test.YtoaalfpfklchfaaDoorZPermBackTexts
import Derived.Test.YtoaalfpfklchfaaDoorZPermBackUnranks
namespace Go.Proofs.YtoaalfpfklchfaaDoor.Plain
set_option linter.unusedVariables false
set_option linter.unusedSimpArgs false
open Go.RowKit Go.Proofs.YtoaalfpfklchfaaDoorW.PrintWords
/-! ### From its cycles -/
theorem orb_getElem (g : Nat → Nat) (n i k : Nat) (hk : k < (orb g n i).length) : (orb g n i)[k] = it g k i := by
  have h : (orb g n i)[k]? = some (it g k i) := by
    unfold orb
    rw [List.getElem?_map, List.getElem?_range (by rw [orb_length] at hk; exact hk)]
    rfl
  rw [List.getElem?_eq_getElem hk] at h
  exact Option.some.inj h
theorem orb_getD {g : Nat → Nat} {n i k : Nat} (hk : k < per g n i) : (ints (orb g n i)).getD k 0 = ((it g k i : Nat) : Int) := by
  unfold ints
  rw [List.getD_eq_getElem?_getD, List.getElem?_map, List.getElem?_eq_getElem (by rw [orb_length]; exact hk), orb_getElem]
  rfl
theorem getD_set (l : List Int) (a y : Nat) (v : Int) (hy : y < l.length) : (l.set a v).getD y 0 = if a = y then v else l.getD y 0 := by
  rw [List.getD_eq_getElem?_getD, List.getD_eq_getElem?_getD, List.getElem?_set]
  split
  · rw [if_pos (by omega)]; rfl
  · rfl
theorem fill1_orb {g : Nat → Nat} {n i : Nat} (h : Bij n g) (hi : i < n) (p : List Int) (hp : p.length = n) : ∀ j, j ≤ per g n i → ∀ y, y < n →
    (fill1 (ints (orb g n i)) p j).getD y 0 = if y ∈ (orb g n i).take j then ((g y : Nat) : Int) else p.getD y 0
  | 0, _, y, _ => by
    rw [List.take_zero, if_neg (by simp)]; rfl
  | j + 1, hj, y, hy => by
    have ih := fill1_orb h hi p hp j (by omega) y hy
    have hl : (ints (orb g n i)).length = per g n i := by unfold ints; rw [List.length_map, orb_length]
    have hp0 := per_pos g n i
    have hval : it g ((j + 1) % per g n i) i = g (it g j i) := (it_mod (h.per_spec hi).1 (j + 1)).symm
    have hlt : j < (orb g n i).length := by rw [orb_length]; omega
    rw [fill1_succ]
    unfold stepC
    rw [hl, orb_getD (by omega : j < per g n i), orb_getD (Nat.mod_lt _ hp0), hval, Int.toNat_natCast, getD_set _ _ _ _ (by rw [fill1_length]; omega), ih, List.take_succ_eq_append_getElem hlt, orb_getElem]
    by_cases e : it g j i = y
    · rw [if_pos e, if_pos (List.mem_append_right _ (by rw [e]; exact List.mem_singleton_self _)), e]
    · rw [if_neg e]
      by_cases hm : y ∈ (orb g n i).take j
      · rw [if_pos hm, if_pos (List.mem_append_left _ hm)]
      · rw [if_neg hm, if_neg]
        intro hc
        rcases List.mem_append.1 hc with hc | hc
        · exact hm hc
        · exact e (List.mem_singleton.1 hc).symm
theorem fillC_orbs {g : Nat → Nat} {n : Nat} (h : Bij n g) : ∀ (H : List Nat) (p : List Int), p.length = n → (∀ i ∈ H, i < n) → ∀ y, y < n →
    ((∃ i ∈ H, y ∈ orb g n i) → (fillC p (H.map fun i => ints (orb g n i))).getD y 0 = ((g y : Nat) : Int)) ∧ ((¬ ∃ i ∈ H, y ∈ orb g n i) → (fillC p (H.map fun i => ints (orb g n i))).getD y 0 = p.getD y 0)
  | [], p, _, _, y, _ => ⟨fun ⟨i, hi, _⟩ => (by simp at hi), fun _ => rfl⟩
  | i :: H, p, hp, hH, y, hy => by
    have hi := hH i (List.mem_cons_self ..)
    have hl : (ints (orb g n i)).length = per g n i := by unfold ints; rw [List.length_map, orb_length]
    have f1 := fill1_orb h hi p hp (per g n i) (Nat.le_refl _) y hy
    rw [List.take_of_length_le (by rw [orb_length]; exact Nat.le_refl _)] at f1
    have ih := fillC_orbs h H (fill1 (ints (orb g n i)) p (per g n i)) (by rw [fill1_length]; exact hp) (fun k hk => hH k (List.mem_cons_of_mem _ hk)) y hy
    have e : fillC p ((i :: H).map fun i => ints (orb g n i)) = fillC (fill1 (ints (orb g n i)) p (per g n i)) (H.map fun i => ints (orb g n i)) := by
      show fillC (fill1 (ints (orb g n i)) p (ints (orb g n i)).length) _ = _
      rw [hl]
    rw [e]
    constructor
    · rintro ⟨k, hk, hyk⟩
      by_cases hex : ∃ i ∈ H, y ∈ orb g n i
      · exact ih.1 hex
      · rw [ih.2 hex, f1]
        rcases List.mem_cons.1 hk with rfl | hk
        · rw [if_pos hyk]
        · exact absurd ⟨k, hk, hyk⟩ hex
    · intro hno
      rw [ih.2 (fun ⟨k, hk, hyk⟩ => hno ⟨k, List.mem_cons_of_mem _ hk, hyk⟩), f1, if_neg fun hc => hno ⟨i, List.mem_cons_self .., hc⟩]
theorem cycI_eq (g : Nat → Nat) (n : Nat) : cycI g n n = ((List.range n).filter (isHead g n)).map fun i => ints (orb g n i) := by
  unfold cycI cyc
  rw [List.map_map]; rfl
theorem Bij.fixed {g : Nat → Nat} {n : Nat} (h : Bij n g) {y : Nat} (hy : y < n) (hno : ¬ ∃ i ∈ (List.range n).filter (isHead g n), y ∈ orb g n i) : g y = y := by
  obtain ⟨j, h1, h2, h3⟩ := h.has_least y hy
  have hj : j < n := by omega
  by_cases h4 : 2 ≤ per g n j
  · exact absurd ⟨j, List.mem_filter.2 ⟨List.mem_range.2 hj, by unfold isHead; rw [h3, decide_eq_true h4]; rfl⟩, h2⟩ hno
  · have hp := per_pos g n j
    have e1 : per g n y = 1 := by rw [h.per_orb hj h2]; omega
    have := (h.per_spec hy).1
    rw [e1] at this
    exact this
theorem fillC_cyc {g : Nat → Nat} {n : Nat} (h : Bij n g) : fillC (lf (fun i => i) n) (cycI g n n) = lf g n := by
  rw [cycI_eq]
  have hlen : (fillC (lf (fun i => i) n) (((List.range n).filter (isHead g n)).map fun i => ints (orb g n i))).length = n := by rw [fillC_length, lf_length]
  refine List.ext_getElem (by rw [hlen, lf_length]) fun y h1 h2 => ?_
  have hy : y < n := by rw [hlen] at h1; exact h1
  have key := fillC_orbs h ((List.range n).filter (isHead g n)) (lf (fun i => i) n) (lf_length _ _) (fun i hi => List.mem_range.1 (List.mem_filter.1 hi).1) y hy
  have e2 : (lf g n)[y] = ((g y : Nat) : Int) := by
    have := lf_getD g n y hy
    rw [List.getD_eq_getElem?_getD, List.getElem?_eq_getElem h2] at this
    exact this
  have e1 : ∀ v, (fillC (lf (fun i => i) n) (((List.range n).filter (isHead g n)).map fun i => ints (orb g n i))).getD y 0 = v → (fillC (lf (fun i => i) n) (((List.range n).filter (isHead g n)).map fun i => ints (orb g n i)))[y] = v := by
    intro v hv
    rw [List.getD_eq_getElem?_getD, List.getElem?_eq_getElem h1] at hv
    exact hv
  rw [e2]
  refine e1 _ ?_
  by_cases hex : ∃ i ∈ (List.range n).filter (isHead g n), y ∈ orb g n i
  · exact key.1 hex
  · rw [key.2 hex, lf_getD _ _ _ hy, h.fixed hy hex]
theorem scanR_ok (n : Nat) (F : List Int × Int) : ∀ (l : List Nat) (seen : List Bool), seen.length = n → (∀ x ∈ l, x < n) → l.Nodup → (∀ x ∈ l, seen.getD x false = false) → scanR n F seen (ints l) = F
  | [], _, _, _, _, _ => rfl
  | x :: l, seen, hs, hl, hn, hf => by
    obtain ⟨hx, hn'⟩ := List.nodup_cons.1 hn
    have hxn := hl x (List.mem_cons_self ..)
    show (if ((x : Nat) : Int) < 0 ∨ (n : Int) ≤ ((x : Nat) : Int) then _ else if rdOf false seen ((x : Nat) : Int) = true then _ else scanR n F (seen.set ((x : Nat) : Int).toNat true) (ints l)) = F
    have hr : rdOf false seen ((x : Nat) : Int) = false := hf x (List.mem_cons_self ..)
    rw [if_neg (by omega), hr, if_neg Bool.false_ne_true, Int.toNat_natCast]
    refine scanR_ok n F l _ (by rw [List.length_set]; exact hs) (fun y hy => hl y (List.mem_cons_of_mem _ hy)) hn' fun y hy => ?_
    have hne : x ≠ y := fun e => hx (e ▸ hy)
    rw [List.getD_eq_getElem?_getD, List.getElem?_set_ne hne, ← List.getD_eq_getElem?_getD]
    exact hf y (List.mem_cons_of_mem _ hy)
theorem cyc_nodup {g : Nat → Nat} {n : Nat} (h : Bij n g) : (cyc g n n).flatten.Nodup := by
  show List.Pairwise _ _
  rw [List.pairwise_flatten]
  unfold cyc
  constructor
  · intro l hl
    obtain ⟨i, hi, rfl⟩ := List.mem_map.1 hl
    exact h.orb_nodup (List.mem_range.1 (List.mem_filter.1 hi).1)
  · rw [List.pairwise_map]
    refine List.Pairwise.imp_of_mem ?_ ((List.pairwise_lt_range (n := n)).filter _)
    intro a b ha hb hab x hx y hy e
    subst e
    obtain ⟨ha1, ha2⟩ := List.mem_filter.1 ha
    obtain ⟨hb1, hb2⟩ := List.mem_filter.1 hb
    have ha1 := List.mem_range.1 ha1
    have hb1 := List.mem_range.1 hb1
    unfold isHead at ha2 hb2
    rw [Bool.and_eq_true] at ha2 hb2
    have hin : a ∈ orb g n b := h.orb_trans hb1 hy (h.orb_symm ha1 hx)
    have := isLeast_iff.1 hb2.1 a hin
    omega
theorem cyc_lt {g : Nat → Nat} {n : Nat} (h : Bij n g) : ∀ x ∈ (cyc g n n).flatten, x < n := by
  intro x hx
  obtain ⟨l, hl, hxl⟩ := List.mem_flatten.1 hx
  obtain ⟨i, hi, rfl⟩ := List.mem_map.1 hl
  exact h.orb_lt (List.mem_range.1 (List.mem_filter.1 hi).1) hxl
theorem fromC_cyc {g : Nat → Nat} {n : Nat} (h : Bij n g) (hn : n ≤ 20) : fromC (n : Int) (cycI g n n) = (lf g n, 0) := by
  have hd : degE (n : Int) = 0 := by unfold degE; rw [if_neg (by omega), if_neg (by omega)]
  unfold fromC
  rw [if_pos hd, Int.toNat_natCast, fillC_cyc h]
  have e : (cycI g n n).flatten = ints (cyc g n n).flatten := by
    unfold cycI ints
    rw [List.map_flatten]
  rw [e]
  refine scanR_ok n _ _ _ (by rw [List.length_replicate]) (cyc_lt h) (cyc_nodup h) fun x hx => ?_
  rw [List.getD_eq_getElem?_getD, List.getElem?_replicate, if_pos (cyc_lt h x hx)]; rfl
/-! ### Its rank -/
theorem below_mono {x y : Int} (h : x ≤ y) : ∀ l, below x l ≤ below y l
  | [] => Nat.le_refl _
  | z :: l => by
    have ih := below_mono h l
    rw [below_cons, below_cons]
    split <;> split <;> omega
theorem rk_head {x y : Int} {l m : List Int} (hp : (x :: l).Perm (y :: m)) (h : x < y) : rk (x :: l) < rk (y :: m) := by
  have hlen : l.length = m.length := by have := hp.length_eq; simpa using this
  have h1 : below y (y :: m) = below y (x :: l) := (below_perm y hp).symm
  rw [below_cons, below_cons, if_neg (by omega), if_pos h] at h1
  have h2 := below_mono (Int.le_of_lt h) l
  have h3 := rk_lt l
  show below x l * fact l.length + rk l < below y m * fact m.length + rk m
  rw [← hlen]
  have h4 : (below x l + 1) * fact l.length ≤ below y m * fact l.length := Nat.mul_le_mul_right _ (by omega)
  rw [Nat.add_mul] at h4
  omega
theorem cmp_rk : ∀ (a b : List Int), a.Perm b → (cmpL a b < 0 ↔ rk a < rk b) ∧ (cmpL a b = 0 ↔ rk a = rk b) ∧ (cmpL a b = 0 ↔ a = b)
  | [], b, hp => by
    obtain rfl := hp.nil_eq
    exact ⟨by simp [cmpL], by simp [cmpL], by simp [cmpL]⟩
  | x :: l, [], hp => absurd hp.length_eq (by simp)
  | x :: l, y :: m, hp => by
    have e : cmpL (x :: l) (y :: m) = if x < y then -1 else if y < x then 1 else cmpL l m := rfl
    rw [e]
    by_cases h1 : x < y
    · have := rk_head hp h1
      rw [if_pos h1]
      exact ⟨⟨fun _ => this, fun _ => by decide⟩, ⟨fun h => absurd h (by decide), fun h => by omega⟩, ⟨fun h => absurd h (by decide), fun h => by injection h; omega⟩⟩
    · rw [if_neg h1]
      by_cases h2 : y < x
      · have := rk_head hp.symm h2
        rw [if_pos h2]
        exact ⟨⟨fun h => absurd h (by decide), fun h => by omega⟩, ⟨fun h => absurd h (by decide), fun h => by omega⟩, ⟨fun h => absurd h (by decide), fun h => by injection h; omega⟩⟩
      · rw [if_neg h2]
        have hxy : x = y := by omega
        subst hxy
        have hp' := List.Perm.cons_inv hp
        have ih := cmp_rk l m hp'
        have hr : ∀ k, below x k * fact k.length + rk k = rk (x :: k) := fun k => rfl
        rw [← hr l, ← hr m, below_perm x hp', hp'.length_eq, ih.1, ih.2.1, List.cons.injEq, ← ih.2.2, ih.2.1]
        exact ⟨by omega, by omega, ⟨fun h => ⟨rfl, h⟩, fun h => h.2⟩⟩
/-! ### Its text -/
def numL (v : Nat) : List UInt8 := (numB v).data.toList
def tailL : List Int → List UInt8
  | [] => [41]
  | y :: c => 32 :: (numL y.toNat ++ tailL c)
def cycL : List Int → List UInt8
  | [] => []
  | x :: c => 40 :: (numL x.toNat ++ tailL c)
def outL (C : List (List Int)) : List UInt8 := (C.map cycL).flatten
theorem data_app (a b : ByteArray) : (a ++ b).data.toList = a.data.toList ++ b.data.toList := by
  rw [ByteArray.data_append, Array.toList_append]
theorem fmt1_data (x : Int) (c : List Int) (b : ByteArray) : ∀ j, j ≤ c.length → (fmt1 (x :: c) b (j + 1)).data.toList ++ tailL (c.drop j) = b.data.toList ++ cycL (x :: c)
  | 0, _ => by
    show ((b ++ ⟨#[40]⟩) ++ numB x.toNat).data.toList ++ tailL c = _
    rw [data_app, data_app]
    simp [cycL, numL]
  | j + 1, hj => by
    have hlt : j < c.length := by omega
    have ih := fmt1_data x c b j (by omega)
    rw [List.drop_eq_getElem_cons hlt] at ih
    rw [← ih]
    have e : fmt1 (x :: c) b (j + 1 + 1) = (fmt1 (x :: c) b (j + 1) ++ ⟨#[32]⟩) ++ numB (c.getD j 0).toNat := by
      show (if j + 1 = 0 then _ else _) ++ numB ((x :: c).getD (j + 1) 0).toNat = _
      rw [if_neg (Nat.succ_ne_zero j)]
      rfl
    rw [e, data_app, data_app, List.getD_eq_getElem?_getD, List.getElem?_eq_getElem hlt]
    simp [tailL, numL]
theorem fmtC_data (C : List (List Int)) (hC : ∀ c ∈ C, 0 < c.length) : ∀ b : ByteArray, (C.foldl (fun x c => fmt1 c x c.length ++ ⟨#[41]⟩) b).data.toList = b.data.toList ++ outL C := by
  induction C with
  | nil => intro b; simp [outL]
  | cons c C ih =>
    intro b
    rw [List.foldl_cons, ih (fun c hc => hC c (List.mem_cons_of_mem _ hc))]
    cases c with
    | nil => exact absurd (hC [] (List.mem_cons_self ..)) (Nat.lt_irrefl 0)
    | cons x c =>
      have := fmt1_data x c b c.length (Nat.le_refl _)
      rw [List.drop_eq_nil_of_le (Nat.le_refl _)] at this
      rw [data_app, List.length_cons]
      have e41 : (⟨#[41]⟩ : ByteArray).data.toList = tailL [] := rfl
      rw [e41, this]
      simp [outL]
theorem bt_drop {s : ByteArray} {a : Nat} {b : UInt8} {r : List UInt8} (h : s.data.toList.drop a = b :: r) : a < s.size ∧ bt s (a : Int) = (b.toNat : Int) ∧ s.data.toList.drop (a + 1) = r := by
  have hlen : s.data.toList.length = s.size := by rw [Array.length_toList]; rfl
  have hlt : a < s.data.toList.length := by
    apply Classical.byContradiction
    intro hc
    rw [List.drop_eq_nil_of_le (by omega)] at h
    cases h
  rw [List.drop_eq_getElem_cons hlt] at h
  injection h with h1 h2
  refine ⟨by omega, ?_, h2⟩
  unfold bt
  rw [Int.toNat_natCast, dif_pos (by omega), ← h1]
  rfl
theorem dig_of {s : ByteArray} {a : Nat} (h : a < s.size) (h1 : 48 ≤ bt s (a : Int)) (h2 : bt s (a : Int) ≤ 57) : dig s a = true := by
  unfold dig
  rw [decide_eq_true h, decide_eq_true h1, decide_eq_true h2]; rfl
theorem dig_not {s : ByteArray} {a : Nat} (h1 : bt s (a : Int) < 48) : dig s a = false := by
  unfold dig
  rw [decide_eq_false (by omega : ¬ 48 ≤ bt s (a : Int)), Bool.and_false, Bool.false_and]
theorem numL_one : ∀ v, v < 10 → numL v = [UInt8.ofNat (48 + v)] ∧ (UInt8.ofNat (48 + v)).toNat = 48 + v := by decide
theorem numL_two : ∀ v, v < 20 → ¬ v < 10 → numL v = [49, UInt8.ofNat (38 + v)] ∧ (UInt8.ofNat (38 + v)).toNat = 38 + v := by decide
theorem num_read {s : ByteArray} {a v : Nat} {b : UInt8} {r : List UInt8} (hv : v < 20) (hb : b.toNat < 48) (h : s.data.toList.drop a = numL v ++ b :: r) :
    ¬ badN s a ∧ numV s a = v ∧ endN s a < s.size ∧ bt s (endN s a : Int) = (b.toNat : Int) ∧ s.data.toList.drop (endN s a + 1) = r ∧ endN s a = a + (numL v).length := by
  by_cases h10 : v < 10
  · obtain ⟨e1, e2⟩ := numL_one v h10
    rw [e1] at h ⊢
    obtain ⟨p1, p2, p3⟩ := bt_drop (show s.data.toList.drop a = UInt8.ofNat (48 + v) :: (b :: r) from h)
    obtain ⟨q1, q2, q3⟩ := bt_drop p3
    rw [e2] at p2
    have he : endN s a = a + 1 := endN_eq (by omega) (fun j h1 h2 => by
      have : j = a := by omega
      rw [this]; exact dig_of p1 (by omega) (by omega)) (dig_not (by omega))
    unfold badN numV
    rw [he, show a + 1 - a = 1 by omega]
    refine ⟨by omega, ?_, q1, q2, q3, rfl⟩
    show 0 * 10 + (bt s ((a + 0 : Nat) : Int) - 48).toNat = v
    rw [Nat.add_zero, p2]; omega
  · obtain ⟨e1, e2⟩ := numL_two v hv h10
    rw [e1] at h ⊢
    obtain ⟨p1, p2, p3⟩ := bt_drop (show s.data.toList.drop a = 49 :: (UInt8.ofNat (38 + v) :: (b :: r)) from h)
    obtain ⟨o1, o2, o3⟩ := bt_drop p3
    obtain ⟨q1, q2, q3⟩ := bt_drop o3
    rw [e2] at o2
    have p2' : bt s (a : Int) = 49 := p2
    have he : endN s a = a + 1 + 1 := endN_eq (by omega) (fun j h1 h2 => by
      rcases (by omega : j = a ∨ j = a + 1) with rfl | rfl
      · exact dig_of p1 (by omega) (by omega)
      · exact dig_of o1 (by omega) (by omega)) (dig_not (by omega))
    unfold badN numV
    rw [he, show a + 1 + 1 - a = 2 by omega]
    refine ⟨by omega, ?_, q1, q2, q3, rfl⟩
    show (0 * 10 + (bt s ((a + 0 : Nat) : Int) - 48).toNat) * 10 + (bt s ((a + 1 : Nat) : Int) - 48).toNat = v
    rw [Nat.add_zero, p2', o2]
    omega
theorem scanT_in (s : ByteArray) (d a : Nat) (l : List Int) (out : List (List Int)) : scanT s (d + 1) a (some l) out = if badN s a then ([], false) else if endN s a = s.size then ([], false)
      else if bt s (endN s a : Int) = 41 then scanT s d (endN s a + 1) none (out ++ [l ++ [(numV s a : Int)]])
      else if bt s (endN s a : Int) = 32 then scanT s d (endN s a + 1) (some (l ++ [(numV s a : Int)])) out else ([], false) := rfl
theorem scanT_out (s : ByteArray) (d a : Nat) (out : List (List Int)) : scanT s (d + 1) a none out = if a < s.size then (if bt s (a : Int) = 40 then scanT s d (a + 1) (some []) out else ([], false)) else (out, decide ((out.length : Int) > 0)) := rfl
theorem scan_in (s : ByteArray) (out : List (List Int)) (r : List UInt8) : ∀ (c : List Int) (x : Int) (a d : Nat) (l : List Int), (∀ y ∈ x :: c, 0 ≤ y ∧ y < 20) → s.data.toList.drop a = numL x.toNat ++ (tailL c ++ r) → c.length + 1 ≤ d →
    ∃ a', s.data.toList.drop a' = r ∧ scanT s d a (some l) out = scanT s (d - (c.length + 1)) a' none (out ++ [l ++ x :: c])
  | c, x, a, 0, l, hv, h, hd => absurd hd (by omega)
  | [], x, a, d + 1, l, hv, h, hd => by
    have hx := hv x (List.mem_cons_self ..)
    obtain ⟨h1, h2, h3, h4, h5, _⟩ := num_read (v := x.toNat) (b := 41) (by omega) (by decide) h
    refine ⟨endN s a + 1, h5, ?_⟩
    have e : ((x.toNat : Nat) : Int) = x := by omega
    rw [scanT_in, if_neg h1, if_neg (by omega), if_pos (show bt s (endN s a : Int) = 41 from h4), h2, e]
    rfl
  | y :: c, x, a, d + 1, l, hv, h, hd => by
    have hx := hv x (List.mem_cons_self ..)
    have h' : s.data.toList.drop a = numL x.toNat ++ 32 :: (numL y.toNat ++ (tailL c ++ r)) := by rw [h]; simp [tailL]
    obtain ⟨h1, h2, h3, h4, h5, _⟩ := num_read (v := x.toNat) (b := 32) (by omega) (by decide) h'
    obtain ⟨a', e1, e2⟩ := scan_in s out r c y (endN s a + 1) d (l ++ [x]) (fun z hz => hv z (List.mem_cons_of_mem _ hz)) h5 (by rw [List.length_cons] at hd; omega)
    have h4' : bt s (endN s a : Int) = 32 := h4
    refine ⟨a', e1, ?_⟩
    have e : ((x.toNat : Nat) : Int) = x := by omega
    have hdd : d + 1 - ((y :: c).length + 1) = d - (c.length + 1) := by rw [List.length_cons]; omega
    rw [hdd]
    rw [scanT_in, if_neg h1, if_neg (by omega), if_neg (by omega), if_pos h4', h2, e, e2, List.append_assoc]
    rfl
def need : List (List Int) → Nat
  | [] => 1
  | c :: C => c.length + 1 + need C
theorem need_pos : ∀ C, 1 ≤ need C
  | [] => Nat.le_refl _
  | c :: C => by have := need_pos C; show 1 ≤ c.length + 1 + need C; omega
theorem scan_out (s : ByteArray) : ∀ (C : List (List Int)) (a d : Nat) (out : List (List Int)), (∀ c ∈ C, 0 < c.length ∧ ∀ y ∈ c, 0 ≤ y ∧ y < 20) → s.data.toList.drop a = outL C → need C ≤ d → scanT s d a none out = (out ++ C, decide (((out ++ C).length : Int) > 0))
  | [], a, d, out, hC, h, hd => by
    have hlen : s.data.toList.length = s.size := by rw [Array.length_toList]; rfl
    have ha : ¬ a < s.size := by
      intro hc
      have := List.drop_eq_getElem_cons (by omega : a < s.data.toList.length)
      rw [h] at this
      cases this
    obtain ⟨d', rfl⟩ : ∃ d', d = d' + 1 := ⟨d - 1, by have := need_pos []; omega⟩
    rw [List.append_nil]
    rw [scanT_out, if_neg ha]
  | [] :: C, a, d, out, hC, h, hd => absurd (hC [] (List.mem_cons_self ..)).1 (Nat.lt_irrefl 0)
  | (x :: c) :: C, a, d, out, hC, h, hd => by
    have hn : (x :: c).length + 1 + need C ≤ d := hd
    rw [List.length_cons] at hn
    obtain ⟨d', rfl⟩ : ∃ d', d = d' + 1 := ⟨d - 1, by omega⟩
    have h' : s.data.toList.drop a = 40 :: (numL x.toNat ++ (tailL c ++ outL C)) := by rw [h]; simp [outL, cycL]
    obtain ⟨p1, p2, p3⟩ := bt_drop h'
    have p2' : bt s (a : Int) = 40 := p2
    obtain ⟨a', e1, e2⟩ := scan_in s out (outL C) c x (a + 1) d' [] (hC (x :: c) (List.mem_cons_self ..)).2 p3 (by omega)
    have ih := scan_out s C a' (d' - (c.length + 1)) (out ++ [[] ++ x :: c]) (fun k hk => hC k (List.mem_cons_of_mem _ hk)) e1 (by omega)
    rw [scanT_out, if_pos p1, if_pos p2', e2, ih]
    simp
theorem tailL_length (c : List Int) : c.length + 1 ≤ (tailL c).length := by
  induction c with
  | nil => exact Nat.le_refl _
  | cons y c ih => simp [tailL]; omega
theorem need_le : ∀ C : List (List Int), (∀ c ∈ C, 0 < c.length) → need C ≤ (outL C).length + 1
  | [], _ => Nat.le_refl _
  | [] :: C, h => absurd (h [] (List.mem_cons_self ..)) (Nat.lt_irrefl 0)
  | (x :: c) :: C, h => by
    have ih := need_le C fun k hk => h k (List.mem_cons_of_mem _ hk)
    have h1 := tailL_length c
    have e : outL ((x :: c) :: C) = cycL (x :: c) ++ outL C := by simp [outL]
    have e2 : (cycL (x :: c)).length = (numL x.toNat).length + (tailL c).length + 1 := by simp [cycL]
    have e3 : 1 ≤ (numL x.toNat).length := by
      unfold numL numB
      split
      · exact Nat.le_refl 1
      · exact (by decide : 1 ≤ 2)
    show (x :: c).length + 1 + need C ≤ _
    rw [e, List.length_append, e2, List.length_cons]
    omega
theorem listsS_fmt (C : List (List Int)) (hC : ∀ c ∈ C, 0 < c.length ∧ ∀ y ∈ c, 0 ≤ y ∧ y < 20) : listsS (fmtS C) = (C, true) := by
  by_cases hz : C = []
  · subst hz
    unfold listsS fmtS
    rw [if_pos rfl, if_pos (by rw [Go.ByteArray.toList_eq])]
  · have hd : (fmtS C).data.toList = outL C := by
      unfold fmtS
      rw [if_neg hz]
      have := fmtC_data C (fun c hc => (hC c hc).1) ⟨#[]⟩
      unfold fmtC
      rw [this]
      rfl
    have hsz : (outL C).length = (fmtS C).size := by rw [← hd, Array.length_toList]; rfl
    unfold listsS
    rw [if_neg]
    · rw [scan_out (fmtS C) C 0 _ [] hC (by rw [List.drop_zero]; exact hd) (by have := need_le C fun c hc => (hC c hc).1; omega), List.nil_append]
      have := List.length_pos_iff.2 hz
      rw [decide_eq_true (by omega)]
    · rw [Go.ByteArray.toList_eq, hd]
      intro hc
      cases C with
      | nil => exact hz rfl
      | cons c C =>
        cases c with
        | nil => exact absurd (hC [] (List.mem_cons_self ..)).1 (Nat.lt_irrefl 0)
        | cons x c =>
          have hx := (hC (x :: c) (List.mem_cons_self ..)).2 x (List.mem_cons_self ..)
          have e : outL ((x :: c) :: C) = 40 :: (numL x.toNat ++ (tailL c ++ outL C)) := by simp [outL, cycL]
          rw [e] at hc
          injection hc with _ hc
          by_cases h10 : x.toNat < 10
          · obtain ⟨e1, e2⟩ := numL_one _ h10
            rw [e1] at hc
            injection hc with h1 h2
            rw [h1] at e2
            exact absurd e2 (by show ¬ 41 = _; omega)
          · obtain ⟨e1, e2⟩ := numL_two x.toNat (by omega) h10
            rw [e1] at hc
            injection hc with h1 h2
            exact absurd h1 (by decide)
theorem fmtS_small {g : Nat → Nat} {n : Nat} (h : Bij n g) (hn : n ≤ 20) : (fmtS (cycI g n n)).size ≤ 2000 := by
  have hl : (cycI g n n).length ≤ 20 := by have := cyc_len g n n; unfold cycI; rw [List.length_map]; omega
  have h1 := fmtC_size (cycI_short h hn) (cycI g n n).length (Nat.le_refl _)
  rw [List.take_of_length_le (Nat.le_refl _)] at h1
  unfold fmtS
  split
  · exact (by decide : 2 ≤ 2000)
  · omega
theorem parseS_fmt {g : Nat → Nat} {n : Nat} (h : Bij n g) (hn : n ≤ 20) : parseS (n : Int) (fmtS (cycI g n n)) = (lf g n, 0) := by
  have hd : degE (n : Int) = 0 := by unfold degE; rw [if_neg (by omega), if_neg (by omega)]
  have hs : ¬ 4096 < (fmtS (cycI g n n)).size := by
    have hl : (cycI g n n).length ≤ 20 := by have := cyc_len g n n; unfold cycI; rw [List.length_map]; omega
    have h1 := fmtC_size (cycI_short h hn) (cycI g n n).length (Nat.le_refl _)
    rw [List.take_of_length_le (Nat.le_refl _)] at h1
    unfold fmtS
    split
    · exact (by decide : ¬ 4096 < 2)
    · omega
  unfold parseS
  rw [if_pos hd, if_neg hs, listsS_fmt _ fun c hc => ⟨cycI_pos h c hc, cycI_vals h hn c hc⟩, if_pos rfl]
  exact fromC_cyc h hn
end Go.Proofs.YtoaalfpfklchfaaDoor.Plain
