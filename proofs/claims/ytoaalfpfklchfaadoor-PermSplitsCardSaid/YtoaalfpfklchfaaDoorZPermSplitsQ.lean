/- What the printed functions come to: each in plain words (loops by induction). -/
import Derived.Test.YtoaalfpfklchfaaDoorZPermSplitsPx1
import Derived.Test.YtoaalfpfklchfaaDoorZPermSplitsPx2
import Derived.Test.YtoaalfpfklchfaaDoorZPermSplitsPx4
import Derived.Test.YtoaalfpfklchfaaDoorZPermSplitsPx5
import Derived.Test.YtoaalfpfklchfaaDoorZPermSplitsLists
import Derived.Test.YtoaalfpfklchfaaDoorZPermSplitsSigns
import Derived.Test.YtoaalfpfklchfaaDoorZPermSplitsSortB
import Derived.Test.YtoaalfpfklchfaaDoorZPermSplitsSplits
import Derived.Test.YtoaalfpfklchfaaDoorZPermSplitsTypes
namespace Go.Proofs.YtoaalfpfklchfaaDoor.QPermSplits
open Go.RowKit Go.Proofs.YtoaalfpfklchfaaDoor.PPermSplits Go.Proofs.YtoaalfpfklchfaaDoorW.PrintWords Go.Proofs.YtoaalfpfklchfaaDoorW.PrintLast Go.Proofs.YtoaalfpfklchfaaDoor.Plain
set_option linter.unusedVariables false
set_option linter.unusedSimpArgs false

/-! ### awake22 -/
theorem galoislaw22_awake.ev : Ev (fun k => galoislaw22_awake.f k) true := Ev.of galoislaw22_awake.mono (k := 40) (by decide +kernel)

/-! ### galoislaw22_few -/
theorem galoislaw22_few.l_ev (l : List (List Int)) (hn : l.length < 4611686018427387904) : ∀ (d i : Nat), l.length - i = d → i ≤ l.length →
    Ev (fun k => galoislaw22_few.l0 k l (i : Int)) ((l.drop i).all fun x => decide (x.length ≤ 40)) := by
  intro d
  induction d with
  | zero =>
    intro i hd hi
    rw [List.drop_eq_nil_of_le (by omega : l.length ≤ i)]
    refine Ev.step (f := fun _ => some true) (fun k => ?_) (Ev.now _)
    simp only [galoislaw22_few.l0]
    rw [if_neg (by omega)]
  | succ d ih =>
    intro i hd hi
    have ha : i < l.length := by omega
    have hg : rd_L1 l (i : Int) = l[i] := by
      show l.getD i [] = _
      rw [List.getD_eq_getElem?_getD, List.getElem?_eq_getElem ha]; rfl
    rw [List.drop_eq_getElem_cons ha, List.all_cons]
    by_cases e : l[i].length ≤ 40
    · refine Ev.step (f := fun k => galoislaw22_few.l0 k l ((i + 1 : Nat) : Int)) (fun k => ?_) ?_
      · simp only [galoislaw22_few.l0]
        rw [if_pos (by omega), if_pos (by omega), hg, if_neg (by omega), wrap_nat (by omega)]
      · rw [decide_eq_true e, Bool.true_and]
        exact ih (i + 1) (by omega) (by omega)
    · refine Ev.step (f := fun _ => some false) (fun k => ?_) ?_
      · simp only [galoislaw22_few.l0]
        rw [if_pos (by omega), if_pos (by omega), hg, if_pos (by omega)]
      · rw [decide_eq_false e, Bool.false_and]
        exact Ev.now _
theorem galoislaw22_few.ev (l : List (List Int)) (hn : l.length < 4611686018427387904) : Ev (fun k => galoislaw22_few.f k l) (l.all fun x => decide (x.length ≤ 40)) := by
  have := galoislaw22_few.l_ev l hn _ 0 rfl (by omega)
  rwa [List.drop_zero] at this

/-! ### galoisref22_Check -/
theorem galoisref22_Check.l1_ev (l : List Int) (i : Nat) (hi : i < l.length) (hl : l.length ≤ 20) (r : Int)
    (hr : l.getD i 0 ∉ l.take i → Ev (fun k => galoisref22_Check.l0 k l ((i + 1 : Nat) : Int)) r) : ∀ (d j : Nat), i - j = d → j ≤ i → l.getD i 0 ∉ l.take j →
    Ev (fun k => galoisref22_Check.l1 k l (i : Int) (j : Int)) (if l.getD i 0 ∈ l.take i then 24 else r) := by
  intro d
  induction d with
  | zero =>
    intro j hd hj hno
    have e : j = i := by omega
    subst e
    rw [if_neg hno]
    refine Ev.step (f := fun k => galoisref22_Check.l0 k l ((j + 1 : Nat) : Int)) (fun k => ?_) (hr hno)
    simp only [galoisref22_Check.l1]
    rw [if_neg (by omega), wrap_nat (by omega)]
  | succ d ih =>
    intro j hd hj hno
    have hjl : j < l.length := by omega
    by_cases e : l.getD j 0 = l.getD i 0
    · rw [if_pos (by
        rw [← e, List.getD_eq_getElem?_getD, List.getElem?_eq_getElem hjl]
        exact List.mem_take_iff_getElem.2 ⟨j, by omega, rfl⟩)]
      refine Ev.step (f := fun _ => some 24) (fun k => ?_) (Ev.now _)
      simp only [galoisref22_Check.l1]
      rw [if_pos (by omega), if_pos (by omega), if_pos (by omega), if_pos (by omega), if_pos (by omega), if_pos (by simpa only [rd_nat] using e)]
    · refine Ev.step (f := fun k => galoisref22_Check.l1 k l (i : Int) ((j + 1 : Nat) : Int)) (fun k => ?_) (ih (j + 1) (by omega) (by omega) ?_)
      · simp only [galoisref22_Check.l1]
        rw [if_pos (by omega), if_pos (by omega), if_pos (by omega), if_pos (by omega), if_pos (by omega), if_neg (by simpa only [rd_nat] using e), wrap_nat (by omega)]
      · rw [List.take_succ_eq_append_getElem hjl, List.mem_append, List.mem_singleton]
        rintro (h | h)
        · exact hno h
        · apply e
          rw [h, List.getD_eq_getElem?_getD, List.getElem?_eq_getElem hjl]; rfl
theorem galoisref22_Check.l_ev (l : List Int) (hl : l.length ≤ 20) : ∀ (d i : Nat), l.length - i = d → i ≤ l.length →
    Ev (fun k => galoisref22_Check.l0 k l (i : Int)) (chkFrom l d) := by
  intro d
  induction d with
  | zero =>
    intro i hd hi
    refine Ev.step (f := fun _ => some 0) (fun k => ?_) (Ev.now _)
    simp only [galoisref22_Check.l0]
    rw [if_neg (by omega)]
  | succ d ih =>
    intro i hd hi
    have hi' : l.length - (d + 1) = i := by omega
    simp only [chkFrom, hi']
    have hb : ∀ b : Bool, (b = true ↔ (l.getD i 0 < 0 ∨ (l.length : Int) ≤ l.getD i 0)) →
        Ev (fun k => galoisref22_Check.j1 k l (i : Int) b) (if l.getD i 0 < 0 ∨ (l.length : Int) ≤ l.getD i 0 then 3 else if l.getD i 0 ∈ l.take i then 24 else chkFrom l d) := by
      intro b hb
      by_cases h : b = true
      · rw [if_pos (hb.1 h)]
        refine Ev.step (f := fun _ => some 3) (fun k => ?_) (Ev.now _)
        simp only [galoisref22_Check.j1]
        rw [if_pos h]
      · rw [if_neg (fun hh => h (hb.2 hh))]
        refine Ev.step (f := fun k => galoisref22_Check.l1 k l (i : Int) ((0 : Nat) : Int)) (fun k => ?_) (galoisref22_Check.l1_ev l i (by omega) hl _ (fun _ => ih (i + 1) (by omega) (by omega)) _ 0 rfl (by omega) (by simp))
        simp only [galoisref22_Check.j1]
        rw [if_neg h]
        rfl
    by_cases h0 : rd l (i : Int) < 0
    · refine Ev.step (f := fun k => galoisref22_Check.j1 k l (i : Int) true) (fun k => ?_) (hb true ⟨fun _ => .inl h0, fun _ => rfl⟩)
      simp only [galoisref22_Check.l0]
      rw [if_pos (by omega), if_pos (by omega), if_pos h0]
    · refine Ev.step (f := fun k => galoisref22_Check.j1 k l (i : Int) (decide (rd l (i : Int) ≥ (l.length : Int)))) (fun k => ?_) (hb _ ?_)
      · simp only [galoisref22_Check.l0]
        rw [if_pos (by omega), if_pos (by omega), if_neg h0]
      · rw [decide_eq_true_iff]
        exact ⟨fun h => .inr h, fun h => h.elim (fun hh => absurd hh h0) id⟩
theorem galoisref22_Check.ev (l : List Int) : Ev (fun k => galoisref22_Check.f k l) (chk l) := by
  unfold galoisref22_Check.f chk
  by_cases h : 20 < l.length
  · rw [if_pos h]
    refine Ev.congr (f := fun _ => some 4) (fun k => ?_) (Ev.now _)
    rw [if_pos (by omega)]
  · rw [if_neg h]
    refine Ev.congr (f := fun k => galoisref22_Check.l0 k l 0) (fun k => ?_) (galoisref22_Check.l_ev l (by omega) _ 0 (by omega) (by omega))
    rw [if_neg (by omega)]

/-! ### perm_cycles -/
theorem perm_cycles.l1_ev (g : Nat → Nat) (n : Nat) (h : Bij n g) (hn : n ≤ 20) (m : Nat) (hm : m < n) (R : List (List Int))
    (hl : isLeast g n m = true) (next : Ev (fun k => perm_cycles.l0 k (lf g n) (cycI g n (m + 1)) (seenL g n (m + 1) 0) (n : Int) ((m + 1 : Nat) : Int)) R) :
    ∀ (d t : Nat), per g n m - t = d → t ≤ per g n m →
    Ev (fun k => perm_cycles.l1 k (lf g n) (cycI g n m) (seenL g n m t) (ints ((List.range t).map fun k => it g k m)) ((it g t m : Nat) : Int) (n : Int) (m : Int)) R := by
  have hp := h.per_spec hm
  intro d
  induction d with
  | zero =>
    intro t hd ht
    have e : t = per g n m := by omega
    subst e
    have hseen : rdOf false (seenL g n m (per g n m)) ((it g (per g n m) m : Nat) : Int) = true := by
      rw [hp.1, seenL_rd _ _ _ _ _ hm, Bool.or_eq_true]
      exact .inr (List.any_eq_true.2 ⟨0, List.mem_range.2 (per_pos ..), by simp [it]⟩)
    have hlt : it g (per g n m) m < n := h.it_lt _ hm
    have hc := cyc_len g n m
    by_cases h2 : 2 ≤ per g n m
    · refine Ev.step (fun k => ?_) next
      simp only [perm_cycles.l1]
      rw [if_pos (by omega), if_pos (by rw [seenL_length]; omega), if_pos hseen, if_neg (by simp [ints]; omega), if_pos (by simp [cycI]; omega), wrap_nat (by omega), cycI_succ, if_pos (by simp [isHead, hl, h2]), seenL_next h m hm]
      rfl
    · refine Ev.step (fun k => ?_) next
      simp only [perm_cycles.l1]
      rw [if_pos (by omega), if_pos (by rw [seenL_length]; omega), if_pos hseen, if_pos (by simp [ints]; omega), wrap_nat (by omega), cycI_succ, if_neg (by simp [isHead, h2]), seenL_next h m hm, List.append_nil]
  | succ d ih =>
    intro t hd ht
    have hlt : it g t m < n := h.it_lt _ hm
    have hseen : rdOf false (seenL g n m t) ((it g t m : Nat) : Int) = false := by
      rw [seenL_rd _ _ _ _ _ hlt, Bool.or_eq_false_iff]
      constructor
      · rw [List.any_eq_false]
        intro j hj hin
        have hin := of_decide_eq_true hin
        have hj := List.mem_range.1 hj
        refine (h.least_iff m hm).1 hl ⟨j, hj, h.orb_trans (by omega) hin ?_⟩
        exact h.orb_symm hm ((h.mem_orb hm _).2 ⟨t, rfl⟩)
      · rw [List.any_eq_false]
        intro k hk e
        exact h.it_ne hm (List.mem_range.1 hk) (by omega : t < per g n m) (beq_iff_eq.1 e).symm
    have hpn := hp.2.1
    refine Ev.step (fun k => ?_) (ih (t + 1) (by omega) (by omega))
    simp only [perm_cycles.l1]
    rw [if_pos (by omega), if_pos (by rw [seenL_length]; omega), if_neg (by rw [hseen]; exact Bool.false_ne_true), if_pos (by simp [ints]; omega), if_pos (by rw [lf_length]; omega), Int.toNat_natCast, seenL_step g n m t hlt, rd_nat, lf_getD g n _ hlt]
    rw [show ints ((List.range t).map fun k => it g k m) ++ [((it g t m : Nat) : Int)] = ints ((List.range (t + 1)).map fun k => it g k m) by simp [ints, List.range_succ]]
    rfl
theorem perm_cycles.l_ev (g : Nat → Nat) (n : Nat) (h : Bij n g) (hn : n ≤ 20) : ∀ (d m : Nat), n - m = d → m ≤ n →
    Ev (fun k => perm_cycles.l0 k (lf g n) (cycI g n m) (seenL g n m 0) (n : Int) (m : Int)) (cycI g n n) := by
  intro d
  induction d with
  | zero =>
    intro m hd hm
    have e : m = n := by omega
    subst e
    refine Ev.step (f := fun _ => some (cycI g m m)) (fun k => ?_) (Ev.now _)
    simp only [perm_cycles.l0]
    rw [if_neg (by omega)]
  | succ d ih =>
    intro m hd hm
    have hlt : m < n := by omega
    have next := ih (m + 1) (by omega) (by omega)
    refine Ev.step (f := fun k => perm_cycles.l1 k (lf g n) (cycI g n m) (seenL g n m 0) (ints ((List.range 0).map fun k => it g k m)) ((it g 0 m : Nat) : Int) (n : Int) (m : Int)) (fun k => ?_) ?_
    · simp only [perm_cycles.l0]
      rw [if_pos (by omega)]
      rfl
    · by_cases hl : isLeast g n m = true
      · exact perm_cycles.l1_ev g n h hn m hlt _ hl next _ 0 rfl (Nat.zero_le _)
      · have : ∃ j, j < m ∧ m ∈ orb g n j := by
          apply Classical.byContradiction
          intro hc
          exact hl ((h.least_iff m hlt).2 hc)
        obtain ⟨j, hj, hin⟩ := this
        refine Ev.step (fun k => ?_) next
        simp only [perm_cycles.l1]
        rw [if_pos (by omega), if_pos (by rw [seenL_length]; show ((m : Nat) : Int) < _; omega), if_pos ?_, if_pos (by simp [ints]), wrap_nat (by omega), cycI_succ, if_neg (by simp [isHead, hl]), List.append_nil, seenL_skip h m hlt j hj hin]
        show rdOf false (seenL g n m 0) ((m : Nat) : Int) = true
        rw [seenL_rd _ _ _ _ _ hlt, Bool.or_eq_true]
        exact .inl (List.any_eq_true.2 ⟨j, List.mem_range.2 hj, decide_eq_true hin⟩)
theorem perm_cycles.ev (g : Nat → Nat) (n : Nat) (h : Bij n g) (hn : n ≤ 20) : Ev (fun k => perm_cycles.f k (lf g n)) (cycI g n n) := by
  refine Ev.congr (fun k => ?_) (perm_cycles.l_ev g n h hn _ 0 rfl (Nat.zero_le _))
  unfold perm_cycles.f
  rw [lf_length, if_pos (by omega), if_pos (by omega), Int.toNat_natCast, seenL_zero]
  rfl

/-! ### perm_order -/
theorem perm_order.gcd_ev (R : Int) (o : Int) (x : List Int) (L : List (List Int)) (n i : Int) : ∀ (b a : Nat), 0 < a + b → a < 4611686018427387904 → b < 4611686018427387904 →
    Ev (fun k => perm_order.l0 k (wrap64 ((wrap64 (Int.tdiv o ((Nat.gcd a b : Nat) : Int))) * (x.length : Int))) L n (wrap64 (i + 1))) R →
    Ev (fun k => perm_order.l1 k o x (a : Int) (b : Int) L n i) R := by
  intro b
  induction b using Nat.strongRecOn with
  | _ b ih =>
    intro a h0 ha hb next
    by_cases hz : b = 0
    · subst hz
      rw [Nat.gcd_zero_right] at next
      refine Ev.step (fun k => ?_) next
      simp only [perm_order.l1]
      rw [if_neg (by omega), if_neg (by omega)]
    · refine Ev.step (f := fun k => perm_order.l1 k o x (b : Int) ((a % b : Nat) : Int) L n i) (fun k => ?_) (ih (a % b) (Nat.mod_lt _ (by omega)) b (by omega) hb (Nat.lt_of_lt_of_le (Nat.mod_lt _ (by omega)) (by omega)) ?_)
      · simp only [perm_order.l1]
        rw [if_pos (by omega), if_neg (by omega), Int.ofNat_tmod]
      · rw [Nat.gcd_comm a b, Nat.gcd_rec b a, Nat.gcd_comm (a % b) b] at next
        exact next
theorem lcm_step (o p : Nat) (h : Nat.lcm o p ∣ 232792560) (ho : 0 < o) : wrap64 ((wrap64 (Int.tdiv (o : Int) ((Nat.gcd o p : Nat) : Int))) * (p : Int)) = ((Nat.lcm o p : Nat) : Int) := by
  have h1 := Nat.le_of_dvd (by decide) h
  have hd : o / Nat.gcd o p * p = Nat.lcm o p := by
    rw [Nat.lcm, Nat.mul_comm o p, Nat.mul_div_assoc _ (Nat.gcd_dvd_left o p), Nat.mul_comm]
  have h2 : o ≤ 232792560 := by
    have := Nat.le_of_dvd (by decide) (Nat.dvd_trans (Nat.dvd_lcm_left o p) h)
    exact this
  have h3 : o / Nat.gcd o p ≤ o := Nat.div_le_self ..
  rw [← Int.ofNat_tdiv]
  generalize o / Nat.gcd o p = q at hd h3
  rw [w64_small (i := (q : Int)) (by omega) (by omega), ← Int.natCast_mul, hd, w64_small (by omega) (by omega)]
theorem perm_order.l_ev (L : List (List Int)) (hL : ∀ c ∈ L, 0 < c.length ∧ c.length ≤ 20) (hn : L.length < 4611686018427387904) : ∀ (d i : Nat) (o : Nat), L.length - i = d → i ≤ L.length → 0 < o → o ∣ 232792560 →
    Ev (fun k => perm_order.l0 k (o : Int) L (L.length : Int) (i : Int)) ((((L.drop i).map List.length).foldl Nat.lcm o : Nat) : Int) := by
  intro d
  induction d with
  | zero =>
    intro i o hd hi h0 h1
    rw [List.drop_eq_nil_of_le (by omega : L.length ≤ i)]
    refine Ev.step (f := fun _ => some (o : Int)) (fun k => ?_) (Ev.now _)
    simp only [perm_order.l0]
    rw [if_neg (by omega)]
  | succ d ih =>
    intro i o hd hi h0 h1
    have ha : i < L.length := by omega
    have hg : rd_L1 L (i : Int) = L[i] := by
      show L.getD i [] = _
      rw [List.getD_eq_getElem?_getD, List.getElem?_eq_getElem ha]; rfl
    have hc := hL _ (List.getElem_mem ha)
    have hl : Nat.lcm o L[i].length ∣ 232792560 := Nat.lcm_dvd h1 (small_dvd _ hc.1 hc.2)
    have ho : o ≤ 232792560 := Nat.le_of_dvd (by decide) h1
    refine Ev.step (f := fun k => perm_order.l1 k (o : Int) L[i] (o : Int) (L[i].length : Int) L (L.length : Int) (i : Int)) (fun k => ?_) ?_
    · simp only [perm_order.l0]
      rw [if_pos (by omega), if_pos (by omega), if_pos (by omega), hg]
    · refine perm_order.gcd_ev _ (o : Int) L[i] L _ _ L[i].length o (by omega) (by omega) (by omega) ?_
      rw [lcm_step o _ hl h0, wrap_nat (by omega), List.drop_eq_getElem_cons ha, List.map_cons, List.foldl_cons]
      exact ih (i + 1) _ (by omega) (by omega) (Nat.lcm_pos h0 hc.1) hl
theorem perm_order.ev (g : Nat → Nat) (n : Nat) (h : Bij n g) (hn : n ≤ 20) : Ev (fun k => perm_order.f k (lf g n)) ((ord g n : Nat) : Int) := by
  unfold perm_order.f
  refine Ev.bind (perm_cycles.ev g n h hn) ?_
  have hL : ∀ c ∈ cycI g n n, 0 < c.length ∧ c.length ≤ 20 := by
    intro c hc
    obtain ⟨c', hc', rfl⟩ := List.mem_map.1 hc
    obtain ⟨j, hj, rfl⟩ := List.mem_map.1 hc'
    have hj' := List.mem_range.1 (List.mem_filter.1 hj).1
    rw [show (ints (orb g n j)).length = per g n j by simp [ints, orb_length]]
    have := (h.per_spec hj').2.1
    exact ⟨per_pos .., by omega⟩
  have hlen : (cycI g n n).length ≤ n := by
    have := cyc_len g n n
    simpa [cycI] using this
  have := perm_order.l_ev (cycI g n n) hL (by omega) _ 0 1 rfl (Nat.zero_le _) Nat.one_pos (Nat.one_dvd _)
  rw [List.drop_zero, show (cycI g n n).map List.length = (cyc g n n).map List.length by simp [cycI, ints, Function.comp_def]] at this
  exact this

/-! ### api_Perm_int_81 -/
theorem api_Perm_int_81.l_ev (l : List Int) (x : Int) (hl : l.length < 4611686018427387904) : ∀ (d i : Nat), l.length - i = d → i ≤ l.length →
    Ev (fun k => api_Perm_int_81.l0 k l x (l.length : Int) (i : Int)) (if x ∈ l.drop i then ((i + (l.drop i).idxOf x : Nat) : Int) else -1) := by
  intro d
  induction d with
  | zero =>
    intro i hd hi
    have e : l.drop i = [] := List.drop_eq_nil_of_le (by omega)
    rw [e, if_neg (by simp)]
    refine Ev.step (f := fun _ => some (-1)) (fun k => ?_) (Ev.now _)
    simp only [api_Perm_int_81.l0]
    rw [if_neg (by omega)]
  | succ d ih =>
    intro i hd hi
    have hlt : i < l.length := by omega
    have e : l.drop i = l[i] :: l.drop (i + 1) := List.drop_eq_getElem_cons hlt
    by_cases hx : x = l[i]
    · rw [e, if_pos (by rw [hx]; exact List.mem_cons_self ..), ← hx, List.idxOf_cons_self]
      refine Ev.step (f := fun _ => some ((i : Nat) : Int)) (fun k => ?_) (Ev.now _)
      simp only [api_Perm_int_81.l0]
      rw [if_pos (by omega), if_pos (by omega), if_pos (by omega), if_pos (by rw [rd_get l i hlt]; exact hx)]
    · refine Ev.step (f := fun k => api_Perm_int_81.l0 k l x (l.length : Int) ((i + 1 : Nat) : Int)) (fun k => ?_) ?_
      · simp only [api_Perm_int_81.l0]
        rw [if_pos (by omega), if_pos (by omega), if_pos (by omega), if_neg (by rw [rd_get l i hlt]; exact hx), wrap_nat (by omega)]
      · have := ih (i + 1) (by omega) (by omega)
        rw [e]
        by_cases hm : x ∈ l.drop (i + 1)
        · rw [if_pos hm] at this
          have hne : (l[i] == x) = false := beq_eq_false_iff_ne.2 (fun h => hx h.symm)
          rw [if_pos (List.mem_cons_of_mem _ hm), List.idxOf_cons, hne, cond_false]
          rw [show i + ((l.drop (i + 1)).idxOf x + 1) = i + 1 + (l.drop (i + 1)).idxOf x by omega]
          exact this
        · rw [if_neg hm] at this
          rw [if_neg (by rw [List.mem_cons]; exact fun h => h.elim hx hm)]
          exact this
theorem api_Perm_int_81.ev (l : List Int) (x : Int) (hl : l.length < 4611686018427387904) : Ev (fun k => api_Perm_int_81.f k l x) (if x ∈ l then ((l.idxOf x : Nat) : Int) else -1) := by
  have := api_Perm_int_81.l_ev l x hl l.length 0 (by omega) (by omega)
  rw [List.drop_zero, Nat.zero_add] at this
  exact this

/-! ### api_Perm_int_72 -/
theorem api_Perm_int_72.ev (l : List Int) (x : Int) (hl : l.length < 4611686018427387904) : Ev (fun k => api_Perm_int_72.f k l x) (decide (x ∈ l)) := by
  unfold api_Perm_int_72.f
  refine Ev.bind (f := fun _ t => some (decide (t ≥ 0))) (api_Perm_int_81.ev l x hl) ?_
  by_cases h : x ∈ l
  · simp only [if_pos h]
    rw [show decide ((((l.idxOf x : Nat) : Int)) ≥ 0) = decide (x ∈ l) by simp [h]]
    exact Ev.now _
  · simp only [if_neg h]
    rw [show decide ((-1 : Int) ≥ 0) = decide (x ∈ l) by simp [h]]
    exact Ev.now _

/-! ### perm_Check -/
theorem perm_Check.l_ev (l : List Int) (hl : l.length ≤ 20) : ∀ (d i : Nat), l.length - i = d → i ≤ l.length →
    Ev (fun k => perm_Check.l0 k l l (l.length : Int) (i : Int)) (chkFrom l d) := by
  intro d
  induction d with
  | zero =>
    intro i hd hi
    refine Ev.step (f := fun _ => some 0) (fun k => ?_) (Ev.now _)
    simp only [perm_Check.l0]
    rw [if_neg (by omega)]
  | succ d ih =>
    intro i hd hi
    have hi' : l.length - (d + 1) = i := by omega
    simp only [chkFrom, hi']
    have hb : ∀ b : Bool, (b = true ↔ (l.getD i 0 < 0 ∨ (l.length : Int) ≤ l.getD i 0)) →
        Ev (fun k => perm_Check.j1 k l (i : Int) (rd l (i : Int)) l (l.length : Int) (i : Int) b) (if l.getD i 0 < 0 ∨ (l.length : Int) ≤ l.getD i 0 then 3 else if l.getD i 0 ∈ l.take i then 24 else chkFrom l d) := by
      intro b hb
      by_cases h : b = true
      · rw [if_pos (hb.1 h)]
        refine Ev.step (f := fun _ => some 3) (fun k => ?_) (Ev.now _)
        simp only [perm_Check.j1]
        rw [if_pos h]
      · rw [if_neg (fun hh => h (hb.2 hh))]
        refine Ev.step (f := fun k => (api_Perm_int_72.f k (l.take i) (rd l (i : Int))).bind fun t => if t = true then some 24 else perm_Check.l0 k l l (l.length : Int) ((i + 1 : Nat) : Int)) (fun k => ?_) ?_
        · simp only [perm_Check.j1]
          rw [if_neg h, if_pos (by omega), if_pos (by omega), wrap_nat (by omega)]
          rfl
        · refine Ev.bind (f := fun k t => if t = true then some 24 else perm_Check.l0 k l l (l.length : Int) ((i + 1 : Nat) : Int)) (api_Perm_int_72.ev _ _ (by rw [List.length_take]; omega)) ?_
          by_cases hm : l.getD i 0 ∈ l.take i
          · rw [if_pos hm]
            exact Ev.congr (f := fun _ => some 24) (fun k => if_pos (decide_eq_true hm)) (Ev.now _)
          · rw [if_neg hm]
            exact Ev.congr (f := fun k => perm_Check.l0 k l l (l.length : Int) ((i + 1 : Nat) : Int)) (fun k => if_neg (fun h => hm (of_decide_eq_true h))) (ih (i + 1) (by omega) (by omega))
    by_cases h0 : rd l (i : Int) < 0
    · refine Ev.step (f := fun k => perm_Check.j1 k l (i : Int) (rd l (i : Int)) l (l.length : Int) (i : Int) true) (fun k => ?_) (hb true ⟨fun _ => .inl h0, fun _ => rfl⟩)
      simp only [perm_Check.l0]
      rw [if_pos (by omega), if_pos (by omega), if_pos (by omega), if_pos h0]
    · refine Ev.step (f := fun k => perm_Check.j1 k l (i : Int) (rd l (i : Int)) l (l.length : Int) (i : Int) (decide (rd l (i : Int) ≥ (l.length : Int)))) (fun k => ?_) (hb _ ?_)
      · simp only [perm_Check.l0]
        rw [if_pos (by omega), if_pos (by omega), if_pos (by omega), if_neg h0]
      · rw [decide_eq_true_iff]
        exact ⟨fun h => .inr h, fun h => h.elim (fun hh => absurd hh h0) id⟩
theorem perm_Check.ev (l : List Int) : Ev (fun k => perm_Check.f k l) (chk l) := by
  unfold perm_Check.f chk
  by_cases h : 20 < l.length
  · rw [if_pos h]
    refine Ev.congr (f := fun _ => some 4) (fun k => ?_) (Ev.now _)
    rw [if_pos (by omega)]
  · rw [if_neg h]
    refine Ev.congr (f := fun k => perm_Check.l0 k l l (l.length : Int) 0) (fun k => ?_) (perm_Check.l_ev l (by omega) _ 0 (by omega) (by omega))
    rw [if_neg (by omega)]

/-! ### perm_Order -/
theorem perm_Order.ev (g : Nat → Nat) (n : Nat) (h : Bij n g) (hn : n ≤ 20) : Ev (fun k => perm_Order.f k (lf g n)) (((ord g n : Nat) : Int), 0) := by
  unfold perm_Order.f
  refine Ev.bind (perm_Check.ev _) ?_
  simp only [if_pos (chk_lf h hn)]
  exact Ev.bind (perm_order.ev g n h hn) (Ev.now _)
theorem perm_Order.ev_bad (l : List Int) (h : chk l ≠ 0) : Ev (fun k => perm_Order.f k l) (0, chk l) := by
  unfold perm_Order.f
  refine Ev.bind (perm_Check.ev _) ?_
  simp only [if_neg h]
  exact Ev.now _

/-! ### perm_mul -/
theorem perm_mul.l_ev (a b : List Int) (hl : a.length < 35184372088832) (hr : ∀ x ∈ a, 0 ≤ x ∧ x < (b.length : Int)) : ∀ (d i : Nat), a.length - i = d → i ≤ a.length →
    Ev (fun k => perm_mul.l0 k b ((mulL a b).take i ++ (List.replicate a.length 0).drop i) a (a.length : Int) (i : Int)) (mulL a b) := by
  have hm : (mulL a b).length = a.length := by simp [mulL]
  intro d
  induction d with
  | zero =>
    intro i hd hi
    have e : i = (mulL a b).length := by omega
    refine Ev.step (f := fun _ => some (mulL a b)) (fun k => ?_) (Ev.now _)
    simp only [perm_mul.l0]
    rw [if_neg (by omega), e, fill_end _ _ (by simp [hm])]
  | succ d ih =>
    intro i hd hi
    have hlt : i < a.length := by omega
    have hx := hr a[i] (List.getElem_mem hlt)
    refine Ev.step (f := fun k => perm_mul.l0 k b ((mulL a b).take (i + 1) ++ (List.replicate a.length 0).drop (i + 1)) a (a.length : Int) ((i + 1 : Nat) : Int)) (fun k => ?_) (ih (i + 1) (by omega) (by omega))
    simp only [perm_mul.l0]
    rw [if_pos (by omega), if_pos (by omega), if_pos (by omega), rd_get a i hlt, if_pos hx.1, if_pos hx.2, if_pos (by rw [List.length_append, List.length_take, List.length_drop, List.length_replicate]; omega), wrap_nat (by omega)]
    rw [Int.toNat_natCast, set_fill (mulL a b) (List.replicate a.length 0) i (rd b a[i]) (by omega) (by simp [hm]) (by simp [mulL, List.getElem?_eq_getElem hlt])]
theorem perm_mul.ev (a b : List Int) (hl : a.length < 35184372088832) (hr : ∀ x ∈ a, 0 ≤ x ∧ x < (b.length : Int)) : Ev (fun k => perm_mul.f k a b) (mulL a b) := by
  refine Ev.congr (f := fun k => perm_mul.l0 k b ((mulL a b).take 0 ++ (List.replicate a.length 0).drop 0) a (a.length : Int) ((0 : Nat) : Int)) (fun k => ?_) (perm_mul.l_ev a b hl hr _ 0 rfl (Nat.zero_le _))
  unfold perm_mul.f
  rw [if_pos (by omega), if_pos (by omega)]
  simp
theorem perm_mul.ev_lf (g h : Nat → Nat) (n : Nat) (hg : Bij n g) (hn : n ≤ 20) : Ev (fun k => perm_mul.f k (lf g n) (lf h n)) (lf (fun i => h (g i)) n) := by
  have := perm_mul.ev (lf g n) (lf h n) (by rw [lf_length]; omega) (fun x hx => by
    have := (lf_perm hg).1 x hx
    rw [lf_length] at this ⊢; exact this)
  rwa [mulL_lf g h n hg.lt] at this

/-! ### perm_identity -/
theorem perm_identity.l_ev (n : Nat) (hl : n ≤ 35184372088832) : ∀ (d i : Nat), n - i = d → i ≤ n →
    Ev (fun k => perm_identity.l0 k ((lf (fun i => i) n).take i ++ (List.replicate n 0).drop i) (n : Int) (i : Int)) (lf (fun i => i) n) := by
  have hm : (lf (fun i => i) n).length = n := lf_length _ _
  intro d
  induction d with
  | zero =>
    intro i hd hi
    have e : i = (lf (fun i => i) n).length := by omega
    refine Ev.step (f := fun _ => some (lf (fun i => i) n)) (fun k => ?_) (Ev.now _)
    simp only [perm_identity.l0]
    rw [if_neg (by omega), e, fill_end _ _ (by simp [hm])]
  | succ d ih =>
    intro i hd hi
    refine Ev.step (f := fun k => perm_identity.l0 k ((lf (fun i => i) n).take (i + 1) ++ (List.replicate n 0).drop (i + 1)) (n : Int) ((i + 1 : Nat) : Int)) (fun k => ?_) (ih (i + 1) (by omega) (by omega))
    simp only [perm_identity.l0]
    rw [if_pos (by omega), if_pos (by omega), if_pos (by rw [List.length_append, List.length_take, List.length_drop, List.length_replicate]; omega), wrap_nat (by omega)]
    rw [Int.toNat_natCast, set_fill (lf (fun i => i) n) (List.replicate n 0) i (i : Int) (by omega) (by simp [hm]) (lf_get? _ _ _ (by omega))]
theorem perm_identity.ev (n : Nat) (hl : n ≤ 35184372088832) : Ev (fun k => perm_identity.f k (n : Int)) (lf (fun i => i) n) := by
  refine Ev.congr (f := fun k => perm_identity.l0 k ((lf (fun i => i) n).take 0 ++ (List.replicate n 0).drop 0) (n : Int) ((0 : Nat) : Int)) (fun k => ?_) (perm_identity.l_ev n hl _ 0 rfl (Nat.zero_le _))
  unfold perm_identity.f
  rw [if_pos (by omega), if_pos (by omega)]
  simp

/-! ### perm_Pow -/
theorem perm_Pow.l_ev (g : Nat → Nat) (n : Nat) (h : Bij n g) (hn : n ≤ 20) (m : Nat) (hm : m < 4611686018427387904) : ∀ (d i : Nat), m - i = d → i ≤ m →
    Ev (fun k => perm_Pow.l0 k (lf g n) (lf (it g i) n) (m : Int) (i : Int)) (lf (it g m) n, 0) := by
  intro d
  induction d with
  | zero =>
    intro i hd hi
    have e : i = m := by omega
    subst e
    refine Ev.step (f := fun _ => some (lf (it g i) n, 0)) (fun k => ?_) (Ev.now _)
    simp only [perm_Pow.l0]
    rw [if_neg (by omega)]
  | succ d ih =>
    intro i hd hi
    refine Ev.step (f := fun k => (perm_mul.f k (lf (it g i) n) (lf g n)).bind fun t => perm_Pow.l0 k (lf g n) t (m : Int) ((i + 1 : Nat) : Int)) (fun k => ?_) (Ev.bind (perm_mul.ev_lf _ g n (h.it i) hn) (ih (i + 1) (by omega) (by omega)))
    simp only [perm_Pow.l0]
    rw [if_pos (by omega), wrap_nat (by omega)]
/-- The exponent that is left: between 0 and the order. -/
theorem exponent (m : Int) (o : Nat) (ho : 0 < o) (hs : o ≤ 232792560) : Int.tmod (wrap64 ((Int.tmod m (o : Int)) + (o : Int))) (o : Int) = (((m % (o : Int)).toNat : Nat) : Int) := by
  have h1 := Int.emod_nonneg m (by omega : (o : Int) ≠ 0)
  have h2 := Int.emod_lt_of_pos m (by omega : (0 : Int) < o)
  have e : Int.tmod m (o : Int) = m % (o : Int) ∨ Int.tmod m (o : Int) = m % (o : Int) - (o : Int) := by
    rw [Int.tmod_eq_emod]
    split
    · left; omega
    · right; rw [Int.natAbs_natCast]
  rw [Int.toNat_of_nonneg h1]
  rcases e with e | e
  · rw [e, w64_small (by omega) (by omega), Int.tmod_eq_emod_of_nonneg (by omega), Int.add_emod_right, Int.emod_eq_of_lt h1 h2]
  · rw [e, w64_small (by omega) (by omega), show m % (o : Int) - (o : Int) + (o : Int) = m % (o : Int) by omega, Int.tmod_eq_emod_of_nonneg h1, Int.emod_eq_of_lt h1 h2]
theorem perm_Pow.ev (g : Nat → Nat) (n : Nat) (h : Bij n g) (hn : n ≤ 20) (m : Int) : Ev (fun k => perm_Pow.f k (lf g n) m) (lf (it g (m % ((ord g n : Nat) : Int)).toNat) n, 0) := by
  have hs : ord g n ≤ 232792560 := Nat.le_of_dvd (by decide) (h.ord_small hn)
  have ho := ord_pos g n
  have h2 := Int.emod_lt_of_pos m (by omega : (0 : Int) < ((ord g n : Nat) : Int))
  unfold perm_Pow.f
  refine Ev.bind (perm_Check.ev _) ?_
  simp only [if_pos (chk_lf h hn)]
  refine Ev.bind (perm_order.ev g n h hn) (Ev.bind (f := fun k t => if ((ord g n : Nat) : Int) = 0 then none else perm_Pow.l0 k (lf g n) t (Int.tmod (wrap64 ((Int.tmod m ((ord g n : Nat) : Int)) + ((ord g n : Nat) : Int))) ((ord g n : Nat) : Int)) 0) (a := lf (fun i => i) n) ?_ ?_)
  · rw [lf_length]
    exact perm_identity.ev n (by omega)
  · refine Ev.congr (f := fun k => perm_Pow.l0 k (lf g n) (lf (it g 0) n) (((m % ((ord g n : Nat) : Int)).toNat : Nat) : Int) ((0 : Nat) : Int)) (fun k => ?_) (perm_Pow.l_ev g n h hn _ (by omega) _ 0 rfl (Nat.zero_le _))
    rw [if_neg (by omega), exponent m _ ho hs]
    rfl
theorem perm_Pow.ev_bad (l : List Int) (m : Int) (h : chk l ≠ 0) : Ev (fun k => perm_Pow.f k l m) ([], chk l) := by
  unfold perm_Pow.f
  refine Ev.bind (perm_Check.ev _) ?_
  simp only [if_neg h]
  exact Ev.now _

/-! ### rdL -/
theorem rdL_get (C : List (List Int)) (i : Nat) (h : i < C.length) : rd_L1 C (i : Int) = C[i] := by
  show C.getD i [] = _
  rw [List.getD_eq_getElem?_getD, List.getElem?_eq_getElem h]; rfl
theorem tmod_next (j n : Nat) (hj : j < 4611686018427387904) : Int.tmod (wrap64 ((j : Int) + 1)) (n : Int) = (((j + 1) % n : Nat) : Int) := by
  rw [wrap_nat hj, Int.ofNat_tmod]

/-! ### perm_Type -/
def fixd (g : Nat → Nat) (m : Nat) : List Int := ((List.range m).filter fun i => i == g i).map fun _ => (1 : Int)
theorem fixd_succ (g : Nat → Nat) (m : Nat) : fixd g (m + 1) = fixd g m ++ (if m = g m then [1] else []) := by
  unfold fixd
  rw [List.range_succ, List.filter_append, List.map_append]
  congr 1
  by_cases e : m = g m
  · rw [if_pos e, List.filter_cons_of_pos (by simp [← e])]; rfl
  · rw [if_neg e, List.filter_cons_of_neg (by simp [e])]; rfl
theorem fixd_length (g : Nat → Nat) (m : Nat) : (fixd g m).length ≤ m := by
  unfold fixd
  rw [List.length_map]
  exact Nat.le_trans (List.length_filter_le ..) (by simp)
def coll (g : Nat → Nat) (n : Nat) : List Int := (cycI g n n).map (fun c => ((c.length : Nat) : Int)) ++ fixd g n
theorem coll_lens (g : Nat → Nat) (n : Nat) (h : Bij n g) : (coll g n).Perm (lens g n) := by
  have := lens_collected g n h
  unfold coll fixd cycI
  rw [List.map_map]
  have e : ((cyc g n n).map ((fun c : List Int => ((c.length : Nat) : Int)) ∘ ints)) = (cyc g n n).map (fun c => ((c.length : Nat) : Int)) := List.map_congr_left fun c _ => by simp [ints]
  rw [e]
  exact this
theorem coll_small (g : Nat → Nat) (n : Nat) (h : Bij n g) (hn : n ≤ 20) : smallAll (coll g n) = true := by
  have hp := coll_lens g n h
  unfold smallAll
  rw [Bool.and_eq_true, decide_eq_true_iff, List.all_eq_true]
  constructor
  · have h1 := cyc_len g n n
    have h2 := fixd_length g n
    unfold coll cycI
    simp only [List.length_append, List.length_map]
    omega
  · intro x hx
    have := lens_mem h (hp.subset hx)
    exact decide_eq_true (by omega)
theorem perm_Type.l1_ev (g : Nat → Nat) (n : Nat) (h : Bij n g) (hn : n ≤ 20) (pre : List Int) (hpre : pre.length ≤ 20) (hs : smallAll (pre ++ fixd g n) = true) : ∀ (d i : Nat), n - i = d → i ≤ n →
    Ev (fun k => perm_Type.l1 k (pre ++ fixd g i) (lf g n) (n : Int) (i : Int)) (sortDesc (pre ++ fixd g n), 0) := by
  intro d
  induction d with
  | zero =>
    intro i hd hi
    have e : i = n := by omega
    subst e
    refine Ev.step (f := fun _ => some (sortDesc (pre ++ fixd g i), 0)) (fun k => ?_) (Ev.now _)
    simp only [perm_Type.l1]
    rw [if_neg (by omega), if_pos hs]
  | succ d ih =>
    intro i hd hi
    have hlt : i < n := by omega
    have nx := ih (i + 1) (by omega) (by omega)
    have hf := fixd_length g i
    rw [fixd_succ] at nx
    by_cases e : i = g i
    · rw [if_pos e, ← List.append_assoc] at nx
      refine Ev.step (fun k => ?_) nx
      simp only [perm_Type.l1]
      rw [if_pos (by omega), if_pos (by omega), if_pos (by rw [lf_length]; omega), rd_nat, lf_getD g n i hlt, if_pos (by omega), if_pos (by rw [List.length_append]; omega), wrap_nat (by omega)]
    · rw [if_neg e, List.append_nil] at nx
      refine Ev.step (fun k => ?_) nx
      simp only [perm_Type.l1]
      rw [if_pos (by omega), if_pos (by omega), if_pos (by rw [lf_length]; omega), rd_nat, lf_getD g n i hlt, if_neg (by omega), wrap_nat (by omega)]
theorem perm_Type.l0_ev (g : Nat → Nat) (n : Nat) (h : Bij n g) (hn : n ≤ 20) (L : List (List Int)) (hL : L.length ≤ 20) (hs : smallAll (L.map (fun c => ((c.length : Nat) : Int)) ++ fixd g n) = true) : ∀ (d i : Nat), L.length - i = d → i ≤ L.length →
    Ev (fun k => perm_Type.l0 k (lf g n) ((L.take i).map fun c => ((c.length : Nat) : Int)) L (L.length : Int) (i : Int)) (sortDesc (L.map (fun c => ((c.length : Nat) : Int)) ++ fixd g n), 0) := by
  intro d
  induction d with
  | zero =>
    intro i hd hi
    rw [List.take_of_length_le (by omega)]
    have := perm_Type.l1_ev g n h hn (L.map fun c => ((c.length : Nat) : Int)) (by simpa using hL) hs _ 0 rfl (Nat.zero_le _)
    rw [show fixd g 0 = [] from rfl, List.append_nil] at this
    refine Ev.step (fun k => ?_) this
    simp only [perm_Type.l0]
    rw [if_neg (by omega), lf_length]
    rfl
  | succ d ih =>
    intro i hd hi
    have hlt : i < L.length := by omega
    have nx := ih (i + 1) (by omega) (by omega)
    rw [List.take_succ_eq_append_getElem hlt, List.map_append] at nx
    refine Ev.step (fun k => ?_) nx
    simp only [perm_Type.l0]
    rw [if_pos (by omega), if_pos (by omega), if_pos (by omega), if_pos (by rw [List.length_map, List.length_take]; omega), rdL_get L i hlt, wrap_nat (by omega)]
    rfl
theorem perm_Type.ev (g : Nat → Nat) (n : Nat) (h : Bij n g) (hn : n ≤ 20) : Ev (fun k => perm_Type.f k (lf g n)) (sortDesc (coll g n), 0) := by
  unfold perm_Type.f
  refine Ev.bind (perm_Check.ev _) ?_
  simp only [if_pos (chk_lf h hn)]
  refine Ev.bind (perm_cycles.ev g n h hn) ?_
  have hl : (cycI g n n).length ≤ 20 := by
    have := cyc_len g n n
    unfold cycI
    rw [List.length_map]
    omega
  exact perm_Type.l0_ev g n h hn (cycI g n n) hl (coll_small g n h hn) _ 0 rfl (Nat.zero_le _)
theorem perm_Type.ev_bad (l : List Int) (h : chk l ≠ 0) : Ev (fun k => perm_Type.f k l) ([], chk l) := by
  unfold perm_Type.f
  refine Ev.bind (perm_Check.ev _) ?_
  simp only [if_neg h]
  exact Ev.now _

/-! ### galoislaw22_gcd -/
theorem galoislaw22_gcd.l_ev : ∀ (N : Nat) (a b : Int), b.natAbs < N → a.natAbs < 4611686018427387904 → b.natAbs < 4611686018427387904 → Ev (fun k => galoislaw22_gcd.l0 k a b) ((Nat.gcd a.natAbs b.natAbs : Nat) : Int) := by
  intro N
  induction N with
  | zero => intro a b h _ _; omega
  | succ N ih =>
    intro a b hb ha hb2
    by_cases h0 : b = 0
    · subst h0
      refine Ev.step (f := fun _ => some ((Nat.gcd a.natAbs (0 : Int).natAbs : Nat) : Int)) (fun k => ?_) (Ev.now _)
      simp only [galoislaw22_gcd.l0]
      rw [if_pos trivial]
      by_cases hn : a < 0
      · rw [if_pos hn, w64_small (by omega) (by omega)]
        congr 1
        show -a = ((Nat.gcd a.natAbs 0 : Nat) : Int)
        rw [Nat.gcd_zero_right]; omega
      · rw [if_neg hn]
        congr 1
        show a = ((Nat.gcd a.natAbs 0 : Nat) : Int)
        rw [Nat.gcd_zero_right]; omega
    · have e1 : (Int.tmod a b).natAbs = a.natAbs % b.natAbs := Int.natAbs_tmod a b
      have h1 : a.natAbs % b.natAbs < b.natAbs := Nat.mod_lt _ (by omega)
      have e2 : Nat.gcd a.natAbs b.natAbs = Nat.gcd b.natAbs (Int.tmod a b).natAbs := by
        rw [e1, Nat.gcd_comm a.natAbs, Nat.gcd_rec b.natAbs, Nat.gcd_comm]
      rw [e2]
      refine Ev.step (fun k => ?_) (ih b (Int.tmod a b) (by omega) hb2 (by omega))
      simp only [galoislaw22_gcd.l0]
      rw [if_neg h0]
theorem galoislaw22_gcd.ev (a b : Int) (ha : a.natAbs < 4611686018427387904) (hb : b.natAbs < 4611686018427387904) : Ev (fun k => galoislaw22_gcd.f k a b) ((Nat.gcd a.natAbs b.natAbs : Nat) : Int) :=
  galoislaw22_gcd.l_ev _ a b (Nat.lt_succ_self _) ha hb

end Go.Proofs.YtoaalfpfklchfaaDoor.QPermSplits
