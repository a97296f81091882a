/- What the printed functions come to: each in plain words (loops by induction). -/
import Derived.Test.YtoaalfpfklchfaaDoorZPermFormsPx1
import Derived.Test.YtoaalfpfklchfaaDoorZPermFormsPx2
import Derived.Test.YtoaalfpfklchfaaDoorZPermFormsPx3
import Derived.Test.YtoaalfpfklchfaaDoorZPermFormsPx4
import Derived.Test.YtoaalfpfklchfaaDoorZPermFormsPx5
import Derived.Test.YtoaalfpfklchfaaDoorZPermFormsPx6
import Derived.Test.YtoaalfpfklchfaaDoorZPermFormsPx7
import Derived.Test.YtoaalfpfklchfaaDoorZPermFormsPx8
import Derived.Test.YtoaalfpfklchfaaDoorZPermFormsLists
import Derived.Test.YtoaalfpfklchfaaDoorZPermFormsRanks
import Derived.Test.YtoaalfpfklchfaaDoorZPermFormsSigns
import Derived.Test.YtoaalfpfklchfaaDoorZPermFormsSortB
import Derived.Test.YtoaalfpfklchfaaDoorZPermFormsTypes
namespace Go.Proofs.YtoaalfpfklchfaaDoor.QPermForms
open Go.RowKit Go.Proofs.YtoaalfpfklchfaaDoor.PPermForms Go.Proofs.YtoaalfpfklchfaaDoorW.PrintWords Go.Proofs.YtoaalfpfklchfaaDoorW.PrintLast Go.Proofs.YtoaalfpfklchfaaDoor.Plain
set_option linter.unusedVariables false
set_option linter.unusedSimpArgs false

/-! ### awake22 -/
theorem galoislaw22_awake.ev : Ev (fun k => galoislaw22_awake.f k) true := Ev.of galoislaw22_awake.mono (k := 40) (by decide +kernel)

/-! ### galoislaw22_few -/
theorem galoislaw22_few.l_ev (l : List (List Int)) (hn : l.length < 4611686018427387904) : ∀ (d i : Nat), l.length - i = d → i ≤ l.length →
    Ev (fun k => galoislaw22_few.l0 k l (i : Int)) ((l.drop i).all fun x => decide (x.length ≤ 40)) := by
  intro d
  induction d with
  | zero =>
    intro i hd hi
    rw [List.drop_eq_nil_of_le (by omega : l.length ≤ i)]
    refine Ev.step (f := fun _ => some true) (fun k => ?_) (Ev.now _)
    simp only [galoislaw22_few.l0]
    rw [if_neg (by omega)]
  | succ d ih =>
    intro i hd hi
    have ha : i < l.length := by omega
    have hg : rd_L1 l (i : Int) = l[i] := by
      show l.getD i [] = _
      rw [List.getD_eq_getElem?_getD, List.getElem?_eq_getElem ha]; rfl
    rw [List.drop_eq_getElem_cons ha, List.all_cons]
    by_cases e : l[i].length ≤ 40
    · refine Ev.step (f := fun k => galoislaw22_few.l0 k l ((i + 1 : Nat) : Int)) (fun k => ?_) ?_
      · simp only [galoislaw22_few.l0]
        rw [if_pos (by omega), if_pos (by omega), hg, if_neg (by omega), wrap_nat (by omega)]
      · rw [decide_eq_true e, Bool.true_and]
        exact ih (i + 1) (by omega) (by omega)
    · refine Ev.step (f := fun _ => some false) (fun k => ?_) ?_
      · simp only [galoislaw22_few.l0]
        rw [if_pos (by omega), if_pos (by omega), hg, if_pos (by omega)]
      · rw [decide_eq_false e, Bool.false_and]
        exact Ev.now _
theorem galoislaw22_few.ev (l : List (List Int)) (hn : l.length < 4611686018427387904) : Ev (fun k => galoislaw22_few.f k l) (l.all fun x => decide (x.length ≤ 40)) := by
  have := galoislaw22_few.l_ev l hn _ 0 rfl (by omega)
  rwa [List.drop_zero] at this

/-! ### galoisref22_Check -/
theorem galoisref22_Check.l1_ev (l : List Int) (i : Nat) (hi : i < l.length) (hl : l.length ≤ 20) (r : Int)
    (hr : l.getD i 0 ∉ l.take i → Ev (fun k => galoisref22_Check.l0 k l ((i + 1 : Nat) : Int)) r) : ∀ (d j : Nat), i - j = d → j ≤ i → l.getD i 0 ∉ l.take j →
    Ev (fun k => galoisref22_Check.l1 k l (i : Int) (j : Int)) (if l.getD i 0 ∈ l.take i then 24 else r) := by
  intro d
  induction d with
  | zero =>
    intro j hd hj hno
    have e : j = i := by omega
    subst e
    rw [if_neg hno]
    refine Ev.step (f := fun k => galoisref22_Check.l0 k l ((j + 1 : Nat) : Int)) (fun k => ?_) (hr hno)
    simp only [galoisref22_Check.l1]
    rw [if_neg (by omega), wrap_nat (by omega)]
  | succ d ih =>
    intro j hd hj hno
    have hjl : j < l.length := by omega
    by_cases e : l.getD j 0 = l.getD i 0
    · rw [if_pos (by
        rw [← e, List.getD_eq_getElem?_getD, List.getElem?_eq_getElem hjl]
        exact List.mem_take_iff_getElem.2 ⟨j, by omega, rfl⟩)]
      refine Ev.step (f := fun _ => some 24) (fun k => ?_) (Ev.now _)
      simp only [galoisref22_Check.l1]
      rw [if_pos (by omega), if_pos (by omega), if_pos (by omega), if_pos (by omega), if_pos (by omega), if_pos (by simpa only [rd_nat] using e)]
    · refine Ev.step (f := fun k => galoisref22_Check.l1 k l (i : Int) ((j + 1 : Nat) : Int)) (fun k => ?_) (ih (j + 1) (by omega) (by omega) ?_)
      · simp only [galoisref22_Check.l1]
        rw [if_pos (by omega), if_pos (by omega), if_pos (by omega), if_pos (by omega), if_pos (by omega), if_neg (by simpa only [rd_nat] using e), wrap_nat (by omega)]
      · rw [List.take_succ_eq_append_getElem hjl, List.mem_append, List.mem_singleton]
        rintro (h | h)
        · exact hno h
        · apply e
          rw [h, List.getD_eq_getElem?_getD, List.getElem?_eq_getElem hjl]; rfl
theorem galoisref22_Check.l_ev (l : List Int) (hl : l.length ≤ 20) : ∀ (d i : Nat), l.length - i = d → i ≤ l.length →
    Ev (fun k => galoisref22_Check.l0 k l (i : Int)) (chkFrom l d) := by
  intro d
  induction d with
  | zero =>
    intro i hd hi
    refine Ev.step (f := fun _ => some 0) (fun k => ?_) (Ev.now _)
    simp only [galoisref22_Check.l0]
    rw [if_neg (by omega)]
  | succ d ih =>
    intro i hd hi
    have hi' : l.length - (d + 1) = i := by omega
    simp only [chkFrom, hi']
    have hb : ∀ b : Bool, (b = true ↔ (l.getD i 0 < 0 ∨ (l.length : Int) ≤ l.getD i 0)) →
        Ev (fun k => galoisref22_Check.j1 k l (i : Int) b) (if l.getD i 0 < 0 ∨ (l.length : Int) ≤ l.getD i 0 then 3 else if l.getD i 0 ∈ l.take i then 24 else chkFrom l d) := by
      intro b hb
      by_cases h : b = true
      · rw [if_pos (hb.1 h)]
        refine Ev.step (f := fun _ => some 3) (fun k => ?_) (Ev.now _)
        simp only [galoisref22_Check.j1]
        rw [if_pos h]
      · rw [if_neg (fun hh => h (hb.2 hh))]
        refine Ev.step (f := fun k => galoisref22_Check.l1 k l (i : Int) ((0 : Nat) : Int)) (fun k => ?_) (galoisref22_Check.l1_ev l i (by omega) hl _ (fun _ => ih (i + 1) (by omega) (by omega)) _ 0 rfl (by omega) (by simp))
        simp only [galoisref22_Check.j1]
        rw [if_neg h]
        rfl
    by_cases h0 : rd l (i : Int) < 0
    · refine Ev.step (f := fun k => galoisref22_Check.j1 k l (i : Int) true) (fun k => ?_) (hb true ⟨fun _ => .inl h0, fun _ => rfl⟩)
      simp only [galoisref22_Check.l0]
      rw [if_pos (by omega), if_pos (by omega), if_pos h0]
    · refine Ev.step (f := fun k => galoisref22_Check.j1 k l (i : Int) (decide (rd l (i : Int) ≥ (l.length : Int)))) (fun k => ?_) (hb _ ?_)
      · simp only [galoisref22_Check.l0]
        rw [if_pos (by omega), if_pos (by omega), if_neg h0]
      · rw [decide_eq_true_iff]
        exact ⟨fun h => .inr h, fun h => h.elim (fun hh => absurd hh h0) id⟩
theorem galoisref22_Check.ev (l : List Int) : Ev (fun k => galoisref22_Check.f k l) (chk l) := by
  unfold galoisref22_Check.f chk
  by_cases h : 20 < l.length
  · rw [if_pos h]
    refine Ev.congr (f := fun _ => some 4) (fun k => ?_) (Ev.now _)
    rw [if_pos (by omega)]
  · rw [if_neg h]
    refine Ev.congr (f := fun k => galoisref22_Check.l0 k l 0) (fun k => ?_) (galoisref22_Check.l_ev l (by omega) _ 0 (by omega) (by omega))
    rw [if_neg (by omega)]

/-! ### galoisref22_Same -/
theorem galoisref22_Same.l_ev (a b : List Int) (hl : a.length = b.length) (hn : a.length < 4611686018427387904) : ∀ (d i : Nat), a.length - i = d → i ≤ a.length →
    Ev (fun k => galoisref22_Same.l0 k a b (i : Int)) (decide (a.drop i = b.drop i)) := by
  intro d
  induction d with
  | zero =>
    intro i hd hi
    rw [List.drop_eq_nil_of_le (by omega : a.length ≤ i), List.drop_eq_nil_of_le (by omega : b.length ≤ i)]
    refine Ev.step (f := fun _ => some true) (fun k => ?_) (Ev.now _)
    simp only [galoisref22_Same.l0]
    rw [if_neg (by omega)]
  | succ d ih =>
    intro i hd hi
    have ha : i < a.length := by omega
    have hb : i < b.length := by omega
    rw [List.drop_eq_getElem_cons ha, List.drop_eq_getElem_cons hb]
    by_cases e : a[i] = b[i]
    · refine Ev.step (f := fun k => galoisref22_Same.l0 k a b ((i + 1 : Nat) : Int)) (fun k => ?_) ?_
      · simp only [galoisref22_Same.l0]
        rw [if_pos (by omega), if_pos (by omega), if_pos (by omega), rd_get a i ha, rd_get b i hb, if_pos e, wrap_nat (by omega)]
      · rw [show decide (a[i] :: a.drop (i + 1) = b[i] :: b.drop (i + 1)) = decide (a.drop (i + 1) = b.drop (i + 1)) by rw [e]; simp only [List.cons.injEq, true_and]]
        exact ih (i + 1) (by omega) (by omega)
    · refine Ev.step (f := fun _ => some false) (fun k => ?_) ?_
      · simp only [galoisref22_Same.l0]
        rw [if_pos (by omega), if_pos (by omega), if_pos (by omega), rd_get a i ha, rd_get b i hb, if_neg e]
      · rw [show decide (a[i] :: a.drop (i + 1) = b[i] :: b.drop (i + 1)) = false by simp only [List.cons.injEq, e, false_and, decide_false]]
        exact Ev.now _
theorem galoisref22_Same.ev (a b : List Int) (hn : a.length < 4611686018427387904) : Ev (fun k => galoisref22_Same.f k a b) (decide (a = b)) := by
  unfold galoisref22_Same.f
  by_cases hl : a.length = b.length
  · refine Ev.congr (f := fun k => galoisref22_Same.l0 k a b ((0 : Nat) : Int)) (fun k => ?_) ?_
    · rw [if_pos (by omega)]; rfl
    · have := galoisref22_Same.l_ev a b hl hn _ 0 rfl (by omega)
      rwa [List.drop_zero, List.drop_zero] at this
  · refine Ev.congr (f := fun _ => some false) (fun k => ?_) ?_
    · rw [if_neg (by omega)]
    · rw [show decide (a = b) = false by
        rw [decide_eq_false_iff_not]; exact fun e => hl (by rw [e])]
      exact Ev.now _

/-! ### perm_inverse -/
theorem perm_inverse.l_ev (g : Nat → Nat) (n : Nat) (h : Bij n g) (hn : n ≤ 20) : ∀ (d i : Nat), n - i = d → i ≤ n →
    Ev (fun k => perm_inverse.l0 k (invL g n i) (lf g n) (n : Int) (i : Int)) (lf (inv g n) n) := by
  intro d
  induction d with
  | zero =>
    intro i hd hi
    have e : i = n := by omega
    subst e
    refine Ev.step (f := fun _ => some (lf (inv g i) i)) (fun k => ?_) (Ev.now _)
    simp only [perm_inverse.l0]
    rw [if_neg (by omega), invL_end h]
  | succ d ih =>
    intro i hd hi
    have hlt : i < n := by omega
    have hg := h.lt i hlt
    refine Ev.step (f := fun k => perm_inverse.l0 k (invL g n (i + 1)) (lf g n) (n : Int) ((i + 1 : Nat) : Int)) (fun k => ?_) (ih (i + 1) (by omega) (by omega))
    simp only [perm_inverse.l0]
    rw [if_pos (by omega), if_pos (by omega), if_pos (by rw [lf_length]; omega), rd_nat, lf_getD g n i hlt, if_pos (by omega), if_pos (by unfold invL; rw [lf_length]; omega), wrap_nat (by omega), Int.toNat_natCast, invL_step h i hlt]
theorem perm_inverse.ev (g : Nat → Nat) (n : Nat) (h : Bij n g) (hn : n ≤ 20) : Ev (fun k => perm_inverse.f k (lf g n)) (lf (inv g n) n) := by
  refine Ev.congr (fun k => ?_) (perm_inverse.l_ev g n h hn _ 0 rfl (Nat.zero_le _))
  unfold perm_inverse.f
  rw [lf_length, if_pos (by omega), if_pos (by omega), Int.toNat_natCast, invL_zero]
  rfl

/-! ### api_Perm_int_81 -/
theorem api_Perm_int_81.l_ev (l : List Int) (x : Int) (hl : l.length < 4611686018427387904) : ∀ (d i : Nat), l.length - i = d → i ≤ l.length →
    Ev (fun k => api_Perm_int_81.l0 k l x (l.length : Int) (i : Int)) (if x ∈ l.drop i then ((i + (l.drop i).idxOf x : Nat) : Int) else -1) := by
  intro d
  induction d with
  | zero =>
    intro i hd hi
    have e : l.drop i = [] := List.drop_eq_nil_of_le (by omega)
    rw [e, if_neg (by simp)]
    refine Ev.step (f := fun _ => some (-1)) (fun k => ?_) (Ev.now _)
    simp only [api_Perm_int_81.l0]
    rw [if_neg (by omega)]
  | succ d ih =>
    intro i hd hi
    have hlt : i < l.length := by omega
    have e : l.drop i = l[i] :: l.drop (i + 1) := List.drop_eq_getElem_cons hlt
    by_cases hx : x = l[i]
    · rw [e, if_pos (by rw [hx]; exact List.mem_cons_self ..), ← hx, List.idxOf_cons_self]
      refine Ev.step (f := fun _ => some ((i : Nat) : Int)) (fun k => ?_) (Ev.now _)
      simp only [api_Perm_int_81.l0]
      rw [if_pos (by omega), if_pos (by omega), if_pos (by omega), if_pos (by rw [rd_get l i hlt]; exact hx)]
    · refine Ev.step (f := fun k => api_Perm_int_81.l0 k l x (l.length : Int) ((i + 1 : Nat) : Int)) (fun k => ?_) ?_
      · simp only [api_Perm_int_81.l0]
        rw [if_pos (by omega), if_pos (by omega), if_pos (by omega), if_neg (by rw [rd_get l i hlt]; exact hx), wrap_nat (by omega)]
      · have := ih (i + 1) (by omega) (by omega)
        rw [e]
        by_cases hm : x ∈ l.drop (i + 1)
        · rw [if_pos hm] at this
          have hne : (l[i] == x) = false := beq_eq_false_iff_ne.2 (fun h => hx h.symm)
          rw [if_pos (List.mem_cons_of_mem _ hm), List.idxOf_cons, hne, cond_false]
          rw [show i + ((l.drop (i + 1)).idxOf x + 1) = i + 1 + (l.drop (i + 1)).idxOf x by omega]
          exact this
        · rw [if_neg hm] at this
          rw [if_neg (by rw [List.mem_cons]; exact fun h => h.elim hx hm)]
          exact this
theorem api_Perm_int_81.ev (l : List Int) (x : Int) (hl : l.length < 4611686018427387904) : Ev (fun k => api_Perm_int_81.f k l x) (if x ∈ l then ((l.idxOf x : Nat) : Int) else -1) := by
  have := api_Perm_int_81.l_ev l x hl l.length 0 (by omega) (by omega)
  rw [List.drop_zero, Nat.zero_add] at this
  exact this

/-! ### api_Perm_int_72 -/
theorem api_Perm_int_72.ev (l : List Int) (x : Int) (hl : l.length < 4611686018427387904) : Ev (fun k => api_Perm_int_72.f k l x) (decide (x ∈ l)) := by
  unfold api_Perm_int_72.f
  refine Ev.bind (f := fun _ t => some (decide (t ≥ 0))) (api_Perm_int_81.ev l x hl) ?_
  by_cases h : x ∈ l
  · simp only [if_pos h]
    rw [show decide ((((l.idxOf x : Nat) : Int)) ≥ 0) = decide (x ∈ l) by simp [h]]
    exact Ev.now _
  · simp only [if_neg h]
    rw [show decide ((-1 : Int) ≥ 0) = decide (x ∈ l) by simp [h]]
    exact Ev.now _

/-! ### perm_Check -/
theorem perm_Check.l_ev (l : List Int) (hl : l.length ≤ 20) : ∀ (d i : Nat), l.length - i = d → i ≤ l.length →
    Ev (fun k => perm_Check.l0 k l l (l.length : Int) (i : Int)) (chkFrom l d) := by
  intro d
  induction d with
  | zero =>
    intro i hd hi
    refine Ev.step (f := fun _ => some 0) (fun k => ?_) (Ev.now _)
    simp only [perm_Check.l0]
    rw [if_neg (by omega)]
  | succ d ih =>
    intro i hd hi
    have hi' : l.length - (d + 1) = i := by omega
    simp only [chkFrom, hi']
    have hb : ∀ b : Bool, (b = true ↔ (l.getD i 0 < 0 ∨ (l.length : Int) ≤ l.getD i 0)) →
        Ev (fun k => perm_Check.j1 k l (i : Int) (rd l (i : Int)) l (l.length : Int) (i : Int) b) (if l.getD i 0 < 0 ∨ (l.length : Int) ≤ l.getD i 0 then 3 else if l.getD i 0 ∈ l.take i then 24 else chkFrom l d) := by
      intro b hb
      by_cases h : b = true
      · rw [if_pos (hb.1 h)]
        refine Ev.step (f := fun _ => some 3) (fun k => ?_) (Ev.now _)
        simp only [perm_Check.j1]
        rw [if_pos h]
      · rw [if_neg (fun hh => h (hb.2 hh))]
        refine Ev.step (f := fun k => (api_Perm_int_72.f k (l.take i) (rd l (i : Int))).bind fun t => if t = true then some 24 else perm_Check.l0 k l l (l.length : Int) ((i + 1 : Nat) : Int)) (fun k => ?_) ?_
        · simp only [perm_Check.j1]
          rw [if_neg h, if_pos (by omega), if_pos (by omega), wrap_nat (by omega)]
          rfl
        · refine Ev.bind (f := fun k t => if t = true then some 24 else perm_Check.l0 k l l (l.length : Int) ((i + 1 : Nat) : Int)) (api_Perm_int_72.ev _ _ (by rw [List.length_take]; omega)) ?_
          by_cases hm : l.getD i 0 ∈ l.take i
          · rw [if_pos hm]
            exact Ev.congr (f := fun _ => some 24) (fun k => if_pos (decide_eq_true hm)) (Ev.now _)
          · rw [if_neg hm]
            exact Ev.congr (f := fun k => perm_Check.l0 k l l (l.length : Int) ((i + 1 : Nat) : Int)) (fun k => if_neg (fun h => hm (of_decide_eq_true h))) (ih (i + 1) (by omega) (by omega))
    by_cases h0 : rd l (i : Int) < 0
    · refine Ev.step (f := fun k => perm_Check.j1 k l (i : Int) (rd l (i : Int)) l (l.length : Int) (i : Int) true) (fun k => ?_) (hb true ⟨fun _ => .inl h0, fun _ => rfl⟩)
      simp only [perm_Check.l0]
      rw [if_pos (by omega), if_pos (by omega), if_pos (by omega), if_pos h0]
    · refine Ev.step (f := fun k => perm_Check.j1 k l (i : Int) (rd l (i : Int)) l (l.length : Int) (i : Int) (decide (rd l (i : Int) ≥ (l.length : Int)))) (fun k => ?_) (hb _ ?_)
      · simp only [perm_Check.l0]
        rw [if_pos (by omega), if_pos (by omega), if_pos (by omega), if_neg h0]
      · rw [decide_eq_true_iff]
        exact ⟨fun h => .inr h, fun h => h.elim (fun hh => absurd hh h0) id⟩
theorem perm_Check.ev (l : List Int) : Ev (fun k => perm_Check.f k l) (chk l) := by
  unfold perm_Check.f chk
  by_cases h : 20 < l.length
  · rw [if_pos h]
    refine Ev.congr (f := fun _ => some 4) (fun k => ?_) (Ev.now _)
    rw [if_pos (by omega)]
  · rw [if_neg h]
    refine Ev.congr (f := fun k => perm_Check.l0 k l l (l.length : Int) 0) (fun k => ?_) (perm_Check.l_ev l (by omega) _ 0 (by omega) (by omega))
    rw [if_neg (by omega)]

/-! ### perm_Inverse -/
theorem perm_Inverse.ev (g : Nat → Nat) (n : Nat) (h : Bij n g) (hn : n ≤ 20) : Ev (fun k => perm_Inverse.f k (lf g n)) (lf (inv g n) n, 0) := by
  unfold perm_Inverse.f
  refine Ev.bind (perm_Check.ev _) ?_
  simp only [if_pos (chk_lf h hn)]
  exact Ev.bind (perm_inverse.ev g n h hn) (Ev.now _)
theorem perm_Inverse.ev_bad (l : List Int) (h : chk l ≠ 0) : Ev (fun k => perm_Inverse.f k l) ([], chk l) := by
  unfold perm_Inverse.f
  refine Ev.bind (perm_Check.ev _) ?_
  simp only [if_neg h]
  exact Ev.now _

/-! ### perm_cycles -/
theorem perm_cycles.l1_ev (g : Nat → Nat) (n : Nat) (h : Bij n g) (hn : n ≤ 20) (m : Nat) (hm : m < n) (R : List (List Int))
    (hl : isLeast g n m = true) (next : Ev (fun k => perm_cycles.l0 k (lf g n) (cycI g n (m + 1)) (seenL g n (m + 1) 0) (n : Int) ((m + 1 : Nat) : Int)) R) :
    ∀ (d t : Nat), per g n m - t = d → t ≤ per g n m →
    Ev (fun k => perm_cycles.l1 k (lf g n) (cycI g n m) (seenL g n m t) (ints ((List.range t).map fun k => it g k m)) ((it g t m : Nat) : Int) (n : Int) (m : Int)) R := by
  have hp := h.per_spec hm
  intro d
  induction d with
  | zero =>
    intro t hd ht
    have e : t = per g n m := by omega
    subst e
    have hseen : rdOf false (seenL g n m (per g n m)) ((it g (per g n m) m : Nat) : Int) = true := by
      rw [hp.1, seenL_rd _ _ _ _ _ hm, Bool.or_eq_true]
      exact .inr (List.any_eq_true.2 ⟨0, List.mem_range.2 (per_pos ..), by simp [it]⟩)
    have hlt : it g (per g n m) m < n := h.it_lt _ hm
    have hc := cyc_len g n m
    by_cases h2 : 2 ≤ per g n m
    · refine Ev.step (fun k => ?_) next
      simp only [perm_cycles.l1]
      rw [if_pos (by omega), if_pos (by rw [seenL_length]; omega), if_pos hseen, if_neg (by simp [ints]; omega), if_pos (by simp [cycI]; omega), wrap_nat (by omega), cycI_succ, if_pos (by simp [isHead, hl, h2]), seenL_next h m hm]
      rfl
    · refine Ev.step (fun k => ?_) next
      simp only [perm_cycles.l1]
      rw [if_pos (by omega), if_pos (by rw [seenL_length]; omega), if_pos hseen, if_pos (by simp [ints]; omega), wrap_nat (by omega), cycI_succ, if_neg (by simp [isHead, h2]), seenL_next h m hm, List.append_nil]
  | succ d ih =>
    intro t hd ht
    have hlt : it g t m < n := h.it_lt _ hm
    have hseen : rdOf false (seenL g n m t) ((it g t m : Nat) : Int) = false := by
      rw [seenL_rd _ _ _ _ _ hlt, Bool.or_eq_false_iff]
      constructor
      · rw [List.any_eq_false]
        intro j hj hin
        have hin := of_decide_eq_true hin
        have hj := List.mem_range.1 hj
        refine (h.least_iff m hm).1 hl ⟨j, hj, h.orb_trans (by omega) hin ?_⟩
        exact h.orb_symm hm ((h.mem_orb hm _).2 ⟨t, rfl⟩)
      · rw [List.any_eq_false]
        intro k hk e
        exact h.it_ne hm (List.mem_range.1 hk) (by omega : t < per g n m) (beq_iff_eq.1 e).symm
    have hpn := hp.2.1
    refine Ev.step (fun k => ?_) (ih (t + 1) (by omega) (by omega))
    simp only [perm_cycles.l1]
    rw [if_pos (by omega), if_pos (by rw [seenL_length]; omega), if_neg (by rw [hseen]; exact Bool.false_ne_true), if_pos (by simp [ints]; omega), if_pos (by rw [lf_length]; omega), Int.toNat_natCast, seenL_step g n m t hlt, rd_nat, lf_getD g n _ hlt]
    rw [show ints ((List.range t).map fun k => it g k m) ++ [((it g t m : Nat) : Int)] = ints ((List.range (t + 1)).map fun k => it g k m) by simp [ints, List.range_succ]]
    rfl
theorem perm_cycles.l_ev (g : Nat → Nat) (n : Nat) (h : Bij n g) (hn : n ≤ 20) : ∀ (d m : Nat), n - m = d → m ≤ n →
    Ev (fun k => perm_cycles.l0 k (lf g n) (cycI g n m) (seenL g n m 0) (n : Int) (m : Int)) (cycI g n n) := by
  intro d
  induction d with
  | zero =>
    intro m hd hm
    have e : m = n := by omega
    subst e
    refine Ev.step (f := fun _ => some (cycI g m m)) (fun k => ?_) (Ev.now _)
    simp only [perm_cycles.l0]
    rw [if_neg (by omega)]
  | succ d ih =>
    intro m hd hm
    have hlt : m < n := by omega
    have next := ih (m + 1) (by omega) (by omega)
    refine Ev.step (f := fun k => perm_cycles.l1 k (lf g n) (cycI g n m) (seenL g n m 0) (ints ((List.range 0).map fun k => it g k m)) ((it g 0 m : Nat) : Int) (n : Int) (m : Int)) (fun k => ?_) ?_
    · simp only [perm_cycles.l0]
      rw [if_pos (by omega)]
      rfl
    · by_cases hl : isLeast g n m = true
      · exact perm_cycles.l1_ev g n h hn m hlt _ hl next _ 0 rfl (Nat.zero_le _)
      · have : ∃ j, j < m ∧ m ∈ orb g n j := by
          apply Classical.byContradiction
          intro hc
          exact hl ((h.least_iff m hlt).2 hc)
        obtain ⟨j, hj, hin⟩ := this
        refine Ev.step (fun k => ?_) next
        simp only [perm_cycles.l1]
        rw [if_pos (by omega), if_pos (by rw [seenL_length]; show ((m : Nat) : Int) < _; omega), if_pos ?_, if_pos (by simp [ints]), wrap_nat (by omega), cycI_succ, if_neg (by simp [isHead, hl]), List.append_nil, seenL_skip h m hlt j hj hin]
        show rdOf false (seenL g n m 0) ((m : Nat) : Int) = true
        rw [seenL_rd _ _ _ _ _ hlt, Bool.or_eq_true]
        exact .inl (List.any_eq_true.2 ⟨j, List.mem_range.2 hj, decide_eq_true hin⟩)
theorem perm_cycles.ev (g : Nat → Nat) (n : Nat) (h : Bij n g) (hn : n ≤ 20) : Ev (fun k => perm_cycles.f k (lf g n)) (cycI g n n) := by
  refine Ev.congr (fun k => ?_) (perm_cycles.l_ev g n h hn _ 0 rfl (Nat.zero_le _))
  unfold perm_cycles.f
  rw [lf_length, if_pos (by omega), if_pos (by omega), Int.toNat_natCast, seenL_zero]
  rfl

/-! ### perm_order -/
theorem perm_order.gcd_ev (R : Int) (o : Int) (x : List Int) (L : List (List Int)) (n i : Int) : ∀ (b a : Nat), 0 < a + b → a < 4611686018427387904 → b < 4611686018427387904 →
    Ev (fun k => perm_order.l0 k (wrap64 ((wrap64 (Int.tdiv o ((Nat.gcd a b : Nat) : Int))) * (x.length : Int))) L n (wrap64 (i + 1))) R →
    Ev (fun k => perm_order.l1 k o x (a : Int) (b : Int) L n i) R := by
  intro b
  induction b using Nat.strongRecOn with
  | _ b ih =>
    intro a h0 ha hb next
    by_cases hz : b = 0
    · subst hz
      rw [Nat.gcd_zero_right] at next
      refine Ev.step (fun k => ?_) next
      simp only [perm_order.l1]
      rw [if_neg (by omega), if_neg (by omega)]
    · refine Ev.step (f := fun k => perm_order.l1 k o x (b : Int) ((a % b : Nat) : Int) L n i) (fun k => ?_) (ih (a % b) (Nat.mod_lt _ (by omega)) b (by omega) hb (Nat.lt_of_lt_of_le (Nat.mod_lt _ (by omega)) (by omega)) ?_)
      · simp only [perm_order.l1]
        rw [if_pos (by omega), if_neg (by omega), Int.ofNat_tmod]
      · rw [Nat.gcd_comm a b, Nat.gcd_rec b a, Nat.gcd_comm (a % b) b] at next
        exact next
theorem lcm_step (o p : Nat) (h : Nat.lcm o p ∣ 232792560) (ho : 0 < o) : wrap64 ((wrap64 (Int.tdiv (o : Int) ((Nat.gcd o p : Nat) : Int))) * (p : Int)) = ((Nat.lcm o p : Nat) : Int) := by
  have h1 := Nat.le_of_dvd (by decide) h
  have hd : o / Nat.gcd o p * p = Nat.lcm o p := by
    rw [Nat.lcm, Nat.mul_comm o p, Nat.mul_div_assoc _ (Nat.gcd_dvd_left o p), Nat.mul_comm]
  have h2 : o ≤ 232792560 := by
    have := Nat.le_of_dvd (by decide) (Nat.dvd_trans (Nat.dvd_lcm_left o p) h)
    exact this
  have h3 : o / Nat.gcd o p ≤ o := Nat.div_le_self ..
  rw [← Int.ofNat_tdiv]
  generalize o / Nat.gcd o p = q at hd h3
  rw [w64_small (i := (q : Int)) (by omega) (by omega), ← Int.natCast_mul, hd, w64_small (by omega) (by omega)]
theorem perm_order.l_ev (L : List (List Int)) (hL : ∀ c ∈ L, 0 < c.length ∧ c.length ≤ 20) (hn : L.length < 4611686018427387904) : ∀ (d i : Nat) (o : Nat), L.length - i = d → i ≤ L.length → 0 < o → o ∣ 232792560 →
    Ev (fun k => perm_order.l0 k (o : Int) L (L.length : Int) (i : Int)) ((((L.drop i).map List.length).foldl Nat.lcm o : Nat) : Int) := by
  intro d
  induction d with
  | zero =>
    intro i o hd hi h0 h1
    rw [List.drop_eq_nil_of_le (by omega : L.length ≤ i)]
    refine Ev.step (f := fun _ => some (o : Int)) (fun k => ?_) (Ev.now _)
    simp only [perm_order.l0]
    rw [if_neg (by omega)]
  | succ d ih =>
    intro i o hd hi h0 h1
    have ha : i < L.length := by omega
    have hg : rd_L1 L (i : Int) = L[i] := by
      show L.getD i [] = _
      rw [List.getD_eq_getElem?_getD, List.getElem?_eq_getElem ha]; rfl
    have hc := hL _ (List.getElem_mem ha)
    have hl : Nat.lcm o L[i].length ∣ 232792560 := Nat.lcm_dvd h1 (small_dvd _ hc.1 hc.2)
    have ho : o ≤ 232792560 := Nat.le_of_dvd (by decide) h1
    refine Ev.step (f := fun k => perm_order.l1 k (o : Int) L[i] (o : Int) (L[i].length : Int) L (L.length : Int) (i : Int)) (fun k => ?_) ?_
    · simp only [perm_order.l0]
      rw [if_pos (by omega), if_pos (by omega), if_pos (by omega), hg]
    · refine perm_order.gcd_ev _ (o : Int) L[i] L _ _ L[i].length o (by omega) (by omega) (by omega) ?_
      rw [lcm_step o _ hl h0, wrap_nat (by omega), List.drop_eq_getElem_cons ha, List.map_cons, List.foldl_cons]
      exact ih (i + 1) _ (by omega) (by omega) (Nat.lcm_pos h0 hc.1) hl
theorem perm_order.ev (g : Nat → Nat) (n : Nat) (h : Bij n g) (hn : n ≤ 20) : Ev (fun k => perm_order.f k (lf g n)) ((ord g n : Nat) : Int) := by
  unfold perm_order.f
  refine Ev.bind (perm_cycles.ev g n h hn) ?_
  have hL : ∀ c ∈ cycI g n n, 0 < c.length ∧ c.length ≤ 20 := by
    intro c hc
    obtain ⟨c', hc', rfl⟩ := List.mem_map.1 hc
    obtain ⟨j, hj, rfl⟩ := List.mem_map.1 hc'
    have hj' := List.mem_range.1 (List.mem_filter.1 hj).1
    rw [show (ints (orb g n j)).length = per g n j by simp [ints, orb_length]]
    have := (h.per_spec hj').2.1
    exact ⟨per_pos .., by omega⟩
  have hlen : (cycI g n n).length ≤ n := by
    have := cyc_len g n n
    simpa [cycI] using this
  have := perm_order.l_ev (cycI g n n) hL (by omega) _ 0 1 rfl (Nat.zero_le _) Nat.one_pos (Nat.one_dvd _)
  rw [List.drop_zero, show (cycI g n n).map List.length = (cyc g n n).map List.length by simp [cycI, ints, Function.comp_def]] at this
  exact this

/-! ### perm_Order -/
theorem perm_Order.ev (g : Nat → Nat) (n : Nat) (h : Bij n g) (hn : n ≤ 20) : Ev (fun k => perm_Order.f k (lf g n)) (((ord g n : Nat) : Int), 0) := by
  unfold perm_Order.f
  refine Ev.bind (perm_Check.ev _) ?_
  simp only [if_pos (chk_lf h hn)]
  exact Ev.bind (perm_order.ev g n h hn) (Ev.now _)
theorem perm_Order.ev_bad (l : List Int) (h : chk l ≠ 0) : Ev (fun k => perm_Order.f k l) (0, chk l) := by
  unfold perm_Order.f
  refine Ev.bind (perm_Check.ev _) ?_
  simp only [if_neg h]
  exact Ev.now _

/-! ### rdL -/
theorem rdL_get (C : List (List Int)) (i : Nat) (h : i < C.length) : rd_L1 C (i : Int) = C[i] := by
  show C.getD i [] = _
  rw [List.getD_eq_getElem?_getD, List.getElem?_eq_getElem h]; rfl
theorem tmod_next (j n : Nat) (hj : j < 4611686018427387904) : Int.tmod (wrap64 ((j : Int) + 1)) (n : Int) = (((j + 1) % n : Nat) : Int) := by
  rw [wrap_nat hj, Int.ofNat_tmod]

/-! ### perm_Sign -/
/-- The sign as the program reckons it: one turn for each cycle of even length. -/
def sgnC : List (List Int) → Int → Int
  | [], s => s
  | c :: L, s => sgnC L (if c.length % 2 = 0 then -s else s)
theorem perm_Sign.l_ev (L : List (List Int)) (hL : L.length < 4611686018427387904) : ∀ (d i : Nat) (s : Int), s = 1 ∨ s = -1 → L.length - i = d → i ≤ L.length →
    Ev (fun k => perm_Sign.l0 k s L (L.length : Int) (i : Int)) (sgnC (L.drop i) s, 0) := by
  intro d
  induction d with
  | zero =>
    intro i s hs hd hi
    rw [List.drop_eq_nil_of_le (by omega : L.length ≤ i)]
    refine Ev.step (f := fun _ => some (s, 0)) (fun k => ?_) (Ev.now _)
    simp only [perm_Sign.l0]
    rw [if_neg (by omega)]
  | succ d ih =>
    intro i s hs hd hi
    have hlt : i < L.length := by omega
    rw [List.drop_eq_getElem_cons hlt]
    simp only [sgnC]
    by_cases h : L[i].length % 2 = 0
    · rw [if_pos h]
      refine Ev.step (fun k => ?_) (ih (i + 1) (-s) (by omega) (by omega) (by omega))
      simp only [perm_Sign.l0]
      rw [if_pos (by omega), if_pos (by omega), if_pos (by omega), rdL_get L i hlt, if_pos (by omega), wrap_nat (by omega), w64_small (by omega) (by omega)]
    · rw [if_neg h]
      refine Ev.step (fun k => ?_) (ih (i + 1) s hs (by omega) (by omega))
      simp only [perm_Sign.l0]
      rw [if_pos (by omega), if_pos (by omega), if_pos (by omega), rdL_get L i hlt, if_neg (by omega), wrap_nat (by omega)]
theorem sgnC_mul : ∀ (L : List (List Int)) (s : Int), sgnC L s = s * sgnC L 1
  | [], s => by simp [sgnC]
  | c :: L, s => by
    simp only [sgnC]
    rw [sgnC_mul L, sgnC_mul L (if c.length % 2 = 0 then -1 else 1)]
    by_cases h : c.length % 2 = 0
    · rw [if_pos h, if_pos h, Int.neg_mul, Int.neg_mul, Int.one_mul, Int.mul_neg]
    · rw [if_neg h, if_neg h, Int.one_mul]
theorem alt_pred (l : Nat) (h : 0 < l) : alt (l - 1) = if l % 2 = 0 then -1 else 1 := by
  unfold alt
  by_cases h2 : l % 2 = 0
  · rw [if_neg (by omega), if_pos h2]
  · rw [if_pos (by omega), if_neg h2]
theorem sgnC_lens (g : Nat → Nat) (n : Nat) : ∀ (l : List Nat), sgnC ((l.map fun i => ints (orb g n i))) 1 = alt ((l.map fun i => per g n i).sum - l.length)
  | [] => rfl
  | i :: l => by
    have hp := per_pos g n i
    have hs : ∀ m : List Nat, m.length ≤ (m.map fun i => per g n i).sum := by
      intro m
      induction m with
      | nil => exact Nat.le_refl _
      | cons a m ih =>
        have := per_pos g n a
        simp only [List.length_cons, List.map_cons, List.sum_cons]
        omega
    simp only [List.map_cons, sgnC]
    rw [sgnC_mul, sgnC_lens g n l, List.sum_cons, List.length_cons]
    have e : (ints (orb g n i)).length = per g n i := by simp [ints, orb_length]
    have := hs l
    rw [e, ← alt_pred _ hp, ← alt_add]
    congr 1
    omega
theorem sum_per_all {g : Nat → Nat} {n : Nat} (h : Bij n g) : ((leasts g n fun _ => true).map fun i => per g n i).sum = n := by
  have := (h.leasts_flat fun _ => true).length_eq
  rw [List.length_flatMap] at this
  have e : (leasts g n fun _ => true).map (fun i => per g n i) = (leasts g n fun _ => true).map (fun i => (orb g n i).length) := List.map_congr_left fun i _ => (orb_length g n i).symm
  rw [e]
  refine this.trans ?_
  rw [List.filter_eq_self.2 (fun _ _ => rfl), List.length_range]
theorem sum_ones : ∀ (g : Nat → Nat) (n : Nat) (l : List Nat), (∀ i ∈ l, per g n i = 1) → (l.map fun i => per g n i).sum = l.length
  | g, n, [], _ => rfl
  | g, n, i :: l, h => by
    rw [List.map_cons, List.sum_cons, h i (List.mem_cons_self ..), sum_ones g n l fun j hj => h j (List.mem_cons_of_mem _ hj), List.length_cons, Nat.add_comm]
theorem sgn_cycles (g : Nat → Nat) (n : Nat) (h : Bij n g) : sgnC (cycI g n n) 1 = invS (lf g n) := by
  have e0 : cycI g n n = ((leasts g n fun l => decide (2 ≤ l)).map fun i => ints (orb g n i)) := by
    unfold cycI cyc leasts
    rw [List.map_map]
    rfl
  rw [e0, sgnC_lens, invS_orbits n g h]
  have hp := List.filter_append_perm (fun i => decide (2 ≤ per g n i)) (leasts g n fun _ => true)
  have f1 : (leasts g n fun _ => true).filter (fun i => decide (2 ≤ per g n i)) = leasts g n fun l => decide (2 ≤ l) := by
    unfold leasts
    rw [List.filter_filter]
    exact List.filter_congr fun i _ => by simp [Bool.and_comm]
  have s1 := (hp.map fun i => per g n i).sum_nat
  have s2 := hp.length_eq
  rw [List.map_append, List.sum_append, sum_per_all h, f1] at s1
  rw [List.length_append, f1] at s2
  have s3 := sum_ones g n ((leasts g n fun _ => true).filter fun i => !decide (2 ≤ per g n i)) (fun i hi => by
    have := (List.mem_filter.1 hi).2
    have hp := per_pos g n i
    simp only [Bool.not_eq_true', decide_eq_false_iff_not] at this
    omega)
  rw [s3] at s1
  have s4 : (leasts g n fun _ => true).length = orbits g n := by
    unfold leasts orbits
    congr 1
    exact List.filter_congr fun i _ => by simp
  rw [s4] at s2
  have := orbits_le g n
  congr 1
  omega
theorem perm_Sign.ev (g : Nat → Nat) (n : Nat) (h : Bij n g) (hn : n ≤ 20) : Ev (fun k => perm_Sign.f k (lf g n)) (invS (lf g n), 0) := by
  unfold perm_Sign.f
  refine Ev.bind (perm_Check.ev _) ?_
  simp only [if_pos (chk_lf h hn)]
  refine Ev.bind (perm_cycles.ev g n h hn) ?_
  have hl : (cycI g n n).length ≤ n := by
    have := cyc_len g n n
    simpa [cycI] using this
  have := perm_Sign.l_ev (cycI g n n) (by omega) _ 0 1 (.inl rfl) rfl (Nat.zero_le _)
  rw [List.drop_zero, sgn_cycles g n h] at this
  exact this
theorem perm_Sign.ev_bad (l : List Int) (h : chk l ≠ 0) : Ev (fun k => perm_Sign.f k l) (0, chk l) := by
  unfold perm_Sign.f
  refine Ev.bind (perm_Check.ev _) ?_
  simp only [if_neg h]
  exact Ev.now _

/-! ### perm_Cycles -/
theorem perm_Cycles.ev (g : Nat → Nat) (n : Nat) (h : Bij n g) (hn : n ≤ 20) : Ev (fun k => perm_Cycles.f k (lf g n)) (cycI g n n, 0) := by
  unfold perm_Cycles.f
  refine Ev.bind (perm_Check.ev _) ?_
  simp only [if_pos (chk_lf h hn)]
  exact Ev.bind (perm_cycles.ev g n h hn) (Ev.now _)
theorem perm_Cycles.ev_bad (l : List Int) (h : chk l ≠ 0) : Ev (fun k => perm_Cycles.f k l) ([], chk l) := by
  unfold perm_Cycles.f
  refine Ev.bind (perm_Check.ev _) ?_
  simp only [if_neg h]
  exact Ev.now _

/-! ### perm_Type -/
def fixd (g : Nat → Nat) (m : Nat) : List Int := ((List.range m).filter fun i => i == g i).map fun _ => (1 : Int)
theorem fixd_succ (g : Nat → Nat) (m : Nat) : fixd g (m + 1) = fixd g m ++ (if m = g m then [1] else []) := by
  unfold fixd
  rw [List.range_succ, List.filter_append, List.map_append]
  congr 1
  by_cases e : m = g m
  · rw [if_pos e, List.filter_cons_of_pos (by simp [← e])]; rfl
  · rw [if_neg e, List.filter_cons_of_neg (by simp [e])]; rfl
theorem fixd_length (g : Nat → Nat) (m : Nat) : (fixd g m).length ≤ m := by
  unfold fixd
  rw [List.length_map]
  exact Nat.le_trans (List.length_filter_le ..) (by simp)
def coll (g : Nat → Nat) (n : Nat) : List Int := (cycI g n n).map (fun c => ((c.length : Nat) : Int)) ++ fixd g n
theorem coll_lens (g : Nat → Nat) (n : Nat) (h : Bij n g) : (coll g n).Perm (lens g n) := by
  have := lens_collected g n h
  unfold coll fixd cycI
  rw [List.map_map]
  have e : ((cyc g n n).map ((fun c : List Int => ((c.length : Nat) : Int)) ∘ ints)) = (cyc g n n).map (fun c => ((c.length : Nat) : Int)) := List.map_congr_left fun c _ => by simp [ints]
  rw [e]
  exact this
theorem coll_small (g : Nat → Nat) (n : Nat) (h : Bij n g) (hn : n ≤ 20) : smallAll (coll g n) = true := by
  have hp := coll_lens g n h
  unfold smallAll
  rw [Bool.and_eq_true, decide_eq_true_iff, List.all_eq_true]
  constructor
  · have h1 := cyc_len g n n
    have h2 := fixd_length g n
    unfold coll cycI
    simp only [List.length_append, List.length_map]
    omega
  · intro x hx
    have := lens_mem h (hp.subset hx)
    exact decide_eq_true (by omega)
theorem perm_Type.l1_ev (g : Nat → Nat) (n : Nat) (h : Bij n g) (hn : n ≤ 20) (pre : List Int) (hpre : pre.length ≤ 20) (hs : smallAll (pre ++ fixd g n) = true) : ∀ (d i : Nat), n - i = d → i ≤ n →
    Ev (fun k => perm_Type.l1 k (pre ++ fixd g i) (lf g n) (n : Int) (i : Int)) (sortDesc (pre ++ fixd g n), 0) := by
  intro d
  induction d with
  | zero =>
    intro i hd hi
    have e : i = n := by omega
    subst e
    refine Ev.step (f := fun _ => some (sortDesc (pre ++ fixd g i), 0)) (fun k => ?_) (Ev.now _)
    simp only [perm_Type.l1]
    rw [if_neg (by omega), if_pos hs]
  | succ d ih =>
    intro i hd hi
    have hlt : i < n := by omega
    have nx := ih (i + 1) (by omega) (by omega)
    have hf := fixd_length g i
    rw [fixd_succ] at nx
    by_cases e : i = g i
    · rw [if_pos e, ← List.append_assoc] at nx
      refine Ev.step (fun k => ?_) nx
      simp only [perm_Type.l1]
      rw [if_pos (by omega), if_pos (by omega), if_pos (by rw [lf_length]; omega), rd_nat, lf_getD g n i hlt, if_pos (by omega), if_pos (by rw [List.length_append]; omega), wrap_nat (by omega)]
    · rw [if_neg e, List.append_nil] at nx
      refine Ev.step (fun k => ?_) nx
      simp only [perm_Type.l1]
      rw [if_pos (by omega), if_pos (by omega), if_pos (by rw [lf_length]; omega), rd_nat, lf_getD g n i hlt, if_neg (by omega), wrap_nat (by omega)]
theorem perm_Type.l0_ev (g : Nat → Nat) (n : Nat) (h : Bij n g) (hn : n ≤ 20) (L : List (List Int)) (hL : L.length ≤ 20) (hs : smallAll (L.map (fun c => ((c.length : Nat) : Int)) ++ fixd g n) = true) : ∀ (d i : Nat), L.length - i = d → i ≤ L.length →
    Ev (fun k => perm_Type.l0 k (lf g n) ((L.take i).map fun c => ((c.length : Nat) : Int)) L (L.length : Int) (i : Int)) (sortDesc (L.map (fun c => ((c.length : Nat) : Int)) ++ fixd g n), 0) := by
  intro d
  induction d with
  | zero =>
    intro i hd hi
    rw [List.take_of_length_le (by omega)]
    have := perm_Type.l1_ev g n h hn (L.map fun c => ((c.length : Nat) : Int)) (by simpa using hL) hs _ 0 rfl (Nat.zero_le _)
    rw [show fixd g 0 = [] from rfl, List.append_nil] at this
    refine Ev.step (fun k => ?_) this
    simp only [perm_Type.l0]
    rw [if_neg (by omega), lf_length]
    rfl
  | succ d ih =>
    intro i hd hi
    have hlt : i < L.length := by omega
    have nx := ih (i + 1) (by omega) (by omega)
    rw [List.take_succ_eq_append_getElem hlt, List.map_append] at nx
    refine Ev.step (fun k => ?_) nx
    simp only [perm_Type.l0]
    rw [if_pos (by omega), if_pos (by omega), if_pos (by omega), if_pos (by rw [List.length_map, List.length_take]; omega), rdL_get L i hlt, wrap_nat (by omega)]
    rfl
theorem perm_Type.ev (g : Nat → Nat) (n : Nat) (h : Bij n g) (hn : n ≤ 20) : Ev (fun k => perm_Type.f k (lf g n)) (sortDesc (coll g n), 0) := by
  unfold perm_Type.f
  refine Ev.bind (perm_Check.ev _) ?_
  simp only [if_pos (chk_lf h hn)]
  refine Ev.bind (perm_cycles.ev g n h hn) ?_
  have hl : (cycI g n n).length ≤ 20 := by
    have := cyc_len g n n
    unfold cycI
    rw [List.length_map]
    omega
  exact perm_Type.l0_ev g n h hn (cycI g n n) hl (coll_small g n h hn) _ 0 rfl (Nat.zero_le _)
theorem perm_Type.ev_bad (l : List Int) (h : chk l ≠ 0) : Ev (fun k => perm_Type.f k l) ([], chk l) := by
  unfold perm_Type.f
  refine Ev.bind (perm_Check.ev _) ?_
  simp only [if_neg h]
  exact Ev.now _

/-! ### perm_Support -/
def supp (g : Nat → Nat) (m : Nat) : List Int := ints ((List.range m).filter fun i => !(i == g i))
theorem supp_succ (g : Nat → Nat) (m : Nat) : supp g (m + 1) = supp g m ++ (if m = g m then [] else [(m : Int)]) := by
  unfold supp ints
  rw [List.range_succ, List.filter_append, List.map_append]
  congr 1
  by_cases e : m = g m
  · rw [if_pos e, List.filter_cons_of_neg (by simp [← e])]; rfl
  · rw [if_neg e, List.filter_cons_of_pos (by simp [e])]; rfl
theorem supp_length (g : Nat → Nat) (m : Nat) : (supp g m).length ≤ m := by
  unfold supp ints
  rw [List.length_map]
  exact Nat.le_trans (List.length_filter_le ..) (by simp)
theorem perm_Support.l_ev (g : Nat → Nat) (n : Nat) (hn : n ≤ 20) : ∀ (d i : Nat), n - i = d → i ≤ n →
    Ev (fun k => perm_Support.l0 k (supp g i) (lf g n) (n : Int) (i : Int)) (supp g n, 0) := by
  intro d
  induction d with
  | zero =>
    intro i hd hi
    have e : i = n := by omega
    subst e
    refine Ev.step (f := fun _ => some (supp g i, 0)) (fun k => ?_) (Ev.now _)
    simp only [perm_Support.l0]
    rw [if_neg (by omega)]
  | succ d ih =>
    intro i hd hi
    have hlt : i < n := by omega
    have nx := ih (i + 1) (by omega) (by omega)
    have hs := supp_length g i
    rw [supp_succ] at nx
    by_cases e : i = g i
    · rw [if_pos e, List.append_nil] at nx
      refine Ev.step (fun k => ?_) nx
      simp only [perm_Support.l0]
      rw [if_pos (by omega), if_pos (by omega), if_pos (by rw [lf_length]; omega), rd_nat, lf_getD g n i hlt, if_pos (by omega), wrap_nat (by omega)]
    · rw [if_neg e] at nx
      refine Ev.step (fun k => ?_) nx
      simp only [perm_Support.l0]
      rw [if_pos (by omega), if_pos (by omega), if_pos (by rw [lf_length]; omega), rd_nat, lf_getD g n i hlt, if_neg (by omega), if_pos (by omega), wrap_nat (by omega)]
theorem perm_Support.ev (g : Nat → Nat) (n : Nat) (h : Bij n g) (hn : n ≤ 20) : Ev (fun k => perm_Support.f k (lf g n)) (supp g n, 0) := by
  unfold perm_Support.f
  refine Ev.bind (perm_Check.ev _) ?_
  simp only [if_pos (chk_lf h hn), lf_length]
  exact perm_Support.l_ev g n hn _ 0 rfl (Nat.zero_le _)
theorem perm_Support.ev_bad (l : List Int) (h : chk l ≠ 0) : Ev (fun k => perm_Support.f k l) ([], chk l) := by
  unfold perm_Support.f
  refine Ev.bind (perm_Check.ev _) ?_
  simp only [if_neg h]
  exact Ev.now _

/-! ### perm_Rank -/
theorem perm_Rank.l1_ev (l : List Int) (i : Nat) (hi : i < l.length) (hl : l.length ≤ 20) (R : Int × Int) (base : Nat) (hb : base + 20 < 4611686018427387904)
    (next : Ev (fun k => perm_Rank.l0 k l ((base + below l[i] (l.drop (i + 1)) : Nat) : Int) l (l.length : Int) ((i + 1 : Nat) : Int)) R) : ∀ (d j : Nat), (l.drop (i + 1)).length - j = d → j ≤ (l.drop (i + 1)).length →
    Ev (fun k => perm_Rank.l1 k l ((base + below l[i] ((l.drop (i + 1)).take j) : Nat) : Int) l[i] l (l.length : Int) (i : Int) (l.drop (i + 1)) ((l.drop (i + 1)).length : Int) (j : Int)) R := by
  have hdl : (l.drop (i + 1)).length ≤ 20 := by rw [List.length_drop]; omega
  intro d
  induction d with
  | zero =>
    intro j hd hj
    rw [List.take_of_length_le (by omega)]
    refine Ev.step (fun k => ?_) next
    simp only [perm_Rank.l1]
    rw [if_neg (by omega), wrap_nat (by omega)]
  | succ d ih =>
    intro j hd hj
    have hlt : j < (l.drop (i + 1)).length := by omega
    have nx := ih (j + 1) (by omega) (by omega)
    rw [List.take_succ_eq_append_getElem hlt, below_append, below_cons] at nx
    have hbl := below_le l[i] ((l.drop (i + 1)).take j)
    rw [List.length_take] at hbl
    by_cases h : (l.drop (i + 1))[j] < l[i]
    · rw [if_pos h] at nx
      refine Ev.step (fun k => ?_) nx
      simp only [perm_Rank.l1]
      rw [if_pos (by omega), if_pos (by omega), if_pos (by omega), rd_get _ j hlt, if_pos h, wrap_nat (by omega), wrap_nat (by omega)]
      simp [below, Nat.add_assoc]
    · rw [if_neg h] at nx
      refine Ev.step (fun k => ?_) nx
      simp only [perm_Rank.l1]
      rw [if_pos (by omega), if_pos (by omega), if_pos (by omega), rd_get _ j hlt, if_neg h, wrap_nat (by omega)]
      simp [below]
theorem perm_Rank.l0_ev (l : List Int) (hl : l.length ≤ 20) : ∀ (d i : Nat) (r : Nat), l.length - i = d → i ≤ l.length → r * fact (l.length - i) + rk (l.drop i) = rk l →
    Ev (fun k => perm_Rank.l0 k l (r : Int) l (l.length : Int) (i : Int)) ((rk l : Nat), 0) := by
  have hr := rk_lt l
  have hf := fact_20 hl
  intro d
  induction d with
  | zero =>
    intro i r hd hi he
    rw [List.drop_eq_nil_of_le (by omega), show l.length - i = 0 by omega] at he
    have e : r = rk l := by simpa [rk, fact] using he
    subst e
    refine Ev.step (f := fun _ => some (((rk l : Nat) : Int), 0)) (fun k => ?_) (Ev.now _)
    simp only [perm_Rank.l0]
    rw [if_neg (by omega)]
  | succ d ih =>
    intro i r hd hi he
    have hlt : i < l.length := by omega
    rw [List.drop_eq_getElem_cons hlt] at he
    simp only [rk] at he
    have hdl : (l.drop (i + 1)).length = l.length - (i + 1) := List.length_drop ..
    have en : l.length - i = (l.length - (i + 1)) + 1 := by omega
    have he' : (r * (l.length - i) + below l[i] (l.drop (i + 1))) * fact (l.length - (i + 1)) + rk (l.drop (i + 1)) = rk l := by
      rw [← he, hdl]
      conv => rhs; rw [en]
      simp only [fact]
      rw [Nat.add_mul, ← en, Nat.mul_assoc, Nat.add_assoc]
    have hb : r * (l.length - i) ≤ rk l := by
      have h1 : r * (l.length - i) + below l[i] (l.drop (i + 1)) ≤ (r * (l.length - i) + below l[i] (l.drop (i + 1))) * fact (l.length - (i + 1)) := Nat.le_mul_of_pos_right _ (fact_pos _)
      omega
    have hrl : r ≤ r * (l.length - i) := Nat.le_mul_of_pos_right _ (by omega)
    have nx := ih (i + 1) _ (by omega) (by omega) he'
    have := perm_Rank.l1_ev l i hlt hl _ (r * (l.length - i)) (by omega) nx _ 0 rfl (Nat.zero_le _)
    refine Ev.step (fun k => ?_) this
    simp only [perm_Rank.l0]
    have e1 : wrap64 ((l.length : Int) - (i : Int)) = ((l.length - i : Nat) : Int) := by rw [w64_small (by omega) (by omega)]; omega
    rw [if_pos (by omega), if_pos (by omega), if_pos (by omega), wrap_nat (by omega), if_pos (by omega), if_pos (by omega), rd_get l i hlt, e1, ← Int.natCast_mul, w64_small (by omega) (by omega), Int.toNat_natCast]
    simp [below]
theorem perm_Rank.ev (l : List Int) (h : chk l = 0) : Ev (fun k => perm_Rank.f k l) (((rk l : Nat) : Int), 0) := by
  unfold perm_Rank.f
  refine Ev.bind (perm_Check.ev _) ?_
  simp only [if_pos h]
  exact perm_Rank.l0_ev l (of_chk h).1 _ 0 0 rfl (Nat.zero_le _) (by simp)
theorem perm_Rank.ev_bad (l : List Int) (h : chk l ≠ 0) : Ev (fun k => perm_Rank.f k l) (0, chk l) := by
  unfold perm_Rank.f
  refine Ev.bind (perm_Check.ev _) ?_
  simp only [if_neg h]
  exact Ev.now _

/-! ### galoisref22_Inverse -/
theorem galoisref22_Inverse.l_ev (g : Nat → Nat) (n : Nat) (h : Bij n g) (hn : n ≤ 20) : ∀ (d i : Nat), n - i = d → i ≤ n →
    Ev (fun k => galoisref22_Inverse.l0 k (lf g n) (invL g n i) (i : Int)) (lf (inv g n) n) := by
  intro d
  induction d with
  | zero =>
    intro i hd hi
    have e : i = n := by omega
    subst e
    refine Ev.step (f := fun _ => some (lf (inv g i) i)) (fun k => ?_) (Ev.now _)
    simp only [galoisref22_Inverse.l0]
    rw [if_neg (by rw [lf_length]; omega), invL_end h]
  | succ d ih =>
    intro i hd hi
    have hlt : i < n := by omega
    have hg := h.lt i hlt
    refine Ev.step (f := fun k => galoisref22_Inverse.l0 k (lf g n) (invL g n (i + 1)) ((i + 1 : Nat) : Int)) (fun k => ?_) (ih (i + 1) (by omega) (by omega))
    simp only [galoisref22_Inverse.l0]
    rw [if_pos (by rw [lf_length]; omega), if_pos (by omega), rd_nat, lf_getD g n i hlt, if_pos (by omega), if_pos (by unfold invL; rw [lf_length]; omega), wrap_nat (by omega), Int.toNat_natCast, invL_step h i hlt]
theorem galoisref22_Inverse.ev (g : Nat → Nat) (n : Nat) (h : Bij n g) (hn : n ≤ 20) : Ev (fun k => galoisref22_Inverse.f k (lf g n)) (lf (inv g n) n) := by
  refine Ev.congr (fun k => ?_) (galoisref22_Inverse.l_ev g n h hn _ 0 rfl (Nat.zero_le _))
  unfold galoisref22_Inverse.f
  rw [lf_length, if_pos (by omega), if_pos (by omega), Int.toNat_natCast, invL_zero]
  rfl

/-! ### galoisref22_Mul -/
theorem galoisref22_Mul.l_ev (a b : List Int) (hl : a.length < 35184372088832) (hr : ∀ x ∈ a, 0 ≤ x ∧ x < (b.length : Int)) : ∀ (d i : Nat), a.length - i = d → i ≤ a.length →
    Ev (fun k => galoisref22_Mul.l0 k a b ((mulL a b).take i ++ (List.replicate a.length 0).drop i) (i : Int)) (mulL a b) := by
  have hm : (mulL a b).length = a.length := by simp [mulL]
  intro d
  induction d with
  | zero =>
    intro i hd hi
    have e : i = (mulL a b).length := by omega
    refine Ev.step (f := fun _ => some (mulL a b)) (fun k => ?_) (Ev.now _)
    simp only [galoisref22_Mul.l0]
    rw [if_neg (by omega), e, fill_end _ _ (by simp [hm])]
  | succ d ih =>
    intro i hd hi
    have hlt : i < a.length := by omega
    have hx := hr a[i] (List.getElem_mem hlt)
    refine Ev.step (f := fun k => galoisref22_Mul.l0 k a b ((mulL a b).take (i + 1) ++ (List.replicate a.length 0).drop (i + 1)) ((i + 1 : Nat) : Int)) (fun k => ?_) (ih (i + 1) (by omega) (by omega))
    simp only [galoisref22_Mul.l0]
    rw [if_pos (by omega), if_pos (by omega), rd_get a i hlt, if_pos hx.1, if_pos hx.2, if_pos (by rw [List.length_append, List.length_take, List.length_drop, List.length_replicate]; omega), wrap_nat (by omega)]
    rw [Int.toNat_natCast, set_fill (mulL a b) (List.replicate a.length 0) i (rd b a[i]) (by omega) (by simp [hm]) (by simp [mulL, List.getElem?_eq_getElem hlt])]
theorem galoisref22_Mul.ev (a b : List Int) (hl : a.length < 35184372088832) (hr : ∀ x ∈ a, 0 ≤ x ∧ x < (b.length : Int)) : Ev (fun k => galoisref22_Mul.f k a b) (mulL a b) := by
  refine Ev.congr (fun k => ?_) (galoisref22_Mul.l_ev a b hl hr _ 0 rfl (Nat.zero_le _))
  unfold galoisref22_Mul.f
  rw [if_pos (by omega), if_pos (by omega)]
  simp
theorem galoisref22_Mul.ev_lf (g h : Nat → Nat) (n : Nat) (hg : Bij n g) (hn : n ≤ 20) : Ev (fun k => galoisref22_Mul.f k (lf g n) (lf h n)) (lf (fun i => h (g i)) n) := by
  have := galoisref22_Mul.ev (lf g n) (lf h n) (by rw [lf_length]; omega) (fun x hx => by
    have := (lf_perm hg).1 x hx
    rw [lf_length] at this ⊢; exact this)
  rwa [mulL_lf g h n hg.lt] at this

/-! ### galoisref22_Identity -/
theorem galoisref22_Identity.l_ev (n : Nat) (hl : n ≤ 35184372088832) : ∀ (d i : Nat), n - i = d → i ≤ n →
    Ev (fun k => galoisref22_Identity.l0 k (n : Int) ((lf (fun i => i) n).take i ++ (List.replicate n 0).drop i) (i : Int)) (lf (fun i => i) n) := by
  have hm : (lf (fun i => i) n).length = n := lf_length _ _
  intro d
  induction d with
  | zero =>
    intro i hd hi
    have e : i = (lf (fun i => i) n).length := by omega
    refine Ev.step (f := fun _ => some (lf (fun i => i) n)) (fun k => ?_) (Ev.now _)
    simp only [galoisref22_Identity.l0]
    rw [if_neg (by omega), e, fill_end _ _ (by simp [hm])]
  | succ d ih =>
    intro i hd hi
    refine Ev.step (f := fun k => galoisref22_Identity.l0 k (n : Int) ((lf (fun i => i) n).take (i + 1) ++ (List.replicate n 0).drop (i + 1)) ((i + 1 : Nat) : Int)) (fun k => ?_) (ih (i + 1) (by omega) (by omega))
    simp only [galoisref22_Identity.l0]
    rw [if_pos (by omega), if_pos (by omega), if_pos (by rw [List.length_append, List.length_take, List.length_drop, List.length_replicate]; omega), wrap_nat (by omega)]
    rw [Int.toNat_natCast, set_fill (lf (fun i => i) n) (List.replicate n 0) i (i : Int) (by omega) (by simp [hm]) (lf_get? _ _ _ (by omega))]
theorem galoisref22_Identity.ev (n : Nat) (hl : n ≤ 35184372088832) : Ev (fun k => galoisref22_Identity.f k (n : Int)) (lf (fun i => i) n) := by
  refine Ev.congr (fun k => ?_) (galoisref22_Identity.l_ev n hl _ 0 rfl (Nat.zero_le _))
  unfold galoisref22_Identity.f
  rw [if_pos (by omega), if_pos (by omega)]
  simp

/-! ### galoisref22_Order -/
theorem galoisref22_Order.l_ev (g : Nat → Nat) (n : Nat) (h : Bij n g) (hn : n ≤ 20) : ∀ (d p : Nat), ord g n - p = d → 0 < p → p ≤ ord g n →
    Ev (fun k => galoisref22_Order.l0 k (lf g n) (lf (fun i => i) n) (lf (it g p) n) (p : Int)) ((ord g n : Nat) : Int) := by
  have hs : ord g n ≤ 232792560 := Nat.le_of_dvd (by decide) (h.ord_small hn)
  intro d
  induction d with
  | zero =>
    intro p hd h0 hp
    have e : p = ord g n := by omega
    subst e
    refine Ev.step (fun k => by simp only [galoisref22_Order.l0]; rfl) (Ev.bind (galoisref22_Same.ev _ _ (by rw [lf_length]; omega)) ?_)
    have same : lf (it g (ord g n)) n = lf (fun i => i) n := lf_congr ((h.ord_dvd _).1 (Nat.dvd_refl _))
    simp only [decide_eq_true same, if_true]
    exact Ev.now _
  | succ d ih =>
    intro p hd h0 hp
    refine Ev.step (fun k => by simp only [galoisref22_Order.l0]; rfl) (Ev.bind (galoisref22_Same.ev _ _ (by rw [lf_length]; omega)) ?_)
    have ne : ¬ lf (it g p) n = lf (fun i => i) n := fun e => by
      have := Nat.le_of_dvd h0 ((h.ord_dvd _).2 (lf_inj e))
      omega
    simp only [decide_eq_false ne, Bool.false_eq_true, if_false, wrap_nat (show p < 4611686018427387904 by omega)]
    exact Ev.bind (galoisref22_Mul.ev_lf _ g n (h.it p) hn) (ih (p + 1) (by omega) (by omega) (by omega))
theorem galoisref22_Order.ev (g : Nat → Nat) (n : Nat) (h : Bij n g) (hn : n ≤ 20) : Ev (fun k => galoisref22_Order.f k (lf g n)) ((ord g n : Nat) : Int) := by
  unfold galoisref22_Order.f
  simp only [lf_length]
  exact Ev.bind (galoisref22_Identity.ev n (by omega)) (Ev.bind (galoisref22_Mul.ev_lf g _ n h hn) (galoisref22_Order.l_ev g n h hn _ 1 rfl Nat.one_pos (ord_pos g n)))

/-! ### galoisref22_Sign -/
theorem rowP_sg_unit (x : Int) : ∀ l : List Int, rowP sg x l = 1 ∨ rowP sg x l = -1
  | [] => .inl rfl
  | y :: l => by
    simp only [rowP]
    have h1 : sg x y = 1 ∨ sg x y = -1 := by unfold sg; split <;> simp
    rcases h1 with h1 | h1 <;> rcases rowP_sg_unit x l with h2 | h2 <;> rw [h1, h2] <;> simp
theorem galoisref22_Sign.l1_ev (l : List Int) (i : Nat) (hi : i < l.length) (hn : l.length < 4611686018427387904) (R : Int) (s : Int) (hs : s = 1 ∨ s = -1)
    (next : Ev (fun k => galoisref22_Sign.l0 k l (s * rowP sg l[i] (l.drop (i + 1))) ((i + 1 : Nat) : Int)) R) : ∀ (d j : Nat), l.length - j = d → i < j → j ≤ l.length →
    ∀ t : Int, (t = 1 ∨ t = -1) → t * rowP sg l[i] (l.drop j) = s * rowP sg l[i] (l.drop (i + 1)) →
    Ev (fun k => galoisref22_Sign.l1 k l t (i : Int) (j : Int)) R := by
  intro d
  induction d with
  | zero =>
    intro j hd hij hj t ht he
    rw [List.drop_eq_nil_of_le (by omega : l.length ≤ j)] at he
    simp only [rowP, Int.mul_one] at he
    rw [← he] at next
    refine Ev.step (fun k => ?_) next
    simp only [galoisref22_Sign.l1]
    rw [if_neg (by omega), wrap_nat (by omega)]
  | succ d ih =>
    intro j hd hij hj t ht he
    have hlt : j < l.length := by omega
    rw [List.drop_eq_getElem_cons hlt] at he
    simp only [rowP] at he
    by_cases h : l[i] > l[j]
    · have e : sg l[i] l[j] = -1 := if_pos h
      rw [e] at he
      refine Ev.step (fun k => ?_) (ih (j + 1) (by omega) (by omega) (by omega) (-t) (by omega) (by rw [← he]; simp [Int.neg_mul, Int.mul_neg]))
      simp only [galoisref22_Sign.l1]
      rw [if_pos (by omega), if_pos (by omega), if_pos (by omega), if_pos (by omega), rd_get l i hi, rd_get l j hlt, if_pos h, wrap_nat (by omega), w64_small (by omega) (by omega)]
    · have e : sg l[i] l[j] = 1 := if_neg h
      rw [e] at he
      refine Ev.step (fun k => ?_) (ih (j + 1) (by omega) (by omega) (by omega) t ht (by rw [← he]; simp))
      simp only [galoisref22_Sign.l1]
      rw [if_pos (by omega), if_pos (by omega), if_pos (by omega), if_pos (by omega), rd_get l i hi, rd_get l j hlt, if_neg h, wrap_nat (by omega)]
theorem galoisref22_Sign.l0_ev (l : List Int) (hn : l.length < 4611686018427387904) : ∀ (d i : Nat), l.length - i = d → i ≤ l.length → ∀ s : Int, (s = 1 ∨ s = -1) →
    Ev (fun k => galoisref22_Sign.l0 k l s (i : Int)) (s * invS (l.drop i)) := by
  intro d
  induction d with
  | zero =>
    intro i hd hi s hs
    rw [List.drop_eq_nil_of_le (by omega : l.length ≤ i)]
    refine Ev.step (f := fun _ => some (s * invS [])) (fun k => ?_) (Ev.now _)
    simp only [galoisref22_Sign.l0]
    rw [if_neg (by omega)]
    simp [invS, pairP]
  | succ d ih =>
    intro i hd hi s hs
    have hlt : i < l.length := by omega
    rw [List.drop_eq_getElem_cons hlt]
    have hu : s * rowP sg l[i] (l.drop (i + 1)) = 1 ∨ s * rowP sg l[i] (l.drop (i + 1)) = -1 := by
      rcases hs with h1 | h1 <;> rcases rowP_sg_unit l[i] (l.drop (i + 1)) with h2 | h2 <;> rw [h1, h2] <;> simp
    have nx := ih (i + 1) (by omega) (by omega) _ hu
    rw [Int.mul_assoc] at nx
    refine Ev.step (fun k => ?_) (galoisref22_Sign.l1_ev l i hlt hn _ s hs nx _ (i + 1) rfl (by omega) (by omega) s hs rfl)
    simp only [galoisref22_Sign.l0]
    rw [if_pos (by omega), wrap_nat (by omega)]
theorem galoisref22_Sign.ev (l : List Int) (hn : l.length < 4611686018427387904) : Ev (fun k => galoisref22_Sign.f k l) (invS l) := by
  have := galoisref22_Sign.l0_ev l hn _ 0 rfl (Nat.zero_le _) 1 (.inl rfl)
  rw [List.drop_zero, Int.one_mul] at this
  exact this

/-! ### galoisref22_SameLists -/
theorem galoisref22_SameLists.l_ev (a b : List (List Int)) (hl : a.length = b.length) (hn : a.length < 4611686018427387904) (hc : ∀ c ∈ a, c.length < 4611686018427387904) : ∀ (d i : Nat), a.length - i = d → i ≤ a.length →
    Ev (fun k => galoisref22_SameLists.l0 k a b (i : Int)) (decide (a.drop i = b.drop i)) := by
  intro d
  induction d with
  | zero =>
    intro i hd hi
    rw [List.drop_eq_nil_of_le (by omega : a.length ≤ i), List.drop_eq_nil_of_le (by omega : b.length ≤ i)]
    refine Ev.step (f := fun _ => some true) (fun k => ?_) (Ev.now _)
    simp only [galoisref22_SameLists.l0]
    rw [if_neg (by omega)]
  | succ d ih =>
    intro i hd hi
    have ha : i < a.length := by omega
    have hb : i < b.length := by omega
    have nx := ih (i + 1) (by omega) (by omega)
    rw [List.drop_eq_getElem_cons ha, List.drop_eq_getElem_cons hb]
    refine Ev.step (f := fun k => (galoisref22_Same.f k a[i] b[i]).bind fun t => if t = true then galoisref22_SameLists.l0 k a b ((i + 1 : Nat) : Int) else some false) (fun k => ?_) ?_
    · simp only [galoisref22_SameLists.l0]
      rw [if_pos (by omega), if_pos (by omega), if_pos (by omega), rdL_get a i ha, rdL_get b i hb, wrap_nat (by omega)]
    · refine Ev.bind (galoisref22_Same.ev _ _ (hc _ (List.getElem_mem ha))) ?_
      by_cases e : a[i] = b[i]
      · simp only [decide_eq_true e, if_true]
        rw [show decide (a[i] :: a.drop (i + 1) = b[i] :: b.drop (i + 1)) = decide (a.drop (i + 1) = b.drop (i + 1)) by rw [e]; simp only [List.cons.injEq, true_and]]
        exact nx
      · simp only [decide_eq_false e, Bool.false_eq_true, if_false]
        rw [show decide (a[i] :: a.drop (i + 1) = b[i] :: b.drop (i + 1)) = false by simp only [List.cons.injEq, e, false_and, decide_false]]
        exact Ev.now _
theorem galoisref22_SameLists.ev_self (a : List (List Int)) (hn : a.length < 4611686018427387904) (hc : ∀ c ∈ a, c.length < 4611686018427387904) : Ev (fun k => galoisref22_SameLists.f k a a) true := by
  have := galoisref22_SameLists.l_ev a a rfl hn hc _ 0 rfl (Nat.zero_le _)
  rw [show decide (a.drop 0 = a.drop 0) = true from decide_eq_true rfl] at this
  refine Ev.congr (fun k => ?_) this
  unfold galoisref22_SameLists.f
  rw [if_pos rfl]
  rfl

/-! ### galoisref22_Cycle -/
theorem ints_orb_take (g : Nat → Nat) (n i t : Nat) : ints ((List.range (t + 1)).map fun k => it g k i) = ints ((List.range t).map fun k => it g k i) ++ [((it g t i : Nat) : Int)] := by
  simp [ints, List.range_succ]
theorem galoisref22_Cycle.l_ev (g : Nat → Nat) (n : Nat) (h : Bij n g) (hn : n ≤ 20) (i : Nat) (hi : i < n) : ∀ (d t : Nat), per g n i - t = d → 0 < t → t ≤ per g n i →
    Ev (fun k => galoisref22_Cycle.l0 k (lf g n) (i : Int) (ints ((List.range t).map fun k => it g k i)) ((it g t i : Nat) : Int)) (ints (orb g n i)) := by
  have hp := h.per_spec hi
  intro d
  induction d with
  | zero =>
    intro t hd h0 ht
    have e : t = per g n i := by omega
    subst e
    refine Ev.step (f := fun _ => some (ints (orb g n i))) (fun k => ?_) (Ev.now _)
    simp only [galoisref22_Cycle.l0]
    rw [if_pos (by rw [hp.1])]
    rfl
  | succ d ih =>
    intro t hd h0 ht
    have hlt : it g t i < n := h.it_lt _ hi
    have hne := hp.2.2 t h0 (by omega)
    have hpn := hp.2.1
    refine Ev.step (fun k => ?_) (ih (t + 1) (by omega) (by omega) (by omega))
    simp only [galoisref22_Cycle.l0]
    rw [if_neg (by omega), if_pos (by simp [ints]; omega), if_pos (by omega), if_pos (by rw [lf_length]; omega), rd_nat, lf_getD g n _ hlt, ints_orb_take g n i t]
    rfl
theorem galoisref22_Cycle.ev (g : Nat → Nat) (n : Nat) (h : Bij n g) (hn : n ≤ 20) (i : Nat) (hi : i < n) : Ev (fun k => galoisref22_Cycle.f k (lf g n) (i : Int)) (ints (orb g n i)) := by
  refine Ev.congr (fun k => ?_) (galoisref22_Cycle.l_ev g n h hn i hi _ 1 rfl Nat.one_pos (per_pos ..))
  unfold galoisref22_Cycle.f
  rw [if_pos (by omega), if_pos (by rw [lf_length]; omega), rd_nat, lf_getD g n i hi]
  rfl

/-! ### galoisref22_Least -/
theorem galoisref22_Least.l_ev (x : Int) (l : List Int) (hn : l.length < 4611686018427387904) : ∀ (d i : Nat), l.length - i = d → i ≤ l.length →
    Ev (fun k => galoisref22_Least.l0 k x l (i : Int)) ((l.drop i).all fun y => decide (x ≤ y)) := by
  intro d
  induction d with
  | zero =>
    intro i hd hi
    rw [List.drop_eq_nil_of_le (by omega : l.length ≤ i)]
    refine Ev.step (f := fun _ => some true) (fun k => ?_) (Ev.now _)
    simp only [galoisref22_Least.l0]
    rw [if_neg (by omega)]
  | succ d ih =>
    intro i hd hi
    have hlt : i < l.length := by omega
    have nx := ih (i + 1) (by omega) (by omega)
    rw [List.drop_eq_getElem_cons hlt, List.all_cons]
    by_cases e : l[i] < x
    · rw [decide_eq_false (by omega), Bool.false_and]
      refine Ev.step (f := fun _ => some false) (fun k => ?_) (Ev.now _)
      simp only [galoisref22_Least.l0]
      rw [if_pos (by omega), if_pos (by omega), rd_get l i hlt, if_pos e]
    · rw [decide_eq_true (by omega), Bool.true_and]
      refine Ev.step (fun k => ?_) nx
      simp only [galoisref22_Least.l0]
      rw [if_pos (by omega), if_pos (by omega), rd_get l i hlt, if_neg e, wrap_nat (by omega)]
theorem galoisref22_Least.ev (g : Nat → Nat) (n : Nat) (h : Bij n g) (hn : n ≤ 20) (i : Nat) (hi : i < n) : Ev (fun k => galoisref22_Least.f k (lf g n) (i : Int)) (isLeast g n i) := by
  unfold galoisref22_Least.f
  refine Ev.bind (galoisref22_Cycle.ev g n h hn i hi) ?_
  have hl : (ints (orb g n i)).length ≤ n := by
    rw [show (ints (orb g n i)).length = per g n i by simp [ints, orb_length]]
    exact (h.per_spec hi).2.1
  have := galoisref22_Least.l_ev (i : Int) (ints (orb g n i)) (by omega) _ 0 rfl (Nat.zero_le _)
  rw [List.drop_zero] at this
  have e : (ints (orb g n i)).all (fun y => decide ((i : Int) ≤ y)) = isLeast g n i := by
    unfold ints isLeast
    rw [List.all_map]
    congr 1
    funext x
    rw [Bool.eq_iff_iff]
    simp only [Function.comp_apply, decide_eq_true_eq]
    omega
  rw [e] at this
  exact this

/-! ### galoisref22_Cycles -/
theorem isHead_iff {g : Nat → Nat} {n : Nat} (h : Bij n g) {i : Nat} (hi : i < n) : isHead g n i = (decide (g i ≠ i) && isLeast g n i) := by
  have hp := per_pos g n i
  have e : (2 ≤ per g n i) ↔ g i ≠ i := by
    constructor
    · intro h2 e
      have := Nat.dvd_one.1 ((h.it_fix hi 1).1 e)
      omega
    · intro hne
      apply Classical.byContradiction
      intro h2
      have h1 : per g n i = 1 := by omega
      have := (h.per_spec hi).1
      rw [h1] at this
      exact hne this
  unfold isHead
  rw [Bool.and_comm, show decide (2 ≤ per g n i) = decide (g i ≠ i) from by rw [Bool.eq_iff_iff]; simp only [decide_eq_true_eq]; exact e]
theorem galoisref22_Cycles.l_ev (g : Nat → Nat) (n : Nat) (h : Bij n g) (hn : n ≤ 20) : ∀ (d i : Nat), n - i = d → i ≤ n →
    Ev (fun k => galoisref22_Cycles.l0 k (lf g n) (cycI g n i) (i : Int)) (cycI g n n) := by
  intro d
  induction d with
  | zero =>
    intro i hd hi
    have e : i = n := by omega
    subst e
    refine Ev.step (f := fun _ => some (cycI g i i)) (fun k => ?_) (Ev.now _)
    simp only [galoisref22_Cycles.l0]
    rw [if_neg (by rw [lf_length]; omega)]
  | succ d ih =>
    intro i hd hi
    have hlt : i < n := by omega
    have nx := ih (i + 1) (by omega) (by omega)
    rw [cycI_succ, isHead_iff h hlt] at nx
    have hc := cyc_len g n i
    by_cases e : g i = i
    · rw [if_neg (by simp [e]), List.append_nil] at nx
      refine Ev.step (fun k => ?_) nx
      simp only [galoisref22_Cycles.l0]
      rw [if_pos (by rw [lf_length]; omega), if_pos (by omega), rd_nat, lf_getD g n i hlt, if_pos (by omega), wrap_nat (by omega)]
    · refine Ev.step (f := fun k => (galoisref22_Least.f k (lf g n) (i : Int)).bind fun t => if t = true then ((galoisref22_Cycle.f k (lf g n) (i : Int)).bind fun c => if (cycI g n i).length < 5864062014805 then galoisref22_Cycles.l0 k (lf g n) (cycI g n i ++ [c]) ((i + 1 : Nat) : Int) else none) else galoisref22_Cycles.l0 k (lf g n) (cycI g n i) ((i + 1 : Nat) : Int)) (fun k => ?_) (Ev.bind (galoisref22_Least.ev g n h hn i hlt) ?_)
      · simp only [galoisref22_Cycles.l0]
        rw [if_pos (by rw [lf_length]; omega), if_pos (by omega), rd_nat, lf_getD g n i hlt, if_neg (by omega), wrap_nat (by omega)]
      · by_cases hl : isLeast g n i = true
        · rw [if_pos (by simp [e, hl])] at nx
          simp only [hl, if_true]
          refine Ev.bind (galoisref22_Cycle.ev g n h hn i hlt) ?_
          have : (cycI g n i).length < 5864062014805 := by simp [cycI]; omega
          simp only [if_pos this]
          exact nx
        · rw [if_neg (by simp [hl]), List.append_nil] at nx
          simp only [hl, if_false, Bool.false_eq_true]
          exact nx
theorem galoisref22_Cycles.ev (g : Nat → Nat) (n : Nat) (h : Bij n g) (hn : n ≤ 20) : Ev (fun k => galoisref22_Cycles.f k (lf g n)) (cycI g n n) :=
  galoisref22_Cycles.l_ev g n h hn _ 0 rfl (Nat.zero_le _)

/-! ### galoisref22_Type -/
/-- How many points below m are least ones of cycles of length v. -/
def cntTo (g : Nat → Nat) (n v m : Nat) : Nat := ((List.range m).filter fun j => isLeast g n j && (per g n j == v)).length
theorem cntTo_succ (g : Nat → Nat) (n v m : Nat) : cntTo g n v (m + 1) = cntTo g n v m + (if isLeast g n m = true ∧ per g n m = v then 1 else 0) := by
  unfold cntTo
  rw [List.range_succ, List.filter_append, List.length_append]
  congr 1
  by_cases e : isLeast g n m = true ∧ per g n m = v
  · rw [if_pos e, List.filter_cons_of_pos (by simp [e.1, e.2])]; rfl
  · rw [if_neg e, List.filter_cons_of_neg (by simpa using e)]; rfl
theorem cntTo_le (g : Nat → Nat) (n v m : Nat) : cntTo g n v m ≤ m := by
  unfold cntTo
  exact Nat.le_trans (List.length_filter_le ..) (by simp)
theorem cntTo_end (g : Nat → Nat) (n v : Nat) : cntTo g n v n = cnt g n v := rfl
/-- The lengths, from v down. -/
def refT (g : Nat → Nat) (n : Nat) : Nat → List Int
  | 0 => []
  | v + 1 => List.replicate (cnt g n (v + 1)) ((v + 1 : Nat) : Int) ++ refT g n v
theorem refT_mem (g : Nat → Nat) (n : Nat) : ∀ (v : Nat) (x : Int), x ∈ refT g n v → 1 ≤ x ∧ x ≤ (v : Int)
  | 0, x, h => by cases h
  | v + 1, x, h => by
    rcases List.mem_append.1 h with h | h
    · have := (List.mem_replicate.1 h).2
      omega
    · have := refT_mem g n v x h
      omega
theorem refT_sorted (g : Nat → Nat) (n : Nat) : ∀ v, (refT g n v).Pairwise (fun x y => y ≤ x)
  | 0 => List.Pairwise.nil
  | v + 1 => by
    show (List.replicate _ _ ++ refT g n v).Pairwise _
    rw [List.pairwise_append]
    refine ⟨List.pairwise_replicate.2 (.inr (Int.le_refl _)), refT_sorted g n v, fun a ha b hb => ?_⟩
    have h1 := (List.mem_replicate.1 ha).2
    have h2 := refT_mem g n v b hb
    omega
theorem refT_count (g : Nat → Nat) (n : Nat) : ∀ (v u : Nat), (refT g n v).count (u : Int) = if 1 ≤ u ∧ u ≤ v then cnt g n u else 0
  | 0, u => by rw [if_neg (by omega)]; rfl
  | v + 1, u => by
    show (List.replicate _ _ ++ refT g n v).count _ = _
    rw [List.count_append, refT_count g n v u, List.count_replicate]
    by_cases e : u = v + 1
    · subst e
      rw [if_pos (by simp), if_neg (by omega), if_pos ⟨by omega, Nat.le_refl _⟩, Nat.add_zero]
    · rw [if_neg (by simp; omega), Nat.zero_add]
      by_cases h : 1 ≤ u ∧ u ≤ v
      · rw [if_pos h, if_pos (by omega)]
      · rw [if_neg h, if_neg (by omega)]
theorem cnt_above {g : Nat → Nat} {n : Nat} (h : Bij n g) (v : Nat) (hv : n < v) : cnt g n v = 0 := by
  unfold cnt
  rw [List.length_eq_zero_iff, List.eq_nil_iff_forall_not_mem]
  intro i hi
  have h1 := (h.per_spec (mem_leasts.1 hi).1).2.1
  have h2 := beq_iff_eq.1 (mem_leasts.1 hi).2.2
  omega
theorem refT_lens (g : Nat → Nat) (n : Nat) (h : Bij n g) : (refT g n n).Perm (lens g n) := by
  rw [List.perm_iff_count]
  intro x
  by_cases hx : 0 ≤ x
  · obtain ⟨v, rfl⟩ : ∃ v : Nat, x = (v : Int) := ⟨x.toNat, by omega⟩
    rw [lens_count, refT_count]
    by_cases hv : 1 ≤ v ∧ v ≤ n
    · rw [if_pos hv]
    · rw [if_neg hv]
      by_cases h0 : v = 0
      · rw [h0, cnt_zero]
      · rw [cnt_above h v (by omega)]
  · rw [List.count_eq_zero.2 fun hm => by have := refT_mem g n n x hm; omega, List.count_eq_zero.2 fun hm => by have := lens_mem h hm; omega]
theorem galoisref22_Type.l1_ev (g : Nat → Nat) (n : Nat) (h : Bij n g) (hn : n ≤ 20) (v : Nat) (hv : v ≤ 20) (out : List Int) (ho : out.length ≤ 1000) (R : List Int)
    (next : Ev (fun k => galoisref22_Type.l0 k (lf g n) (out ++ List.replicate (cnt g n (v + 1)) ((v + 1 : Nat) : Int)) (v : Int)) R) : ∀ (d i : Nat), n - i = d → i ≤ n →
    Ev (fun k => galoisref22_Type.l1 k (lf g n) (out ++ List.replicate (cntTo g n (v + 1) i) ((v + 1 : Nat) : Int)) ((v + 1 : Nat) : Int) (i : Int)) R := by
  intro d
  induction d with
  | zero =>
    intro i hd hi
    have e : i = n := by omega
    subst e
    refine Ev.step (fun k => ?_) next
    simp only [galoisref22_Type.l1]
    rw [if_neg (by rw [lf_length]; omega), cntTo_end, w64_small (by omega) (by omega), show (((v + 1 : Nat) : Int) - 1) = (v : Int) by omega]
  | succ d ih =>
    intro i hd hi
    have hlt : i < n := by omega
    have nx := ih (i + 1) (by omega) (by omega)
    have hc := cntTo_le g n (v + 1) i
    rw [cntTo_succ] at nx
    refine Ev.step (f := fun k => (galoisref22_Least.f k (lf g n) (i : Int)).bind fun t => if t = true then ((galoisref22_Cycle.f k (lf g n) (i : Int)).bind fun c => if (c.length : Int) = ((v + 1 : Nat) : Int) then (if (out ++ List.replicate (cntTo g n (v + 1) i) ((v + 1 : Nat) : Int)).length < 17592186044416 then galoisref22_Type.l1 k (lf g n) (out ++ List.replicate (cntTo g n (v + 1) i) ((v + 1 : Nat) : Int) ++ [((v + 1 : Nat) : Int)]) ((v + 1 : Nat) : Int) ((i + 1 : Nat) : Int) else none) else galoisref22_Type.l1 k (lf g n) (out ++ List.replicate (cntTo g n (v + 1) i) ((v + 1 : Nat) : Int)) ((v + 1 : Nat) : Int) ((i + 1 : Nat) : Int)) else galoisref22_Type.l1 k (lf g n) (out ++ List.replicate (cntTo g n (v + 1) i) ((v + 1 : Nat) : Int)) ((v + 1 : Nat) : Int) ((i + 1 : Nat) : Int)) (fun k => ?_) (Ev.bind (galoisref22_Least.ev g n h hn i hlt) ?_)
    · simp only [galoisref22_Type.l1]
      rw [if_pos (by rw [lf_length]; omega), wrap_nat (by omega)]
    · by_cases hl : isLeast g n i = true
      · simp only [hl, if_true]
        refine Ev.bind (galoisref22_Cycle.ev g n h hn i hlt) ?_
        have el : (ints (orb g n i)).length = per g n i := by simp [ints, orb_length]
        by_cases e : per g n i = v + 1
        · rw [if_pos ⟨hl, e⟩, List.replicate_succ', ← List.append_assoc] at nx
          have c1 : ((ints (orb g n i)).length : Int) = ((v + 1 : Nat) : Int) := by omega
          have c2 : (out ++ List.replicate (cntTo g n (v + 1) i) ((v + 1 : Nat) : Int)).length < 17592186044416 := by
            rw [List.length_append, List.length_replicate]; omega
          simp only [if_pos c1, if_pos c2]
          exact nx
        · rw [if_neg (fun hh => e hh.2), Nat.add_zero] at nx
          have c1 : ¬ ((ints (orb g n i)).length : Int) = ((v + 1 : Nat) : Int) := by omega
          simp only [if_neg c1]
          exact nx
      · rw [if_neg (fun hh => hl hh.1), Nat.add_zero] at nx
        simp only [hl, Bool.false_eq_true, if_false]
        exact nx
theorem galoisref22_Type.l0_ev (g : Nat → Nat) (n : Nat) (h : Bij n g) (hn : n ≤ 20) : ∀ (v : Nat) (out : List Int), v ≤ n → out.length ≤ (n - v) * 20 →
    Ev (fun k => galoisref22_Type.l0 k (lf g n) out (v : Int)) (out ++ refT g n v)
  | 0, out, _, _ => by
    rw [show refT g n 0 = [] from rfl, List.append_nil]
    refine Ev.step (f := fun _ => some out) (fun k => ?_) (Ev.now _)
    simp only [galoisref22_Type.l0]
    rw [if_neg (by omega)]
  | v + 1, out, hv, ho => by
    have hc : cnt g n (v + 1) ≤ n := cntTo_le g n (v + 1) n
    have nx := galoisref22_Type.l0_ev g n h hn v (out ++ List.replicate (cnt g n (v + 1)) ((v + 1 : Nat) : Int)) (by omega) (by rw [List.length_append, List.length_replicate]; omega)
    rw [List.append_assoc] at nx
    have := galoisref22_Type.l1_ev g n h hn v (by omega) out (by omega) _ nx _ 0 rfl (Nat.zero_le _)
    rw [show List.replicate (cntTo g n (v + 1) 0) ((v + 1 : Nat) : Int) = [] from rfl, List.append_nil] at this
    refine Ev.step (fun k => ?_) this
    simp only [galoisref22_Type.l0]
    rw [if_pos (by omega)]
    rfl
theorem galoisref22_Type.ev (g : Nat → Nat) (n : Nat) (h : Bij n g) (hn : n ≤ 20) : Ev (fun k => galoisref22_Type.f k (lf g n)) (refT g n n) := by
  have := galoisref22_Type.l0_ev g n h hn n [] (Nat.le_refl _) (by simp)
  rw [List.nil_append] at this
  refine Ev.congr (fun k => ?_) this
  unfold galoisref22_Type.f
  rw [lf_length]

/-! ### galoisref22_Support -/
theorem galoisref22_Support.l_ev (g : Nat → Nat) (n : Nat) (hn : n ≤ 20) : ∀ (d i : Nat), n - i = d → i ≤ n →
    Ev (fun k => galoisref22_Support.l0 k (lf g n) (supp g i) (i : Int)) (supp g n) := by
  intro d
  induction d with
  | zero =>
    intro i hd hi
    have e : i = n := by omega
    subst e
    refine Ev.step (f := fun _ => some (supp g i)) (fun k => ?_) (Ev.now _)
    simp only [galoisref22_Support.l0]
    rw [if_neg (by rw [lf_length]; omega)]
  | succ d ih =>
    intro i hd hi
    have hlt : i < n := by omega
    have nx := ih (i + 1) (by omega) (by omega)
    have hs := supp_length g i
    rw [supp_succ] at nx
    by_cases e : i = g i
    · rw [if_pos e, List.append_nil] at nx
      refine Ev.step (fun k => ?_) nx
      simp only [galoisref22_Support.l0]
      rw [if_pos (by rw [lf_length]; omega), if_pos (by omega), rd_nat, lf_getD g n i hlt, if_pos (by omega), wrap_nat (by omega)]
    · rw [if_neg e] at nx
      refine Ev.step (fun k => ?_) nx
      simp only [galoisref22_Support.l0]
      rw [if_pos (by rw [lf_length]; omega), if_pos (by omega), rd_nat, lf_getD g n i hlt, if_neg (by omega), if_pos (by omega), wrap_nat (by omega)]
theorem galoisref22_Support.ev (g : Nat → Nat) (n : Nat) (hn : n ≤ 20) : Ev (fun k => galoisref22_Support.f k (lf g n)) (supp g n) :=
  galoisref22_Support.l_ev g n hn _ 0 rfl (Nat.zero_le _)

/-! ### galoisref22_Factorial -/
theorem galoisref22_Factorial.l_ev (n : Nat) (hn : n ≤ 20) : ∀ (d i : Nat), n - i = d → i ≤ n →
    Ev (fun k => galoisref22_Factorial.l0 k (n : Int) ((fact i : Nat) : Int) ((i + 1 : Nat) : Int)) ((fact n : Nat) : Int) := by
  intro d
  induction d with
  | zero =>
    intro i hd hi
    have e : i = n := by omega
    subst e
    refine Ev.step (f := fun _ => some ((fact i : Nat) : Int)) (fun k => ?_) (Ev.now _)
    simp only [galoisref22_Factorial.l0]
    rw [if_neg (by omega)]
  | succ d ih =>
    intro i hd hi
    refine Ev.step (fun k => ?_) (ih (i + 1) (by omega) (by omega))
    simp only [galoisref22_Factorial.l0]
    have h1 := fact_20 (show i + 1 ≤ 20 by omega)
    have e : ((fact i : Nat) : Int) * ((i + 1 : Nat) : Int) = ((fact (i + 1) : Nat) : Int) := by
      rw [← Int.natCast_mul, Nat.mul_comm]; rfl
    rw [if_pos (by omega), e, w64_small (by omega) (by omega), wrap_nat (by omega)]
theorem galoisref22_Factorial.ev (n : Nat) (hn : n ≤ 20) : Ev (fun k => galoisref22_Factorial.f k (n : Int)) ((fact n : Nat) : Int) := by
  by_cases h : n = 0
  · subst h
    refine Ev.step (f := fun _ => some 1) (fun k => ?_) (Ev.now _)
    simp only [galoisref22_Factorial.f, galoisref22_Factorial.l0]
    rfl
  · exact galoisref22_Factorial.l_ev n hn _ 1 rfl (by omega)

/-! ### galoisref22_Rank -/
theorem galoisref22_Rank.l1_ev (l : List Int) (i : Nat) (hi : i < l.length) (hl : l.length ≤ 20) (R : Int) (r : Int)
    (next : Ev (fun k => (galoisref22_Factorial.f k ((l.length - 1 - i : Nat) : Int)).bind fun t => galoisref22_Rank.l0 k l (wrap64 (r + wrap64 (((below l[i] (l.drop (i + 1)) : Nat) : Int) * t))) ((i + 1 : Nat) : Int)) R) : ∀ (d j : Nat), (l.drop (i + 1)).length - j = d → j ≤ (l.drop (i + 1)).length →
    Ev (fun k => galoisref22_Rank.l1 k l r (i : Int) ((below l[i] ((l.drop (i + 1)).take j) : Nat) : Int) ((i + 1 + j : Nat) : Int)) R := by
  have hdl : (l.drop (i + 1)).length = l.length - (i + 1) := List.length_drop ..
  intro d
  induction d with
  | zero =>
    intro j hd hj
    rw [List.take_of_length_le (by omega)]
    refine Ev.step (fun k => ?_) next
    simp only [galoisref22_Rank.l1]
    have e1 : wrap64 (wrap64 ((l.length : Int) - 1) - (i : Int)) = ((l.length - 1 - i : Nat) : Int) := by
      rw [w64_small (i := (l.length : Int) - 1) (by omega) (by omega), w64_small (by omega) (by omega)]; omega
    rw [if_neg (by omega), e1, wrap_nat (by omega)]
  | succ d ih =>
    intro j hd hj
    have hlt : j < (l.drop (i + 1)).length := by omega
    have nx := ih (j + 1) (by omega) (by omega)
    rw [List.take_succ_eq_append_getElem hlt, below_append, below_cons] at nx
    have hbl := below_le l[i] ((l.drop (i + 1)).take j)
    rw [List.length_take] at hbl
    have hg : l[i + 1 + j] = (l.drop (i + 1))[j] := by rw [List.getElem_drop]
    by_cases h : (l.drop (i + 1))[j] < l[i]
    · rw [if_pos h] at nx
      refine Ev.step (fun k => ?_) nx
      simp only [galoisref22_Rank.l1]
      rw [if_pos (by omega), if_pos (by omega), if_pos (by omega), if_pos (by omega), rd_get l (i + 1 + j) (by omega), rd_get l i hi, hg, if_pos h, wrap_nat (by omega), wrap_nat (by omega)]
      simp [below, Nat.add_assoc]
    · rw [if_neg h] at nx
      refine Ev.step (fun k => ?_) nx
      simp only [galoisref22_Rank.l1]
      rw [if_pos (by omega), if_pos (by omega), if_pos (by omega), if_pos (by omega), rd_get l (i + 1 + j) (by omega), rd_get l i hi, hg, if_neg h, wrap_nat (by omega)]
      simp [below, Nat.add_assoc]
theorem galoisref22_Rank.l0_ev (l : List Int) (hl : l.length ≤ 20) : ∀ (d i : Nat) (r : Nat), l.length - i = d → i ≤ l.length → r + rk (l.drop i) = rk l →
    Ev (fun k => galoisref22_Rank.l0 k l (r : Int) (i : Int)) ((rk l : Nat) : Int) := by
  have hr := rk_lt l
  have hf := fact_20 hl
  intro d
  induction d with
  | zero =>
    intro i r hd hi he
    rw [List.drop_eq_nil_of_le (by omega)] at he
    have e : r = rk l := by simpa [rk] using he
    subst e
    refine Ev.step (f := fun _ => some ((rk l : Nat) : Int)) (fun k => ?_) (Ev.now _)
    simp only [galoisref22_Rank.l0]
    rw [if_neg (by omega)]
  | succ d ih =>
    intro i r hd hi he
    have hlt : i < l.length := by omega
    rw [List.drop_eq_getElem_cons hlt] at he
    simp only [rk] at he
    have hdl : (l.drop (i + 1)).length = l.length - (i + 1) := List.length_drop ..
    rw [hdl] at he
    have nx := ih (i + 1) (r + below l[i] (l.drop (i + 1)) * fact (l.length - (i + 1))) (by omega) (by omega) (by omega)
    refine Ev.step (fun k => ?_) (galoisref22_Rank.l1_ev l i hlt hl _ (r : Int) ?_ _ 0 rfl (Nat.zero_le _))
    · simp only [galoisref22_Rank.l0]
      rw [if_pos (by omega), wrap_nat (by omega)]
      simp [below]
    · refine Ev.bind (galoisref22_Factorial.ev _ (by omega)) ?_
      rw [show l.length - 1 - i = l.length - (i + 1) by omega]
      rw [← Int.natCast_mul]
      generalize below l[i] (l.drop (i + 1)) * fact (l.length - (i + 1)) = q at he nx ⊢
      rw [w64_small (i := (q : Int)) (by omega) (by omega), ← Int.natCast_add, w64_small (by omega) (by omega)]
      exact nx
theorem galoisref22_Rank.ev (l : List Int) (hl : l.length ≤ 20) : Ev (fun k => galoisref22_Rank.f k l) ((rk l : Nat) : Int) :=
  galoisref22_Rank.l0_ev l hl _ 0 0 rfl (Nat.zero_le _) (by simp)

end Go.Proofs.YtoaalfpfklchfaaDoor.QPermForms
