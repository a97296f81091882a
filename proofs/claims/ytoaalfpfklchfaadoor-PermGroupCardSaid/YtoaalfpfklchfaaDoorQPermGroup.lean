/- What the printed functions come to: each in plain words (loops by induction). -/
import Derived.Test.YtoaalfpfklchfaaDoorPPermGroupx1
import Derived.Test.YtoaalfpfklchfaaDoorPPermGroupx2
import Derived.Test.YtoaalfpfklchfaaDoorPPermGroupx4
import Derived.Test.YtoaalfpfklchfaaDoorPPermGroupx5
import Derived.Test.YtoaalfpfklchfaaDoorLists
import Derived.Test.YtoaalfpfklchfaaDoorSigns
import Derived.Test.YtoaalfpfklchfaaDoorSortB
import Derived.Test.YtoaalfpfklchfaaDoorTypes
namespace Go.Proofs.YtoaalfpfklchfaaDoor.QPermGroup
open Go.RowKit Go.Proofs.YtoaalfpfklchfaaDoor.PPermGroup Go.Proofs.YtoaalfpfklchfaaDoorW.PrintWords Go.Proofs.YtoaalfpfklchfaaDoorW.PrintLast Go.Proofs.YtoaalfpfklchfaaDoor.Plain
set_option linter.unusedVariables false
set_option linter.unusedSimpArgs false

/-! ### awake22 -/
theorem galoislaw22_awake.ev : Ev (fun k => galoislaw22_awake.f k) true := Ev.of galoislaw22_awake.mono (k := 40) (by decide +kernel)

/-! ### galoislaw22_few -/
theorem galoislaw22_few.l_ev (l : List (List Int)) (hn : l.length < 4611686018427387904) : ∀ (d i : Nat), l.length - i = d → i ≤ l.length →
    Ev (fun k => galoislaw22_few.l0 k l (i : Int)) ((l.drop i).all fun x => decide (x.length ≤ 40)) := by
  intro d
  induction d with
  | zero =>
    intro i hd hi
    rw [List.drop_eq_nil_of_le (by omega : l.length ≤ i)]
    refine Ev.step (f := fun _ => some true) (fun k => ?_) (Ev.now _)
    simp only [galoislaw22_few.l0]
    rw [if_neg (by omega)]
  | succ d ih =>
    intro i hd hi
    have ha : i < l.length := by omega
    have hg : rd_L1 l (i : Int) = l[i] := by
      show l.getD i [] = _
      rw [List.getD_eq_getElem?_getD, List.getElem?_eq_getElem ha]; rfl
    rw [List.drop_eq_getElem_cons ha, List.all_cons]
    by_cases e : l[i].length ≤ 40
    · refine Ev.step (f := fun k => galoislaw22_few.l0 k l ((i + 1 : Nat) : Int)) (fun k => ?_) ?_
      · simp only [galoislaw22_few.l0]
        rw [if_pos (by omega), if_pos (by omega), hg, if_neg (by omega), wrap_nat (by omega)]
      · rw [decide_eq_true e, Bool.true_and]
        exact ih (i + 1) (by omega) (by omega)
    · refine Ev.step (f := fun _ => some false) (fun k => ?_) ?_
      · simp only [galoislaw22_few.l0]
        rw [if_pos (by omega), if_pos (by omega), hg, if_pos (by omega)]
      · rw [decide_eq_false e, Bool.false_and]
        exact Ev.now _
theorem galoislaw22_few.ev (l : List (List Int)) (hn : l.length < 4611686018427387904) : Ev (fun k => galoislaw22_few.f k l) (l.all fun x => decide (x.length ≤ 40)) := by
  have := galoislaw22_few.l_ev l hn _ 0 rfl (by omega)
  rwa [List.drop_zero] at this

/-! ### galoisref22_Check -/
theorem galoisref22_Check.l1_ev (l : List Int) (i : Nat) (hi : i < l.length) (hl : l.length ≤ 20) (r : Int)
    (hr : l.getD i 0 ∉ l.take i → Ev (fun k => galoisref22_Check.l0 k l ((i + 1 : Nat) : Int)) r) : ∀ (d j : Nat), i - j = d → j ≤ i → l.getD i 0 ∉ l.take j →
    Ev (fun k => galoisref22_Check.l1 k l (i : Int) (j : Int)) (if l.getD i 0 ∈ l.take i then 24 else r) := by
  intro d
  induction d with
  | zero =>
    intro j hd hj hno
    have e : j = i := by omega
    subst e
    rw [if_neg hno]
    refine Ev.step (f := fun k => galoisref22_Check.l0 k l ((j + 1 : Nat) : Int)) (fun k => ?_) (hr hno)
    simp only [galoisref22_Check.l1]
    rw [if_neg (by omega), wrap_nat (by omega)]
  | succ d ih =>
    intro j hd hj hno
    have hjl : j < l.length := by omega
    by_cases e : l.getD j 0 = l.getD i 0
    · rw [if_pos (by
        rw [← e, List.getD_eq_getElem?_getD, List.getElem?_eq_getElem hjl]
        exact List.mem_take_iff_getElem.2 ⟨j, by omega, rfl⟩)]
      refine Ev.step (f := fun _ => some 24) (fun k => ?_) (Ev.now _)
      simp only [galoisref22_Check.l1]
      rw [if_pos (by omega), if_pos (by omega), if_pos (by omega), if_pos (by omega), if_pos (by omega), if_pos (by simpa only [rd_nat] using e)]
    · refine Ev.step (f := fun k => galoisref22_Check.l1 k l (i : Int) ((j + 1 : Nat) : Int)) (fun k => ?_) (ih (j + 1) (by omega) (by omega) ?_)
      · simp only [galoisref22_Check.l1]
        rw [if_pos (by omega), if_pos (by omega), if_pos (by omega), if_pos (by omega), if_pos (by omega), if_neg (by simpa only [rd_nat] using e), wrap_nat (by omega)]
      · rw [List.take_succ_eq_append_getElem hjl, List.mem_append, List.mem_singleton]
        rintro (h | h)
        · exact hno h
        · apply e
          rw [h, List.getD_eq_getElem?_getD, List.getElem?_eq_getElem hjl]; rfl
theorem galoisref22_Check.l_ev (l : List Int) (hl : l.length ≤ 20) : ∀ (d i : Nat), l.length - i = d → i ≤ l.length →
    Ev (fun k => galoisref22_Check.l0 k l (i : Int)) (chkFrom l d) := by
  intro d
  induction d with
  | zero =>
    intro i hd hi
    refine Ev.step (f := fun _ => some 0) (fun k => ?_) (Ev.now _)
    simp only [galoisref22_Check.l0]
    rw [if_neg (by omega)]
  | succ d ih =>
    intro i hd hi
    have hi' : l.length - (d + 1) = i := by omega
    simp only [chkFrom, hi']
    have hb : ∀ b : Bool, (b = true ↔ (l.getD i 0 < 0 ∨ (l.length : Int) ≤ l.getD i 0)) →
        Ev (fun k => galoisref22_Check.j1 k l (i : Int) b) (if l.getD i 0 < 0 ∨ (l.length : Int) ≤ l.getD i 0 then 3 else if l.getD i 0 ∈ l.take i then 24 else chkFrom l d) := by
      intro b hb
      by_cases h : b = true
      · rw [if_pos (hb.1 h)]
        refine Ev.step (f := fun _ => some 3) (fun k => ?_) (Ev.now _)
        simp only [galoisref22_Check.j1]
        rw [if_pos h]
      · rw [if_neg (fun hh => h (hb.2 hh))]
        refine Ev.step (f := fun k => galoisref22_Check.l1 k l (i : Int) ((0 : Nat) : Int)) (fun k => ?_) (galoisref22_Check.l1_ev l i (by omega) hl _ (fun _ => ih (i + 1) (by omega) (by omega)) _ 0 rfl (by omega) (by simp))
        simp only [galoisref22_Check.j1]
        rw [if_neg h]
        rfl
    by_cases h0 : rd l (i : Int) < 0
    · refine Ev.step (f := fun k => galoisref22_Check.j1 k l (i : Int) true) (fun k => ?_) (hb true ⟨fun _ => .inl h0, fun _ => rfl⟩)
      simp only [galoisref22_Check.l0]
      rw [if_pos (by omega), if_pos (by omega), if_pos h0]
    · refine Ev.step (f := fun k => galoisref22_Check.j1 k l (i : Int) (decide (rd l (i : Int) ≥ (l.length : Int)))) (fun k => ?_) (hb _ ?_)
      · simp only [galoisref22_Check.l0]
        rw [if_pos (by omega), if_pos (by omega), if_neg h0]
      · rw [decide_eq_true_iff]
        exact ⟨fun h => .inr h, fun h => h.elim (fun hh => absurd hh h0) id⟩
theorem galoisref22_Check.ev (l : List Int) : Ev (fun k => galoisref22_Check.f k l) (chk l) := by
  unfold galoisref22_Check.f chk
  by_cases h : 20 < l.length
  · rw [if_pos h]
    refine Ev.congr (f := fun _ => some 4) (fun k => ?_) (Ev.now _)
    rw [if_pos (by omega)]
  · rw [if_neg h]
    refine Ev.congr (f := fun k => galoisref22_Check.l0 k l 0) (fun k => ?_) (galoisref22_Check.l_ev l (by omega) _ 0 (by omega) (by omega))
    rw [if_neg (by omega)]

/-! ### api_Perm_int_81 -/
theorem api_Perm_int_81.l_ev (l : List Int) (x : Int) (hl : l.length < 4611686018427387904) : ∀ (d i : Nat), l.length - i = d → i ≤ l.length →
    Ev (fun k => api_Perm_int_81.l0 k l x (l.length : Int) (i : Int)) (if x ∈ l.drop i then ((i + (l.drop i).idxOf x : Nat) : Int) else -1) := by
  intro d
  induction d with
  | zero =>
    intro i hd hi
    have e : l.drop i = [] := List.drop_eq_nil_of_le (by omega)
    rw [e, if_neg (by simp)]
    refine Ev.step (f := fun _ => some (-1)) (fun k => ?_) (Ev.now _)
    simp only [api_Perm_int_81.l0]
    rw [if_neg (by omega)]
  | succ d ih =>
    intro i hd hi
    have hlt : i < l.length := by omega
    have e : l.drop i = l[i] :: l.drop (i + 1) := List.drop_eq_getElem_cons hlt
    by_cases hx : x = l[i]
    · rw [e, if_pos (by rw [hx]; exact List.mem_cons_self ..), ← hx, List.idxOf_cons_self]
      refine Ev.step (f := fun _ => some ((i : Nat) : Int)) (fun k => ?_) (Ev.now _)
      simp only [api_Perm_int_81.l0]
      rw [if_pos (by omega), if_pos (by omega), if_pos (by omega), if_pos (by rw [rd_get l i hlt]; exact hx)]
    · refine Ev.step (f := fun k => api_Perm_int_81.l0 k l x (l.length : Int) ((i + 1 : Nat) : Int)) (fun k => ?_) ?_
      · simp only [api_Perm_int_81.l0]
        rw [if_pos (by omega), if_pos (by omega), if_pos (by omega), if_neg (by rw [rd_get l i hlt]; exact hx), wrap_nat (by omega)]
      · have := ih (i + 1) (by omega) (by omega)
        rw [e]
        by_cases hm : x ∈ l.drop (i + 1)
        · rw [if_pos hm] at this
          have hne : (l[i] == x) = false := beq_eq_false_iff_ne.2 (fun h => hx h.symm)
          rw [if_pos (List.mem_cons_of_mem _ hm), List.idxOf_cons, hne, cond_false]
          rw [show i + ((l.drop (i + 1)).idxOf x + 1) = i + 1 + (l.drop (i + 1)).idxOf x by omega]
          exact this
        · rw [if_neg hm] at this
          rw [if_neg (by rw [List.mem_cons]; exact fun h => h.elim hx hm)]
          exact this
theorem api_Perm_int_81.ev (l : List Int) (x : Int) (hl : l.length < 4611686018427387904) : Ev (fun k => api_Perm_int_81.f k l x) (if x ∈ l then ((l.idxOf x : Nat) : Int) else -1) := by
  have := api_Perm_int_81.l_ev l x hl l.length 0 (by omega) (by omega)
  rw [List.drop_zero, Nat.zero_add] at this
  exact this

/-! ### api_Perm_int_72 -/
theorem api_Perm_int_72.ev (l : List Int) (x : Int) (hl : l.length < 4611686018427387904) : Ev (fun k => api_Perm_int_72.f k l x) (decide (x ∈ l)) := by
  unfold api_Perm_int_72.f
  refine Ev.bind (f := fun _ t => some (decide (t ≥ 0))) (api_Perm_int_81.ev l x hl) ?_
  by_cases h : x ∈ l
  · simp only [if_pos h]
    rw [show decide ((((l.idxOf x : Nat) : Int)) ≥ 0) = decide (x ∈ l) by simp [h]]
    exact Ev.now _
  · simp only [if_neg h]
    rw [show decide ((-1 : Int) ≥ 0) = decide (x ∈ l) by simp [h]]
    exact Ev.now _

/-! ### perm_Check -/
theorem perm_Check.l_ev (l : List Int) (hl : l.length ≤ 20) : ∀ (d i : Nat), l.length - i = d → i ≤ l.length →
    Ev (fun k => perm_Check.l0 k l l (l.length : Int) (i : Int)) (chkFrom l d) := by
  intro d
  induction d with
  | zero =>
    intro i hd hi
    refine Ev.step (f := fun _ => some 0) (fun k => ?_) (Ev.now _)
    simp only [perm_Check.l0]
    rw [if_neg (by omega)]
  | succ d ih =>
    intro i hd hi
    have hi' : l.length - (d + 1) = i := by omega
    simp only [chkFrom, hi']
    have hb : ∀ b : Bool, (b = true ↔ (l.getD i 0 < 0 ∨ (l.length : Int) ≤ l.getD i 0)) →
        Ev (fun k => perm_Check.j1 k l (i : Int) (rd l (i : Int)) l (l.length : Int) (i : Int) b) (if l.getD i 0 < 0 ∨ (l.length : Int) ≤ l.getD i 0 then 3 else if l.getD i 0 ∈ l.take i then 24 else chkFrom l d) := by
      intro b hb
      by_cases h : b = true
      · rw [if_pos (hb.1 h)]
        refine Ev.step (f := fun _ => some 3) (fun k => ?_) (Ev.now _)
        simp only [perm_Check.j1]
        rw [if_pos h]
      · rw [if_neg (fun hh => h (hb.2 hh))]
        refine Ev.step (f := fun k => (api_Perm_int_72.f k (l.take i) (rd l (i : Int))).bind fun t => if t = true then some 24 else perm_Check.l0 k l l (l.length : Int) ((i + 1 : Nat) : Int)) (fun k => ?_) ?_
        · simp only [perm_Check.j1]
          rw [if_neg h, if_pos (by omega), if_pos (by omega), wrap_nat (by omega)]
          rfl
        · refine Ev.bind (f := fun k t => if t = true then some 24 else perm_Check.l0 k l l (l.length : Int) ((i + 1 : Nat) : Int)) (api_Perm_int_72.ev _ _ (by rw [List.length_take]; omega)) ?_
          by_cases hm : l.getD i 0 ∈ l.take i
          · rw [if_pos hm]
            exact Ev.congr (f := fun _ => some 24) (fun k => if_pos (decide_eq_true hm)) (Ev.now _)
          · rw [if_neg hm]
            exact Ev.congr (f := fun k => perm_Check.l0 k l l (l.length : Int) ((i + 1 : Nat) : Int)) (fun k => if_neg (fun h => hm (of_decide_eq_true h))) (ih (i + 1) (by omega) (by omega))
    by_cases h0 : rd l (i : Int) < 0
    · refine Ev.step (f := fun k => perm_Check.j1 k l (i : Int) (rd l (i : Int)) l (l.length : Int) (i : Int) true) (fun k => ?_) (hb true ⟨fun _ => .inl h0, fun _ => rfl⟩)
      simp only [perm_Check.l0]
      rw [if_pos (by omega), if_pos (by omega), if_pos (by omega), if_pos h0]
    · refine Ev.step (f := fun k => perm_Check.j1 k l (i : Int) (rd l (i : Int)) l (l.length : Int) (i : Int) (decide (rd l (i : Int) ≥ (l.length : Int)))) (fun k => ?_) (hb _ ?_)
      · simp only [perm_Check.l0]
        rw [if_pos (by omega), if_pos (by omega), if_pos (by omega), if_neg h0]
      · rw [decide_eq_true_iff]
        exact ⟨fun h => .inr h, fun h => h.elim (fun hh => absurd hh h0) id⟩
theorem perm_Check.ev (l : List Int) : Ev (fun k => perm_Check.f k l) (chk l) := by
  unfold perm_Check.f chk
  by_cases h : 20 < l.length
  · rw [if_pos h]
    refine Ev.congr (f := fun _ => some 4) (fun k => ?_) (Ev.now _)
    rw [if_pos (by omega)]
  · rw [if_neg h]
    refine Ev.congr (f := fun k => perm_Check.l0 k l l (l.length : Int) 0) (fun k => ?_) (perm_Check.l_ev l (by omega) _ 0 (by omega) (by omega))
    rw [if_neg (by omega)]

/-! ### perm_check2 -/
def chk2 (a b : List Int) : Int := if chk a = 0 then (if chk b = 0 then (if a.length = b.length then 0 else 2) else chk b) else chk a
theorem perm_check2.ev (a b : List Int) : Ev (fun k => perm_check2.f k a b) (chk2 a b) := by
  unfold perm_check2.f chk2
  refine Ev.bind (perm_Check.ev a) ?_
  by_cases ha : chk a = 0
  · simp only [if_pos ha]
    refine Ev.bind (perm_Check.ev b) ?_
    by_cases hb : chk b = 0
    · simp only [if_pos hb]
      by_cases hl : a.length = b.length
      · rw [if_pos (by omega), if_pos hl]; exact Ev.now _
      · rw [if_neg (by omega), if_neg hl]; exact Ev.now _
    · simp only [if_neg hb]; exact Ev.now _
  · simp only [if_neg ha]; exact Ev.now _

/-! ### galoisref22_Two -/
theorem galoisref22_Two.ev (a b : List Int) : Ev (fun k => galoisref22_Two.f k a b) (chk2 a b) := by
  unfold galoisref22_Two.f chk2
  refine Ev.bind (galoisref22_Check.ev a) ?_
  by_cases ha : chk a = 0
  · simp only [if_pos ha]
    refine Ev.bind (galoisref22_Check.ev b) ?_
    by_cases hb : chk b = 0
    · simp only [if_pos hb]
      by_cases hl : a.length = b.length
      · rw [if_pos (by omega), if_pos hl]; exact Ev.now _
      · rw [if_neg (by omega), if_neg hl]; exact Ev.now _
    · simp only [if_neg hb]; exact Ev.now _
  · simp only [if_neg ha]; exact Ev.now _

/-! ### galoislaw22_right -/
theorem galoislaw22_right.ev (a b : List Int) : Ev (fun k => galoislaw22_right.f k a b) (decide (a.length ≤ 40 ∧ b.length ≤ 40 ∧ chk2 a b = 0)) := by
  unfold galoislaw22_right.f
  refine Ev.bind (galoislaw22_few.ev [a, b] (by simp)) ?_
  by_cases hf : a.length ≤ 40 ∧ b.length ≤ 40
  · simp only [List.all_cons, List.all_nil, decide_eq_true hf.1, decide_eq_true hf.2, Bool.and_true, if_true]
    refine Ev.bind (galoisref22_Two.ev a b) ?_
    rw [show (chk2 a b == 0) = decide (a.length ≤ 40 ∧ b.length ≤ 40 ∧ chk2 a b = 0) by
      rw [Bool.eq_iff_iff]; simp only [beq_iff_eq, decide_eq_true_eq]; exact ⟨fun h => ⟨hf.1, hf.2, h⟩, fun h => h.2.2⟩]
    exact Ev.now _
  · have h1 : ([a, b].all fun x => decide (x.length ≤ 40)) = false := by
      simp only [List.all_cons, List.all_nil, Bool.and_true, Bool.and_eq_false_iff, decide_eq_false_iff_not]
      omega
    simp only [h1, Bool.false_eq_true, if_false]
    rw [show decide (a.length ≤ 40 ∧ b.length ≤ 40 ∧ chk2 a b = 0) = false by
      rw [decide_eq_false_iff_not]; exact fun h => hf ⟨h.1, h.2.1⟩]
    exact Ev.now _
theorem chk2_zero {a b : List Int} (h : chk2 a b = 0) : chk a = 0 ∧ chk b = 0 ∧ a.length = b.length := by
  unfold chk2 at h
  split at h
  · split at h
    · split at h
      · exact ⟨‹_›, ‹_›, ‹_›⟩
      · exact absurd h (by omega)
    · exact absurd h ‹_›
  · exact absurd h ‹_›

/-! ### galoisref22_Same -/
theorem galoisref22_Same.l_ev (a b : List Int) (hl : a.length = b.length) (hn : a.length < 4611686018427387904) : ∀ (d i : Nat), a.length - i = d → i ≤ a.length →
    Ev (fun k => galoisref22_Same.l0 k a b (i : Int)) (decide (a.drop i = b.drop i)) := by
  intro d
  induction d with
  | zero =>
    intro i hd hi
    rw [List.drop_eq_nil_of_le (by omega : a.length ≤ i), List.drop_eq_nil_of_le (by omega : b.length ≤ i)]
    refine Ev.step (f := fun _ => some true) (fun k => ?_) (Ev.now _)
    simp only [galoisref22_Same.l0]
    rw [if_neg (by omega)]
  | succ d ih =>
    intro i hd hi
    have ha : i < a.length := by omega
    have hb : i < b.length := by omega
    rw [List.drop_eq_getElem_cons ha, List.drop_eq_getElem_cons hb]
    by_cases e : a[i] = b[i]
    · refine Ev.step (f := fun k => galoisref22_Same.l0 k a b ((i + 1 : Nat) : Int)) (fun k => ?_) ?_
      · simp only [galoisref22_Same.l0]
        rw [if_pos (by omega), if_pos (by omega), if_pos (by omega), rd_get a i ha, rd_get b i hb, if_pos e, wrap_nat (by omega)]
      · rw [show decide (a[i] :: a.drop (i + 1) = b[i] :: b.drop (i + 1)) = decide (a.drop (i + 1) = b.drop (i + 1)) by rw [e]; simp only [List.cons.injEq, true_and]]
        exact ih (i + 1) (by omega) (by omega)
    · refine Ev.step (f := fun _ => some false) (fun k => ?_) ?_
      · simp only [galoisref22_Same.l0]
        rw [if_pos (by omega), if_pos (by omega), if_pos (by omega), rd_get a i ha, rd_get b i hb, if_neg e]
      · rw [show decide (a[i] :: a.drop (i + 1) = b[i] :: b.drop (i + 1)) = false by simp only [List.cons.injEq, e, false_and, decide_false]]
        exact Ev.now _
theorem galoisref22_Same.ev (a b : List Int) (hn : a.length < 4611686018427387904) : Ev (fun k => galoisref22_Same.f k a b) (decide (a = b)) := by
  unfold galoisref22_Same.f
  by_cases hl : a.length = b.length
  · refine Ev.congr (f := fun k => galoisref22_Same.l0 k a b ((0 : Nat) : Int)) (fun k => ?_) ?_
    · rw [if_pos (by omega)]; rfl
    · have := galoisref22_Same.l_ev a b hl hn _ 0 rfl (by omega)
      rwa [List.drop_zero, List.drop_zero] at this
  · refine Ev.congr (f := fun _ => some false) (fun k => ?_) ?_
    · rw [if_neg (by omega)]
    · rw [show decide (a = b) = false by
        rw [decide_eq_false_iff_not]; exact fun e => hl (by rw [e])]
      exact Ev.now _

/-! ### perm_mul -/
theorem perm_mul.l_ev (a b : List Int) (hl : a.length < 35184372088832) (hr : ∀ x ∈ a, 0 ≤ x ∧ x < (b.length : Int)) : ∀ (d i : Nat), a.length - i = d → i ≤ a.length →
    Ev (fun k => perm_mul.l0 k b ((mulL a b).take i ++ (List.replicate a.length 0).drop i) a (a.length : Int) (i : Int)) (mulL a b) := by
  have hm : (mulL a b).length = a.length := by simp [mulL]
  intro d
  induction d with
  | zero =>
    intro i hd hi
    have e : i = (mulL a b).length := by omega
    refine Ev.step (f := fun _ => some (mulL a b)) (fun k => ?_) (Ev.now _)
    simp only [perm_mul.l0]
    rw [if_neg (by omega), e, fill_end _ _ (by simp [hm])]
  | succ d ih =>
    intro i hd hi
    have hlt : i < a.length := by omega
    have hx := hr a[i] (List.getElem_mem hlt)
    refine Ev.step (f := fun k => perm_mul.l0 k b ((mulL a b).take (i + 1) ++ (List.replicate a.length 0).drop (i + 1)) a (a.length : Int) ((i + 1 : Nat) : Int)) (fun k => ?_) (ih (i + 1) (by omega) (by omega))
    simp only [perm_mul.l0]
    rw [if_pos (by omega), if_pos (by omega), if_pos (by omega), rd_get a i hlt, if_pos hx.1, if_pos hx.2, if_pos (by rw [List.length_append, List.length_take, List.length_drop, List.length_replicate]; omega), wrap_nat (by omega)]
    rw [Int.toNat_natCast, set_fill (mulL a b) (List.replicate a.length 0) i (rd b a[i]) (by omega) (by simp [hm]) (by simp [mulL, List.getElem?_eq_getElem hlt])]
theorem perm_mul.ev (a b : List Int) (hl : a.length < 35184372088832) (hr : ∀ x ∈ a, 0 ≤ x ∧ x < (b.length : Int)) : Ev (fun k => perm_mul.f k a b) (mulL a b) := by
  refine Ev.congr (f := fun k => perm_mul.l0 k b ((mulL a b).take 0 ++ (List.replicate a.length 0).drop 0) a (a.length : Int) ((0 : Nat) : Int)) (fun k => ?_) (perm_mul.l_ev a b hl hr _ 0 rfl (Nat.zero_le _))
  unfold perm_mul.f
  rw [if_pos (by omega), if_pos (by omega)]
  simp
theorem perm_mul.ev_lf (g h : Nat → Nat) (n : Nat) (hg : Bij n g) (hn : n ≤ 20) : Ev (fun k => perm_mul.f k (lf g n) (lf h n)) (lf (fun i => h (g i)) n) := by
  have := perm_mul.ev (lf g n) (lf h n) (by rw [lf_length]; omega) (fun x hx => by
    have := (lf_perm hg).1 x hx
    rw [lf_length] at this ⊢; exact this)
  rwa [mulL_lf g h n hg.lt] at this

/-! ### perm_Mul -/
theorem perm_Mul.ev_lf (g h : Nat → Nat) (n : Nat) (hg : Bij n g) (hh : Bij n h) (hn : n ≤ 20) : Ev (fun k => perm_Mul.f k (lf g n) (lf h n)) (lf (fun i => h (g i)) n, 0) := by
  unfold perm_Mul.f
  refine Ev.bind (perm_check2.ev _ _) ?_
  have e : chk2 (lf g n) (lf h n) = 0 := by
    unfold chk2
    rw [if_pos (chk_lf hg hn), if_pos (chk_lf hh hn), if_pos (by rw [lf_length, lf_length])]
  simp only [e, if_true]
  exact Ev.bind (perm_mul.ev_lf g h n hg hn) (Ev.now _)
theorem perm_Mul.ev_bad (a b : List Int) (h : chk2 a b ≠ 0) : Ev (fun k => perm_Mul.f k a b) ([], chk2 a b) := by
  unfold perm_Mul.f
  refine Ev.bind (perm_check2.ev _ _) ?_
  simp only [if_neg h]
  exact Ev.now _

/-! ### perm_inverse -/
theorem perm_inverse.l_ev (g : Nat → Nat) (n : Nat) (h : Bij n g) (hn : n ≤ 20) : ∀ (d i : Nat), n - i = d → i ≤ n →
    Ev (fun k => perm_inverse.l0 k (invL g n i) (lf g n) (n : Int) (i : Int)) (lf (inv g n) n) := by
  intro d
  induction d with
  | zero =>
    intro i hd hi
    have e : i = n := by omega
    subst e
    refine Ev.step (f := fun _ => some (lf (inv g i) i)) (fun k => ?_) (Ev.now _)
    simp only [perm_inverse.l0]
    rw [if_neg (by omega), invL_end h]
  | succ d ih =>
    intro i hd hi
    have hlt : i < n := by omega
    have hg := h.lt i hlt
    refine Ev.step (f := fun k => perm_inverse.l0 k (invL g n (i + 1)) (lf g n) (n : Int) ((i + 1 : Nat) : Int)) (fun k => ?_) (ih (i + 1) (by omega) (by omega))
    simp only [perm_inverse.l0]
    rw [if_pos (by omega), if_pos (by omega), if_pos (by rw [lf_length]; omega), rd_nat, lf_getD g n i hlt, if_pos (by omega), if_pos (by unfold invL; rw [lf_length]; omega), wrap_nat (by omega), Int.toNat_natCast, invL_step h i hlt]
theorem perm_inverse.ev (g : Nat → Nat) (n : Nat) (h : Bij n g) (hn : n ≤ 20) : Ev (fun k => perm_inverse.f k (lf g n)) (lf (inv g n) n) := by
  refine Ev.congr (fun k => ?_) (perm_inverse.l_ev g n h hn _ 0 rfl (Nat.zero_le _))
  unfold perm_inverse.f
  rw [lf_length, if_pos (by omega), if_pos (by omega), Int.toNat_natCast, invL_zero]
  rfl

/-! ### perm_Inverse -/
theorem perm_Inverse.ev (g : Nat → Nat) (n : Nat) (h : Bij n g) (hn : n ≤ 20) : Ev (fun k => perm_Inverse.f k (lf g n)) (lf (inv g n) n, 0) := by
  unfold perm_Inverse.f
  refine Ev.bind (perm_Check.ev _) ?_
  simp only [if_pos (chk_lf h hn)]
  exact Ev.bind (perm_inverse.ev g n h hn) (Ev.now _)
theorem perm_Inverse.ev_bad (l : List Int) (h : chk l ≠ 0) : Ev (fun k => perm_Inverse.f k l) ([], chk l) := by
  unfold perm_Inverse.f
  refine Ev.bind (perm_Check.ev _) ?_
  simp only [if_neg h]
  exact Ev.now _

/-! ### perm_cycles -/
theorem perm_cycles.l1_ev (g : Nat → Nat) (n : Nat) (h : Bij n g) (hn : n ≤ 20) (m : Nat) (hm : m < n) (R : List (List Int))
    (hl : isLeast g n m = true) (next : Ev (fun k => perm_cycles.l0 k (lf g n) (cycI g n (m + 1)) (seenL g n (m + 1) 0) (n : Int) ((m + 1 : Nat) : Int)) R) :
    ∀ (d t : Nat), per g n m - t = d → t ≤ per g n m →
    Ev (fun k => perm_cycles.l1 k (lf g n) (cycI g n m) (seenL g n m t) (ints ((List.range t).map fun k => it g k m)) ((it g t m : Nat) : Int) (n : Int) (m : Int)) R := by
  have hp := h.per_spec hm
  intro d
  induction d with
  | zero =>
    intro t hd ht
    have e : t = per g n m := by omega
    subst e
    have hseen : rdOf false (seenL g n m (per g n m)) ((it g (per g n m) m : Nat) : Int) = true := by
      rw [hp.1, seenL_rd _ _ _ _ _ hm, Bool.or_eq_true]
      exact .inr (List.any_eq_true.2 ⟨0, List.mem_range.2 (per_pos ..), by simp [it]⟩)
    have hlt : it g (per g n m) m < n := h.it_lt _ hm
    have hc := cyc_len g n m
    by_cases h2 : 2 ≤ per g n m
    · refine Ev.step (fun k => ?_) next
      simp only [perm_cycles.l1]
      rw [if_pos (by omega), if_pos (by rw [seenL_length]; omega), if_pos hseen, if_neg (by simp [ints]; omega), if_pos (by simp [cycI]; omega), wrap_nat (by omega), cycI_succ, if_pos (by simp [isHead, hl, h2]), seenL_next h m hm]
      rfl
    · refine Ev.step (fun k => ?_) next
      simp only [perm_cycles.l1]
      rw [if_pos (by omega), if_pos (by rw [seenL_length]; omega), if_pos hseen, if_pos (by simp [ints]; omega), wrap_nat (by omega), cycI_succ, if_neg (by simp [isHead, h2]), seenL_next h m hm, List.append_nil]
  | succ d ih =>
    intro t hd ht
    have hlt : it g t m < n := h.it_lt _ hm
    have hseen : rdOf false (seenL g n m t) ((it g t m : Nat) : Int) = false := by
      rw [seenL_rd _ _ _ _ _ hlt, Bool.or_eq_false_iff]
      constructor
      · rw [List.any_eq_false]
        intro j hj hin
        have hin := of_decide_eq_true hin
        have hj := List.mem_range.1 hj
        refine (h.least_iff m hm).1 hl ⟨j, hj, h.orb_trans (by omega) hin ?_⟩
        exact h.orb_symm hm ((h.mem_orb hm _).2 ⟨t, rfl⟩)
      · rw [List.any_eq_false]
        intro k hk e
        exact h.it_ne hm (List.mem_range.1 hk) (by omega : t < per g n m) (beq_iff_eq.1 e).symm
    have hpn := hp.2.1
    refine Ev.step (fun k => ?_) (ih (t + 1) (by omega) (by omega))
    simp only [perm_cycles.l1]
    rw [if_pos (by omega), if_pos (by rw [seenL_length]; omega), if_neg (by rw [hseen]; exact Bool.false_ne_true), if_pos (by simp [ints]; omega), if_pos (by rw [lf_length]; omega), Int.toNat_natCast, seenL_step g n m t hlt, rd_nat, lf_getD g n _ hlt]
    rw [show ints ((List.range t).map fun k => it g k m) ++ [((it g t m : Nat) : Int)] = ints ((List.range (t + 1)).map fun k => it g k m) by simp [ints, List.range_succ]]
    rfl
theorem perm_cycles.l_ev (g : Nat → Nat) (n : Nat) (h : Bij n g) (hn : n ≤ 20) : ∀ (d m : Nat), n - m = d → m ≤ n →
    Ev (fun k => perm_cycles.l0 k (lf g n) (cycI g n m) (seenL g n m 0) (n : Int) (m : Int)) (cycI g n n) := by
  intro d
  induction d with
  | zero =>
    intro m hd hm
    have e : m = n := by omega
    subst e
    refine Ev.step (f := fun _ => some (cycI g m m)) (fun k => ?_) (Ev.now _)
    simp only [perm_cycles.l0]
    rw [if_neg (by omega)]
  | succ d ih =>
    intro m hd hm
    have hlt : m < n := by omega
    have next := ih (m + 1) (by omega) (by omega)
    refine Ev.step (f := fun k => perm_cycles.l1 k (lf g n) (cycI g n m) (seenL g n m 0) (ints ((List.range 0).map fun k => it g k m)) ((it g 0 m : Nat) : Int) (n : Int) (m : Int)) (fun k => ?_) ?_
    · simp only [perm_cycles.l0]
      rw [if_pos (by omega)]
      rfl
    · by_cases hl : isLeast g n m = true
      · exact perm_cycles.l1_ev g n h hn m hlt _ hl next _ 0 rfl (Nat.zero_le _)
      · have : ∃ j, j < m ∧ m ∈ orb g n j := by
          apply Classical.byContradiction
          intro hc
          exact hl ((h.least_iff m hlt).2 hc)
        obtain ⟨j, hj, hin⟩ := this
        refine Ev.step (fun k => ?_) next
        simp only [perm_cycles.l1]
        rw [if_pos (by omega), if_pos (by rw [seenL_length]; show ((m : Nat) : Int) < _; omega), if_pos ?_, if_pos (by simp [ints]), wrap_nat (by omega), cycI_succ, if_neg (by simp [isHead, hl]), List.append_nil, seenL_skip h m hlt j hj hin]
        show rdOf false (seenL g n m 0) ((m : Nat) : Int) = true
        rw [seenL_rd _ _ _ _ _ hlt, Bool.or_eq_true]
        exact .inl (List.any_eq_true.2 ⟨j, List.mem_range.2 hj, decide_eq_true hin⟩)
theorem perm_cycles.ev (g : Nat → Nat) (n : Nat) (h : Bij n g) (hn : n ≤ 20) : Ev (fun k => perm_cycles.f k (lf g n)) (cycI g n n) := by
  refine Ev.congr (fun k => ?_) (perm_cycles.l_ev g n h hn _ 0 rfl (Nat.zero_le _))
  unfold perm_cycles.f
  rw [lf_length, if_pos (by omega), if_pos (by omega), Int.toNat_natCast, seenL_zero]
  rfl

/-! ### rdL -/
theorem rdL_get (C : List (List Int)) (i : Nat) (h : i < C.length) : rd_L1 C (i : Int) = C[i] := by
  show C.getD i [] = _
  rw [List.getD_eq_getElem?_getD, List.getElem?_eq_getElem h]; rfl
theorem tmod_next (j n : Nat) (hj : j < 4611686018427387904) : Int.tmod (wrap64 ((j : Int) + 1)) (n : Int) = (((j + 1) % n : Nat) : Int) := by
  rw [wrap_nat hj, Int.ofNat_tmod]

/-! ### perm_Sign -/
/-- The sign as the program reckons it: one turn for each cycle of even length. -/
def sgnC : List (List Int) → Int → Int
  | [], s => s
  | c :: L, s => sgnC L (if c.length % 2 = 0 then -s else s)
theorem perm_Sign.l_ev (L : List (List Int)) (hL : L.length < 4611686018427387904) : ∀ (d i : Nat) (s : Int), s = 1 ∨ s = -1 → L.length - i = d → i ≤ L.length →
    Ev (fun k => perm_Sign.l0 k s L (L.length : Int) (i : Int)) (sgnC (L.drop i) s, 0) := by
  intro d
  induction d with
  | zero =>
    intro i s hs hd hi
    rw [List.drop_eq_nil_of_le (by omega : L.length ≤ i)]
    refine Ev.step (f := fun _ => some (s, 0)) (fun k => ?_) (Ev.now _)
    simp only [perm_Sign.l0]
    rw [if_neg (by omega)]
  | succ d ih =>
    intro i s hs hd hi
    have hlt : i < L.length := by omega
    rw [List.drop_eq_getElem_cons hlt]
    simp only [sgnC]
    by_cases h : L[i].length % 2 = 0
    · rw [if_pos h]
      refine Ev.step (fun k => ?_) (ih (i + 1) (-s) (by omega) (by omega) (by omega))
      simp only [perm_Sign.l0]
      rw [if_pos (by omega), if_pos (by omega), if_pos (by omega), rdL_get L i hlt, if_pos (by omega), wrap_nat (by omega), w64_small (by omega) (by omega)]
    · rw [if_neg h]
      refine Ev.step (fun k => ?_) (ih (i + 1) s hs (by omega) (by omega))
      simp only [perm_Sign.l0]
      rw [if_pos (by omega), if_pos (by omega), if_pos (by omega), rdL_get L i hlt, if_neg (by omega), wrap_nat (by omega)]
theorem sgnC_mul : ∀ (L : List (List Int)) (s : Int), sgnC L s = s * sgnC L 1
  | [], s => by simp [sgnC]
  | c :: L, s => by
    simp only [sgnC]
    rw [sgnC_mul L, sgnC_mul L (if c.length % 2 = 0 then -1 else 1)]
    by_cases h : c.length % 2 = 0
    · rw [if_pos h, if_pos h, Int.neg_mul, Int.neg_mul, Int.one_mul, Int.mul_neg]
    · rw [if_neg h, if_neg h, Int.one_mul]
theorem alt_pred (l : Nat) (h : 0 < l) : alt (l - 1) = if l % 2 = 0 then -1 else 1 := by
  unfold alt
  by_cases h2 : l % 2 = 0
  · rw [if_neg (by omega), if_pos h2]
  · rw [if_pos (by omega), if_neg h2]
theorem sgnC_lens (g : Nat → Nat) (n : Nat) : ∀ (l : List Nat), sgnC ((l.map fun i => ints (orb g n i))) 1 = alt ((l.map fun i => per g n i).sum - l.length)
  | [] => rfl
  | i :: l => by
    have hp := per_pos g n i
    have hs : ∀ m : List Nat, m.length ≤ (m.map fun i => per g n i).sum := by
      intro m
      induction m with
      | nil => exact Nat.le_refl _
      | cons a m ih =>
        have := per_pos g n a
        simp only [List.length_cons, List.map_cons, List.sum_cons]
        omega
    simp only [List.map_cons, sgnC]
    rw [sgnC_mul, sgnC_lens g n l, List.sum_cons, List.length_cons]
    have e : (ints (orb g n i)).length = per g n i := by simp [ints, orb_length]
    have := hs l
    rw [e, ← alt_pred _ hp, ← alt_add]
    congr 1
    omega
theorem sum_per_all {g : Nat → Nat} {n : Nat} (h : Bij n g) : ((leasts g n fun _ => true).map fun i => per g n i).sum = n := by
  have := (h.leasts_flat fun _ => true).length_eq
  rw [List.length_flatMap] at this
  have e : (leasts g n fun _ => true).map (fun i => per g n i) = (leasts g n fun _ => true).map (fun i => (orb g n i).length) := List.map_congr_left fun i _ => (orb_length g n i).symm
  rw [e]
  refine this.trans ?_
  rw [List.filter_eq_self.2 (fun _ _ => rfl), List.length_range]
theorem sum_ones : ∀ (g : Nat → Nat) (n : Nat) (l : List Nat), (∀ i ∈ l, per g n i = 1) → (l.map fun i => per g n i).sum = l.length
  | g, n, [], _ => rfl
  | g, n, i :: l, h => by
    rw [List.map_cons, List.sum_cons, h i (List.mem_cons_self ..), sum_ones g n l fun j hj => h j (List.mem_cons_of_mem _ hj), List.length_cons, Nat.add_comm]
theorem sgn_cycles (g : Nat → Nat) (n : Nat) (h : Bij n g) : sgnC (cycI g n n) 1 = invS (lf g n) := by
  have e0 : cycI g n n = ((leasts g n fun l => decide (2 ≤ l)).map fun i => ints (orb g n i)) := by
    unfold cycI cyc leasts
    rw [List.map_map]
    rfl
  rw [e0, sgnC_lens, invS_orbits n g h]
  have hp := List.filter_append_perm (fun i => decide (2 ≤ per g n i)) (leasts g n fun _ => true)
  have f1 : (leasts g n fun _ => true).filter (fun i => decide (2 ≤ per g n i)) = leasts g n fun l => decide (2 ≤ l) := by
    unfold leasts
    rw [List.filter_filter]
    exact List.filter_congr fun i _ => by simp [Bool.and_comm]
  have s1 := (hp.map fun i => per g n i).sum_nat
  have s2 := hp.length_eq
  rw [List.map_append, List.sum_append, sum_per_all h, f1] at s1
  rw [List.length_append, f1] at s2
  have s3 := sum_ones g n ((leasts g n fun _ => true).filter fun i => !decide (2 ≤ per g n i)) (fun i hi => by
    have := (List.mem_filter.1 hi).2
    have hp := per_pos g n i
    simp only [Bool.not_eq_true', decide_eq_false_iff_not] at this
    omega)
  rw [s3] at s1
  have s4 : (leasts g n fun _ => true).length = orbits g n := by
    unfold leasts orbits
    congr 1
    exact List.filter_congr fun i _ => by simp
  rw [s4] at s2
  have := orbits_le g n
  congr 1
  omega
theorem perm_Sign.ev (g : Nat → Nat) (n : Nat) (h : Bij n g) (hn : n ≤ 20) : Ev (fun k => perm_Sign.f k (lf g n)) (invS (lf g n), 0) := by
  unfold perm_Sign.f
  refine Ev.bind (perm_Check.ev _) ?_
  simp only [if_pos (chk_lf h hn)]
  refine Ev.bind (perm_cycles.ev g n h hn) ?_
  have hl : (cycI g n n).length ≤ n := by
    have := cyc_len g n n
    simpa [cycI] using this
  have := perm_Sign.l_ev (cycI g n n) (by omega) _ 0 1 (.inl rfl) rfl (Nat.zero_le _)
  rw [List.drop_zero, sgn_cycles g n h] at this
  exact this
theorem perm_Sign.ev_bad (l : List Int) (h : chk l ≠ 0) : Ev (fun k => perm_Sign.f k l) (0, chk l) := by
  unfold perm_Sign.f
  refine Ev.bind (perm_Check.ev _) ?_
  simp only [if_neg h]
  exact Ev.now _

/-! ### perm_Conjugate -/
theorem chk2_lf {g h : Nat → Nat} {n : Nat} (hg : Bij n g) (hh : Bij n h) (hn : n ≤ 20) : chk2 (lf g n) (lf h n) = 0 := by
  unfold chk2
  rw [if_pos (chk_lf hg hn), if_pos (chk_lf hh hn), if_pos (by rw [lf_length, lf_length])]
theorem perm_Conjugate.ev (g h : Nat → Nat) (n : Nat) (hg : Bij n g) (hh : Bij n h) (hn : n ≤ 20) : Ev (fun k => perm_Conjugate.f k (lf g n) (lf h n)) (lf (fun i => h (g (inv h n i))) n, 0) := by
  unfold perm_Conjugate.f
  refine Ev.bind (perm_check2.ev _ _) ?_
  simp only [chk2_lf hg hh hn, if_true]
  exact Ev.bind (perm_inverse.ev h n hh hn) (Ev.bind (perm_mul.ev_lf _ g n hh.inv hn) (Ev.bind (perm_mul.ev_lf _ h n (hh.inv.comp hg) hn) (Ev.now _)))
theorem perm_Conjugate.ev_bad (a b : List Int) (h : chk2 a b ≠ 0) : Ev (fun k => perm_Conjugate.f k a b) ([], chk2 a b) := by
  unfold perm_Conjugate.f
  refine Ev.bind (perm_check2.ev _ _) ?_
  simp only [if_neg h]
  exact Ev.now _

/-! ### perm_Type -/
def fixd (g : Nat → Nat) (m : Nat) : List Int := ((List.range m).filter fun i => i == g i).map fun _ => (1 : Int)
theorem fixd_succ (g : Nat → Nat) (m : Nat) : fixd g (m + 1) = fixd g m ++ (if m = g m then [1] else []) := by
  unfold fixd
  rw [List.range_succ, List.filter_append, List.map_append]
  congr 1
  by_cases e : m = g m
  · rw [if_pos e, List.filter_cons_of_pos (by simp [← e])]; rfl
  · rw [if_neg e, List.filter_cons_of_neg (by simp [e])]; rfl
theorem fixd_length (g : Nat → Nat) (m : Nat) : (fixd g m).length ≤ m := by
  unfold fixd
  rw [List.length_map]
  exact Nat.le_trans (List.length_filter_le ..) (by simp)
def coll (g : Nat → Nat) (n : Nat) : List Int := (cycI g n n).map (fun c => ((c.length : Nat) : Int)) ++ fixd g n
theorem coll_lens (g : Nat → Nat) (n : Nat) (h : Bij n g) : (coll g n).Perm (lens g n) := by
  have := lens_collected g n h
  unfold coll fixd cycI
  rw [List.map_map]
  have e : ((cyc g n n).map ((fun c : List Int => ((c.length : Nat) : Int)) ∘ ints)) = (cyc g n n).map (fun c => ((c.length : Nat) : Int)) := List.map_congr_left fun c _ => by simp [ints]
  rw [e]
  exact this
theorem coll_small (g : Nat → Nat) (n : Nat) (h : Bij n g) (hn : n ≤ 20) : smallAll (coll g n) = true := by
  have hp := coll_lens g n h
  unfold smallAll
  rw [Bool.and_eq_true, decide_eq_true_iff, List.all_eq_true]
  constructor
  · have h1 := cyc_len g n n
    have h2 := fixd_length g n
    unfold coll cycI
    simp only [List.length_append, List.length_map]
    omega
  · intro x hx
    have := lens_mem h (hp.subset hx)
    exact decide_eq_true (by omega)
theorem perm_Type.l1_ev (g : Nat → Nat) (n : Nat) (h : Bij n g) (hn : n ≤ 20) (pre : List Int) (hpre : pre.length ≤ 20) (hs : smallAll (pre ++ fixd g n) = true) : ∀ (d i : Nat), n - i = d → i ≤ n →
    Ev (fun k => perm_Type.l1 k (pre ++ fixd g i) (lf g n) (n : Int) (i : Int)) (sortDesc (pre ++ fixd g n), 0) := by
  intro d
  induction d with
  | zero =>
    intro i hd hi
    have e : i = n := by omega
    subst e
    refine Ev.step (f := fun _ => some (sortDesc (pre ++ fixd g i), 0)) (fun k => ?_) (Ev.now _)
    simp only [perm_Type.l1]
    rw [if_neg (by omega), if_pos hs]
  | succ d ih =>
    intro i hd hi
    have hlt : i < n := by omega
    have nx := ih (i + 1) (by omega) (by omega)
    have hf := fixd_length g i
    rw [fixd_succ] at nx
    by_cases e : i = g i
    · rw [if_pos e, ← List.append_assoc] at nx
      refine Ev.step (fun k => ?_) nx
      simp only [perm_Type.l1]
      rw [if_pos (by omega), if_pos (by omega), if_pos (by rw [lf_length]; omega), rd_nat, lf_getD g n i hlt, if_pos (by omega), if_pos (by rw [List.length_append]; omega), wrap_nat (by omega)]
    · rw [if_neg e, List.append_nil] at nx
      refine Ev.step (fun k => ?_) nx
      simp only [perm_Type.l1]
      rw [if_pos (by omega), if_pos (by omega), if_pos (by rw [lf_length]; omega), rd_nat, lf_getD g n i hlt, if_neg (by omega), wrap_nat (by omega)]
theorem perm_Type.l0_ev (g : Nat → Nat) (n : Nat) (h : Bij n g) (hn : n ≤ 20) (L : List (List Int)) (hL : L.length ≤ 20) (hs : smallAll (L.map (fun c => ((c.length : Nat) : Int)) ++ fixd g n) = true) : ∀ (d i : Nat), L.length - i = d → i ≤ L.length →
    Ev (fun k => perm_Type.l0 k (lf g n) ((L.take i).map fun c => ((c.length : Nat) : Int)) L (L.length : Int) (i : Int)) (sortDesc (L.map (fun c => ((c.length : Nat) : Int)) ++ fixd g n), 0) := by
  intro d
  induction d with
  | zero =>
    intro i hd hi
    rw [List.take_of_length_le (by omega)]
    have := perm_Type.l1_ev g n h hn (L.map fun c => ((c.length : Nat) : Int)) (by simpa using hL) hs _ 0 rfl (Nat.zero_le _)
    rw [show fixd g 0 = [] from rfl, List.append_nil] at this
    refine Ev.step (fun k => ?_) this
    simp only [perm_Type.l0]
    rw [if_neg (by omega), lf_length]
    rfl
  | succ d ih =>
    intro i hd hi
    have hlt : i < L.length := by omega
    have nx := ih (i + 1) (by omega) (by omega)
    rw [List.take_succ_eq_append_getElem hlt, List.map_append] at nx
    refine Ev.step (fun k => ?_) nx
    simp only [perm_Type.l0]
    rw [if_pos (by omega), if_pos (by omega), if_pos (by omega), if_pos (by rw [List.length_map, List.length_take]; omega), rdL_get L i hlt, wrap_nat (by omega)]
    rfl
theorem perm_Type.ev (g : Nat → Nat) (n : Nat) (h : Bij n g) (hn : n ≤ 20) : Ev (fun k => perm_Type.f k (lf g n)) (sortDesc (coll g n), 0) := by
  unfold perm_Type.f
  refine Ev.bind (perm_Check.ev _) ?_
  simp only [if_pos (chk_lf h hn)]
  refine Ev.bind (perm_cycles.ev g n h hn) ?_
  have hl : (cycI g n n).length ≤ 20 := by
    have := cyc_len g n n
    unfold cycI
    rw [List.length_map]
    omega
  exact perm_Type.l0_ev g n h hn (cycI g n n) hl (coll_small g n h hn) _ 0 rfl (Nat.zero_le _)
theorem perm_Type.ev_bad (l : List Int) (h : chk l ≠ 0) : Ev (fun k => perm_Type.f k l) ([], chk l) := by
  unfold perm_Type.f
  refine Ev.bind (perm_Check.ev _) ?_
  simp only [if_neg h]
  exact Ev.now _

end Go.Proofs.YtoaalfpfklchfaaDoor.QPermGroup
